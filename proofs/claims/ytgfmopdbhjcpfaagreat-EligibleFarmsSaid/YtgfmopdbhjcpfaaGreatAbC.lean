/- Abstract states over the model. -/
import Derived.Test.YtgfmopdbhjcpfaaGreatAbB
import Derived.Test.YtgfmopdbhjcpfaaGreatPuA
import Derived.Sort.AssemblyPlain
import Derived.Lib.BitFns
import Derived.Shelf.SortM.Plain
import Derived.Shelf.SortM.SortNone
import Derived.Shelf.SlSortCmp.WholeK
import Derived.Shelf.SlSortCmp.NoneTotal
import Derived.WalkKit
import Derived.ProofKit
import Derived.OpenShut
import Derived.Carry
import Derived.ChangeSame
import Derived.ChangeSlices
import Derived.Laws.Small
import Derived.Laws.Entries
import Derived.Shelf.Spec.SlicesGrow
import Derived.Deep.Slices
import Derived.ChangeArms
import Derived.Maps.Own
import Derived.Lib.SlKeysI
import Derived.Shelf.SlIterI.Nil
import Derived.Maps.RangeRun
import Derived.Laws.IdiomRangeMap
import Derived.ChangeKeysEq
import Derived.LoopN
set_option linter.unusedVariables false
set_option linter.unusedSimpArgs false
namespace Go.Ab
noncomputable section
section
section
variable {α:Type} [Emb α]
def clr (l:List α) (lo n:Nat):List α:=(List.range l.length).map fun i=>if lo<=i/\i<lo+n then Emb.d else gl l i
theorem Is.of_gl {f:Nat->List DVal} {N:Nat} (l:List α) (h:l.length=N) (hf:∀ i,i<N->f i=Emb.cells (gl l i)):Is N f l:=by
 subst h;refine ⟨rfl,fun i a=>?_⟩
 rw [hf i a];rfl
theorem Y4V (N:Nat) (f:Nat->α) (i:Nat) (h:i<N):gl ((List.range N).map f) i=f i:=by simp [gl,List.getD_eq_getElem?_getD,h]
theorem Is.clr {l:List α} (lo n:Nat) {zd:List DVal} (hz:zd=Emb.cells (Emb.d:α)):Is l.length (fun i=>if lo<=i/\i<lo+n then (fun _=>zd) (i-lo) else LF l i) (clr l lo n):=by
 refine Is.of_gl _ (by simp [Go.Ab.clr]) fun i a=>?_
 rw [Go.Ab.clr,Y4V _ _ _ a]
 by_cases h:lo<=i/\i<lo+n
 ·rw [if_pos h,if_pos h,hz]
 ·rw [if_neg h,if_neg h];rfl
end
end
section
open Go.Sort
def Z7G (l:List Int):Option (List Int):=if l.length<=LIM then some (l.mergeSort fun x y=>decide (x<=y)) else none
theorem Y6D {l r:List Int} (h:Z7G l=some r):l.length<=LIM/\r=l.mergeSort fun x y=>decide (x<=y):=by
 unfold Z7G at h;split at h
 ·cases h;exact ⟨‹_›,rfl⟩
 ·cases h
def ltC {α:Type} (cf:α->α->Int) (x y:α):Bool:=decide (cf x y<0)
section
variable {α:Type} [Emb α]
def Q8Y (cf:α->α->Int) (l:List α):List α:=(@pdq α ⟨Emb.d⟩ (ltC cf) l.toArray 0 l.length (Lib.bitLen l.length) true true).toList
open Classical in
noncomputable def Y0U (l:List α) (q:α->α->Option Int):Option (List α):=
 if h:l.length<=LIM/\∃ cf:α->α->Int,SWO (ltC cf)/\∀ x y,q x y=some (cf x y) then some (Q8Y h.2.choose l) else none
theorem Y9x {l:List α} {q:α->α->Option Int} (cf:α->α->Int) (hl:l.length<=LIM) (hO:SWO (ltC cf)) (hq:∀ x y,q x y=some (cf x y)):Y0U l q=some (Q8Y cf l):=by
 have h:l.length<=LIM/\∃ cf:α->α->Int,SWO (ltC cf)/\∀ x y,q x y=some (cf x y):=⟨hl,cf,hO,hq⟩;unfold Y0U
 rw [dif_pos h];have e:h.2.choose=cf:=by
  funext x y
  have:=(h.2.choose_spec.2 x y).symm.trans (hq x y)
  exact Option.some.inj this
 rw [e]
theorem Y6F {l r:List α} {q:α->α->Option Int} (h:Y0U l q=some r):l.length<=LIM/\∃ cf:α->α->Int,SWO (ltC cf)/\(∀ x y,q x y=some (cf x y))/\r=Q8Y cf l:=by
 unfold Y0U at h;split at h
 ·rename_i a
  cases h
  exact ⟨a.1,a.2.choose,a.2.choose_spec.1,a.2.choose_spec.2,rfl⟩
 ·cases h
end
section
variable {α:Type}
end
def Y1d {α:Type} (n:Int):Option (List α):=if 0<=n/\n<=LIM then some [] else none
end
section
open Go.Sort Go.Proofs Go.Shelf
theorem Y0Z {α:Type} [Inhabited α] (enc:α->Value) (w:World) (b off n:Nat) (d:Array α) (os:Array Go.Obj) {c:Array Value} {e:TypeId} {fz:Nat×Nat} (hb:w.heap[b]?=some (.cells c e fz)) :
  (grow (putRow enc (Go.Sort.ahead w n) b off d) os).heap[b]?=some (.cells (putCells enc off d c) e fz):=by
 have a:b<w.heap.size:=G4 hb;unfold grow
 rw [Array.getElem?_append];rw [if_pos (by simpa using a)]
 unfold putRow mapBlock;simp only [Array.getElem?_modify,if_true]
 show Option.map _ (w.heap[b]?)=_;rw [hb]
 rfl
theorem Z8q {α:Type} [Inhabited α] (enc:α->Value) (w:World) (b off n:Nat) (d:Array α) (os:Array Go.Obj):Stp (fun x=>x=b) w (grow (putRow enc (Go.Sort.ahead w n) b off d) os):=by
 refine ⟨rfl,rfl,rfl,by simp [Go.Sort.ahead],fun x a c=>?_,Nat.le_add_right _ _⟩;unfold grow
 rw [Array.getElem?_append];rw [if_pos (by simpa [Go.Sort.ahead] using a)]
 unfold putRow mapBlock;simp only [Array.getElem?_modify]
 rw [if_neg (Ne.symm c)];rfl
theorem Z5J {α:Type} [Inhabited α] (enc:α->Value) (off:Nat) (d:Array α) (c:Array Value):(putCells enc off d c).size=c.size:=by simp [putCells]
theorem Z7X {α:Type} [Inhabited α] (enc:α->Value) (d:Array α) (c:Array Value) (j:Nat) (hj:j<d.size) (hs:d.size<=c.size):(putCells enc 0 d c).getD j undef=enc d[j]! := by
 have a:j<c.size:=by omega
 simp [putCells,a,hj]
theorem W0U (l:List Int) (i:Nat):LF l i=[.int .i64 (l.getD i 0)]:=rfl
theorem Y3k {w w' : World} {X:Nat->Prop} {η:Nat->Value} {α:Type} [Emb α] {l r:List α} {b n cap:Nat} {c' : Array Value} {e:TypeId} (hη:η 0=.slice (some ⟨b,0,none⟩) n cap) (h0:0<cap)
  (hstp:Stp (fun x=>x=b) w w') (hh:w'.heap[b]?=some (.cells c' e (0,0))) (hs:c'.size=cap*Emb.es α) (hr:r.length=n) (hn:n<=cap) (hm:cap<=maxLen)
  (hd:∀ i j,i<n->j<Emb.es α->DRep w' X (c'.getD (i*Emb.es α+j) undef) ((LF r i).getD j .any)) (hX:∀ x,X x->x<w.heap.size) (hXb:X b) :
  Behind (J7 [(0,AO l)] w X η) .any [(0,AO r)] (.tuple #[]) η w':=by
 subst hr;have d:∀ x,x ∈ Y8 (η 0)↔x=b:=by intro x;rw [hη];simp [Y8];omega
 have c:∀ i o,ls [(0,AO (α:=α) r)] i=some o->i=0/\o=AO r:=by
  intro i o a;rw [U8] at a
  by_cases h:i=0
  ·rw [if_pos h] at a;cases a;exact ⟨h,rfl⟩
  ·rw [if_neg h] at a;cases a
 have p:∀ x,x=b->(J7 [(0,AO (α:=α) l)] w X η).M x:=by
  rintro x rfl;exact ⟨0,AO l,by rw [U8,if_pos rfl],rfl,(d _).2 rfl⟩
 have m:∀ x,XS (J7 [(0,AO (α:=α) l)] w X η) (ls [(0,AO (α:=α) r)]) η x->X x:=by
  rintro x (⟨f,_⟩|⟨i,o,a,hib⟩)
  ·exact f
  ·obtain ⟨rfl,_⟩:=c i o a
   rw [(d x).1 hib];exact hXb
 refine ⟨hstp.mono fun x _ f=>p x f,.any _,fun i o a=>?_,fun i j x a g _ _=>?_,fun i o x a q=>?_,fun i v a=>?_⟩
 ·obtain ⟨rfl,rfl⟩:=c i o a
  rw [hη];refine .arr b _ cap _ c' e _ hh hs hn hm h0 (Is.refl r).len fun i j a g=>?_
  exact (hd i j a g).mono fun x _ f=>⟨rfl,fun k=>f (m x k)⟩
 ·obtain ⟨s,a⟩:=Option.ne_none_iff_exists'.1 a
  obtain ⟨t,g⟩:=Option.ne_none_iff_exists'.1 g;rw [(c i s a).1,(c j t g).1]
 ·obtain ⟨rfl,rfl⟩:=c i o a
  exact .inr (.inl (p x ((d x).1 q)))
 ·change (if ((List.lookup i [(0,AO (α:=α) l)]).isSome=true) then some (η i) else none)=some v at a
  split at a
  ·cases a;rfl
  ·cases a
theorem Y1g {w:World} {X:Nat->Prop} {η:Nat->Value} {α:Type} [Emb α] {l:List α} {ad:Option Addr} (hη:η 0=.slice ad 0 0) (hX:∀ x,X x->x<w.heap.size) :
  Behind (J7 [(0,AO l)] w X η) .any [(0,AO ([]:List α))] (.tuple #[]) η w:=by
 have c:∀ x,x ∉ Y8 (η 0):=by intro x;rw [hη];cases ad <;> simp [Y8]
 have b:∀ i o,ls [(0,AO ([]:List α))] i=some o->i=0/\o=AO ([]:List α):=by
  intro i o a;rw [U8] at a
  by_cases h:i=0
  ·rw [if_pos h] at a;cases a;exact ⟨h,rfl⟩
  ·rw [if_neg h] at a;cases a
 refine ⟨Stp.refl _ _,.any _,fun i o a=>?_,fun i j x a d _ _=>?_,fun i o x a e=>?_,fun i v a=>?_⟩
 ·obtain ⟨rfl,rfl⟩:=b i o a
  rw [hη];exact .nil _ _ _
 ·obtain ⟨f,a⟩:=Option.ne_none_iff_exists'.1 a
  obtain ⟨g,d⟩:=Option.ne_none_iff_exists'.1 d;rw [(b i f a).1,(b j g d).1]
 ·obtain ⟨rfl,rfl⟩:=b i o a
  exact absurd e (c x)
 ·change (if ((List.lookup i [(0,AO (α:=α) l)]).isSome=true) then some (η i) else none)=some v at a
  split at a
  ·cases a;rfl
  ·cases a
theorem W2E {vs:Array Value} (h:vs.size=1):vs=#[vs.getD 0 undef]:=by
 apply Array.ext
 ·simpa using h
 ·intro i a b
  have:i=0:=by omega
  subst this;simp [a]
theorem Y9n {vs:Array Value} (h:vs.size=2):vs=#[vs.getD 0 undef,vs.getD 1 undef]:=by
 apply Array.ext
 ·simpa using h
 ·intro i a b
  have:i=0\/i=1:=by omega
  rcases this with rfl|rfl <;> simp [a]
theorem Y5t {P:Program} {ρ:Ren} (Ly:SlLaysM.n5 P ρ) {x r:List Int} (h:Z7G x=some r):Q6 P (ρ.f 5) [.v (.c (.own 0))] [(0,AO (α:=Int) x)] .any [(0,AO (α:=Int) r)]:=by
 obtain ⟨V,rfl⟩:=Y6D h;intro w X η M L k t R d o
 have d:M.size=1:=d;have E:M.getD 0 undef=η 0:=Q6R (C:=J7 [(0,AO (α:=Int) x)] w X η) (s:=ls [(0,AO (α:=Int) x)]) (by have:=o 0 (by simp);rw [Y1I k];exact this)
 rw [W2E d,E];have A:=t 0 (AO x) (by rw [U8,if_pos rfl])
 have H:∀ b,b ∈ Y8 (η 0)->X b:=fun b F=>k b ⟨0,_,by rw [U8,if_pos rfl],F⟩
 generalize hu:η 0=u at A;unfold AO at A
 generalize hn:x.length=n at A
 cases A with
 | nil ad=>
  have T:x=[]:=List.eq_nil_of_length_eq_zero hn;refine (AnyM.slices_Sort_int_none Ly ad 0 w).mono fun e N G=>?_
  obtain ⟨S,I⟩:=G;refine ⟨_,η,S,?_⟩
  rw [I];have F:=Y1g (w:=w) (X:=X) (l:=x) hu L
  subst T;simpa using F
 | arr b _ cap _ c e _ h1 h2 h3 h4 h5 h6 h7=>
  have g:Emb.es Int=1:=rfl
  rename_i n
  have m:∀ j,j<n->c.getD j undef=.int .i64 (x.getD j 0):=by
   intro j z;have:=h7 j 0 z (by rw [g];omega)
   rw [g,Nat.mul_one,Nat.add_zero,W0U] at this;have K:DRep w X (c.getD j undef) (.int .i64 (x.getD j 0)):=this
   generalize c.getD j undef=u at K
   cases K;rfl
  have U:c.size=cap:=by rw [h2,g,Nat.mul_one]
  have W:Holds (Value.int .i64) w b 0 x.toArray:=by
   intro j z;have J : j<n:=by simpa [hn] using z
   have D:j<x.length:=by omega
   have p:j<c.size:=by omega
   refine ⟨?_,by simp [World.frozen?,h1]⟩;have:=m j J
   simp only [Nat.zero_add,World.cell?,h1,Option.isSome_none,Bool.false_eq_true,if_false];simp only [p,Array.getD,dite_true] at this
   rw [Array.getElem?_eq_getElem p];congr 1
   refine Eq.trans this ?_;simp [D]
  rw [<-hn];refine ((AnyM.slices_Sort_int Ly b 0 cap x w W (G4 h1) (by simp only [LIM] at V;omega)).mono fun Z N G=>?_)
  ·obtain ⟨rfl,q,Y,I⟩:=G
   subst I;refine ⟨_,η,rfl,?_⟩
   have a:(x.mergeSort fun x y=>decide (x<=y)).length=n:=by rw [List.length_mergeSort];exact hn
   refine Y3k (c':=putCells (Value.int .i64) 0 (x.mergeSort fun x y=>decide (x<=y)).toArray c) (e:=e) (b:=b) (n:=n) (cap:=cap) hu h5 (Z8q _ _ _ _ _ _ _) (Y0Z _ _ _ _ _ _ _ h1) (by rw [Z5J];exact h2) a h3 h4 (fun i j O z=>?_) L (H b (by rw [hu];simp [Y8];omega));have B:j=0:=by rw [g] at z;omega
   subst B;rw [g,Nat.mul_one,Nat.add_zero,Z7X _ _ _ _ (by simpa [a] using O) (by simp only [List.size_toArray,a];omega),W0U]
   have:i<(x.mergeSort fun x y=>decide (x<=y)).length:=by omega
   have Q:(x.mergeSort fun x y=>decide (x<=y)).toArray[i]! = (x.mergeSort fun x y=>decide (x<=y)).getD i 0:=by
    simp [List.getD_eq_getElem?_getD,this]
   rw [Q];exact .int _ _
end
section
open Go.Sort Go.Proofs Go.Shelf
def DVal.lit:DVal->Bool
 | .int _ _=>true
 | .bool _=>true
 | .str _=>true
 | _=>false
def DVal.val:DVal->Value
 | .int k n=>.int k n
 | .bool b=>.bool b
 | .str s=>.string s
 | _=>undef
theorem DRep.lit {w:World} {X:Nat->Prop} {v:Value} {d:DVal} (h:DRep w X v d) (hd:d.lit=true):v=d.val:=by
 cases h <;> first|rfl|cases hd
theorem DVal.rep (w:World) (X:Nat->Prop) {d:DVal} (hd:d.lit=true):DRep w X d.val d:=by
 cases d with
 | int k n=>exact .int k n
 | bool b=>exact .bool b
 | str s=>exact .str s
 | _=>cases hd
theorem DVal.val_one {d:DVal} (hd:d.lit=true):d.val.oneCell'=true:=by
 cases d <;> first|rfl|cases hd
theorem Y9r {w w' : World} (h:Stp (fun _=>False) w w'):∃ q os,w'=grow (w.drewN q) os:=by
 refine ⟨w'.drawn-w.drawn,w'.heap.extract w.heap.size w'.heap.size,?_⟩;have f:w'.heap=w.heap++w'.heap.extract w.heap.size w'.heap.size:=by
  apply Array.ext_getElem?;intro k
  rw [Array.getElem?_append];split
  ·rename_i a;exact h.block k a fun b=>b
  ·rename_i a
   rw [Array.getElem?_extract];have d:=h.size
   by_cases h2:k<w'.heap.size
   ·rw [if_pos (by omega)];congr 1;omega
   ·rw [if_neg (by omega),Array.getElem?_eq_none (by omega)]
 have e:=h.dr;have c:w'=⟨w'.heap,w'.tape,w'.drawn,w'.os,w'.output⟩:=rfl
 rw [c,h.tape,h.os,h.output];unfold grow World.drewN
 congr 1
 simp only
 omega
theorem Z9B {β:Type} (l:List β) (j:Nat) (h:j<l.length) (d:β):l.getD j d=l[j]:=by
 rw [List.getD_eq_getElem?_getD,List.getElem?_eq_getElem h];rfl
theorem Y4g {β:Type} [Inhabited β] (l:List β) (j:Nat) (h:j<l.length) (d:β):l.getD j d=l[j]! := by
 rw [Z9B l j h d,getElem!_pos l j h]
theorem Z6z (l:List DVal) (j:Nat) (h:j<l.length):(l.map DVal.val).getD j undef=(l[j]).val:=by
 rw [Z9B _ j (by simpa using h)];simp
theorem Y5u {α:Type} [Emb α] {P:Program} {L:Lay} (hL:LOk P L) {ρ:Ren} (Ly:SlLaysF0.n6 P ρ) (hlit:∀ x:α,(Emb.cells x).all DVal.lit=true) {te:TI} (hte:L (ρ.t 24)=some te) (hagg:te.kind.agg=true) (hsz:te.size=Emb.es α)
  (F:(α->α->Option Int)->List AVal->AVal->Prop) (hF:∀ q x y z,q x y=some z->F q [.v (.g ((Emb.cells x).map .d)),.v (.g ((Emb.cells y).map .d))] (vi z)) {x r:List α} {q:α->α->Option Int} (h:Y0U x q=some r) :
  Q6 P (ρ.f 6) [.v (.c (.own 0)),Z5z P (F q)] [(0,AO (α:=α) x)] .any [(0,AO (α:=α) r)]:=by
 obtain ⟨hl,k,hO,hq,rfl⟩:=Y6F h;obtain ⟨ti,td,tz,a0⟩:=hL _ _ hte
 letI inst:Inhabited α:=⟨Emb.d⟩
 let enc:α->List Value:=fun x=>(Emb.cells x).map DVal.val
 have hk:∀ x,(enc x).length=Emb.es α:=fun x=>by simp [enc,Emb.len]
 have h1:∀ x,∀ v ∈ enc x,v.oneCell'=true:=by
  intro x v hv;obtain ⟨d,hd,rfl⟩:=List.mem_map.1 hv
  exact DVal.val_one (List.all_eq_true.1 (hlit x) d hd)
 intro w X η T hX G R f4 B A;have B:T.size=2:=B
 have b9:T.getD 0 undef=η 0:=Q6R (C:=J7 [(0,AO (α:=α) x)] w X η) (s:=ls [(0,AO (α:=α) x)]) (by have:=A 0 (by simp);rw [Y1I G];exact this);have b6:z6 P (F q) w (Own (ls [(0,AO (α:=α) x)]) η) X (T.getD 1 undef):=by
  have:=A 1 (by simp)
  change ARep w X η _ (T.getD 1 undef) (Z5z P (F q)) at this;generalize T.getD 1 undef=u at this
  cases this with|v _ _ p=>cases p with|c _ _ p=>cases p with|sem _ _ p _=>exact p
 rw [Y9n B,b9];have ho:=R 0 (AO x) (by rw [U8,if_pos rfl])
 have c3:∀ b,b ∈ Y8 (η 0)->X b:=fun b hb=>G b ⟨0,_,by rw [U8,if_pos rfl],hb⟩
 generalize hu:η 0=u at ho;have o:(Q8Y k x).length=x.length:=by
  have:=(pdq_sorts (ltC k) hO x.toArray 0 x.length (Lib.bitLen x.length) true true (Nat.zero_le _) (by simp) (.inl rfl)).1.1
  unfold Q8Y;simpa using this
 unfold AO at ho;generalize hn:x.length=n at ho
 cases ho with
 | nil ad=>
  have hx:x=[]:=List.eq_nil_of_length_eq_zero hn;refine (AnyF.slices_SortFunc_none Ly ad 0 _ w).mono fun e w' p=>?_
  obtain ⟨S,hw⟩:=p;refine ⟨_,η,S,?_⟩
  rw [hw];have hb:=Y1g (w:=w) (X:=X) (l:=x) hu hX
  have hp:Q8Y k x=[]:=List.eq_nil_of_length_eq_zero (by rw [o,hn]);rw [hp];exact hb
 | arr b _ cap _ c e _ g1 g2 g3 g4 g5 g6 g7=>
  rename_i n
  obtain ⟨Z,I,c1,Q,a1⟩:=b6;rw [c1]
  have c9:∀ i,i<n->(LF x i)=Emb.cells (x.getD i Emb.d):=fun i _=>rfl
  have K:∀ i j,i<n->j<Emb.es α->c.getD (i*Emb.es α+j) undef=(enc (x.getD i Emb.d)).getD j undef:=by
   intro i j hi D;have h0:=g7 i j hi D
   have a : j<(Emb.cells (x.getD i Emb.d)).length:=by rw [Emb.len];exact D
   have e1:(LF x i).getD j .any=(Emb.cells (x.getD i Emb.d))[j]:=Z9B _ _ a _;rw [e1] at h0
   have h2:=h0.lit (List.all_eq_true.1 (hlit _) _ (List.getElem_mem a));rw [h2]
   exact (Z6z _ _ a).symm
  have M:∀ t,t<n*Emb.es α->c.getD t undef=(flatK enc (Emb.es α) x.toArray)[t]! := by
   intro t U;have Y:0<Emb.es α:=by
    rcases Nat.eq_zero_or_pos (Emb.es α) with hz|hz
    ·rw [hz,Nat.mul_zero] at U;omega
    ·exact hz
   have p1:t / Emb.es α<n:=Nat.div_lt_of_lt_mul (by rw [Nat.mul_comm];exact U);have p2:t % Emb.es α<Emb.es α:=Nat.mod_lt _ Y
   have:=K _ _ p1 p2
   rw [show t / Emb.es α*Emb.es α+t % Emb.es α=t from by rw [Nat.mul_comm];exact Nat.div_add_mod t _] at this;rw [this,get_flatK _ _ _ _ (by simpa [hn] using U)]
   have e2:x.toArray[t / Emb.es α]! = x.getD (t / Emb.es α) Emb.d:=by
    have:t / Emb.es α<x.length:=by omega
    simp [List.getD_eq_getElem?_getD,this]
   rw [e2];have:t % Emb.es α<(enc (x.getD (t / Emb.es α) Emb.d)).length:=by rw [hk];exact p2
   exact Y4g _ _ this _
  have hH:HoldsK enc (Emb.es α) w b 0 x.toArray:=by
   intro t U;have b5 : t<n*Emb.es α:=by simpa [hn] using U
   have a2:t<c.size:=by
    have:n*Emb.es α<=cap*Emb.es α:=Nat.mul_le_mul_right _ g3
    omega
   refine ⟨?_,by simp [World.frozen?,g1]⟩;have:=M t b5
   simp only [Nat.zero_add,World.cell?,g1,Option.isSome_none,Bool.false_eq_true,if_false,id];rw [Array.getElem?_eq_getElem a2]
   congr 1
   rw [<-this];simp [a2]
  have H:b ∈ Y8 (η 0):=by rw [hu];simp [Y8];omega
  have W:CmpLays P Z I enc (Emb.es α) k b 0 x.toArray.size w:=by
   intro m os dk g0 u v;have O:=Z8q id w b 0 m (flatK enc (Emb.es α) dk) os
   have J:∀ (w1:World) (z:α) η C,ARep w1 X η C (.agg (enc z).toArray) (.v (.g ((Emb.cells z).map .d))):=by
    intro w1 z η' C';refine .v _ _ (.g _ _ ⟨by simp [enc],fun j D=>?_⟩)
    have a : j<(Emb.cells z).length:=by simpa using D
    have e1:(enc z).toArray.getD j undef=((Emb.cells z)[j]).val:=by
     have:(enc z).toArray.getD j undef=(enc z).getD j undef:=by simp [List.getD_eq_getElem?_getD]
     rw [this];exact Z6z _ _ a
    have e2:((Emb.cells z).map CV.d).getD j (.d .any)=.d ((Emb.cells z)[j]):=by rw [Z9B _ j (by simpa using a)];simp
    rw [e1,e2];exact .d _ _ (DVal.rep _ _ (List.all_eq_true.1 (hlit z) _ (List.getElem_mem a)))
   refine (a1 (grow (putRow id (Go.Sort.ahead w m) b 0 (flatK enc (Emb.es α) dk)) os) X #[.agg (enc u).toArray,.agg (enc v).toArray] _ _ (hF q u v (k u v) (hq u v)) O.size (fun y hy hD=>O.block y hy fun e=>hD ?_)
    (fun y hy=>Nat.lt_of_lt_of_le (hX y hy) O.size) (fun y _ _=>Iff.rfl) rfl (fun j D η C=>?_)).mono fun e2 w2 p=>?_
   ·rw [e];exact ⟨0,_,by rw [U8,if_pos rfl],H⟩
   ·have:j=0\/j=1:=by simp at D;omega
    rcases this with rfl|rfl
    ·exact J _ _ _ _
    ·exact J _ _ _ _
   ·obtain ⟨v',S,b3,hr⟩:=p
    have a7:=hr η (J7 [] w X η);have e3:v'=.int .i64 (k u v):=by
     cases a7 with|v _ _ p=>cases p with|c _ _ p=>cases p with|d _ _ p=>cases p;rfl
    obtain ⟨qq,b1,b0⟩:=Y9r b3;exact ⟨by rw [S,e3],qq,b1,b0⟩
  rw [<-hn];have N:=AnyQ.slices_SortFunc_eq Ly (Emb.es α) (fun w=>by rw [Z6R a0 w,hagg]) (fun w=>by rw [G3 a0,hsz]) enc hk h1 k hO Z I b 0 cap x.toArray w Q W hH (G4 g1) (by simp only [List.size_toArray];simp only [LIM] at hl;omega)
  refine N.mono fun e' w' p=>?_
  obtain ⟨S,nn,os,hw⟩:=p;refine ⟨_,η,S,?_⟩
  have b8:w'=grow (putRow id (Go.Sort.ahead w nn) b 0 (flatK enc (Emb.es α) (Q8Y k x).toArray)) os:=hw;rw [b8]
  refine Y3k (c':=putCells id 0 (flatK enc (Emb.es α) (Q8Y k x).toArray) c) (e:=e) (b:=b) (n:=n) (cap:=cap) hu g5 (Z8q _ _ _ _ _ _ _) (Y0Z _ _ _ _ _ _ _ g1) (by rw [Z5J];exact g2) (by rw [o,hn]) g3 g4 (fun i j hi D=>?_) hX (c3 b H);have V:i*Emb.es α+j<n*Emb.es α:=by
   have:(i+1)*Emb.es α<=n*Emb.es α:=Nat.mul_le_mul_right _ hi
   rw [Nat.add_mul,Nat.one_mul] at this;omega
  have E:(flatK enc (Emb.es α) (Q8Y k x).toArray).size=n*Emb.es α:=by simp [o,hn]
  rw [Z7X _ _ _ _ (by rw [E];exact V) (by rw [E,g2];exact Nat.mul_le_mul_right _ g3)];rw [get_flatK _ _ _ _ (by simpa [o,hn] using V)]
  have d1:(i*Emb.es α+j) / Emb.es α=i:=by
   rw [Nat.add_comm,Nat.add_mul_div_right _ _ (by omega),Nat.div_eq_of_lt D,Nat.zero_add]
  have d2:(i*Emb.es α+j) % Emb.es α=j:=by rw [Nat.add_comm,Nat.add_mul_mod_self_right,Nat.mod_eq_of_lt D]
  rw [d1,d2];have e4:(Q8Y k x).toArray[i]! = (Q8Y k x).getD i Emb.d:=by
   have:i<(Q8Y k x).length:=by omega
   simp [List.getD_eq_getElem?_getD,this]
  rw [e4];have a : j<(Emb.cells ((Q8Y k x).getD i Emb.d)).length:=by rw [Emb.len];exact D
  have e5:(enc ((Q8Y k x).getD i Emb.d))[j]! = ((Emb.cells ((Q8Y k x).getD i Emb.d))[j]).val:=by
   rw [<-Y4g (enc ((Q8Y k x).getD i Emb.d)) j (by rw [hk];exact D) undef];exact Z6z _ _ a
  have e6:(LF (Q8Y k x) i).getD j .any=(Emb.cells ((Q8Y k x).getD i Emb.d))[j]:=Z9B _ _ a _;rw [e5,e6]
  exact DVal.rep _ _ (List.all_eq_true.1 (hlit _) _ (List.getElem_mem a))
end
section
open Go.ChangeShapes Go.WideShapes Go.ChangeAt Go.RowKit
theorem Y6o {w:World} {a:Addr} {v:Value} (h:w.cell? a=some v):a.spot=none/\∃ c e fz,w.heap[a.block]?=some (.cells c e fz)/\a.off<c.size/\c.getD a.off undef=v:=by
 unfold World.cell? at h;split at h
 ·rename_i c e fz f
  split at h
  ·cases h
  ·rename_i d
   obtain ⟨b,g⟩:=Array.getElem?_eq_some_iff.1 h;exact ⟨by simpa using d,c,e,fz,f,b,by simp [b,g]⟩
 ·cases h
theorem W0R (b o i:Nat):(⟨b,o,none⟩:Addr).add i=⟨b,o+i,none⟩:=add_lit b o i
theorem Y9a {w:World} {a:Addr} {len cap:Nat} {zs:List Int} (hl:len<=cap) (hz:len<=zs.length) (hc:∀ i,i<zs.length->w.cell? (a.add i)=some (.int .i64 (zs.getD i 0))) :
  DRep w (fun _=>False) (.slice (some a) len cap) (DL (α:=Int) (zs.take len)):=by
 have u:(zs.take len).length=len:=by simp;omega
 unfold DL;rw [u]
 by_cases h0:len=0
 ·subst h0;exact .nil _ _ _
 ·have o:a.spot=none:=by
   have:=(Y6o (hc 0 (by omega))).1
   cases hsp:a.spot with
   | none=>rfl
   | some s=>simp [Addr.add,hsp] at this
  obtain ⟨b,d,z⟩:=a;simp only at o
  subst o;have f : ∀ i,i<zs.length->∃ c e m,w.heap[b]?=some (.cells c e m)/\d+i<c.size/\c.getD (d+i) undef=.int .i64 (zs.getD i 0):=by
   intro i k;have:=hc i k
   rw [W0R] at this;exact (Y6o this).2
  obtain ⟨c,e,m,n,_,_⟩:=f 0 (by omega);have l:∀ i,i<zs.length->d+i<c.size/\c.getD (d+i) undef=.int .i64 (zs.getD i 0):=by
   intro i k;obtain ⟨x,A,r,g,v,q⟩:=f i k
   rw [n] at g;cases g
   exact ⟨v,q⟩
  refine .lst b d len cap c e m _ 1 (fun h=>h) n hl (by have:=(l (len-1) (by omega)).1;omega) (fun i _=>rfl) fun i j k y=>?_
  have:j=0:=by omega
  subst this;rw [Nat.mul_one,Nat.add_zero,(l i (by omega)).2]
  have p:((LF (zs.take len) i).getD 0 .any)=.int .i64 ((zs.take len).getD i 0):=rfl;rw [p]
  have t:(zs.take len).getD i 0=zs.getD i 0:=by simp [List.getD_eq_getElem?_getD,List.getElem?_take,k]
  rw [t];exact .int _ _
theorem Y6X {H:Type} {enc:TypeId×Value->H} {P:Program} {W:World} {t e:TypeId} {v:Value} {d:DataW H} {ps:List MemPlace} (ht:P.underlying t=some (.slice e)) (he:P.underlying e=some (.int .i64)) (hc:P.cellsOf e=1) {r:Reach} {b0:Nat}
  (hv:Value.okWide P W r b0 t v) (hd:DataW.Trod enc P W 0 (fun _=>true) true t v d ps):∃ l:List Int,DRep W (fun _=>False) v (DL l)/\∀ n ∈ l,(Lit.int .i64 n).wf=true:=by
 obtain ⟨j,p⟩:=hd;obtain ⟨w,f,s,rfl⟩:=okWide_slice ht hv
 rcases open_ints ht he hc p with ⟨b,m⟩|⟨a,i,k,zs,b,u,o,x,q,m,c,g⟩
 ·simp [Value.cells] at b
  obtain ⟨rfl,rfl,rfl⟩:=b;exact ⟨[],.nil _ _ _,fun n h=>by cases h⟩
 ·simp [Value.cells] at b
  obtain ⟨rfl,rfl,rfl⟩:=b;simp only [if_true] at q
  exact ⟨zs.take f,Y9a o (by omega) c,fun n h=>g n (List.mem_of_mem_take h)⟩
theorem Z7C {H:Type} {enc:TypeId×Value->H} {P:Program} (hl:laidOutB P=true) {W W' : World} (hb:Below W.heap.size W W'):∀ {ts:List TypeId} {vs:List Value} {ds:List (DataW H)} {ps:List MemPlace},
  ts.all (fun t=>P.readableRec t&&decide (t<P.types.size))=true->DataW.TrodAll enc P W 0 (fun _=>true) true ts vs ds ps->(∀ x ∈ ps,x.block<W.heap.size)->∀ sp:Nat->Bool,(∀ x ∈ ps,sp x.block=true)->DataW.TrodAll enc P W' 0 sp true ts vs ds ps
 | [],[],[],_,_,h,_,_,_=>h
 | t::ts,v::vs,d::ds,ps,hr,⟨p,q,h1,h2,e⟩,hlt,sp,hs=>by
  simp only [List.all_cons,Bool.and_eq_true,decide_eq_true_eq] at hr;subst e
  exact ⟨p,q,WideElems.Trod_stays hl hr.1.1 hr.1.2 h1 (fun x a=>hb.same (hlt x (List.mem_append_left _ a))) (fun x a=>hs x (List.mem_append_left _ a)),
   Z7C hl hb hr.2 h2 (fun x a=>hlt x (List.mem_append_right _ a)) sp (fun x a=>hs x (List.mem_append_right _ a)),rfl⟩
theorem Y6V {H:Type} {enc:TypeId×Value->H} {P:Program} (hl:laidOutB P=true) {fn:Func} {s:ChangeSpec} {W W' : World} {args:Array Value} {ds gs:List (DataW H)} {before:List MemPlace} {apart fresh handsOn again:Bool}
  (hW:DataW.Whole enc P fn.params.toList s.vars apart W args.toList ds gs before) (hv:s.vars=[]) (hs:s.fn H (ds++gs)={ results:=[.lit (.bool true)],args:=ds }) (hr:fn.params.toList.all (fun t=>P.readableRec t&&decide (t<P.types.size))=true)
  {t:TypeId} (hres:fn.resultTypes=#[t]) (ht:P.underlying t=some .bool) (hb:Below W.heap.size W W'):s.post enc P fn apart fresh handsOn again W args (.bool true) W':=by
 have g:=hW.lt;have k:=hW
 obtain ⟨p,q,w,v,o,A,C⟩:=hW;rw [hv] at v
 obtain ⟨rfl,rfl⟩:=trodVars_none v;rw [List.append_nil] at o
 subst o;have m:∀ (j:Nat) (t' : TypeId) (r:Value),fn.resultTypes[j]?=some t' -> ((Value.bool true).resultList fn.resultTypes.size)[j]?=some r->Value.okWide P W' .any 0 t' r:=ok_one hres rfl (okWide_bool_mk ht _)
 have l:∀ x ∈ before,(fun b=>decide (b<W.heap.size)) x.block=true:=fun x d=>by simpa using g x d
 have e:∀ a:Nat->Bool,(∀ x ∈ before,a x.block=true)->DataW.TrodAll enc P W' 0 a true fn.params.toList args.toList (s.fn H (ds++[])).args before:=fun a n=>by
  rw [hs];exact Z7C hl hb hr w g a n
 have f:∀ (b:Nat) (a:Nat->Bool) (u:Bool),DataW.TrodAll enc P W' b a u fn.resultTypes.toList ((Value.bool true).resultList fn.resultTypes.size) (s.fn H (ds++[])).results []:=fun b a u=>by
  rw [hs,hres];exact trodAll_cons_mk (shut_bool ht _) trodAll_mk0
 have c:∀ a:Nat->Bool,DataW.TrodVars enc P W' a s.vars (s.fn H (ds++[])).vars []:=fun a=>by
  rw [hs,hv];exact rfl
 refine ⟨ds,_,before,[],before,[],k,f _ _ _,e _ l,c _,World.keptBut_mono (fun x d=>⟨d,by simpa using d⟩) (hb.frame (· ∈ before)),fun _=>⟨m,?_⟩⟩;obtain ⟨_,_,_,_,_,z,B⟩:=k
 refine ⟨_,_,([]++before)++[],⟨[]++before,[],trodAll_append (e _ fun _ _=>rfl) (f _ _ _),c _,rfl,fun b i d=>?_,fun y=>?_⟩,fun x d _=>?_⟩
 ·have h:MemPlace.cell b i ∈ before:=by simpa using d
  rw [hb.frozen (g _ h)];exact z b i h
 ·simpa using B y
 ·simpa using d
theorem Y8J {H:Type} {enc:TypeId×Value->H} {P:Program} (hl:laidOutB P=true) {fn:Func} {s:ChangeSpec} {W W' : World} {args:Array Value} {ds gs:List (DataW H)} {before:List MemPlace} {apart fresh handsOn again:Bool}
  (hW:DataW.Whole enc P fn.params.toList s.vars apart W args.toList ds gs before) (hv:s.vars=[]) (hs:s.fn H (ds++gs)={ results:=[.lit (.bool true)],args:=ds }) (hr:fn.params.toList.all (fun t=>P.readableRec t&&decide (t<P.types.size))=true)
  {t:TypeId} (hres:fn.resultTypes=#[t]) (ht:P.underlying t=some .bool) (hstp:Stp (fun _=>False) W W'):s.post enc P fn apart fresh handsOn again W args (.bool true) W' :=
 Y6V hl hW hv hs hr hres ht (hstp.below _ (Nat.le_refl _) fun _ _ h=>h)
end
section
section
variable {P:Program} {C:Ctx} {nt:Nat} {L:Lay} {ops:Array Oper} {ds:List Dir} {e:Env} {s:Sto}
end
end
section
def ci (n:Int):CV:=.d (.int .i64 n)
def gC {α:Type} [Emb α] (x:α):List CV:=(Emb.cells x).map .d
def gE {α:Type} [Emb α] (x:α):AVal:=.v (.g (gC x))
def ss (n:Nat):List Dir:=List.replicate n .s
section
variable {P:Program} {C:Ctx} {nt:Nat} {L:Lay} {pins:List Nat} {E:List (Nat×AVal)} {S:List (Nat×Obj)} {Q:Exit->Act->World->Prop}
theorem AW.g (Fm:Fr P L C pins) {id:Nat} {ops:Array Oper} {draw:Bool} (ds:List Dir) (c:(Nat->Prop)->Prop) (E' : List (Nat×AVal)) (S' : List (Nat×Obj)) (hc:c (KAt P C nt L ops ds (lk E) (ls S)))
  (h:(Z7z L pins nt ops draw ds E S [] S',Q7r P C nt L ops ops.toList ds (lk E) (ls S),E'.map (fun p=>Z3n ops.toList (Q1k L ops ops.toList ds (lk E) (ls S)) (lk E) p.1),S'.map (fun p=>Z3m (Q1k L ops ops.toList ds (lk E) (ls S)) (ls S) (V3 [] p.1)))
   = (true,c (KAt P C nt L ops ds (lk E) (ls S)),E'.map (fun p=>p.2.ren (V3 [])),S'.map (fun p=>some (p.2.ren (V3 [])))))
  (k:Kn C nt E' S' (Q .normal)):AW P C nt (.region id ops draw) E S Q:=
 W2l Fm ds [] c E' S' hc (congrArg (·.1) h) (congrArg (·.2.1) h) (congrArg (·.2.2.1) h) (congrArg (·.2.2.2) h) k
theorem W1b (Fm:Fr P L C pins) {id:Nat} {ops:Array Oper} {draw:Bool} {y:Code} (ds:List Dir) (c:(Nat->Prop)->Prop) (E' : List (Nat×AVal)) (S' : List (Nat×Obj)) (hc:c (KAt P C nt L ops ds (lk E) (ls S)))
  (h:(Z7z L pins nt ops draw ds E S [] S',Q7r P C nt L ops ops.toList ds (lk E) (ls S),E'.map (fun p=>Z3n ops.toList (Q1k L ops ops.toList ds (lk E) (ls S)) (lk E) p.1),S'.map (fun p=>Z3m (Q1k L ops ops.toList ds (lk E) (ls S)) (ls S) (V3 [] p.1)))
   = (true,c (KAt P C nt L ops ds (lk E) (ls S)),E'.map (fun p=>p.2.ren (V3 [])),S'.map (fun p=>some (p.2.ren (V3 [])))))
  (k:AW P C nt y E' S' Q):AW P C nt (.seq (.region id ops draw) y) E S Q:=
 AW.seq (AW.g Fm ds c E' S' hc h k)
theorem W2B (Fm:Fr P L C pins) {id:Nat} {ops:Array Oper} {draw:Bool} (n:Nat) (E' : List (Nat×AVal)) (S' : List (Nat×Obj))
  (h:(Z7z L pins nt ops draw (ss n) E S [] S',Q7r P C nt L ops ops.toList (ss n) (lk E) (ls S),E'.map (fun p=>Z3n ops.toList (Q1k L ops ops.toList (ss n) (lk E) (ls S)) (lk E) p.1),S'.map (fun p=>Z3m (Q1k L ops ops.toList (ss n) (lk E) (ls S)) (ls S) (V3 [] p.1)))
   = (true,True,E'.map (fun p=>p.2.ren (V3 [])),S'.map (fun p=>some (p.2.ren (V3 [])))))
  (k:Kn C nt E' S' (Q .normal)):AW P C nt (.region id ops draw) E S Q:=AW.g Fm (ss n) (fun _=>True) E' S' True.intro h k
theorem W1a (Fm:Fr P L C pins) {id:Nat} {ops:Array Oper} {draw:Bool} {y:Code} (n:Nat) (E' : List (Nat×AVal)) (S' : List (Nat×Obj))
  (h:(Z7z L pins nt ops draw (ss n) E S [] S',Q7r P C nt L ops ops.toList (ss n) (lk E) (ls S),E'.map (fun p=>Z3n ops.toList (Q1k L ops ops.toList (ss n) (lk E) (ls S)) (lk E) p.1),S'.map (fun p=>Z3m (Q1k L ops ops.toList (ss n) (lk E) (ls S)) (ls S) (V3 [] p.1)))
   = (true,True,E'.map (fun p=>p.2.ren (V3 [])),S'.map (fun p=>some (p.2.ren (V3 [])))))
  (k:AW P C nt y E' S' Q):AW P C nt (.seq (.region id ops draw) y) E S Q:=AW.seq (W2B Fm n E' S' h k)
variable {K:Act->World->Prop}
theorem W3b (Fm:Fr P L C pins) (E' : List (Nat×AVal)) (S' : List (Nat×Obj))
  (hq:(pins.all (fun i=>V3 [] i==i),E'.map (fun p=>lk E p.1),S'.map (fun p=>ls S (V3 [] p.1)),Q2S (S'.map fun p=>V3 [] p.1))=(true,E'.map (fun p=>p.2.ren (V3 [])),S'.map (fun p=>some (p.2.ren (V3 []))),true)) (h:Kn C nt E' S' K):Kn C nt E S K:=
 Kn.re Fm [] E' S' (congrArg (·.1) hq) (congrArg (·.2.1) hq) (congrArg (·.2.2.1) hq) (congrArg (·.2.2.2) hq) h
theorem Q3a (Fm:Fr P L C pins) {fn:Func} {r:AVal} {S' : List (Nat×Obj)} (hq:(Y6R L (lk E) (ls S) fn.results.toList,S'.map (fun p=>ls S p.1))=(some r,S'.map (fun p=>some p.2))):Kn C nt E S (Y5F P fn C r S' .ret):=
 Kn.done Fm (congrArg (·.1) hq) (congrArg (·.2) hq)
end
section
variable {P:Program} {C:Ctx} {nt:Nat} {L:Lay} {ops:Array Oper} {ds:List Dir} {e:Env} {s:Sto}
theorem W3d {k:Nat} {f:Nat} {args:List AVal} {Si:List (Nat×Obj)} {r:AVal} {So:List (Nat×Obj)} (hspec:Q6 P f args Si r So) (hcall:∀ args w,(callFunc f args).run P w=.ok (.enter f args) w) (m:List (Nat×Nat))
  (hk:Q2c ds k=cE m [] r Si So) (hq:(Go.Ab.callB ops nt (V2 L ops ops.toList ds e s k) (Y9 ops.toList k) f m r Si So,Si.map (fun p=>Q2k L ops ops.toList ds e s k (V3 m p.1)),
   (Go.Ab.callXs (Y9 ops.toList k)).toList.all (Q5M (Q0g (Y9 ops.toList k)++V8 ops (Y9 ops.toList k)))&&args.all AVal.noSem,(Go.Ab.callXs (Y9 ops.toList k)).toList.map (aev (V2 L ops ops.toList ds e s k)))
   = (true,Si.map (fun p=>some (p.2.ren (V3 m))),true,args.map (AVal.ren (V3 m)))):KAt P C nt L ops ds e s k:=
 KAt.call hspec hcall m hk (congrArg (·.1) hq) (congrArg (·.2.1) hq) (congrArg (·.2.2.1) hq) (congrArg (·.2.2.2) hq)
end
end
section
open Go.Proofs Go.Shelf
theorem Y1c {α:Type} [Emb α] {P:Program} {L:Lay} (hL:LOk P L) {ρ:Ren} (Ly:Lays8.n4 P ρ) {te:TI} (hte:L (ρ.t 25)=some te) (hsz:te.size=Emb.es α) (hpos:0<te.size) (hby:te.bytes<=8192) (hzl:te.zero.length=te.size)
  {n:Int} {r:List α} (h:Y1d n=some r):Q6 P (ρ.f 4) [.v (.c (.fl 0 fun _=>[])),vi n] [] (.v (.c (.own 100))) [(100,AO (α:=α) r)]:=by
 unfold Y1d at h;split at h
 case isFalse=>cases h
 rename_i hn
 cases h
 obtain ⟨I,d0,J,k⟩:=hL _ _ hte;intro w X η B hX W Y a2 q p
 have q:B.size=2:=q;have A:∃ D,B.getD 0 undef=.slice D 0 0:=by
  have:=p 0 (by simp)
  change ARep w X η _ (B.getD 0 undef) (.v (.c (.fl 0 fun _=>[]))) at this;generalize B.getD 0 undef=u at this
  cases this with|v _ _ l=>cases l with|c _ _ l=>cases l with|fl a _ _ _=>exact ⟨a,rfl⟩
 have N:B.getD 1 undef=.int .i64 n:=by
  have:=p 1 (by simp)
  change ARep w X η _ (B.getD 1 undef) (.v (.c (.d (.int .i64 n)))) at this;generalize B.getD 1 undef=u at this
  cases this with|v _ _ l=>cases l with|c _ _ l=>cases l with|d _ _ l=>cases l;rfl
 obtain ⟨D,A⟩:=A;rw [Y9n q,A,N]
 obtain ⟨m,rfl⟩:∃ m:Nat,n=m:=⟨n.toNat,by omega⟩;have O:m<=LIM:=by omega
 have g:∀ i o,ls [(100,AO (α:=α) [])] i=some o->i=100/\o=AO (α:=α) []:=by
  intro i o b;rw [U8] at b
  by_cases h:i=100
  ·rw [if_pos h] at b;cases b;exact ⟨h,rfl⟩
  ·rw [if_neg h] at b;cases b
 rcases Nat.eq_zero_or_pos m with V|V
 ·subst V
  refine (Any8.slices_Grow_room Ly D 0 0 0 w (Nat.le_refl _) (by omega) (by omega) (Nat.le_refl _)).mono fun e Z l=>?_
  obtain ⟨R,U⟩:=l;refine ⟨_,fun _=>.slice D 0 0,R,?_⟩
  rw [U];have z:∀ x,x ∉ Y8 (.slice D 0 0):=by intro x;cases D <;> simp [Y8]
  refine ⟨Stp.refl _ _,.v _ _ (.c _ _ (.own _ _ rfl rfl)),fun i o b=>?_,fun i j x b F y _=>absurd y (z x),fun i o x b y=>absurd y (z x),fun i v b=>?_⟩
  ·obtain ⟨rfl,rfl⟩:=g i o b
   exact .nil _ _ _
  ·change (if ((List.lookup i ([]:List (Nat×Obj))).isSome=true) then some (η i) else none)=some v at b
   cases b
 ·have H:(0+m)*I.bytes<=140737488355328:=by
   have h1:(0+m)*I.bytes<=4294967296*8192:=Nat.mul_le_mul (by simp only [LIM] at O;omega) (by rw [k.bytes];exact hby);omega
  refine (Any8.slices_Grow_grow Ly I J k.info k.zero (by rw [k.size];exact hpos) D 0 0 m [] w (Nat.le_refl _) (by omega) H (by simp only [LIM] at O;omega) (by simp) (fun _=>rfl) (fun _ _ _ _ F=>by simp at F)).mono fun e Z l=>?_
  obtain ⟨R,U⟩:=l;have hG:m<=grownCap w (0+m) 0 (ρ.t 25):=by have:=grownCap_ge w (0+m) 0 (ρ.t 25);omega
  have M:=grownCap_le_maxLen w (0+m) 0 (ρ.t 25) (by simp only [LIM] at O;simp only [maxLen];omega);generalize grownCap w (0+m) 0 (ρ.t 25)=G at *
  refine ⟨_,fun _=>.slice (some ⟨w.heap.size,0,none⟩) 0 G,R,?_⟩;rw [U]
  have T:J.cells.size=I.size:=by rw [(k.zrep w (fun _=>False) η (J7 [] w X η)).1,hzl,k.size]
  refine ⟨(Stp.drew _ _).trans (Stp.alloc _ _ _),.v _ _ (.c _ _ (.own _ _ rfl rfl)),fun i o b=>?_,fun i j x b F _ _=>?_,fun i o x b y=>?_,fun i v b=>?_⟩
  ·obtain ⟨rfl,rfl⟩:=g i o b
   refine .arr w.heap.size 0 G _ (([]:List Value).toArray++Builtin.zeroCells J.cells (0+m-0)++Builtin.zeroCells J.cells (G-(0+m))) (ρ.t 25) _ (heap_alloc_new w.drew _) ?_ (Nat.zero_le _) M (by omega) (fun i b=>absurd b (Nat.not_lt_zero i)) fun i j b=>absurd b (Nat.not_lt_zero i)
   rw [Array.size_append,Array.size_append,size_zeroCells,size_zeroCells,T,k.size, <-hsz];have e1:(([]:List Value).toArray).size=0:=rfl
   rw [e1,Nat.zero_add, <-Nat.add_mul];congr 1
   omega
  ·obtain ⟨oi,b⟩:=Option.ne_none_iff_exists'.1 b
   obtain ⟨oj,F⟩:=Option.ne_none_iff_exists'.1 F;rw [(g i oi b).1,(g j oj F).1]
  ·have:x=w.heap.size:=by
    have y:x ∈ Y8 (.slice (some ⟨w.heap.size,0,none⟩) 0 G):=y;simp [Y8] at y
    exact y.2
   subst this;exact .inr (.inr (Nat.le_refl _))
  ·change (if ((List.lookup i ([]:List (Nat×Obj))).isSome=true) then some (η i) else none)=some v at b
   cases b
end
section
def Y9g (P:Program) (x:CV):Prop:=x.closed=true\/∃ F,x=.sem (z6 P F)
section
variable {w:World} {X:Nat->Prop} {η η' : Nat->Value} {C C' : Ctx} {P:Program}
theorem y4.port {vs:Array Value} {cs:List CV} (h:y4 w X η C vs cs) (H:∀ F v,z6 P F C.w0 C.D C.X v->z6 P F C'.w0 C'.D C'.X v) (hx:∀ x ∈ cs,Y9g P x):y4 w X η' C' vs cs:=by
 refine ⟨h.1,fun j g=>?_⟩;have c:=h.2 j g
 rcases hx _ (Q0F (d:=.d .any) g) with a|⟨F,a⟩
 ·simp only [CV.closed,Bool.and_eq_true,List.isEmpty_iff] at a
  exact (c.mono (fun b _ k=>⟨rfl,k⟩) (fun i f=>by rw [a.1] at f;cases f)).ctx a.2
 ·rw [a] at c ⊢
  generalize vs.getD j undef=u at c ⊢
  cases c with|sem _ _ g1 g2=>exact .sem _ _ (H F _ g1) g2
end
section
variable {P:Program} {C:Ctx} {nt:Nat} {e:Env} {s:Sto}
theorem G5.cloP {f:Nat} (hcall:∀ args w,(callFunc f args).run P w=.ok (.enter f args) w) {F:List AVal->AVal->Prop} {cs:List (List CV)} (hspec:∀ args r,F args r->Q6 P f (args++Z8H cs) (Z0f cs) r (Z0f cs)) (hres:∀ args r,F args r->r.closed=true)
  {Si:List (Nat×Obj)} {m:Nat->Nat} {rd ids:List Nat} {x:Operand} (hx:Q5M rd x=true) {cids:List Nat} (hv:aev e x=.v (.c (.clo f cids))) (hlen:cids.length=cs.length) (hnd:Q2S cids=true) (hbox:∀ k,k<cs.length->∃ ro,s (cids.getD k 0)=some (.box ro (cs.getD k [])))
  (hcl:∀ c ∈ cs,∀ x ∈ c,Y9g P x) (hsi:∀ p ∈ Si,∃ o1,s (m p.1)=some o1) (hin:∀ p ∈ Si,m p.1 ∈ ids) (hcin:∀ i ∈ cids,i ∈ ids) (hapart:∀ p ∈ Si,m p.1 ∉ cids):G5 C nt e s Si m rd ids x (Z5z P F):=by
 intro R η e0 s0 a w d3 N G;have b8:=(W5 G x).1
 rw [J4 d3 hx,hv] at b8;have b1:=Z9K b8
 refine .v _ _ (.c _ _ (.sem _ _ ⟨f,_,b1,hcall,?_⟩ (by rw [b1];rfl)));intro w1 X1 vs args r hF c7 T e6 a3 c5 a4
 have O : w.heap.size<=w1.heap.size:=c7;have M:∀ k,k<cs.length->cids.getD k 0 ∈ cids:=fun k H=>Q0F (by omega)
 have z:∀ k,k<cs.length->∃ ro,s0 (cids.getD k 0)=some (.box ro (cs.getD k [])):=by
  intro k H;obtain ⟨ro,h⟩:=hbox k H
  exact ⟨ro,by rw [N _ (hcin _ (M k H))];exact h⟩
 have J:∀ k,k<cs.length->∃ b c' e',η (cids.getD k 0)=.pointer (some ⟨b,0,none⟩)/\w.heap[b]?=some (.cells c' e' (0,0))/\y4 w (XS C s0 η) η C c' (cs.getD k []):=by
  intro k H;obtain ⟨ro,h⟩:=z k H
  have:=G.st _ _ h
  generalize η (cids.getD k 0)=u at this
  cases this with
  | box b _ c' e' _ y hcs=>exact ⟨b,c',e',rfl,y,hcs⟩
 have W:∀ k,k<cs.length->∀ b,b ∈ Y8 (η (cids.getD k 0))->¬ Own (ls Si) (fun i=>η (m i)) b:=by
  rintro k H b y ⟨i,B,l,n⟩;obtain ⟨ro,h⟩:=z k H
  obtain ⟨o1,h2⟩:=hsi _ (U6 l);have c4 : s0 (m i)=some o1:=by rw [N _ (hin _ (U6 l))];exact h2
  have:=G.ds _ _ b (by rw [h];simp) (by rw [c4];simp) y n
  exact hapart _ (U6 l) (this ▸ M k H)
 have c3:∀ b,Own (ls Si) (fun i=>η (m i)) b->XS C s0 η b:=by
  rintro b ⟨i,B,l,n⟩;obtain ⟨o1,h2⟩:=hsi _ (U6 l)
  exact .inr ⟨m i,o1,by rw [N _ (hin _ (U6 l))];exact h2,n⟩
 have H:Q7i w w1 (XS C s0 η) X1:=by
  intro b y hX;have b6:¬ Own (ls Si) (fun i=>η (m i)) b:=fun ho=>hX (c3 b ho)
  exact ⟨T b y b6,fun hx=>hX ((a3 b y b6).1 hx)⟩
 have A:∀ k o,ls (Z0f cs) k=some o->k<cs.length/\o=.box true (cs.getD k []):=by
  intro k o H;rw [Y8n] at H
  rcases Nat.lt_or_ge k cs.length with h|h
  ·rw [List.getElem?_eq_getElem h] at H
   cases H
   exact ⟨h,by rw [List.getD_eq_getElem?_getD,List.getElem?_eq_getElem h];rfl⟩
  ·rw [List.getElem?_eq_none h] at H;cases H
 have V:∀ b,Own (ls (Z0f cs)) (fun k=>η (cids.getD k 0)) b->X1 b:=by
  rintro b ⟨k,B,Z,Y⟩;obtain ⟨t,_⟩:=A k B Z
  obtain ⟨ro,h⟩:=z k t;have d4:b<w.heap.size:=(G.st _ _ h).lt Y
  exact (a3 b d4 (W k t b Y)).2 (.inr ⟨_,_,h,Y⟩)
 have a5:∀ F' v,z6 P F' C.w0 C.D C.X v->z6 P F' w1 (Own (ls (Z0f cs)) fun k=>η (cids.getD k 0)) X1 v:=by
  rintro F' v ⟨g,gc,g1,g2,g3⟩;refine ⟨g,gc,g1,g2,fun w2 X2 us c8 q hq s1 s2 s3 s4 s5 s6=>?_⟩
  have b2:∀ b,b<C.w0.heap.size->¬ C.D b->¬ Own (ls Si) (fun i=>η (m i)) b:=by
   rintro b y I ⟨i,B,l,n⟩;obtain ⟨o1,h⟩:=hsi _ (U6 l)
   rcases G.ow (m i) o1 b (by rw [N _ (hin _ (U6 l))];exact h) n with ⟨_,h⟩|h|h
   ·exact I h
   ·exact I (G.ok.md b h)
   ·omega
  have b5:∀ b,b<C.w0.heap.size->¬ C.D b->¬ Own (ls (Z0f cs)) (fun k=>η (cids.getD k 0)) b:=by
   rintro b y I ⟨k,B,Z,Y⟩;obtain ⟨t,_⟩:=A k B Z
   obtain ⟨ro,h⟩:=z k t;rcases G.ow _ _ b h Y with ⟨_,h⟩|h|h
   ·exact I h
   ·exact I (G.ok.md b h)
   ·omega
  refine g3 w2 X2 us c8 q hq (Nat.le_trans G.fr.size (Nat.le_trans O s1)) (fun b y I=>?_) s3 (fun b y I=>?_) s5 s6
  ·have U:b<w.heap.size:=Nat.lt_of_lt_of_le y G.fr.size
   exact ((s2 b (Nat.lt_of_lt_of_le U O) (b5 b y I)).trans (T b U (b2 b y I))).trans (G.fr.block b y fun hM=>I (G.ok.md b hM))
  ·have U:b<w.heap.size:=Nat.lt_of_lt_of_le y G.fr.size
   rw [s4 b (Nat.lt_of_lt_of_le U O) (b5 b y I),a3 b U (b2 b y I)];constructor
   ·rintro (⟨hx,_⟩|⟨i,B,l,n⟩)
    ·exact hx
    ·rcases G.ow i B b l n with ⟨_,h⟩|h|h
     ·exact absurd h I
     ·exact absurd (G.ok.md b h) I
     ·omega
   ·exact fun hx=>.inl ⟨hx,I⟩
 have d7:=hspec args r hF w1 X1 (fun k=>η (cids.getD k 0)) (vs++(cids.map η).toArray) e6 V
  (fun k o Z=>by
   obtain ⟨t,rfl⟩:=A k o Z;obtain ⟨b,c',e',h,h2,h3⟩:=J k t
   have e7:=W k t b (by rw [h];simp [Y8]);show ORep w1 X1 _ _ (η (cids.getD k 0)) _
   rw [h];have e4:∀ x ∈ cs.getD k [],Y9g P x:=hcl _ (Q0F (d:=[]) t)
   exact .box b true c' e' _ ((T b (G4 h2) e7).trans h2) ((h3.mono (η':=η) H (fun _ _=>rfl)).port a5 e4))
  (fun i j b l hj c9 c1=>by
   obtain ⟨oi,l⟩:=Option.ne_none_iff_exists'.1 l;obtain ⟨oj,hj⟩:=Option.ne_none_iff_exists'.1 hj
   obtain ⟨e5,_⟩:=A i oi l;obtain ⟨c2,_⟩:=A j oj hj
   obtain ⟨r1,h⟩:=z i e5;obtain ⟨r2,h2⟩:=z j c2
   have b3:=G.ds _ _ b (by rw [h];simp) (by rw [h2];simp) c9 c1;have hn:=Q4t hnd
   have e3:i<cids.length:=by omega
   have d0:j<cids.length:=by omega
   rw [List.getD_eq_getElem?_getD,List.getD_eq_getElem?_getD,List.getElem?_eq_getElem e3,List.getElem?_eq_getElem d0] at b3;exact (List.getElem_inj hn).1 (by simpa using b3))
  (by simp [c5,Z8H,hlen])
  (fun j hj=>by
   rw [List.length_append] at hj
   by_cases hja:j<args.length
   ·have e1:(vs++(cids.map η).toArray).getD j undef=vs.getD j undef:=by
     have:j<vs.size:=by omega
     simp [Array.getD_eq_getD_getElem?,Array.getElem?_append,this]
    have e2:(args++Z8H cs).getD j .any=args.getD j .any:=by simp [List.getD_eq_getElem?_getD,List.getElem?_append,hja]
    rw [e1,e2];exact a4 j hja _ _
   ·have t:j-args.length<cs.length:=by simp [Z8H] at hj;omega
    obtain ⟨b,c',e',h,h2,h3⟩:=J _ t;have e1:(vs++(cids.map η).toArray).getD j undef=η (cids.getD (j-args.length) 0):=by
     have g1:¬ j<vs.size:=by omega
     have g2:j-vs.size<cids.length:=by omega
     have g3:j-args.length<cids.length:=by omega
     have:j-vs.size=j-args.length:=by omega
     simp [Array.getD_eq_getD_getElem?,Array.getElem?_append,g1,List.getD_eq_getElem?_getD,this,g3]
    have e2:(args++Z8H cs).getD j .any=.v (.c (.ptr (j-args.length) 0)):=by
     simp [List.getD_eq_getElem?_getD,List.getElem?_append,hja,Z8H,t]
    rw [e1,e2,h];exact .v _ _ (.c _ _ (.ptr b _ 0 h)))
 refine d7.mono fun en w' hh=>?_
 obtain ⟨v,η',rfl,y⟩:=hh;refine ⟨v,rfl,y.stp.mono fun b _ hM=>?_,fun η2 C2=>?_⟩
 ·obtain ⟨i,B,l,d5,_⟩:=hM
  obtain ⟨_,rfl⟩:=A i B l;cases d5
 ·have hX:∀ b,XS (J7 (Z0f cs) w1 X1 fun k=>η (cids.getD k 0)) (ls (Z0f cs)) η' b↔X1 b:=by
   have a2:∀ i B,ls (Z0f cs) i=some B -> η' i=η (cids.getD i 0):=by
    intro i B l;refine y.pn i _ ?_
    unfold ls at l;simp [J7,l]
   intro b;constructor
   ·rintro (⟨hx,_⟩|⟨i,B,l,n⟩)
    ·exact hx
    ·rw [a2 i B l] at n
     exact V b ⟨i,B,l,n⟩
   ·intro hx
    rcases Classical.em (Own (ls (Z0f cs)) (fun k=>η (cids.getD k 0)) b) with ho|ho
    ·obtain ⟨i,B,l,n⟩:=ho
     exact .inr ⟨i,B,l,by rw [a2 i B l];exact n⟩
    ·exact .inl ⟨hx,ho⟩
  exact (y.res.mono (η':=η') (fun b _ hx=>⟨rfl,fun d2=>hx ((hX b).2 d2)⟩) (fun _ _=>rfl)).free (hres args r hF)
def Y9J (P:Program):List CV->Prop
 | []=>True
 | c::cs=>Y9g P c/\Y9J P cs
def Y6W (P:Program):List (List CV)->Prop
 | []=>True
 | c::cs=>Y9J P c/\Y6W P cs
theorem Y9I {cs:List CV} (h:Y9J P cs):∀ x ∈ cs,Y9g P x:=by
 induction cs with
 | nil=>intro x a;cases a
 | cons c cs ih=>
  intro x a;rcases List.mem_cons.1 a with rfl|a
  ·exact h.1
  ·exact ih h.2 x a
theorem Y8K {cs:List (List CV)} (h:Y6W P cs):∀ c ∈ cs,∀ x ∈ c,Y9g P x:=by
 induction cs with
 | nil=>intro x a;cases a
 | cons c cs ih=>
  intro x a;rcases List.mem_cons.1 a with rfl|a
  ·exact Y9I h.1
  ·exact ih h.2 x a
theorem G5.cloXP {f:Nat} (hcall:∀ args w,(callFunc f args).run P w=.ok (.enter f args) w) {F:List AVal->AVal->Prop} (cs:List (List CV)) (hspec:∀ args r,F args r->Q6 P f (args++Z8H cs) (Z0f cs) r (Z0f cs)) (hres:∀ args r,F args r->r.closed=true)
  {Si:List (Nat×Obj)} {m:Nat->Nat} {rd ids:List Nat} {x:Operand} (hx:Q5M rd x=true) (cids:List Nat) (hv:aev e x=.v (.c (.clo f cids))) (hnd:(Q2S cids&&cids.all (fun i=>ids.contains i))=true) (hp:Y6W P cs) (hbox:W0H s cids cs)
  (hsi:siB s Si m ids cids=true):G5 C nt e s Si m rd ids x (Z5z P F):=by
 simp only [Bool.and_eq_true] at hnd;obtain ⟨d,b⟩:=Y8p hbox
 exact G5.cloP hcall hspec hres hx hv d hnd.1 b (Y8K hp) (Z5K hsi).1 (Z5K hsi).2.1 (fun i a=>by simpa using List.all_eq_true.1 hnd.2 i a) (Z5K hsi).2.2
end
end
section
section
variable {P:Program} {C:Ctx} {nt:Nat} {L:Lay} {pins:List Nat} {K:Act->World->Prop}
theorem Q9G (Fm:Fr P L C pins) {E:List (Nat×AVal)} {S0:List (Nat×Obj)} {i k es j:Nat} {cs:List CV} {f f' : Nat->List DVal} (hp:pins.contains k=false)
  (hfr:((E.flatMap fun p=>p.2.refs)++(((i,Obj.box false cs)::S0).flatMap fun p=>p.1::p.2.refs)).contains k=false) (hj:j<cs.length) (hc0:cs.getD j (.d .any)=.fl 0 f)
  (hk:Kn C nt E ((k,.arr es 0 f')::(i,.box false (cs.set j (.own k)))::S0) K):Kn C nt E ((i,.box false cs)::S0) K:=by
 intro R η a w v;have G:ls ((i,Obj.box false cs)::S0) i=some (.box false cs):=by rw [U8,if_pos rfl]
 have W:=v.st i _ G;obtain ⟨b0,c',e',hη0,hb0,hcs⟩:∃ b c' e',η i=.pointer (some ⟨b,0,none⟩)/\w.heap[b]?=some (.cells c' e' (0,0))/\y4 w (XS C (ls ((i,Obj.box false cs)::S0)) η) η C c' cs:=by
  generalize η i=u at W
  cases W with|box b _ c' e' _ O h=>exact ⟨b,c',e',rfl,O,h⟩
 obtain ⟨ad,hv⟩:∃ ad,c'.getD j undef=.slice ad 0 0:=by
  have:=hcs.2 j hj
  rw [hc0] at this;generalize c'.getD j undef=u at this
  cases this with|fl ad _ _ _=>exact ⟨ad,rfl⟩
 have V:C.pin k=none:=by
  rcases hq:C.pin k with _|u
  ·rfl
  ·have:=Fm.pin k (by rw [hq];simp)
   rw [List.contains_iff_mem.2 this] at hp;cases hp
 have I:∀ x ∈ (E.flatMap fun p=>p.2.refs)++(((i,Obj.box false cs)::S0).flatMap fun p=>p.1::p.2.refs),x≠k:=by
  intro x c he;subst he
  rw [List.contains_iff_mem.2 c] at hfr;cases hfr
 have hS:∀ x o,ls ((i,Obj.box false cs)::S0) x=some o->x≠k/\∀ y ∈ o.refs,y≠k:=by
  intro x o c;have hm:=U6 c
  exact ⟨I x (List.mem_append.2 (.inr (List.mem_flatMap.2 ⟨_,hm,by simp⟩))),fun y A=>I y (List.mem_append.2 (.inr (List.mem_flatMap.2 ⟨_,hm,by simp [A]⟩)))⟩
 have a3:i≠k:=(hS i _ G).1;have hE:∀ u x,x ∈ (lk E u).refs->x≠k:=by
  intro u x c;rcases Y0t (E:=E) (t:=u) with Z|Z
  ·rw [Z] at c;cases c
  ·exact I x (List.mem_append.2 (.inl (List.mem_flatMap.2 ⟨_,Z,c⟩)))
 let η' : Nat->Value:=fun x=>if x=k then .slice ad 0 0 else η x
 have l : ∀ x,x≠k->η' x=η x:=fun x c=>by show (if x=k then Value.slice ad 0 0 else η x)=_;rw [if_neg c]
 have M:η' k=.slice ad 0 0:=by show (if k=k then Value.slice ad 0 0 else η k)=_;rw [if_pos rfl]
 have r:∀ b,b ∉ Y8 (η' k):=by intro b;rw [M];cases ad <;> simp [Y8]
 have F:∀ x o,ls ((k,Obj.arr es 0 f')::(i,.box false (cs.set j (.own k)))::S0) x=some o->(x=k/\o=.arr es 0 f')\/(x=i/\o=.box false (cs.set j (.own k)))\/(x≠k/\x≠i/\ls ((i,Obj.box false cs)::S0) x=some o):=by
  intro x o c;rw [U8] at c
  by_cases m:x=k
  ·rw [if_pos m] at c;cases c;exact .inl ⟨m,rfl⟩
  ·rw [if_neg m,U8] at c
   by_cases B:x=i
   ·rw [if_pos B] at c;cases c;exact .inr (.inl ⟨B,rfl⟩)
   ·rw [if_neg B] at c
    exact .inr (.inr ⟨m,B,by rw [U8,if_neg B];exact c⟩)
 have n:∀ x o,ls ((k,Obj.arr es 0 f')::(i,.box false (cs.set j (.own k)))::S0) x=some o->x≠k->∃ N,ls ((i,Obj.box false cs)::S0) x=some N /\ N.ro=o.ro:=by
  intro x o c g;rcases F x o c with ⟨m,_⟩|⟨m,B⟩|⟨_,_,T⟩
  ·exact absurd m g
  ·subst m;subst B;exact ⟨_,G,rfl⟩
  ·exact ⟨o,T,rfl⟩
 have U:∀ b,Own (ls ((k,Obj.arr es 0 f')::(i,.box false (cs.set j (.own k)))::S0)) η' b->Own (ls ((i,Obj.box false cs)::S0)) η b:=by
  rintro b ⟨x,o,c,D⟩
  by_cases g:x=k
  ·subst g;exact absurd D (r b)
  ·obtain ⟨N,m,_⟩:=n x o c g
   exact ⟨x,N,m,by rw [<-l x g];exact D⟩
 have hX:Q7i w w (XS C (ls ((i,Obj.box false cs)::S0)) η) (XS C (ls ((k,Obj.arr es 0 f')::(i,.box false (cs.set j (.own k)))::S0)) η'):=by
  intro b O hn;refine ⟨rfl,fun c=>?_⟩
  rcases c with c|c
  ·exact hn (.inl c)
  ·exact hn (.inr (U b c))
 refine hk (fun x=>R x\/x=k) η' a w ⟨v.ok,v.df,v.sz,fun u=>(v.ev u).mono hX fun x c=>l x (hE u x c),fun u x c=>.inl (v.er u x c),fun x o c=>?_,fun x o c=>?_,fun x y b c A D J=>?_,fun x o b c O=>?_,v.fr,fun x u c=>?_⟩
 ·rcases F x o c with ⟨rfl,rfl⟩|⟨rfl,rfl⟩|⟨m,B,T⟩
  ·rw [M];exact .nil _ _ _
  ·rw [l x a3,hη0]
   refine .box b0 false c' e' _ hb0 ⟨by rw [hcs.1];simp,fun q hq=>?_⟩;have H : q<cs.length:=by simpa using hq
   by_cases hqj:q=j
   ·subst hqj
    have:(cs.set q (.own k)).getD q (.d .any)=.own k:=by simp [List.getD_eq_getElem?_getD,H]
    rw [this,hv];exact .own _ _ M.symm rfl
   ·have:(cs.set j (.own k)).getD q (.d .any)=cs.getD q (.d .any):=by
     simp [List.getD_eq_getElem?_getD,List.getElem?_set,Ne.symm hqj]
    rw [this];refine (hcs.2 q H).mono hX fun y A=>l y ((hS x _ G).2 y ?_)
    exact List.mem_flatMap.2 ⟨_,Q0F H,A⟩
  ·rw [l x m]
   exact (v.st x o T).mono hX (fun y A=>l y ((hS x o T).2 y A)) fun _ _=>rfl
 ·rcases F x o c with ⟨rfl,rfl⟩|⟨rfl,rfl⟩|⟨m,B,T⟩
  ·exact ⟨.inr rfl,by simp [Obj.refs]⟩
  ·have:=v.sr x _ G
   refine ⟨.inl this.1,fun y A=>?_⟩;obtain ⟨z,hz,Y⟩:=List.mem_flatMap.1 A
   rcases List.mem_or_eq_of_mem_set hz with h4|h4
   ·exact .inl (this.2 y (List.mem_flatMap.2 ⟨z,h4,Y⟩))
   ·subst h4
    exact .inr (by simpa [CV.refs] using Y)
  ·have:=v.sr x o T
   exact ⟨.inl this.1,fun y A=>.inl (this.2 y A)⟩
 ·obtain ⟨ox,c⟩:=Option.ne_none_iff_exists'.1 c
  obtain ⟨oy,A⟩:=Option.ne_none_iff_exists'.1 A
  by_cases g:x=k
  ·subst g;exact absurd D (r b)
  ·by_cases hyk:y=k
   ·subst hyk;exact absurd J (r b)
   ·obtain ⟨o1,m,_⟩:=n x ox c g
    obtain ⟨o2,B,_⟩:=n y oy A hyk;rw [l x g] at D
    rw [l y hyk] at J;exact v.ds x y b (by rw [m];simp) (by rw [B];simp) D J
 ·by_cases g:x=k
  ·subst g;exact absurd O (r b)
  ·obtain ⟨N,m,B⟩:=n x o c g
   rw [l x g] at O;rw [<-B]
   exact v.ow x N b m O
 ·have g:x≠k:=by intro h;subst h;rw [V] at c;cases c
  have:=v.pn x u c
  exact ⟨by rw [l x g];exact this.1,.inl this.2⟩
end
end
theorem Q6.list {α:Type} [Emb α] {P:Program} {f:Nat} {args:List AVal} {r:List α} (h:Q6 P f args [] (.v (.c (.own 100))) [(100,AO r)]):Q6 P f args [] (AL r) []:=by
 intro w X η N H x A F q m;refine (h w X η N H x A F q m).mono fun e R p=>?_
 obtain ⟨v,η',I,l⟩:=p;refine ⟨v,η',I,?_⟩
 have g:∀ i o,ls ([]:List (Nat×Obj)) i=some o->False:=fun i o a=>by cases a
 have B:=l.objs 100 (AO r) (by rw [U8,if_pos rfl]);have M:v=η' 100:=by
  have:=l.res
  cases this with|v _ _ p=>cases p with|c _ _ p=>cases p with|own _ _ k _=>exact k
 have z:∀ b,b ∈ Y8 (η' 100)->¬ XS (J7 [] w X η) (ls []) η' b:=by
  intro b D J;have G:w.heap.size<=b:=by
   rcases l.ow 100 (AO r) b (by rw [U8,if_pos rfl]) D with ⟨k,_⟩|⟨i,o,a,_⟩|k
   ·cases k
   ·exact (g i o a).elim
   ·exact k
  rcases J with ⟨k,_⟩|⟨i,o,a,_⟩
  ·have:=H b k
   omega
  ·exact (g i o a).elim
 have y:∀ b,¬ XS (J7 [] w X η) (ls [(100,AO r)]) η' b->¬ XS (J7 [] w X η) (ls []) η' b:=by
  intro b k t;rcases t with t|⟨i,o,a,_⟩
  ·exact k (.inl t)
  ·exact (g i o a).elim
 refine ⟨l.stp,?_,fun i o a=>(g i o a).elim,fun i j b a=>?_,fun i o b a=>(g i o a).elim,l.pn⟩
 ·rw [M]
  refine .v _ _ (.c _ _ (.d _ _ ?_));show DRep _ _ _ (.lst r.length (LF r))
  unfold AO at B;generalize η' 100=u at B z
  generalize hn:r.length=n at B
  cases B with
  | nil ad=>exact .nil _ _ _
  | arr b n cap es c e f k t h3 h4 h5 h6 h7=>
   refine .lst b 0 n cap c e _ _ _ (z b (by simp [Y8];omega)) k h3 ?_ h6 fun i j a O=>?_
   ·rw [t,Nat.zero_add];exact Nat.mul_le_mul_right _ h3
   ·rw [Nat.zero_add]
    exact (h7 i j a O).mono fun b _ l=>⟨rfl,y b (by unfold AO;rw [hn];exact l)⟩
 ·exact absurd rfl a
section
def apP (es n:Nat) (f:Nat->List DVal) (w:World) (X:Nat->Prop) (u:Value):Prop:=
 (∃ ad,u=.tuple #[.slice ad n n]/\DRep w X (.slice ad n n) (.lst n f))\/∀ η C,ORep w X η C u (.arr es n f)
def AP {α:Type} [Emb α] (l:List α):Obj:=.ext (apP (Emb.es α) l.length (LF l))
theorem W0M {w:World} {X:Nat->Prop} {η:Nat->Value} {C:Ctx} {v:Value} {es n:Nat} {f:Nat->List DVal} (h:ORep w X η C v (.arr es n f)) (η' : Nat->Value) (C' : Ctx):ORep w X η' C' v (.arr es n f):=by
 cases h with
 | nil ad=>exact .nil ad _ _
 | arr b _ cap _ c e _ h1 h2 h3 h4 h5 h6 h7=>exact .arr b _ cap _ c e _ h1 h2 h3 h4 h5 h6 h7
theorem Y6u (es n:Nat) (f:Nat->List DVal) (u:Value):Y4p (apP es n f) u:=by
 intro w g X i a c h;rcases h with ⟨d,e,b⟩|h
 ·exact .inl ⟨d,e,b.mono a⟩
 ·exact .inr fun η C=>(h η C).mono (η':=η) a (fun _ _=>rfl) c
theorem CLe.ap (k:Nat):CLe (.own k) (.ap k):=⟨fun w X η C v b=>by cases b with|own _ _ h h1=>exact .ap _ _ (.inl h.symm) h1,fun i a=>a⟩
theorem OLe.ap (es n:Nat) (f:Nat->List DVal):OLe (.arr es n f) (.ext (apP es n f)):=
 ⟨fun w X η C v a=>.ext _ _ (.inr fun η' C'=>W0M a η' C') (Y6u es n f v) fun b c=>a.lt c,rfl,fun i d=>by cases d⟩
def sbC (k:Nat) (y:CV):CV->CV
 | .ap i=>if i=k then y else .ap i
 | x=>x
def TV.sb (k:Nat) (y:CV):TV->TV
 | .c x=>.c (sbC k y x)
 | .g xs=>.g (xs.map (sbC k y))
def AVal.sb (k:Nat) (y:CV):AVal->AVal
 | .any=>.any
 | .v x=>.v (x.sb k y)
 | .t xs=>.t (xs.map (TV.sb k y))
def Obj.sb (k:Nat) (y:CV):Obj->Obj
 | .box ro cs=>.box ro (cs.map (sbC k y))
 | o=>o
section
variable {w:World} {X X' : Nat->Prop} {η:Nat->Value} {C:Ctx} {k:Nat} {y:CV}
theorem CRep.sb {v:Value} {x:CV} (h:CRep w X η C v x) (hX:∀ b,¬ X b->¬ X' b) (hk:∀ v,CRep w X η C v (.ap k)->CRep w X' η C v y):CRep w X' η C v (sbC k y x):=by
 have a:Q7i w w X X':=fun b _ d=>⟨rfl,hX b d⟩
 cases x with
 | ap i=>
  simp only [sbC];split
  ·rename_i c;subst c;exact hk v h
  ·exact h.mono a fun _ _=>rfl
 | _=>exact h.mono a fun _ _=>rfl
theorem y4.sb {vs:Array Value} {cs:List CV} (h:y4 w X η C vs cs) (hX:∀ b,¬ X b->¬ X' b) (hk:∀ v,CRep w X η C v (.ap k)->CRep w X' η C v y):y4 w X' η C vs (cs.map (sbC k y)):=by
 refine ⟨by simpa using h.1,fun j c=>?_⟩;have a : j<cs.length:=by simpa using c
 have:=(h.2 j a).sb hX hk
 rw [List.getD_eq_getElem?_getD,List.getElem?_map,List.getElem?_eq_getElem a];rw [List.getD_eq_getElem?_getD,List.getElem?_eq_getElem a] at this
 exact this
theorem TRep.sb {v:Value} {x:TV} (h:TRep w X η C v x) (hX:∀ b,¬ X b->¬ X' b) (hk:∀ v,CRep w X η C v (.ap k)->CRep w X' η C v y):TRep w X' η C v (x.sb k y):=by
 cases h with
 | c _ _ h=>exact .c _ _ (h.sb hX hk)
 | g _ _ h=>exact .g _ _ (h.sb hX hk)
theorem ARep.sb {v:Value} {x:AVal} (h:ARep w X η C v x) (hX:∀ b,¬ X b->¬ X' b) (hk:∀ v,CRep w X η C v (.ap k)->CRep w X' η C v y):ARep w X' η C v (x.sb k y):=by
 cases h with
 | any=>exact .any v
 | v _ _ h=>exact .v _ _ (h.sb hX hk)
 | t us xs h1 h2=>
  refine .t us _ (by simpa using h1) fun j c=>?_
  have a : j<xs.length:=by simpa using c
  have:=(h2 j a).sb hX hk
  rw [List.getD_eq_getElem?_getD,List.getElem?_map,List.getElem?_eq_getElem a];rw [List.getD_eq_getElem?_getD,List.getElem?_eq_getElem a] at this
  exact this
theorem ORep.sb {v:Value} {o:Obj} (h:ORep w X η C v o) (hX:∀ b,¬ X b->¬ X' b) (hk:∀ v,CRep w X η C v (.ap k)->CRep w X' η C v y):ORep w X' η C v (o.sb k y):=by
 cases o with
 | box ro cs=>cases h with|box b _ c e _ h1 h2=>exact .box b ro c e _ h1 (h2.sb hX hk)
 | arr es n f=>exact h.mono (fun b _ a=>⟨rfl,hX b a⟩) (fun _ _=>rfl) fun _ _=>rfl
 | ext p=>exact h.mono (fun b _ a=>⟨rfl,hX b a⟩) (fun _ _=>rfl) fun _ _=>rfl
 | exr refs p=>exact h.mono (fun b _ a=>⟨rfl,hX b a⟩) (fun _ _=>rfl) fun _ _=>rfl
theorem CV.sb_refs (hy:∀ i ∈ y.refs,i=k) (x:CV):∀ j ∈ (sbC k y x).refs,j ∈ x.refs:=by
 cases x <;> simp only [sbC] <;> try exact fun j a=>a
 split
 ·rename_i b;intro j a;rw [hy j a,b];simp [CV.refs]
 ·exact fun j a=>a
theorem TV.sb_refs (hy:∀ i ∈ y.refs,i=k) (x:TV):∀ j ∈ (x.sb k y).refs,j ∈ x.refs:=by
 cases x with
 | c x=>exact CV.sb_refs hy x
 | g xs=>exact Q4o (CV.sb_refs hy)
theorem AVal.sb_refs (hy:∀ i ∈ y.refs,i=k) (x:AVal):∀ j ∈ (x.sb k y).refs,j ∈ x.refs:=by
 cases x with
 | any=>exact fun j a=>a
 | v x=>exact TV.sb_refs hy x
 | t xs=>exact Q4o (TV.sb_refs hy)
theorem Obj.sb_refs (hy:∀ i ∈ y.refs,i=k) (o:Obj):∀ j ∈ (o.sb k y).refs,j ∈ o.refs:=by
 cases o with
 | box ro cs=>exact Q4o (CV.sb_refs hy)
 | arr es n f=>exact fun j a=>a
 | ext p=>exact fun j a=>a
 | exr refs p=>exact fun j a=>a
theorem Obj.sb_ro (o:Obj):(o.sb k y).ro=o.ro:=by cases o <;> rfl
end
section
variable {P:Program} {C:Ctx} {nt:Nat} {L:Lay} {pins:List Nat} {K:Act->World->Prop} {E:List (Nat×AVal)} {S:List (Nat×Obj)}
theorem Conc.sb {R:Nat->Prop} {η:Nat->Value} {a:Act} {w:World} {S0:List (Nat×Obj)} {k:Nat} {y:CV} (hc:Conc C nt R η (lk E) (ls S0) a w) (s' : Sto) (hy:∀ i ∈ y.refs,i=k)
  (hs:∀ i o',s' i=some o' -> ∃ o,ls S0 i=some o/\(o'=o.sb k y\/(o'.refs=[]/\o'.ro=o.ro/\ORep w (XS C s' η) η C (η i) o')))
  (hrep:∀ v,CRep w (XS C (ls S0) η) η C v (.ap k)->CRep w (XS C s' η) η C v y):Conc C nt R η (lk (E.map fun p=>(p.1,p.2.sb k y))) s' a w:=by
 have r:∀ b,¬ XS C (ls S0) η b->¬ XS C s' η b:=by
  intro b l n;rcases n with n|⟨i,o',c,q⟩
  ·exact l (.inl n)
  ·obtain ⟨o,d,_⟩:=hs i o' c
   exact l (.inr ⟨i,o,d,q⟩)
 have m:∀ i,s' i≠none->ls S0 i≠none:=by
  intro i c;obtain ⟨o',c⟩:=Option.ne_none_iff_exists'.1 c
  obtain ⟨o,d,_⟩:=hs i o' c;rw [d];simp
 refine ⟨hc.ok,hc.df,hc.sz,fun t=>?_,fun t i c=>?_,fun i o' c=>?_,fun i o' c=>?_,fun i j b c f=>hc.ds i j b (m i c) (m j f),fun i o' b c l=>?_,hc.fr,hc.pn⟩
 ·rw [Y4R (g:=AVal.sb k y) rfl];exact (hc.ev t).sb r hrep
 ·rw [Y4R (g:=AVal.sb k y) rfl] at c;exact hc.er t i (AVal.sb_refs hy _ i c)
 ·obtain ⟨o,d,h|⟨_,_,h⟩⟩:=hs i o' c
  ·rw [h];exact (hc.st i o d).sb r hrep
  ·exact h
 ·obtain ⟨o,d,h|⟨h,_,_⟩⟩:=hs i o' c
  ·have:=hc.sr i o d
   exact ⟨this.1,fun j f=>this.2 j (by rw [h] at f;exact Obj.sb_refs hy o j f)⟩
  ·exact ⟨(hc.sr i o d).1,fun j f=>by rw [h] at f;cases f⟩
 ·obtain ⟨o,d,h|⟨_,h,_⟩⟩:=hs i o' c
  ·have:=hc.ow i o b d l
   rw [h,Obj.sb_ro];exact this
  ·have:=hc.ow i o b d l
   rw [h];exact this
theorem Z2P {k es n:Nat} {f:Nat->List DVal} (hk:(S.map (·.1)).contains k=false)
  (h1:Kn C nt (E.map fun p=>(p.1,p.2.sb k (.own k))) ((k,.arr es n f)::S.map fun p=>(p.1,p.2.sb k (.own k))) K)
  (h2:Kn C nt (E.map fun p=>(p.1,p.2.sb k (.fl n f))) (S.map fun p=>(p.1,p.2.sb k (.fl n f))) K):Kn C nt E ((k,.ext (apP es n f))::S) K:=by
 intro R η a w B;have t:ls ((k,.ext (apP es n f))::S) k=some (.ext (apP es n f)):=by rw [U8,if_pos rfl]
 have D:ls S k=none:=by
  cases g:ls S k with
  | none=>rfl
  | some o=>
   have:k ∈ S.map (·.1):=List.mem_map.2 ⟨_,U6 g,rfl⟩
   rw [List.contains_iff_mem.2 this] at hk;cases hk
 have j:∀ i o,ls S i=some o->ls ((k,.ext (apP es n f))::S) i=some o:=by
  intro i o c;have F:i≠k:=by intro h;rw [h,D] at c;cases c
  rw [U8,if_neg F];exact c
 have z:=B.st k _ t;have G:apP es n f w (XS C (ls ((k,.ext (apP es n f))::S)) η) (η k):=by
  generalize η k=u at z
  cases z with|ext _ _ h _ _=>exact h
 rcases G with ⟨J,e,I⟩|g
 ·refine h2 R η a w (B.sb _ (by simp [CV.refs]) (fun i A c=>?_) fun v d=>?_)
  ·rw [Z4w] at c
   cases g:ls S i with
   | none=>rw [g] at c;cases c
   | some o=>rw [g] at c;cases c;exact ⟨o,j i o g,.inl rfl⟩
  ·have H:∀ b,¬ XS C (ls ((k,.ext (apP es n f))::S)) η b->¬ XS C (ls (S.map fun p=>(p.1,p.2.sb k (.fl n f)))) η b:=by
    intro b m r;rcases r with r|⟨i,A,c,q⟩
    ·exact m (.inl r)
    ·rw [Z4w] at c
     cases g:ls S i with
     | none=>rw [g] at c;cases c
     | some o=>exact m (.inr ⟨i,o,j i o g,q⟩)
   cases d with|ap _ _ d h1=>
   rw [e] at d;rcases d with rfl|d|⟨l,d⟩
   ·cases h1
   ·cases d;exact .fl _ _ _ (I.mono fun b _ m=>⟨rfl,H b m⟩)
   ·cases d
 ·have H:∀ b,¬ XS C (ls ((k,.ext (apP es n f))::S)) η b->¬ XS C (ls ((k,.arr es n f)::S.map fun p=>(p.1,p.2.sb k (.own k)))) η b:=by
   intro b m r;rcases r with r|⟨i,A,c,q⟩
   ·exact m (.inl r)
   ·rw [U8] at c
    split at c
    ·rename_i x;subst x;exact m (.inr ⟨i,_,t,q⟩)
    ·rw [Z4w] at c
     cases g:ls S i with
     | none=>rw [g] at c;cases c
     | some o=>exact m (.inr ⟨i,o,j i o g,q⟩)
  refine h1 R η a w (B.sb _ (by simp [CV.refs]) (fun i A c=>?_) fun v d=>?_)
  ·rw [U8] at c
   split at c
   ·rename_i x
    cases c
    subst x;exact ⟨_,t,.inr ⟨rfl,rfl,(g η C).mono (fun b _ m=>⟨rfl,H b m⟩) (fun _ _=>rfl) fun _ _=>rfl⟩⟩
   ·rw [Z4w] at c
    cases ho' : ls S i with
    | none=>rw [ho'] at c;cases c
    | some o=>rw [ho'] at c;cases c;exact ⟨o,j i o ho',.inl rfl⟩
  ·cases d with|ap _ _ d h1=>
   have:=g η C
   rcases d with d|d|⟨l,d⟩
   ·exact .own _ _ d.symm h1
   ·rw [d] at this;cases this
   ·rw [d] at this;cases this
theorem Y7D (Fm:Fr P L C pins) {S0:List (Nat×Obj)} {ro:Bool} {i k es n j:Nat} {cs:List CV} {f:Nat->List DVal} (hp:pins.contains k=false)
  (hfr:((E.flatMap fun p=>p.2.refs)++(((i,Obj.box ro cs)::S0).flatMap fun p=>p.1::p.2.refs)).contains k=false) (hj:j<cs.length) (hc0:cs.getD j (.d .any)=.fl n f)
  (hk:Kn C nt E ((k,.ext (apP es n f))::(i,.box ro (cs.set j (.ap k)))::S0) K):Kn C nt E ((i,.box ro cs)::S0) K:=by
 intro R η a w A;have H:ls ((i,Obj.box ro cs)::S0) i=some (.box ro cs):=by rw [U8,if_pos rfl]
 have Y:=A.st i _ H;obtain ⟨b0,c',e',hη0,hb0,hcs⟩:∃ b c' e',η i=.pointer (some ⟨b,0,none⟩)/\w.heap[b]?=some (.cells c' e' (0,0))/\y4 w (XS C (ls ((i,Obj.box ro cs)::S0)) η) η C c' cs:=by
  generalize η i=u at Y
  cases Y with|box b _ c' e' _ I h=>exact ⟨b,c',e',rfl,I,h⟩
 obtain ⟨ad,hv,hdr⟩:∃ ad,c'.getD j undef=.slice ad n n/\DRep w (XS C (ls ((i,Obj.box ro cs)::S0)) η) (.slice ad n n) (.lst n f):=by
  have:=hcs.2 j hj
  rw [hc0] at this;generalize c'.getD j undef=u at this
  cases this with|fl ad _ _ h=>exact ⟨ad,rfl,h⟩
 have W:C.pin k=none:=by
  rcases hq:C.pin k with _|u
  ·rfl
  ·have:=Fm.pin k (by rw [hq];simp)
   rw [List.contains_iff_mem.2 this] at hp;cases hp
 have M:∀ x ∈ (E.flatMap fun p=>p.2.refs)++(((i,Obj.box ro cs)::S0).flatMap fun p=>p.1::p.2.refs),x≠k:=by
  intro x c he;subst he
  rw [List.contains_iff_mem.2 c] at hfr;cases hfr
 have hS:∀ x o,ls ((i,Obj.box ro cs)::S0) x=some o->x≠k/\∀ y ∈ o.refs,y≠k:=by
  intro x o c;have hm:=U6 c
  exact ⟨M x (List.mem_append.2 (.inr (List.mem_flatMap.2 ⟨_,hm,by simp⟩))),fun y B=>M y (List.mem_append.2 (.inr (List.mem_flatMap.2 ⟨_,hm,by simp [B]⟩)))⟩
 have a4:i≠k:=(hS i _ H).1;have hE:∀ u x,x ∈ (lk E u).refs->x≠k:=by
  intro u x c;rcases Y0t (E:=E) (t:=u) with h0|h0
  ·rw [h0] at c;cases c
  ·exact M x (List.mem_append.2 (.inl (List.mem_flatMap.2 ⟨_,h0,c⟩)))
 let η' : Nat->Value:=fun x=>if x=k then .tuple #[.slice ad n n] else η x
 have l : ∀ x,x≠k->η' x=η x:=fun x c=>by show (if x=k then Value.tuple #[.slice ad n n] else η x)=_;rw [if_neg c]
 have O:η' k=.tuple #[.slice ad n n]:=by show (if k=k then Value.tuple #[.slice ad n n] else η k)=_;rw [if_pos rfl]
 have m:∀ b,b ∉ Y8 (η' k):=by intro b;rw [O];simp [Y8]
 have G:∀ x o,ls ((k,Obj.ext (apP es n f))::(i,.box ro (cs.set j (.ap k)))::S0) x=some o->(x=k/\o=.ext (apP es n f))\/(x=i/\o=.box ro (cs.set j (.ap k)))\/(x≠k/\x≠i/\ls ((i,Obj.box ro cs)::S0) x=some o):=by
  intro x o c;rw [U8] at c
  by_cases r:x=k
  ·rw [if_pos r] at c;cases c;exact .inl ⟨r,rfl⟩
  ·rw [if_neg r,U8] at c
   by_cases D:x=i
   ·rw [if_pos D] at c;cases c;exact .inr (.inl ⟨D,rfl⟩)
   ·rw [if_neg D] at c
    exact .inr (.inr ⟨r,D,by rw [U8,if_neg D];exact c⟩)
 have v:∀ x o,ls ((k,Obj.ext (apP es n f))::(i,.box ro (cs.set j (.ap k)))::S0) x=some o->x≠k->∃ T,ls ((i,Obj.box ro cs)::S0) x=some T /\ T.ro=o.ro:=by
  intro x o c g;rcases G x o c with ⟨r,_⟩|⟨r,D⟩|⟨_,_,U⟩
  ·exact absurd r g
  ·subst r;subst D;exact ⟨_,H,rfl⟩
  ·exact ⟨o,U,rfl⟩
 have V:∀ b,Own (ls ((k,Obj.ext (apP es n f))::(i,.box ro (cs.set j (.ap k)))::S0)) η' b->Own (ls ((i,Obj.box ro cs)::S0)) η b:=by
  rintro b ⟨x,o,c,F⟩
  by_cases g:x=k
  ·subst g;exact absurd F (m b)
  ·obtain ⟨T,r,_⟩:=v x o c g
   exact ⟨x,T,r,by rw [<-l x g];exact F⟩
 have hX:Q7i w w (XS C (ls ((i,Obj.box ro cs)::S0)) η) (XS C (ls ((k,Obj.ext (apP es n f))::(i,.box ro (cs.set j (.ap k)))::S0)) η'):=by
  intro b I hn;refine ⟨rfl,fun c=>?_⟩
  rcases c with c|c
  ·exact hn (.inl c)
  ·exact hn (.inr (V b c))
 refine hk (fun x=>R x\/x=k) η' a w ⟨A.ok,A.df,A.sz,fun u=>(A.ev u).mono hX fun x c=>l x (hE u x c),fun u x c=>.inl (A.er u x c),fun x o c=>?_,fun x o c=>?_,fun x y b c B F N=>?_,fun x o b c I=>?_,A.fr,fun x u c=>?_⟩
 ·rcases G x o c with ⟨rfl,rfl⟩|⟨rfl,rfl⟩|⟨r,D,U⟩
  ·refine .ext _ _ ?_ (Y6u es n f _) (fun b I=>absurd I (m b))
   rw [O];exact .inl ⟨ad,rfl,hdr.mono hX⟩
  ·rw [l x a4,hη0]
   refine .box b0 ro c' e' _ hb0 ⟨by rw [hcs.1];simp,fun q hq=>?_⟩;have J : q<cs.length:=by simpa using hq
   by_cases hqj:q=j
   ·subst hqj
    have:(cs.set q (.ap k)).getD q (.d .any)=.ap k:=by simp [List.getD_eq_getElem?_getD,J]
    rw [this,hv];exact .ap _ _ (.inr (.inl O)) rfl
   ·have:(cs.set j (.ap k)).getD q (.d .any)=cs.getD q (.d .any):=by
     simp [List.getD_eq_getElem?_getD,List.getElem?_set,Ne.symm hqj]
    rw [this];refine (hcs.2 q J).mono hX fun y B=>l y ((hS x _ H).2 y ?_)
    exact List.mem_flatMap.2 ⟨_,Q0F J,B⟩
  ·rw [l x r]
   exact (A.st x o U).mono hX (fun y B=>l y ((hS x o U).2 y B)) fun _ _=>rfl
 ·rcases G x o c with ⟨rfl,rfl⟩|⟨rfl,rfl⟩|⟨r,D,U⟩
  ·exact ⟨.inr rfl,by simp [Obj.refs]⟩
  ·have:=A.sr x _ H
   refine ⟨.inl this.1,fun y B=>?_⟩;obtain ⟨z,hz,Z⟩:=List.mem_flatMap.1 B
   rcases List.mem_or_eq_of_mem_set hz with h4|h4
   ·exact .inl (this.2 y (List.mem_flatMap.2 ⟨z,h4,Z⟩))
   ·subst h4
    exact .inr (by simpa [CV.refs] using Z)
  ·have:=A.sr x o U
   exact ⟨.inl this.1,fun y B=>.inl (this.2 y B)⟩
 ·obtain ⟨ox,c⟩:=Option.ne_none_iff_exists'.1 c
  obtain ⟨oy,B⟩:=Option.ne_none_iff_exists'.1 B
  by_cases g:x=k
  ·subst g;exact absurd F (m b)
  ·by_cases hyk:y=k
   ·subst hyk;exact absurd N (m b)
   ·obtain ⟨o1,r,_⟩:=v x ox c g
    obtain ⟨o2,D,_⟩:=v y oy B hyk;rw [l x g] at F
    rw [l y hyk] at N;exact A.ds x y b (by rw [r];simp) (by rw [D];simp) F N
 ·by_cases g:x=k
  ·subst g;exact absurd I (m b)
  ·obtain ⟨T,r,D⟩:=v x o c g
   rw [l x g] at I;rw [<-D]
   exact A.ow x T b r I
 ·have g:x≠k:=by intro h;subst h;rw [W] at c;cases c
  have:=A.pn x u c
  exact ⟨by rw [l x g];exact this.1,.inl this.2⟩
end
end
section
section
variable {P:Program} {C:Ctx} {nt:Nat} {L:Lay} {ops:Array Oper} {ds:List Dir} {e:Env} {s:Sto}
def Y7v (caps:List Nat):List AVal:=caps.map fun c=>.v (.c (.ptr c 0))
theorem Y8z {f:Nat} (hcall:∀ args w,(callFunc f args).run P w=.ok (.enter f args) w) {o:Oper} {fx:Operand} {xs:Array Operand} {tys:Array TypeId} (hop:o.op=.call { callee:=.value fx,args:=xs,argTypes:=tys })
  {args:List AVal} {Si:List (Nat×Obj)} {r:AVal} {So:List (Nat×Obj)} {m:Nat->Nat} {caps:List Nat} (hfx:aev e fx=.v (.c (.clo f (caps.map m)))) (hrf:Q5M (Q0g o++V8 ops o) fx=true)
  (hspec:Q6 P f (args++Y7v caps) Si r So) (hbox:∀ c ∈ caps,∃ ro cs,ls Si c=some (.box ro cs)) (hlen:xs.size=args.length) (extra:List Nat)
  (hargs:∀ j,j<args.length->G5 C nt e s Si m (Q0g o++V8 ops o) (Z2L e o++(Si.map (fun p=>m p.1)++extra)) (xs.toList.getD j (.const undef)) (args.getD j .any))
  (hsi:∀ p ∈ Si,∃ o1,s (m p.1)=some o1/\OLe o1 (p.2.ren m)) (hchk:Q6V m r Si So=true) (hdo:Q1A nt o=true) (hg:Q8l ops e o=some true):StT P C nt ops o (Y5g ops o e m extra r Si So) e s:=by
 intro R η e0 G a w z x a3 l K Q hK;have hw:=Q5B (e:=e) l (fun t ht=>z t (List.mem_append.2 (.inr ht))) hg
 rw [if_pos hw];have M:=(W5 l fx).1
 rw [J4 z hrf,hfx] at M;have N:=Z9K M
 have a0:=Z7e (w:=w) hop N hcall;have g:∀ p ∈ Si,∃ o1,G (m p.1)=some o1/\OLe o1 (p.2.ren m):=by
  intro p hp;rw [x (m p.1) (List.mem_append.2 (.inr (List.mem_append.2 (.inl (List.mem_map.2 ⟨p,hp,rfl⟩)))))]
  exact hsi p hp
 simp only [Q6V,Bool.and_eq_true] at hchk;have A:=hchk
 obtain ⟨⟨⟨⟨⟨⟨⟨⟨⟨c1,c2⟩,c3⟩,c4⟩,c5⟩,c6⟩,c7⟩,c8⟩,c9⟩,b0⟩:=hchk;have O:∀ b,XS C G η b->b<w.heap.size:=by
  rintro b (⟨hx,_⟩|hx)
  ·exact Nat.lt_of_lt_of_le (l.ok.lt b hx) l.fr.size
  ·exact l.lt hx
 have J:∀ i n,ls Si i=some n -> n.noSem=true:=fun i n h=>List.all_eq_true.1 c7 _ (U6 h)
 have q:∀ i n,ls Si i=some n -> ORep w (XS C G η) (fun i=>η (m i)) (J7 Si w (XS C G η) fun i=>η (m i)) (η (m i)) n:=fun i n h=>by
  obtain ⟨o1,I,T⟩:=g _ (U6 h);exact (ORep.unren (T.1 _ _ _ _ _ (l.st _ o1 I))).ctx (J i n h)
 have W:=hspec w (XS C G η) (fun i=>η (m i)) (xs.map a.eval++((caps.map m).map η).toArray) O
  (fun b ⟨i,n,h,hib⟩=>by obtain ⟨o1,I,_⟩:=g _ (U6 h);exact .inr ⟨m i,o1,I,hib⟩)
  q
  (fun i j b h D a2 V=>by
   obtain ⟨oi,h⟩:=Option.ne_none_iff_exists'.1 h;obtain ⟨oj,D⟩:=Option.ne_none_iff_exists'.1 D
   obtain ⟨o1,I,_⟩:=g _ (U6 h);obtain ⟨o2,h2,_⟩:=g _ (U6 D)
   have H:m i=m j:=l.ds _ _ b (by rw [I];simp) (by rw [h2];simp) a2 V;have n3:=Q4t c3
   rw [List.nodup_append] at n3;exact Y7h (ρ:=m) n3.2.1 (by rw [h];simp) (by rw [D];simp) H)
  (by simp [hlen,Y7v])
  (fun j D=>by
   rw [List.length_append] at D
   by_cases hja:j<args.length
   ·have a4 : j<xs.size:=by omega
    have U:(xs.map a.eval++((caps.map m).map η).toArray).getD j undef=a.eval (xs.toList.getD j (.const undef)):=by
     simp [List.getD_eq_getElem?_getD,a4,Array.getD_eq_getD_getElem?,Array.getElem?_append]
    have Y:(args++Y7v caps).getD j .any=args.getD j .any:=by simp [List.getD_eq_getElem?_getD,List.getElem?_append,hja]
    rw [U,Y];exact hargs j hja R η e0 G a w z x l
   ·have B:j-args.length<caps.length:=by simp [Y7v] at D;omega
    have g1:¬ j<xs.size:=by omega
    have g2:j-xs.size=j-args.length:=by omega
    have U:(xs.map a.eval++((caps.map m).map η).toArray).getD j undef=η (m (caps.getD (j-args.length) 0)):=by
     simp [Array.getD_eq_getD_getElem?,Array.getElem?_append,g1,g2,B,List.getD_eq_getElem?_getD]
    have Y:(args++Y7v caps).getD j .any=.v (.c (.ptr (caps.getD (j-args.length) 0) 0)):=by
     simp [List.getD_eq_getElem?_getD,List.getElem?_append,hja,Y7v,B]
    rw [U,Y];obtain ⟨ro,cs,hb⟩:=hbox _ (Q0F (d:=0) B)
    have:=q _ _ hb
    generalize hu:η (m (caps.getD (j-args.length) 0))=u at this
    cases this with|box b _ c e' _ _ _=>exact .v _ _ (.c _ _ (.ptr b _ 0 hu)))
 unfold Oper.wp;rw [a0]
 show Calls P f _ w _;refine W.mono fun en w' hh=>?_
 obtain ⟨v,η',rfl,hb⟩:=hh;have F:Q6V m r Si So=true:=by simp only [Q6V,Bool.and_eq_true];exact A
 obtain ⟨η1,Z⟩:=l.call (Q5x hdo) F g a3 hb;exact hK η1 _ w' Z
def Y7g (f:Nat) (ids:List Nat):AVal->Bool
 | .v (.c (.clo g is))=>g==f&&is==ids
 | _=>false
theorem Y8U {f:Nat} {ids:List Nat} {x:AVal} (h:Y7g f ids x=true):x=.v (.c (.clo f ids)):=by
 unfold Y7g at h;split at h
 ·rename_i g a;simp at h;rw [h.1,h.2]
 ·cases h
def W0F (Si:List (Nat×Obj)) (caps:List Nat):Bool:=caps.all fun c=>match ls Si c with|some (.box _ _)=>true|_=>false
theorem Y9e {Si:List (Nat×Obj)} {caps:List Nat} (h:W0F Si caps=true):∀ c ∈ caps,∃ ro cs,ls Si c=some (.box ro cs):=by
 intro c b;have:=List.all_eq_true.1 h c b
 split at this
 ·rename_i ro cs a;exact ⟨ro,cs,a⟩
 ·cases this
def W0D (ops:Array Oper) (nt:Nat) (e:Env) (o:Oper) (f:Nat) (m:List (Nat×Nat)) (caps:List Nat) (r:AVal) (Si So:List (Nat×Obj)):Bool:=
 Y0y o&&Y7g f (caps.map (V3 m)) (aev e (callX o))&&Q5M (Q0g o++V8 ops o) (callX o)&&Q6V (V3 m) r Si So&&Q1A nt o&&(Q8l ops e o==some true)&&W0F Si caps
theorem Z7i {k:Nat} {f:Nat} {args:List AVal} {Si:List (Nat×Obj)} {r:AVal} {So:List (Nat×Obj)} {caps:List Nat} (hspec:Q6 P f (args++Y7v caps) Si r So) (hcall:∀ args w,(callFunc f args).run P w=.ok (.enter f args) w) (m:List (Nat×Nat))
  (hk:Q2c ds k=cE m [] r Si So) (hq:(W0D ops nt (V2 L ops ops.toList ds e s k) (Y9 ops.toList k) f m caps r Si So,Si.map (fun p=>Q2k L ops ops.toList ds e s k (V3 m p.1)),
   (Go.Ab.callXs (Y9 ops.toList k)).toList.all (Q5M (Q0g (Y9 ops.toList k)++V8 ops (Y9 ops.toList k)))&&args.all AVal.noSem,(Go.Ab.callXs (Y9 ops.toList k)).toList.map (aev (V2 L ops ops.toList ds e s k)))
   = (true,Si.map (fun p=>some (p.2.ren (V3 m))),true,args.map (AVal.ren (V3 m)))):KAt P C nt L ops ds e s k:=by
 unfold KAt;rw [hk]
 have d:=congrArg (·.1) hq;have c:=congrArg (·.2.1) hq
 have b:=congrArg (·.2.2.1) hq;have a:=congrArg (·.2.2.2) hq
 simp only at d c b a;simp only [W0D,Bool.and_eq_true] at d
 obtain ⟨⟨⟨⟨⟨⟨o,t⟩,u⟩,q⟩,x⟩,n⟩,h⟩:=d;obtain ⟨l,g⟩:=Z6Z o
 rw [Bool.and_eq_true] at b;obtain ⟨i,v⟩:=(Z6J.plains (C:=C) (nt:=nt) (s:=Q2k L ops ops.toList ds e s k) (Si:=Si) (ids:=Z2L (V2 L ops ops.toList ds e s k) (Y9 ops.toList k)++(Si.map (fun p=>V3 m p.1)++[])) b.1 b.2 a).spec
 exact Y8z hcall g (Y8U t) u hspec (Y9e h) (by simpa using i) [] (fun j z=>v j z) (fun p A=>⟨_,Q1J c p A,OLe.refl _⟩) q x (by simpa using n)
end
end
section
open Go.Sort Go.Proofs Go.Shelf
section
variable {α:Type} [Emb α]
end
end
section
section
variable {P:Program} {C:Ctx} {nt:Nat} {L:Lay} {R:Nat->Prop} {η:Nat->Value} {e:Env} {s:Sto} {a:Act} {w:World}
theorem Snd.upd_le {o:Oper} {x:AVal} {id:Nat} {ob ob' : Obj} {c:Prop} (h:Snd P C nt R η e s a w o { v:=x,upd:=some (id,ob),cond:=c }) (hle:OLe ob ob'):Snd P C nt R η e s a w o { v:=x,upd:=some (id,ob'),cond:=c }:=by
 obtain ⟨v,n,u,g⟩:=h;refine ⟨v,n,u,?_⟩
 have d:∀ q i,SR.sto { v:=x,upd:=some (id,q),cond:=c } o.dst s i=if i=id then some q else s i:=by
  intro q i;unfold SR.sto
  simp
 have m:=g.conv (R':=SR.rng { v:=x,upd:=some (id,ob'),cond:=c } o.dst R) (e':=SR.env { v:=x,upd:=some (id,ob'),cond:=c } o.dst e) (s':=SR.sto { v:=x,upd:=some (id,ob'),cond:=c } o.dst s) (fun i=>i)
  (fun t=>by rw [AVal.ren_id];exact ALe.refl _) (fun i l f=>by
   rw [Obj.ren_id];rw [d] at f ⊢
   split at f
   ·rename_i b;cases f;exact ⟨ob,by rw [if_pos b],hle⟩
   ·rename_i b;exact ⟨l,by rw [if_neg b];exact f,OLe.refl _⟩) (fun i j _ _ h=>h) (fun t i f=>g.er t i f) (fun i l f=>by
   rw [d] at f;split at f
   ·rename_i b
    cases f
    have:=g.sr i ob (by rw [d,if_pos b])
    exact ⟨this.1,fun j r=>this.2 j (hle.2.2 j r)⟩
   ·rename_i b
    exact g.sr i l (by rw [d,if_neg b];exact f)) (fun i f=>⟨rfl,by
   obtain ⟨v,p⟩:=Option.ne_none_iff_exists'.1 f;exact (g.pn i v p).2⟩)
 exact m
variable {ops:Array Oper} {ds:List Dir} {k:Nat}
theorem KAt.upd (hL:LOk P L) {id:Nat} {ob ob' : Obj} {c:Prop} (hk:Q2c ds k=rE { v:=.any,upd:=some (id,ob') })
  (hdo:(Q1A nt (Y9 ops.toList k)&&(Q8l ops (V2 L ops ops.toList ds e s k) (Y9 ops.toList k)==some true))=true)
  (hr:Q9o L false (V2 L ops ops.toList ds e s k) (Q2k L ops ops.toList ds e s k) (Y9 ops.toList k)=some { v:=.any,upd:=some (id,ob),cond:=c }) (hc:c) (hle:OLe ob ob'):KAt P C nt L ops ds e s k:=by
 unfold KAt;rw [hk]
 simp only [Bool.and_eq_true,beq_iff_eq] at hdo;have g:∀ t x y,(Y9 ops.toList k).op=.store t x y->(Y9 ops.toList k).dst=none:=by
  intro t x y f;have:=hdo.1
  simp only [Q1A,f,Bool.and_eq_true] at this;simpa using this.2
 refine Z0X hdo.1 hdo.2 fun R η o p a w l i j h=>?_
 have b:=(Y3n (L:=L) (e:=V2 L ops ops.toList ds e s k) (s:=Q2k L ops ops.toList ds e s k) false (Y9 ops.toList k) l i).trans hr;exact (Y8v hL h false _ (fun x m=>Q5x hdo.1 x m) b hc (fun d n j=>absurd rfl j) g).upd_le hle
theorem Y6w (hL:LOk P L) {te:TI} {t:TypeId} (hT:slT L t te) {x y:Operand} {d n m:Nat} {f g:Nat->List DVal}
  (hk:Q2c ds k=rE { v:=.v (.c (.own d)),new:=some (.arr te.size (n+m) (Q5z n f g)) }) (hop:(Y9 ops.toList k).op=.call { callee:=.builtin .append,args:= #[x,y],argTypes:= #[t,t] })
  (hdo:(Q1A nt (Y9 ops.toList k)&&(Q8l ops (V2 L ops ops.toList ds e s k) (Y9 ops.toList k)==some true)&&(Y9 ops.toList k).dst==some d&&Nat.ble te.bytes 8192&&te.zero.length==te.size)=true)
  (hx:aev (V2 L ops ops.toList ds e s k) x=.v (.c (.fl n f))) (hy:asL (Q2k L ops ops.toList ds e s k) (aev (V2 L ops ops.toList ds e s k) y)=some (m,g)) (hm:0<m)
  (hlim:n+m<=LIM) (hgl:∀ j,j<m->(g j).length=te.size) (hfl:∀ j,j<n->(f j).length=te.size):KAt P C nt L ops ds e s k:=by
 unfold KAt;rw [hk]
 simp only [Bool.and_eq_true,beq_iff_eq] at hdo;obtain ⟨⟨⟨⟨B,G⟩,i⟩,D⟩,H⟩:=hdo
 obtain ⟨M,N,J,l,q⟩:=hT;refine Z0X B G fun R η z A a w u r I p=>?_
 have F:x ∈ (Y9 ops.toList k).op.operands.toList:=by rw [hop];simp [Op.operands,Call.operands]
 have b:y ∈ (Y9 ops.toList k).op.operands.toList:=by rw [hop];simp [Op.operands,Call.operands]
 have o:Z9P A te.size m (aev z x)=some ([],n,f,∀ j,j<n->(f j).length=te.size):=by
  rw [u x F,hx];simp only [Z9P]
  rw [if_pos (.inr hm)]
 have h:asL A (aev z y)=some (m,g):=by rw [u y b,Y0P (r y b)];exact hy
 exact Z8h hL p i (Q5x B d i) (I d i (by simp)) hop J l q h o hfl (Nat.le_of_ble_eq_true D) H hlim hgl
end
end
section
open Go.ChangeShapes Go.WideShapes Go.ChangeAt Go.RowKit
end
section
@[reducible] def ow (n:Nat):AVal:=.v (.c (.own n))
@[reducible] def pt (n:Nat):AVal:=.v (.c (.ptr n 0))
@[reducible] def bx (l:List CV):Obj:=.box false l
section
variable {P:Program} {C:Ctx} {nt:Nat} {L:Lay} {pins:List Nat} {E:List (Nat×AVal)} {S:List (Nat×Obj)} {Q:Exit->Act->World->Prop}
theorem W3H (Fm:Fr P L C pins) {id:Nat} {ops:Array Oper} {draw:Bool} (ds:List Dir) (c:(Nat->Prop)->Prop) (E' : List (Nat×AVal)) (S' : List (Nat×Obj)) (hc:c (KAt P C nt L ops ds (lk E) (ls S))) (k:Kn C nt E' S' (Q .normal))
  (h:(Z7z L pins nt ops draw ds E S [] S',Q7r P C nt L ops ops.toList ds (lk E) (ls S),E'.map (fun p=>Z3n ops.toList (Q1k L ops ops.toList ds (lk E) (ls S)) (lk E) p.1),S'.map (fun p=>Z3m (Q1k L ops ops.toList ds (lk E) (ls S)) (ls S) (V3 [] p.1)))
   = (true,c (KAt P C nt L ops ds (lk E) (ls S)),E'.map (fun p=>p.2.ren (V3 [])),S'.map (fun p=>some (p.2.ren (V3 [])))):=by kernel_rfl):AW P C nt (.region id ops draw) E S Q:=AW.g Fm ds c E' S' hc h k
theorem Y5l (Fm:Fr P L C pins) {id:Nat} {ops:Array Oper} {draw:Bool} {y:Code} (n:Nat) (E' : List (Nat×AVal)) (S' : List (Nat×Obj)) (k:AW P C nt y E' S' Q)
  (h:(Z7z L pins nt ops draw (ss n) E S [] S',Q7r P C nt L ops ops.toList (ss n) (lk E) (ls S),E'.map (fun p=>Z3n ops.toList (Q1k L ops ops.toList (ss n) (lk E) (ls S)) (lk E) p.1),S'.map (fun p=>Z3m (Q1k L ops ops.toList (ss n) (lk E) (ls S)) (ls S) (V3 [] p.1)))
   = (true,True,E'.map (fun p=>p.2.ren (V3 [])),S'.map (fun p=>some (p.2.ren (V3 [])))):=by kernel_rfl):AW P C nt (.seq (.region id ops draw) y) E S Q:=W1a Fm n E' S' h k
variable {K:Act->World->Prop}
theorem Kn.R (Fm:Fr P L C pins) {E' : List (Nat×AVal)} {S' : List (Nat×Obj)} (h:Kn C nt E' S' K)
  (hq:(pins.all (fun i=>V3 [] i==i),E'.map (fun p=>lk E p.1),S'.map (fun p=>ls S (V3 [] p.1)),Q2S (S'.map fun p=>V3 [] p.1))=(true,E'.map (fun p=>p.2.ren (V3 [])),S'.map (fun p=>some (p.2.ren (V3 []))),true):=by kernel_rfl):Kn C nt E S K:=W3b Fm E' S' hq h
theorem Q0M (Fm:Fr P L C pins) (ρ:List (Nat×Nat)) {E' : List (Nat×AVal)} {S' : List (Nat×Obj)} (h:Kn C nt E' S' K) (hp:pins.all (fun i=>V3 ρ i==i)=true:=by kernel_rfl) (hE:E'.map (fun p=>lk E p.1)=E'.map (fun p=>p.2.ren (V3 ρ)):=by kernel_rfl)
  (hS:S'.map (fun p=>ls S (V3 ρ p.1))=S'.map (fun p=>some (p.2.ren (V3 ρ))):=by kernel_rfl) (hinj:Q2S (S'.map fun p=>V3 ρ p.1)=true:=by kernel_rfl):Kn C nt E S K:=Kn.re Fm ρ E' S' hp hE hS hinj h
theorem Kn.D (Fm:Fr P L C pins) {fn:Func} {r:AVal} {S' : List (Nat×Obj)} (hq:(Y6R L (lk E) (ls S) fn.results.toList,S'.map (fun p=>ls S p.1))=(some r,S'.map (fun p=>some p.2)):=by kernel_rfl):Kn C nt E S (Y5F P fn C r S' .ret):=Q3a Fm hq
end
section
variable {P:Program} {C:Ctx} {nt:Nat} {L:Lay} {ops:Array Oper} {ds:List Dir} {e:Env} {s:Sto}
theorem Q1 {k:Nat} {f:Nat} {args:List AVal} {Si:List (Nat×Obj)} {r:AVal} {So:List (Nat×Obj)} (hspec:Q6 P f args Si r So) (hcall:∀ args w,(callFunc f args).run P w=.ok (.enter f args) w) (m:List (Nat×Nat))
  (hk:Q2c ds k=cE m [] r Si So:=by rfl) (hq:(Go.Ab.callB ops nt (V2 L ops ops.toList ds e s k) (Y9 ops.toList k) f m r Si So,Si.map (fun p=>Q2k L ops ops.toList ds e s k (V3 m p.1)),
   (Go.Ab.callXs (Y9 ops.toList k)).toList.all (Q5M (Q0g (Y9 ops.toList k)++V8 ops (Y9 ops.toList k)))&&args.all AVal.noSem,(Go.Ab.callXs (Y9 ops.toList k)).toList.map (aev (V2 L ops ops.toList ds e s k)))
   = (true,Si.map (fun p=>some (p.2.ren (V3 m))),true,args.map (AVal.ren (V3 m))):=by kernel_rfl):KAt P C nt L ops ds e s k:=W3d hspec hcall m hk hq
end
section
variable {C:Ctx} {nt:Nat} {e:Env} {s:Sto}
theorem G5.p {Si:List (Nat×Obj)} {m:Nat->Nat} {rd ids:List Nat} {x:Operand} {y:AVal} (hx:Q5M rd x=true:=by kernel_rfl) (hle:aev e x=y.ren m:=by kernel_rfl) (hs:y.noSem=true:=by kernel_rfl):G5 C nt e s Si m rd ids x y:=G5.plain hx (ALe.of_eq hle) hs
end
end
section
open Go.Maps (Keyed)
open Go.WideElems (Fit rd rg pl rd_val elemAt)
open Go.ChangeMaps Go.MapKept
def W3A (ks:List Int):DataW Unit:=ks.foldl (fun D k=>D.put (.int .i64 k) (.lit (.bool true))) (.map [])
def Y3E (P:Program) (kT eT:TypeId) (ks:List Int) (w:World) (_:Nat->Prop) (v:Value):Prop:=∃ b,v=.map (some b)/\w.ownsMap P kT (plainElem P eT) b ks.length (W3A ks)
theorem Y8Q {P:Program} {kT eT:TypeId} {ks:List Int} (v:Value):Y4p (Y3E P kT eT ks) v:=by
 intro w m X X' _ f l;obtain ⟨b,rfl,i,c,j,g,d,h⟩:=l
 exact ⟨b,rfl,i,c,(f b (by simp [Y8])).trans j,g,d,h⟩
end
section
section
variable {P:Program} {C:Ctx} {nt:Nat} {L:Lay} {R:Nat->Prop} {η:Nat->Value} {e:Env} {s:Sto} {a:Act} {w:World}
theorem Y9o {X:Nat->Prop} {v:Value} {n:Int} (h:ARep w X η C v (vi n)):v=.int .i64 n:=by
 cases h with|v _ _ hh=>cases hh with|c _ _ hh=>cases hh with|d _ _ hh=>cases hh;rfl
theorem Y6K (h:Conc C nt R η e s a w) {o:Oper} {d:Nat} (hd:o.dst=some d) (hdn:d<nt) (hR:¬ R d) {p:World->(Nat->Prop)->Value->Prop} {v:Value} {w' : World}
  (hrun:(execOp a.eval o).run P w=.ok (.value v) w') (hstep:Stp (fun _=>False) w w') (hone:v.oneCell'=true) (hv:∀ b,b ∈ Y8 v->w.heap.size<=b) (hob:∀ X' η',ORep w' X' η' C v (.ext p)) :
  Snd P C nt R η e s a w o { v:=.v (.c (.own d)),new:=some (.ext p) }:=by
 have r:=Q5N (C:=C) (s:=s) (η:=η) { v:=.v (.c (.own d)),new:=some (.ext p) } o.dst v (fun _=>False) hstep (fun b f=>f.elim) (fun _ _ _ _ b f=>.inl (hv b f)) (fun k o i=>by cases i);refine ⟨v,w',.inl hrun,h.step o.dst (fun x m=>by rw [hd] at m;cases m;exact hdn) _ _ _ (fun _=>False) hstep (fun b f=>f.elim) ?_ (fun k o i=>by cases i) ?_⟩
 ·intro q dd l g
  cases l
  rw [hd] at g;cases g
  exact ⟨hR,rfl,by simp [Obj.refs],hob _ _,fun b f=>.inl (hv b f)⟩
 ·intro _
  refine ⟨.v _ _ (.c _ _ (.own _ _ (by simp [SR.eta,hd]) hone)),fun j n=>?_⟩;simp [AVal.refs,TV.refs,CV.refs] at n
  exact .inr ⟨by simp,by rw [hd,n]⟩
variable {ops:Array Oper} {ds:List Dir} {k:Nat}
theorem Y9h {kT eT t:TypeId} {d:Nat} (hk:Q2c ds k=rE { v:=.v (.c (.own d)),new:=some (.ext (Y3E P kT eT [])) }) (hop:(Y9 ops.toList k).op=.makeMap t none)
  (hdo:(Q1A nt (Y9 ops.toList k)&&(Q8l ops (V2 L ops ops.toList ds e s k) (Y9 ops.toList k)==some true)&&(Y9 ops.toList k).dst==some d)=true):KAt P C nt L ops ds e s k:=by
 unfold KAt;rw [hk]
 simp only [Bool.and_eq_true,beq_iff_eq] at hdo;obtain ⟨⟨i,j⟩,g⟩:=hdo
 refine Z0X i j fun R η o p a w n m l h=>?_
 refine Y6K h g (Q5x i d g) (l d g (by simp)) (v:=.map (some w.heap.size)) (w':=w.alloc (.map #[] 0)) ?_ (Stp.alloc _ w _) rfl (fun b f=>by simp [Y8] at f;omega) fun X' η'=>?_
 ·simp [execOp,hop,Instr.makeMap]
 ·refine .ext _ _ ⟨_,rfl,World.ownsMap_made w P kT _⟩ (Y8Q _) fun b f=>?_
  simp only [Y8,List.mem_singleton] at f;subst f
  show w.heap.size<(w.heap.push _).size;rw [Array.size_push];omega
end
end
section
open Go.Sort Go.Proofs Go.Shelf Go.Maps
end
section
section
variable {P:Program} {L:Lay}
end
section
variable {P:Program} {C:Ctx} {nt:Nat} {L:Lay} {ops:Array Oper} {ds:List Dir} {e:Env} {s:Sto}
end
end
section
open Go.Sort Go.Proofs Go.Shelf Go.Maps
end
section
def sAt (s:ByteArray) (i:Int):Int:=(((s[i.toNat]?).getD 0).toNat:Nat)
def sEq (a b:ByteArray):Bool:=a.toList==b.toList
def sLt (a b:ByteArray):Bool:=Op.bytesLess a.toList b.toList
def W2I (op:BinOp) (a b:ByteArray):Option Bool:=
 match op with
 | .eql=>some (sEq a b)
 | .neq=>some (!sEq a b)
 | .lss=>some (sLt a b)
 | .leq=>some (sLt a b||sEq a b)
 | .gtr=>some (!(sLt a b||sEq a b))
 | .geq=>some (!sLt a b)
 | _=>none
section
variable {P:Program} {C:Ctx} {nt:Nat} {L:Lay} {ops:Array Oper} {ds:List Dir} {e:Env} {s:Sto}
theorem Z4W (op:BinOp) (t:TypeId) (x y:Operand) (a b:ByteArray) (w:World):(eqGuard op t x y (.string a) (.string b)).run P w=.ok () w:=by
 unfold eqGuard;split <;> rfl
theorem W1v (op:BinOp) (t:TypeId) (a b:ByteArray) {c:Bool} (h:W2I op a b=some c) (w:World):(binOp op t (.string a) (.string b)).run P w=.ok (.bool c) w:=by
 cases op <;> simp only [W2I,Option.some.injEq,reduceCtorEq] at h <;> subst h <;> simp [binOp,Op.stringOp,sEq,sLt]
def Y2I (ops:Array Oper) (nt:Nat) (e:Env) (o:Oper) (x y:Operand):Bool:=Q5M (Q0g o++V8 ops o) x&&Q5M (Q0g o++V8 ops o) y&&Q1A nt o&&(Q8l ops e o==some true)
theorem Z6I {k:Nat} {op:BinOp} {t t' : TypeId} {x y:Operand} {a b:ByteArray} {c:Bool} (hk:Q2c ds k=sE (vb c)) (hop:(Y9 ops.toList k).op=.binOp op t x y t') (hb:Y2I ops nt (V2 L ops ops.toList ds e s k) (Y9 ops.toList k) x y=true)
  (hx:aev (V2 L ops ops.toList ds e s k) x=.v (.c (.d (.str a)))) (hy:aev (V2 L ops ops.toList ds e s k) y=.v (.c (.d (.str b)))) (hc:W2I op a b=some c):KAt P C nt L ops ds e s k:=by
 unfold KAt;rw [hk]
 simp only [Y2I,Bool.and_eq_true,beq_iff_eq] at hb;obtain ⟨⟨⟨m,j⟩,l⟩,n⟩:=hb
 refine Z1B rfl l n fun R η o q p w g f=>?_
 have h:=(W5 f x).1;rw [J4 g m,hx] at h
 have h:=Z4k h;have i:=(W5 f y).1
 rw [J4 g j,hy] at i;have i:=Z4k i
 exact ⟨_,by simp only [execOp,hop,Sem.run_bind,h,i,Z4W,W1v op t a b hc,Result.andThen_ok,Sem.run_pure],Z9M _ _⟩
theorem y3 {k:Nat} {t:TypeId} (ht:P.underlying t=some .string) {x y:Operand} {a:ByteArray} {m:Int} (hk:Q2c ds k=sE (.v (.c (.d (.int .u8 (sAt a m)))))) (hop:(Y9 ops.toList k).op=.index t x y) (hb:Y2I ops nt (V2 L ops ops.toList ds e s k) (Y9 ops.toList k) x y=true)
  (hx:aev (V2 L ops ops.toList ds e s k) x=.v (.c (.d (.str a)))) (hy:asI (aev (V2 L ops ops.toList ds e s k) y)=some m) (hc:0<=m/\m<((a.size:Nat):Int)):KAt P C nt L ops ds e s k:=by
 unfold KAt;rw [hk]
 simp only [Y2I,Bool.and_eq_true,beq_iff_eq] at hb;obtain ⟨⟨⟨p,j⟩,l⟩,q⟩:=hb
 refine Z1B rfl l q fun R η u A z w f b=>?_
 have g:=(W5 b x).1;rw [J4 f p,hx] at g
 have g:=Z4k g;rw [<-J4 f j] at hy
 obtain ⟨r,n⟩:=Y0Q b hy;have h:m.toNat<a.size:=by omega
 have i:a[m.toNat]?=some a[m.toNat]:=by
  exact getElem?_pos a m.toNat h
 have o:sAt a m=((a[m.toNat].toNat:Nat):Int):=by unfold sAt;rw [i];rfl
 rw [o];refine ⟨.int .u8 (a[m.toNat].toNat:Nat),?_,Q4U _ _ _⟩
 simp [execOp,hop,g,n,Instr.index,asIntOf,run_underlying ht,hc.1,i]
end
theorem Is.subv {α:Type} [Emb α] {l:List α} {lo n:Nat} (h:lo+n<=l.length):Is n (fun j=>LF l (lo+j)) ((l.drop lo).take n):=by
 have b:((l.drop lo).take n).length=n:=by rw [List.length_take,List.length_drop];omega
 refine Is.of_gl _ b fun i c=>?_
 have e:gl l (lo+i)=gl ((l.drop lo).take n) i:=by simp [gl,List.getD_eq_getElem?_getD,c]
 show Emb.cells (gl l (lo+i))=_;rw [e]
end
section
open Go.MapKept
def MP {α:Type} [Emb α] (gs:List (Int×List α)):DVal:=.mp gs.length (fun i=>(gs.getD i (0,[])).1) fun i=>DL (gs.getD i (0,[])).2
def Y9k {α:Type} [Emb α] (w:World) (X:Nat->Prop) (x:MapEntry) (e:Int×List α):Prop:=x.key=.int .i64 e.1/\DRep w X x.val (DL e.2)
def itP {α:Type} [Emb α] (left:List (Int×List α)) (cur:Option (Int×List α)) (w:World) (X:Nat->Prop) (v:Value):Prop:=
 ∃ (r b:Nat) (es:Array MapEntry) (clock since:Nat) (seen:Array Nat) (c0:Nat),v=.pointer (some ⟨r,0,none⟩)/\w.heap[r]?=some (.mapIter (some b) since seen c0)/\¬ X b/\w.heap[b]?=some (.map es clock)/\Stamped es clock/\since<=c0/\since<=clock/\(∀ x ∈ es.toList,x.born<since) /\
  (leftOf es seen).size=left.length/\(∀ (i:Nat) (x:MapEntry) (e:Int×List α),(leftOf es seen)[i]?=some x->left[i]?=some e->Y9k w X x e) /\
  ∀ e,cur=some e->∃ x ∈ es.toList,∃ seen' : Array Nat,seen=seen'.push x.born/\c0=clock/\Y9k w X x e
theorem Y9k.mono {α:Type} [Emb α] {w w' : World} {X X' : Nat->Prop} {x:MapEntry} {e:Int×List α} (h:Y9k w X x e) (hk:Q7i w w' X X'):Y9k w' X' x e:=⟨h.1,h.2.mono hk⟩
theorem Y2M {α:Type} [Emb α] {left:List (Int×List α)} {cur:Option (Int×List α)} (v:Value):Y4p (itP left cur) v:=by
 intro w O X X' m q h;obtain ⟨r,b,A,d,c,f,I,rfl,M,G,o,u,H,p,J,N,D,j⟩:=h
 have n:=m b (G4 o) G;exact ⟨r,b,A,d,c,f,I,rfl,(q r (by simp [Y8])).trans M,n.2,n.1.trans o,u,H,p,J,N,fun i x e l g=>(D i x e l g).mono m,fun e g=>by
  obtain ⟨x,l,B,t,F,z⟩:=j e g;exact ⟨x,l,B,t,F,z.mono m⟩⟩
theorem W0b {α:Type} [Emb α] (left:List (Int×List α)) (cur:Option (Int×List α)):OLe (.ext (itP left cur)) (.ext (itP left none)):=by
 refine ⟨fun w X η C v l=>?_,rfl,fun i m=>by cases m⟩
 cases l with
 | ext _ _ h1 h2 h3=>
  obtain ⟨r,b,o,d,c,f,u,e,j,q,n,A,g,z,p,t,x,_⟩:=h1;exact .ext _ _ ⟨r,b,o,d,c,f,u,e,j,q,n,A,g,z,p,t,x,fun e h=>by cases h⟩ (Y2M _) h3
section
variable {P:Program} {C:Ctx} {nt:Nat} {L:Lay} {R:Nat->Prop} {η:Nat->Value} {e:Env} {s:Sto} {a:Act} {w:World}
theorem Y5y (h:Conc C nt R η e s a w) {o:Oper} {d:Nat} (hd:o.dst=some d) (hdn:d<nt) (hR:¬ R d) {p:World->(Nat->Prop)->Value->Prop} {v:Value} {w' : World}
  (hrun:(execOp a.eval o).run P w=.ok (.value v) w') (hstep:Stp (fun _=>False) w w') (hone:v.oneCell'=true) (hv:∀ b,b ∈ Y8 v->w.heap.size<=b) (hob:∀ X' η',Q7i w w' (XS C s η) X' -> ORep w' X' η' C v (.ext p)) :
  Snd P C nt R η e s a w o { v:=.v (.c (.own d)),new:=some (.ext p) }:=by
 have q:=Q5N (C:=C) (s:=s) (η:=η) { v:=.v (.c (.own d)),new:=some (.ext p) } o.dst v (fun _=>False) hstep (fun b f=>f.elim) (fun _ _ _ _ b f=>.inl (hv b f)) (fun k o i=>by cases i);refine ⟨v,w',.inl hrun,h.step o.dst (fun x m=>by rw [hd] at m;cases m;exact hdn) _ _ _ (fun _=>False) hstep (fun b f=>f.elim) ?_ (fun k o i=>by cases i) ?_⟩
 ·intro r dd l g
  cases l
  rw [hd] at g;cases g
  exact ⟨hR,rfl,by simp [Obj.refs],hob _ _ q,fun b f=>.inl (hv b f)⟩
 ·intro _
  refine ⟨.v _ _ (.c _ _ (.own _ _ (by simp [SR.eta,hd]) hone)),fun j n=>?_⟩;simp [AVal.refs,TV.refs,CV.refs] at n
  exact .inr ⟨by simp,by rw [hd,n]⟩
theorem W3a {α:Type} [Emb α] {X:Nat->Prop} {v:Value} {gs:List (Int×List α)} (h:ARep w X η C v (.v (.c (.d (MP gs))))) :
  ∃ (b:Nat) (es:Array MapEntry) (clock:Nat),v=.map (some b)/\¬ X b/\w.heap[b]?=some (.map es clock)/\Stamped es clock/\es.size=gs.length/\∀ (i:Nat) (x:MapEntry) (e:Int×List α),es[i]?=some x->gs[i]?=some e->Y9k w X x e:=by
 cases h with|v _ _ h=>cases h with|c _ _ h=>cases h with|d _ _ h=>
 unfold MP at h
 cases h with|mp b es clock _ _ Q8J _ h1 h2 h3 h4 h5 h6=>
 refine ⟨b,es,clock,rfl,h1,h2,h3,h4,fun i x e g f=>?_⟩;obtain ⟨l,n⟩:=List.getElem?_eq_some_iff.1 f
 obtain ⟨p,m⟩:=h5 i l;have o:gs.getD i (0,[])=e:=by rw [List.getD_eq_getElem?_getD,f];rfl
 have j:=h6 i l;rw [m] at g
 cases g
 simp only [o] at j ⊢;exact ⟨rfl,j⟩
variable {ops:Array Oper} {ds:List Dir} {k:Nat}
theorem KAt.range {α:Type} [Emb α] {gs:List (Int×List α)} {t kT eT:TypeId} (ht:P.underlying t=some (.map kT eT)) {d:Nat} {x:Operand} (hk:Q2c ds k=rE { v:=.v (.c (.own d)),new:=some (.ext (itP gs none)) }) (hop:(Y9 ops.toList k).op=.range t x)
  (hdo:(Q1A nt (Y9 ops.toList k)&&(Q8l ops (V2 L ops ops.toList ds e s k) (Y9 ops.toList k)==some true)&&(Y9 ops.toList k).dst==some d)=true)
  (hx:aev (V2 L ops ops.toList ds e s k) x=.v (.c (.d (MP gs)))):KAt P C nt L ops ds e s k:=by
 unfold KAt;rw [hk]
 simp only [Bool.and_eq_true,beq_iff_eq] at hdo;obtain ⟨⟨B,M⟩,p⟩:=hdo
 refine Z0X B M fun R η U W a w F O N m=>?_
 have I:x ∈ (Y9 ops.toList k).op.operands.toList:=by rw [hop];simp [Op.operands]
 have u:=(W5 m x).1;rw [F x I,hx] at u
 obtain ⟨b,n,f,J,H,r,z,T,D⟩:=W3a u;refine Y5y m p (Q5x B d p) (N d p (by simp)) (v:=.pointer (some ⟨w.heap.size,0,none⟩)) (w':=w.alloc (.mapIter (some b) f #[] f)) ?_ (Stp.alloc _ w _) rfl (fun b G=>by simp [Y8] at G;omega) fun X' η' h=>?_
 ·simp [execOp,hop,J,run_range_map w t kT eT b n f ht r]
 ·have j:=h b (G4 r) H
  have g:leftOf n #[]=n:=by simp [leftOf]
  refine .ext _ _ ⟨w.heap.size,b,n,f,f, #[],f,rfl,by show (w.heap.push _)[w.heap.size]?=_;exact Array.getElem?_push_size,j.2,j.1.trans r,z,Nat.le_refl _,Nat.le_refl _,z.1,by rw [g,T],fun i y q A o=>?_,fun q o=>by cases o⟩ (Y2M _) fun V l=>?_
  ·rw [g] at A
   exact (D i y q A o).mono h
  ·simp only [Y8,List.mem_singleton] at l
   subst l;show w.heap.size<(w.heap.push _).size
   rw [Array.size_push];omega
theorem KAt.entry {α:Type} [Emb α] {gs:List (Int×List α)} {q:Int×List α} {id:Nat} {x:Operand} (hk:Q2c ds k=rE { v:=.t [.c (.d (.int .i64 q.1)),.c (.d (DL q.2))] }) (hop:(Y9 ops.toList k).op=.entry x)
  (hdo:(Q1A nt (Y9 ops.toList k)&&(Q8l ops (V2 L ops ops.toList ds e s k) (Y9 ops.toList k)==some true))=true)
  (hx:aev (V2 L ops ops.toList ds e s k) x=.v (.c (.own id))) (hs:Q2k L ops ops.toList ds e s k id=some (.ext (itP gs (some q)))):KAt P C nt L ops ds e s k:=by
 unfold KAt;rw [hk]
 simp only [Bool.and_eq_true,beq_iff_eq] at hdo;obtain ⟨G,T⟩:=hdo
 refine Z0X G T fun R η Z O a w N z hn g=>?_
 have D:x ∈ (Y9 ops.toList k).op.operands.toList:=by rw [hop];simp [Op.operands]
 have i:=(W5 g x).1;rw [N x D,hx] at i
 have i:=Q6R i;have l:O id=some (.ext (itP gs (some q))):=(z x D id (by rw [hx];simp [AVal.refs,TV.refs,CV.refs])).trans hs
 have h:=g.st id _ l;generalize hu:η id=u at h
 cases h with
 | ext _ _ hp _ _=>
  obtain ⟨r,b,A,m,f,B,F,rfl,H,g2,I,V,W,Y,g7,g8,g9,o⟩:=hp;obtain ⟨y,M,J,rfl,rfl,n,p⟩:=o q rfl
  refine G6 g (Q5x G) (v:=.tuple #[y.key,y.val]) ?_ ?_ (by simp [AVal.refs,TV.refs,CV.refs])
  ·simp [execOp,hop,i,hu,run_entry_at w r b f J A F y H I M ((stamped_iff A F).1 V).2.1]
  ·refine .t _ _ rfl fun j U=>?_
   have:j=0\/j=1:=by simp at U;omega
   rcases this with rfl|rfl
   ·exact .c _ _ (.d _ _ (by show DRep w _ y.key _;rw [n];exact .int _ _))
   ·exact .c _ _ (.d _ _ p)
end
theorem Y5O {es:Array MapEntry} {clock:Nat} (hst:Stamped es clock) {seen:Array Nat} {i:Nat} {x:MapEntry} (hx:(leftOf es seen)[i]?=some x):(leftOf es (seen.push x.born)).toList=(leftOf es seen).toList.eraseIdx i:=by
 have c:((leftOf es seen).toList.map (·.born)).Nodup:=by
  unfold leftOf;rw [Array.toList_filter]
  exact (List.filter_sublist.map _).nodup hst.2.1
 have d:(leftOf es (seen.push x.born)).toList=(leftOf es seen).toList.filter fun y=>y.born != x.born:=by
  unfold leftOf;rw [Array.toList_filter,Array.toList_filter,List.filter_filter]
  refine List.filter_congr fun y _=>?_
  rw [Array.contains_push,Bool.not_or,bne,Bool.and_comm]
 rw [d];have b : (leftOf es seen).toList[i]?=some x:=by simpa using hx
 generalize (leftOf es seen).toList=l at c b
 clear hx d
 induction l generalizing i with
 | nil=>simp at b
 | cons y l ih=>
  rw [List.map_cons,List.nodup_cons] at c
  cases i with
  | zero=>
   simp at b
   subst b;rw [List.eraseIdx_zero,List.filter_cons,if_neg (by simp)]
   rw [List.tail_cons];refine List.filter_eq_self.2 fun z f=>?_
   simp only [bne_iff_ne,ne_eq];intro h
   exact c.1 (h ▸ List.mem_map_of_mem f)
  | succ i=>
   simp at b
   rw [List.eraseIdx_cons_succ,List.filter_cons,if_pos,ih c.2 b];simp only [bne_iff_ne,ne_eq]
   intro h;exact c.1 (h ▸ List.mem_map_of_mem (List.mem_of_getElem? b))
noncomputable def nextM {α R:Type} (gs:List α) (stop:Option R) (go:α->List α->Option R):Option R:=
 open Classical in
 match gs with
 | []=>stop
 | g::l=>if h:∃ r,∀ i (hi:i<(g::l).length),go (g::l)[i] ((g::l).eraseIdx i)=some r then some h.choose else none
theorem Y6Y {α R:Type} {gs:List α} {stop:Option R} {go:α->List α->Option R} {r:R} (h:nextM gs stop go=some r) (hg:gs=[]):stop=some r:=by subst hg;exact h
theorem Y9R {α R:Type} {gs:List α} {stop:Option R} {go:α->List α->Option R} {r:R} (h:nextM gs stop go=some r) {x:α} {l:List α} (hx:∃ i,∃ hi:i<gs.length,x=gs[i]/\l=gs.eraseIdx i):go x l=some r:=by
 obtain ⟨i,hi,rfl,rfl⟩:=hx
 cases gs with
 | nil=>exact absurd hi (Nat.not_lt_zero _)
 | cons g l=>
  unfold nextM at h;simp only at h
  split at h
  ·rename_i b
   obtain rfl:=Option.some.inj h;exact b.choose_spec i hi
  ·cases h
theorem Y8N {α R:Type} {stop:Option R} {go:α->List α->Option R}:nextM [] stop go=stop:=rfl
theorem Y6Z {α R:Type} {gs:List α} {stop:Option R} {go:α->List α->Option R} {r:R} (hne:gs≠[]) (h:∀ i (hi:i<gs.length),go gs[i] (gs.eraseIdx i)=some r):nextM gs stop go=some r:=by
 cases gs with
 | nil=>exact absurd rfl hne
 | cons g l=>
  unfold nextM;simp only
  have c:∃ r,∀ i (hi:i<(g::l).length),go (g::l)[i] ((g::l).eraseIdx i)=some r:=⟨r,h⟩;rw [dif_pos c]
  have b:=c.choose_spec 0 (by simp);rw [h 0 (by simp)] at b
  exact b.symm
section
variable {P:Program} {C:Ctx} {nt:Nat} {L:Lay} {pins:List Nat} {E:List (Nat×AVal)} {S:List (Nat×Obj)} {Q:Exit->Act->World->Prop}
theorem W1d {α:Type} [Emb α] {gs:List (Int×List α)} {id it t5 t6 t7 ty6 ty7:Nat} {p6 p7:String} {af6 af7:Array Edge}
  (hE:lk E t5=.v (.c (.own it))) (h6:(E.map (·.1)).contains t6=false) (hn:(Nat.blt t6 nt&&Nat.blt t7 nt && !(t6==t7))=true)
  (stop:gs=[]->Kn C nt ((t7,vb false)::E) ((it,.ext (itP gs none))::S) (Q .normal))
  (go:∀ q l,(∃ i,∃ hi:i<gs.length,q=gs[i]/\l=gs.eraseIdx i)->Kn C nt ((t7,vb true)::E) ((it,.ext (itP l (some q)))::S) (Q .normal)) :
  AW P C nt (.region id #[{ dst:=some t6,op:=.next (.tmp t5) false,type:=ty6,pos:=p6,after:=af6,guard:=none }, { dst:=some t7,op:=.extract (.tmp t6) 0,type:=ty7,pos:=p7,after:=af7,guard:=none }] false) E ((it,.ext (itP gs none))::S) Q:=by
 simp only [Bool.and_eq_true,Nat.blt_eq,Bool.not_eq_true',beq_eq_false_iff_ne] at hn;obtain ⟨⟨n6,n7⟩,e7⟩:=hn
 intro R η a w hc;refine wp_region_list ?_
 have A:ls ((it,.ext (itP gs none))::S) it=some (.ext (itP gs none)):=by rw [U8,if_pos rfl]
 have e5:a.tmps.getD t5 undef=η it:=by have:=hc.ev t5;rw [hE] at this;exact Q6R this
 have l6:lk E t6=.any:=by
  unfold lk;have:E.lookup t6=none:=by
   rw [List.lookup_eq_none_iff];intro p hp
   have hm:p.1 ∈ E.map (·.1):=List.mem_map_of_mem hp;have d4 : t6 ∉ E.map (·.1):=by simpa using h6
   have c1:t6≠p.1:=fun h=>d4 (h ▸ hm)
   simpa using c1
  rw [this];rfl
 have b2:=hc.st it _ A;have a7:∀ b,b ∈ Y8 (η it)->Own (ls ((it,.ext (itP gs none))::S)) η b:=fun b hb=>⟨it,_,A,hb⟩
 have c2:∀ x,x ∈ Y8 (η it)->C.M x\/C.w0.heap.size<=x:=fun x m=>by
  rcases hc.ow it _ x A m with ⟨h1,_⟩|h1
  ·cases h1
  ·exact h1
 generalize hu:η it=u at b2
 cases b2 with
 | ext _ _ hp _ hlt=>
 obtain ⟨r,b,W,g,f,d,c0,rfl,g1,g2,g3,g4,g5,g6,g7,g8,g9,_⟩:=hp;have e4:r≠b:=fun h=>by rw [h,g3] at g1;cases g1
 have a6:∀ (O:Bool) (a2 : List (Int×List α)) (Z:Option (Int×List α)) (I:World) (H:Array Value) (R1:Nat->Prop) (η1:Nat->Value),H.getD 0 undef=.bool O->H.size≠0 ->
   Conc C nt R1 η1 (Z0p (some t6) .any (lk E)) (ls ((it,.ext (itP a2 Z))::S)) (a.put (some t6) (.tuple H)) I ->
   Kn C nt ((t7,vb O)::E) ((it,.ext (itP a2 Z))::S) (Q .normal) ->
   wpList P #[{ dst:=some t6,op:=.next (.tmp t5) false,type:=ty6,pos:=p6,after:=af6,guard:=none }, { dst:=some t7,op:=.extract (.tmp t6) 0,type:=ty7,pos:=p7,after:=af7,guard:=none }] Q [{ dst:=some t7,op:=.extract (.tmp t6) 0,type:=ty7,pos:=p7,after:=af7,guard:=none }] (a.put (some t6) (.tuple H)) I:=by
  intro O a2 Z I H R1 η1 a8 c4 n kn;refine wpList_plain rfl fun K hK=>?_
  have hv:(a.put (some t6) (.tuple H)).tmps.getD t6 undef=.tuple H:=by rw [Y2D a _ _ _ (by rw [hc.sz];intro x m;cases m;exact n6),if_pos rfl]
  have h0:H[0]?=some (.bool O):=by
   have:0<H.size:=Nat.pos_of_ne_zero c4
   rw [Array.getD_eq_getD_getElem?,Array.getElem?_eq_getElem this] at a8;rw [Array.getElem?_eq_getElem this]
   simpa using a8
  have d2:(execOp (a.put (some t6) (.tuple H)).eval ({ dst:=some t7,op:=.extract (.tmp t6) 0,type:=ty7,pos:=p7,after:=af7,guard:=none }:Oper)).run P I=.ok (.value (.bool O)) I:=by
   simp [execOp,Act.eval,hv,Instr.extract,h0]
  refine Z5y d2 (hK _ _ ?_);have a9:=n.val (some t7) (fun x m=>by cases m;exact n7) (vb O) (.bool O) fun _=>⟨Z9M _ _,fun j hj=>by cases hj⟩
  have he:SR.env { v:=vb O } (some t7) (Z0p (some t6) .any (lk E))=lk ((t7,vb O)::E):=by
   funext t
   simp only [SR.env,Z0p];rw [Z9v]
   by_cases h:t=t7
   ·rw [if_pos h,if_pos h]
   ·rw [if_neg h,if_neg h]
    by_cases h' : t=t6
    ·rw [if_pos h',h',l6]
    ·rw [if_neg h']
  rw [he] at a9;exact kn _ _ _ _ a9
 refine wpList_plain rfl fun K hK=>?_
 have U:∀ {v:Value} {w' : World},(Instr.next (.pointer (some ⟨r,0,none⟩)) false ty6).run P w=.ok v w' ->
   (execOp a.eval ({ dst:=some t6,op:=.next (.tmp t5) false,type:=ty6,pos:=p6,after:=af6,guard:=none }:Oper)).run P w=.ok (.value v) w':=fun N=>by
  simp [execOp,Act.eval,e5,hu,N]
 rcases run_next_at (P:=P) w ty6 r b f c0 d W g g1 g3 g7 g5 with ⟨h0,D⟩|⟨y,hy,I,G,D⟩
 ·have c8:gs=[]:=List.eq_nil_of_length_eq_zero (by rw [<-g8,h0])
  refine Z5y (U D) (hK _ _ ?_);have n:=hc.val (some t6) (fun x m=>by cases m;exact n6) .any (.tuple #[.bool false]) fun _=>⟨.any _,by simp [AVal.refs]⟩
  exact a6 false gs none w #[.bool false] R η rfl (by simp) n (stop c8)
 ·obtain ⟨i,hi,b9⟩:=List.getElem_of_mem hy
  have d0 : i<(leftOf W d).size:=by simpa using hi
  have T : (leftOf W d)[i]?=some y:=by rw [Array.getElem?_eq_getElem d0];simpa using b9
  have a0:i<gs.length:=by omega
  have b8:=g9 i y gs[i] T (List.getElem?_eq_getElem a0);have b4:y ∈ W.toList:=by
   have:y ∈ (leftOf W d).toList:=hy
   unfold leftOf at this;rw [Array.toList_filter] at this
   exact (List.mem_filter.1 this).1
  refine Z5y (U D) (hK _ _ ?_);have Y:I.heap=w.heap:=by rcases G with rfl|rfl <;> rfl
  have a5:I.heap[r]?=some (.mapIter (some b) f d c0):=by rw [Y];exact g1
  have F:Stp (fun x=>x=r) w (ChangeMaps.setBlock I r (.mapIter (some b) f (d.push y.born) g)):=by
   refine ⟨?_,?_,?_,?_,fun x m hn=>?_,?_⟩
   ·rcases G with rfl|rfl <;> rfl
   ·rcases G with rfl|rfl <;> rfl
   ·rcases G with rfl|rfl <;> rfl
   ·simp [ChangeMaps.setBlock,Y]
   ·exact ((heap_set a5).2 x hn).trans (by rw [Y])
   ·rcases G with rfl|rfl
    ·exact Nat.le_refl _
    ·exact Nat.le_succ _
  have B:r ∈ Y8 (η it):=by rw [hu];simp [Y8]
  have c9:∀ (p:World->(Nat->Prop)->Value->Prop),SR.sto { v:=.any,upd:=some (it,.ext p) } (some t6) (ls ((it,.ext (itP gs none))::S))=ls ((it,.ext p)::S):=fun p=>by
   funext z
   simp only [SR.sto,List.contains_nil,Bool.false_eq_true,if_false];rw [U8,U8]
   by_cases h:z=it
   ·rw [if_pos h,if_pos h]
   ·rw [if_neg h,if_neg h,if_neg h]
  have V:SR.eta { v:=.any,upd:=some (it,.ext (itP (gs.eraseIdx i) (some gs[i]))) } (some t6) (.tuple #[.bool true,y.key,y.val]) η=η:=by funext z;simp [SR.eta]
  have hk:=Q5N (C:=C) (s:=ls ((it,.ext (itP gs none))::S)) (η:=η) { v:=.any,upd:=some (it,.ext (itP (gs.eraseIdx i) (some gs[i]))) } (some t6) (.tuple #[.bool true,y.key,y.val]) (fun x=>x=r) F (fun x m=>by subst m;exact a7 _ B) (fun _ _ N=>by cases N)
   (fun k o N=>by cases N;rw [A];simp)
  have n:=hc.step (some t6) (fun x m=>by cases m;exact n6) { v:=.any,upd:=some (it,.ext (itP (gs.eraseIdx i) (some gs[i]))) } (.tuple #[.bool true,y.key,y.val]) _ (fun x=>x=r) F
   (fun x m=>by
    subst m;exact ⟨⟨it,.inr ⟨_,rfl⟩,by rw [A];simp,B⟩,c2 _ B⟩)
   (fun _ _ N=>by cases N)
   (fun k o N=>by
    cases N
    refine ⟨⟨_,A,rfl⟩,rfl,by simp,by simp [Obj.refs],?_⟩;rw [V] at hk ⊢
    rw [hu];have b0:=hk b (G4 g3) g2
    have b3:=Y5O g4 T;refine .ext _ _ ⟨r,b,W,g,f,d.push y.born,g,rfl,(heap_set a5).1,b0.2,b0.1.trans g3,g4,g6,g6,g7,?_,fun j x q m hq=>?_,fun q hq=>?_⟩ (Y2M _) fun x m=>?_
    ·have:=congrArg List.length b3
     rw [Array.length_toList,List.length_eraseIdx_of_lt (by simpa using hi),Array.length_toList] at this;rw [this,List.length_eraseIdx_of_lt a0,g8]
    ·have J:(leftOf W (d.push y.born)).toList[j]?=some x:=by simpa using m
     rw [b3,List.getElem?_eraseIdx] at J;rw [List.getElem?_eraseIdx] at hq
     split at J
     ·rename_i hj
      rw [if_pos hj] at hq;exact (g9 j x q (by simpa using J) hq).mono hk
     ·rename_i hj
      rw [if_neg hj] at hq;exact (g9 (j+1) x q (by simpa using J) hq).mono hk
    ·cases hq
     exact ⟨y,b4,d,rfl,rfl,b8.mono hk⟩
    ·simp only [Y8,List.mem_singleton] at m
     subst m;exact Nat.lt_of_lt_of_le (G4 g1) F.size)
   (fun _=>⟨.any _,by simp [AVal.refs]⟩)
  rw [c9,V] at n;have he:SR.env { v:=.any,upd:=some (it,.ext (itP (gs.eraseIdx i) (some gs[i]))) } (some t6) (lk E)=Z0p (some t6) .any (lk E):=rfl
  rw [he] at n;exact a6 true (gs.eraseIdx i) (some gs[i]) _ #[.bool true,y.key,y.val] _ _ rfl (by simp) n (go gs[i] (gs.eraseIdx i) ⟨i,a0,rfl,rfl⟩)
end
end
section
open Go.MapKept
section
variable {α:Type} [Emb α]
def Q0G (y:Int) (gs:List (Int×List α)):Nat:=gs.findIdx fun e=>e.1==y
def gApp (y:Int) (m:List α) (gs:List (Int×List α)):List (Int×List α):=
 match gs[Q0G y gs]? with
 | some e=>gs.set (Q0G y gs) (e.1,e.2++m)
 | none=>gs++[(y,m)]
theorem Q7p {β:Type} (y:Int) (gs:List (Int×List β)):(Q0G y gs<gs.length/\∃ e,gs[Q0G y gs]?=some e/\e.1=y)\/(Q0G y gs=gs.length/\∀ e ∈ gs,e.1≠y):=by
 unfold Q0G;rcases Nat.lt_or_ge (gs.findIdx fun e=>e.1==y) gs.length with h|h
 ·left
  refine ⟨h,_,List.getElem?_eq_getElem h,?_⟩;have:=List.findIdx_getElem (p:=fun e:Int×List β=>e.1==y) (w:=h)
  simpa using this
 ·right
  have c:=List.findIdx_le_length (p:=fun e:Int×List β=>e.1==y) (xs:=gs);refine ⟨by omega,fun e b=>?_⟩
  have:=List.findIdx_eq_length.1 (show (gs.findIdx fun e:Int×List β=>e.1==y)=gs.length by omega) e b
  simpa using this
theorem Y0r {β:Type} {gs:List (Int×List β)} (hnd:(gs.map (·.1)).Nodup) {i j:Nat} {a b:Int×List β} (ha:gs[i]?=some a) (hb:gs[j]?=some b) (h:a.1=b.1):i=j:=by
 obtain ⟨c,ha⟩:=List.getElem?_eq_some_iff.1 ha;obtain ⟨d,hb⟩:=List.getElem?_eq_some_iff.1 hb
 exact (List.getElem_inj (h₀:=by simpa using c) (h₁:=by simpa using d) hnd).1 (by simp [ha,hb,h])
def Y3t (w:World) (X:Nat->Prop) (v:Value) (l:List α):Prop:=∀ η C,ORep w X η C v (AO l)
def Q5u (b:Nat) (rs:List Value):Array Value:=(Value.map (some b)::(rs++[.slice none 0 0])).toArray
structure GrpAt (gs:List (Int×List α)) (pend:Option Nat) (w:World) (X:Nat->Prop) (b:Nat) (rs:List Value) (ents:Array MapEntry) (clock:Nat):Prop where
 heap:w.heap[b]?=some (.map ents clock)
 st:Stamped ents clock
 len:rs.length=gs.length
 nd:(gs.map (·.1)).Nodup
 rows:∀ (i:Nat) (e:Int×List α) (v:Value),gs[i]?=some e->rs[i]?=some v->Y3t w X v e.2
 apart:∀ (i j:Nat) (u v:Value) (x:Nat),rs[i]?=some u->rs[j]?=some v->x ∈ Y8 u->x ∈ Y8 v->i=j
 off:∀ (i:Nat) (v:Value),rs[i]?=some v->b ∉ Y8 v
 ents:match pend with
  | none=>ents.size=gs.length/\∀ (i:Nat) (e:Int×List α) (v:Value),gs[i]?=some e->rs[i]?=some v->∃ bo,ents[i]?=some ⟨.int .i64 e.1,v,bo⟩
  | some j=>j<gs.length/\(ents.size=gs.length\/(ents.size+1=gs.length/\j=ents.size))/\∀ (i:Nat) (e:Int×List α) (v:Value),i<ents.size->gs[i]?=some e->rs[i]?=some v->∃ u bo,ents[i]?=some ⟨.int .i64 e.1,u,bo⟩/\(i≠j->u=v)
def Q8z (gs:List (Int×List α)) (pend:Option Nat) (w:World) (X:Nat->Prop) (us:List Value) (v:Value):Prop:=
 ∃ b rs ents clock,us=[.map (some b)]/\v=.agg (Q5u b rs)/\GrpAt gs pend w X b rs ents clock
theorem Y3t.form {w:World} {X:Nat->Prop} {v:Value} {l:List α} (h:Y3t w X v l):∃ ad n cap,v=.slice ad n cap/\Y4o v=Y8 v/\v.oneCell'=true:=by
 have:=h (fun _=>undef) (J7 [] w X fun _=>undef)
 unfold AO at this;generalize l.length=n at this
 cases this with
 | nil ad=>exact ⟨_,_,_,rfl,by cases ad <;> rfl,rfl⟩
 | arr=>exact ⟨_,_,_,rfl,rfl,rfl⟩
theorem Y3t.mono {w w' : World} {X X' : Nat->Prop} {v:Value} {l:List α} (h:Y3t w X v l) (hk:Q7i w w' X X') (hb:∀ b ∈ Y8 v,w'.heap[b]?=w.heap[b]?):Y3t w' X' v l:=
 fun η C=>(h η C).mono hk (fun _ _=>rfl) hb
theorem Y3t.lt {w:World} {X:Nat->Prop} {v:Value} {l:List α} (h:Y3t w X v l) {b:Nat} (hb:b ∈ Y8 v):b<w.heap.size:=
 (h (fun _=>undef) (J7 [] w X fun _=>undef)).lt hb
theorem Q0I {b x:Nat} {rs:List Value} (h1:∀ v ∈ rs,Y4o v=Y8 v):x ∈ Y8 (.agg (Q5u b rs))↔x=b\/∃ v ∈ rs,x ∈ Y8 v:=by
 show x ∈ (Value.map (some b)::(rs++[.slice none 0 0])).flatMap Y4o↔_;rw [List.flatMap_cons,List.mem_append,List.flatMap_append,List.mem_append,List.mem_flatMap,List.mem_flatMap]
 constructor
 ·rintro (h|⟨v,hv,h⟩|⟨v,hv,h⟩)
  ·exact .inl (List.mem_singleton.1 h)
  ·exact .inr ⟨v,hv,by rw [<-h1 v hv];exact h⟩
  ·rw [List.mem_singleton.1 hv] at h;cases h
 ·rintro (h|⟨v,hv,h⟩)
  ·exact .inl (List.mem_singleton.2 h)
  ·exact .inr (.inl ⟨v,hv,by rw [h1 v hv];exact h⟩)
theorem GrpAt.one {gs:List (Int×List α)} {pend:Option Nat} {w:World} {X:Nat->Prop} {b:Nat} {rs:List Value} {ents:Array MapEntry} {clock:Nat} (h:GrpAt gs pend w X b rs ents clock):∀ v ∈ rs,Y4o v=Y8 v:=fun v g=>by
 obtain ⟨i,d,rfl⟩:=List.getElem_of_mem g;have c : i<gs.length:=by rw [<-h.len];exact d
 obtain ⟨_,_,_,_,f,_⟩:=(h.rows i gs[i] rs[i] (List.getElem?_eq_getElem c) (List.getElem?_eq_getElem d)).form;exact f
theorem GrpAt.mono {gs:List (Int×List α)} {pend:Option Nat} {w w' : World} {X X' : Nat->Prop} {b:Nat} {rs:List Value} {ents:Array MapEntry} {clock:Nat} (h:GrpAt gs pend w X b rs ents clock) (hk:Q7i w w' X X')
  (hb:∀ x ∈ Y8 (.agg (Q5u b rs)),w'.heap[x]?=w.heap[x]?):GrpAt gs pend w' X' b rs ents clock:=
 ⟨(hb b ((Q0I h.one).2 (.inl rfl))).trans h.heap,h.st,h.len,h.nd,fun i e v d c=>(h.rows i e v d c).mono hk fun x f=>hb x ((Q0I h.one).2 (.inr ⟨v,List.mem_of_getElem? c,f⟩)),h.apart,h.off,h.ents⟩
theorem Y0D {gs:List (Int×List α)} {pend:Option Nat} {us:List Value} (v:Value):Y4p (fun w X v=>Q8z gs pend w X us v) v:=by
 intro w m X X' j f h;obtain ⟨b,i,d,c,l,rfl,g⟩:=h
 exact ⟨b,i,d,c,l,rfl,g.mono j f⟩
theorem GrpAt.lt {gs:List (Int×List α)} {pend:Option Nat} {w:World} {X:Nat->Prop} {b:Nat} {rs:List Value} {ents:Array MapEntry} {clock:Nat} (h:GrpAt gs pend w X b rs ents clock) {x:Nat} (hx:x ∈ Y8 (.agg (Q5u b rs))):x<w.heap.size:=by
 rcases (Q0I h.one).1 hx with rfl|⟨v,f,hx⟩
 ·exact G4 h.heap
 ·obtain ⟨i,d,rfl⟩:=List.getElem_of_mem f
  have c : i<gs.length:=by rw [<-h.len];exact d
  exact (h.rows i gs[i] rs[i] (List.getElem?_eq_getElem c) (List.getElem?_eq_getElem d)).lt hx
end
def W0t (extra:List Nat) (ops:Array Oper) (o:Oper) (e:Env) (r:SR):Eff:= { rd:=Q0g o++V8 ops o,ids:=Z2L e o++extra,v:=r.v,l:=r.l o.dst,news:=r.nw o.dst }
def xE (extra:List Nat) (r:SR):Array Oper->Oper->Env->Eff:=fun ops o e=>W0t extra ops o e r
section
variable {P:Program} {C:Ctx} {nt:Nat} {L:Lay} {ops:Array Oper} {ds:List Dir} {e:Env} {s:Sto}
def W3t (P:Program) (C:Ctx) (nt:Nat) (R:Nat->Prop) (η:Nat->Value) (e:Env) (s:Sto) (a:Act) (w:World) (o:Oper) (r:SR):Prop:=
 ∃ v u w',((execOp a.eval o).run P w=.ok (.value v) w' \/ ((execOp a.eval o).run P w=.ok .skip w' /\ v=undef)) /\
  Conc C nt (r.rng o.dst R) (r.eta o.dst u η) (r.env o.dst e) (r.sto o.dst s) (a.put o.dst v) w'
theorem Snd.g {R:Nat->Prop} {η:Nat->Value} {a:Act} {w:World} {o:Oper} {r:SR} (h:Snd P C nt R η e s a w o r):W3t P C nt R η e s a w o r:=by
 obtain ⟨v,c,d,b⟩:=h;exact ⟨v,v,c,d,b⟩
theorem Y2d (extra:List Nat) {o:Oper} (hdo:Q1A nt o=true) {r:SR} (hg:Q8l ops e o=some true)
  (hsnd:∀ (R:Nat->Prop) (η:Nat->Value) (e0:Env) (s0:Sto) (a:Act) (w:World),(∀ x ∈ o.op.operands.toList,aev e0 x=aev e x)->(∀ x ∈ o.op.operands.toList,∀ i ∈ (aev e x).refs,s0 i=s i)->(∀ i ∈ extra,s0 i=s i)->(∀ d,o.dst=some d->r.new≠none->¬ R d) ->
   Conc C nt R η e0 s0 a w->W3t P C nt R η e0 s0 a w o r):StT P C nt ops o (W0t extra ops o e r) e s:=by
 intro R η e0 s0 a w j c I b K Q N;have q:∀ x ∈ o.op.operands.toList,aev e0 x=aev e x:=by
  intro x q
  cases x with
  | tmp t=>exact j t (List.mem_append.2 (.inl (List.mem_filterMap.2 ⟨_,q,rfl⟩)))
  | const v=>rfl
  | global g=>rfl
  | func f=>rfl
 have D:∀ x ∈ o.op.operands.toList,∀ i ∈ (aev e x).refs,s0 i=s i:=fun x q i A=>c i (List.mem_append_left _ (List.mem_flatMap.2 ⟨x,q,A⟩))
 have U:=Q5B (e:=e) b (fun t V=>j t (List.mem_append.2 (.inr V))) hg;rw [if_pos U]
 have T:=hsnd R η e0 s0 a w q D (fun i A=>c i (List.mem_append_right _ A)) (fun d M O=>I d (by
  obtain ⟨W,B⟩:=Option.ne_none_iff_exists'.1 O;simp [W0t,SR.nw,B,M])) b
 have n:∀ η' z h,Conc C nt (r.rng o.dst R) η' (r.env o.dst e0) (r.sto o.dst s0) z h -> K z h:=fun η' z h F=>by
  refine N η' z h ?_;have G:=F.wider (Y6C r o.dst R)
  have p:upS (W0t extra ops o e r).l s0=r.sto o.dst s0:=Y6B r o.dst s0;rw [p]
  have m:Z0p o.dst (W0t extra ops o e r).v e0=r.env o.dst e0:=rfl;rw [m]
  exact G
 obtain ⟨v,u,h,H|⟨H,rfl⟩,J⟩:=T
 ·exact Z5y H (n _ _ _ J)
 ·exact Y5n H (n _ _ _ J)
end
section
variable {P:Program} {C:Ctx} {nt:Nat} {L:Lay} {R:Nat->Prop} {η:Nat->Value} {e:Env} {s:Sto} {a:Act} {w:World}
variable {α:Type} [Emb α]
theorem Y1L (h:Conc C nt R η e s a w) {g base:Nat} {gs:List (Int×List α)} {pend:Option Nat} (hs:s g=some (.exr [base] (Q8z gs pend))) :
  ∃ b rs ents clock,η base=.map (some b)/\η g=.agg (Q5u b rs)/\GrpAt gs pend w (XS C s η) b rs ents clock:=by
 have c:=h.st g _ hs;generalize hu:η g=u at c
 cases c with
 | exr _ _ _ hp _ _=>
  obtain ⟨b,rs,ents,clock,i,f,d⟩:=hp;exact ⟨b,rs,ents,clock,by simpa using i,f,d⟩
theorem Y6P (hL:LOk P L) (h:Conc C nt R η e s a w) {o:Oper} {d:Nat} (hd:o.dst=some d) (hdn:d<nt) {t:TypeId} {tx ty:Nat} (hne:tx≠ty)
  (hop:o.op=.call { callee:=.builtin .append,args:= #[.tmp tx,.tmp ty],argTypes:= #[t,t] }) {ti:TI} (ht:L t=some ti) {el:Nat} (hk:ti.kind=.slice el) {te:TI} (hte:L el=some te) (hes:te.size=Emb.es α)
  {l m:List α} (hx:Y3t w (XS C s η) (a.tmps.getD tx undef) l) (hX:∀ b ∈ Y8 (a.tmps.getD tx undef),XS C s η b) (hy:e ty=AL m)
  (hby:te.bytes<=8192) (hzl:te.zero.length=te.size) (hlim:l.length+m.length<=LIM) :
  ∃ v w',(execOp a.eval o).run P w=.ok (.value v) w' /\ Stp (fun b=>b ∈ Y8 (a.tmps.getD tx undef)) w w' /\ (∀ b ∈ Y8 v,b ∈ Y8 (a.tmps.getD tx undef)\/w.heap.size<=b) /\
   ∀ X',(∀ b,b<w'.heap.size->X' b->(XS C s η b/\b ∉ Y8 (a.tmps.getD tx undef))\/b ∈ Y8 v)->Y3t w' X' v (l++m):=by
 generalize hv1:a.tmps.getD tx undef=v1 at *;have O:∀ b,XS C s η b->b<w.heap.size:=by
  rintro b (⟨hx,_⟩|hx)
  ·exact Nat.lt_of_lt_of_le (h.ok.lt b hx) h.fr.size
  ·exact h.lt hx
 let C0:Ctx:= { w0:=w,D:=fun b=>b ∈ Y8 v1,M:=fun b=>b ∈ Y8 v1,X:=XS C s η,pin:=fun _=>none }
 let η0:Nat->Value:=fun _=>v1
 let s0:Sto:=fun i=>if i=nt then some (AO l) else none
 let e0:Env:=fun t=>if t=tx then .v (.c (.own nt)) else if t=ty then AL m else .any
 have I:XS C0 s0 η0=XS C s η:=by
  funext b
  apply propext;constructor
  ·rintro (⟨G,_⟩|⟨i,A,p,r⟩)
   ·exact G
   ·exact hX b r
  ·intro r
   rcases Classical.em (b ∈ Y8 v1) with Y|Y
   ·exact .inr ⟨nt,AO l,by simp [s0],Y⟩
   ·exact .inl ⟨r,Y⟩
 have x:∀ i A,s0 i=some A -> i=nt/\A=AO l:=fun i A p=>by
  simp only [s0] at p;split at p
  ·cases p;exact ⟨by assumption,rfl⟩
  ·cases p
 have a3:Conc C0 nt (fun i=>i=nt) η0 e0 s0 a w:=by
  refine ⟨⟨fun b r=>r,fun b r=>hX b r,O⟩,h.df,h.sz,fun t=>?_,fun t i p=>?_,fun i A p=>?_,fun i A p=>?_,fun i j b p H _ _=>?_,fun i A b p r=>?_,Stp.refl _ _,fun i v p=>by cases p⟩
  ·rw [I]
   simp only [e0];split
   ·rename_i ht;subst ht
    rw [hv1];exact .v _ _ (.c _ _ (.own _ _ rfl hx.form.choose_spec.choose_spec.choose_spec.2.2))
   ·split
    ·rename_i _ ht;subst ht
     have:=h.ev t
     rw [hy] at this;unfold AL at this ⊢
     generalize a.tmps.getD t undef=q at this ⊢
     cases this with|v _ _ hh=>cases hh with|c _ _ hh=>cases hh with|d _ _ hh=>exact .v _ _ (.c _ _ (.d _ _ hh))
    ·exact .any _
  ·simp only [e0] at p
   split at p
   ·simpa [AVal.refs,TV.refs,CV.refs] using p
   ·split at p
    ·simp [AL,AVal.refs,TV.refs,CV.refs] at p
    ·simp [AVal.refs] at p
  ·obtain ⟨_,rfl⟩:=x i A p
   rw [I];exact hx _ _
  ·obtain ⟨rfl,rfl⟩:=x i A p
   exact ⟨rfl,fun j H=>by simp [AO,Obj.refs] at H⟩
  ·obtain ⟨oi,p⟩:=Option.ne_none_iff_exists'.1 p
   obtain ⟨oj,H⟩:=Option.ne_none_iff_exists'.1 H;rw [(x i oi p).1,(x j oj H).1]
  ·exact .inr (.inl r)
 have hR:¬ (fun i=>i=nt) d:=by show ¬ d=nt;omega
 obtain ⟨v,w',hr,z⟩:=Z8h (c:=True) hL a3 hd hdn hR hop ht hk hte (k:=m.length) (g:=LF m) (by simp [aev,e0,Ne.symm hne,AL,DL,asL])
  (del:=[nt]) (n:=l.length) (f:=LF l) (c0:=True) (by simp [aev,e0,Z9P,s0,AO,hes]) trivial hby hzl hlim (fun j H=>by rw [hes];exact Emb.len _)
 have J:(SR.sto { v:=.v (.c (.own d)),del:=[nt],new:=some (.arr te.size (l.length+m.length) (Q5z l.length (LF l) (LF m))),cond:=True } o.dst s0)=fun i=>if i=d then some (.arr te.size (l.length+m.length) (Q5z l.length (LF l) (LF m))) else none:=by
  funext i
  simp only [SR.sto,hd]
  by_cases p:i=d
  ·rw [if_pos p,if_pos p]
  ·rw [if_neg p,if_neg p]
   by_cases hn:i=nt
   ·simp [hn]
   ·simp [hn,s0]
 rw [J] at z;have F:(fun i=>if i=d then some (Obj.arr te.size (l.length+m.length) (Q5z l.length (LF l) (LF m))) else none) d=some (.arr te.size (l.length+m.length) (Q5z l.length (LF l) (LF m))):=by simp
 have B:=z.st d _ F;have u:SR.eta { v:=.v (.c (.own d)),del:=[nt],new:=some (.arr te.size (l.length+m.length) (Q5z l.length (LF l) (LF m))),cond:=True } o.dst v η0 d=v:=by simp [SR.eta,hd]
 have V:∀ b,b ∈ Y8 v->b ∈ Y8 v1\/w.heap.size<=b:=fun b r=>by
  rcases z.ow d _ b F (by rw [u];exact r) with ⟨G,_⟩|G|G
  ·cases G
  ·exact .inl G
  ·exact .inr G
 rw [u] at B;have N:(execOp a.eval o).run P w=.ok (.value v) w':=by
  rcases hr with hr|⟨_,rfl⟩
  ·exact hr
  ·have hu:(undef:Value)=.tuple #[]:=rfl
   rw [hu] at B;cases B
 refine ⟨v,w',N,z.fr,V,fun X' W=>fun η2 C2=>?_⟩
 ·have T:OLe (.arr te.size (l.length+m.length) (Q5z l.length (LF l) (LF m))) (AO (l++m)):=by rw [hes];exact OLe.is (Is.app (Is.refl l) (Is.refl m))
  have h2:=T.1 _ _ _ _ _ B;have h3:ORep w' (XS C0 (fun i=>if i=d then some (Obj.arr te.size (l.length+m.length) (Q5z l.length (LF l) (LF m))) else none) (SR.eta { v:=.v (.c (.own d)),del:=[nt],new:=some (.arr te.size (l.length+m.length) (Q5z l.length (LF l) (LF m))),cond:=True } o.dst v η0)) η2 C2 v (AO (l++m)):=by
   unfold AO at h2 ⊢;generalize (l++m).length=nn at h2 ⊢
   cases h2 with
   | nil ad=>exact .nil ad _ _
   | arr b' _ cap' _ c' e' _ q1 q2 q3 q4 q5 q6 q7=>exact .arr b' _ cap' _ c' e' _ q1 q2 q3 q4 q5 q6 q7
  refine h3.mono (fun b r Z=>⟨rfl,fun U=>Z ?_⟩) (fun _ _=>rfl) fun _ _=>rfl
  rcases W b r U with ⟨h4,h5⟩|h4
  ·exact .inl ⟨h4,h5⟩
  ·exact .inr ⟨d,_,F,by rw [u];exact h4⟩
theorem Z6y (b:Nat) (rs:List Value) (i:Nat):(Q5u b rs)[1+i]?=(rs++[.slice none 0 0])[i]?:=by
 simp [Q5u,Nat.add_comm 1 i]
theorem GrpAt.find {gs:List (Int×List α)} {X:Nat->Prop} {b:Nat} {rs:List Value} {ents:Array MapEntry} {clock:Nat} (h:GrpAt gs none w X b rs ents clock) (y:Int) :
  (Instr.findNow (.int .i64) (.int .i64 y) ents.toList 0=some none/\Q0G y gs=gs.length) \/
  ∃ x:MapEntry,Instr.findNow (.int .i64) (.int .i64 y) ents.toList 0=some (some (Q0G y gs,x.val))/\rs[Q0G y gs]?=some x.val/\Q0G y gs<gs.length:=by
 obtain ⟨J,f⟩:=h.ents;have n:∀ (j:Nat) (x:MapEntry),ents[j]?=some x->∃ e v,gs[j]?=some e/\rs[j]?=some v/\x.key=.int .i64 e.1/\x.val=v:=fun j x p=>by
  have G:j<ents.size:=(Array.getElem?_eq_some_iff.1 p).1;have z:j<gs.length:=by omega
  have q:j<rs.length:=by rw [h.len];exact z
  obtain ⟨I,o⟩:=f j gs[j] rs[j] (List.getElem?_eq_getElem z) (List.getElem?_eq_getElem q);rw [p] at o
  cases o
  exact ⟨gs[j],rs[j],List.getElem?_eq_getElem z,List.getElem?_eq_getElem q,rfl,rfl⟩
 have B:∀ x ∈ ents.toList,IsKey (.int .i64) x.key:=fun x p=>by
  obtain ⟨j,G,rfl⟩:=List.getElem_of_mem p;obtain ⟨e,v,_,_,l,_⟩:=n j _ (by simp at G ⊢;exact Array.getElem?_eq_getElem G)
  simp only [Array.getElem_toList] at l ⊢;rw [l];rfl
 rcases findNow_spec (d:=.int .i64) (k:=.int .i64 y) rfl ents.toList 0 B with ⟨r,F⟩|⟨j,x,r,F,M⟩
 ·left
  refine ⟨r,?_⟩;rcases Q7p y gs with ⟨i,e,g,c⟩|⟨N,_⟩
  ·exfalso
   have q:Q0G y gs<rs.length:=by rw [h.len];exact i
   obtain ⟨I,o⟩:=f _ e _ g (List.getElem?_eq_getElem q);exact F _ (by have:=Array.mem_of_getElem? o;simpa using this) (by rw [c])
  ·exact N
 ·right
  obtain ⟨e,v,g,H,l,A⟩:=n j x (by simpa using F);rw [M] at l
  have c:e.1=y:=by cases l;rfl
  have D:Q0G y gs=j:=by
   rcases Q7p y gs with ⟨i,O,u,m⟩|⟨_,t⟩
   ·exact Y0r h.nd u g (by rw [c,m])
   ·exact absurd c (t e (List.mem_of_getElem? g))
  rw [Nat.zero_add] at r;rw [D]
  exact ⟨x,r,by rw [A];exact H,(List.getElem?_eq_some_iff.1 g).1⟩
variable {ops:Array Oper} {ds:List Dir} {k:Nat}
def gOk (ops:Array Oper) (nt:Nat) (e:Env) (o:Oper):Bool:=Q1A nt o&&(Q8l ops e o==some true)
theorem Y9i {gs:List (Int×List α)} {base g:Nat} {t kT eT:TypeId} {m x:Operand} {y:Int} (ht:P.underlying t=some (.map kT eT)) (hkT:P.underlying kT=some (.int .i64)) (hz:∀ w,(zeroValue eT).run P w=.ok (.slice none 0 0) w)
  (hk:Q2c ds k=xE [g] { v:=.v (.c (.cp g (1+Q0G y gs))) }) (hop:(Y9 ops.toList k).op=.lookup t m x false) (hdo:gOk ops nt (V2 L ops ops.toList ds e s k) (Y9 ops.toList k)=true)
  (hm:aev (V2 L ops ops.toList ds e s k) m=.v (.c (.own base))) (hx:aev (V2 L ops ops.toList ds e s k) x=vi y) (hs:Q2k L ops ops.toList ds e s k g=some (.exr [base] (Q8z gs none))):KAt P C nt L ops ds e s k:=by
 unfold KAt;rw [hk]
 simp only [gOk,Bool.and_eq_true,beq_iff_eq] at hdo;obtain ⟨A,V⟩:=hdo
 refine Y2d [g] A V fun R η Y T a w F W D Z f=>Snd.g ?_
 have U:m ∈ (Y9 ops.toList k).op.operands.toList:=by rw [hop];simp [Op.operands]
 have O:x ∈ (Y9 ops.toList k).op.operands.toList:=by rw [hop];simp [Op.operands]
 have n:=(W5 f m).1;rw [F m U,hm] at n
 have n:=Q6R n;have p:=(W5 f x).1
 rw [F x O,hx] at p;have p:=Y9o p
 have u:T g=some (.exr [base] (Q8z gs none)):=(D g (by simp)).trans hs;obtain ⟨b,N,i,z,M,G,o⟩:=Y1L f u
 rw [M] at n;have h:∀ v,(v=.slice none 0 0/\Q0G y gs=gs.length/\Instr.findNow (.int .i64) (.int .i64 y) i.toList 0=some none)\/(N[Q0G y gs]?=some v/\Instr.findNow (.int .i64) (.int .i64 y) i.toList 0=some (some (Q0G y gs,v))) ->
   (execOp a.eval (Y9 ops.toList k)).run P w=.ok (.value v) w:=by
  rintro v (⟨rfl,_,l⟩|⟨_,l⟩)
  ·simp [execOp,hop,n,p,Instr.lookup,run_underlying ht,MapKept.run_getObj_map o.heap,MapKept.run_checkKey hkT (k:=.int .i64 y) (d:=.int .i64) rfl,MapKept.run_findKey hkT l,hz]
  ·simp [execOp,hop,n,p,Instr.lookup,run_underlying ht,MapKept.run_getObj_map o.heap,MapKept.run_checkKey hkT (k:=.int .i64 y) (d:=.int .i64) rfl,MapKept.run_findKey hkT l]
 have H:∀ j ∈ (AVal.v (.c (.cp g (1+Q0G y gs)))).refs,R j:=fun j J=>by
  simp [AVal.refs,TV.refs,CV.refs] at J
  subst J;exact (f.sr _ _ u).1
 rcases o.find y with ⟨l,I⟩|⟨q,l,B,r⟩
 ·refine G6 f (Q5x A) (h _ (.inl ⟨rfl,I,l⟩)) (.v _ _ (.c _ _ (.cp _ _ _ _ G ?_ rfl))) H
  rw [Z6y,I, <-o.len];simp
 ·obtain ⟨e',he'⟩:∃ e',gs[Q0G y gs]?=some e':=⟨_,List.getElem?_eq_getElem r⟩
  refine G6 f (Q5x A) (h _ (.inr ⟨B,l⟩)) (.v _ _ (.c _ _ (.cp _ _ _ _ G ?_ ((o.rows _ _ _ he' B).form.choose_spec.choose_spec.choose_spec.2.2)))) H;rw [Z6y,List.getElem?_append_left (by rw [o.len];exact r)]
  exact B
end
end
section
open Go.MapKept
section
variable {P:Program} {C:Ctx} {nt:Nat} {L:Lay} {R:Nat->Prop} {η:Nat->Value} {e:Env} {s:Sto} {a:Act} {w:World}
variable {α:Type} [Emb α] {ops:Array Oper} {ds:List Dir} {k:Nat}
def gRow (y:Int) (gs:List (Int×List α)):List α:=match gs[Q0G y gs]? with|some e=>e.2|none=>[]
theorem Y2Q {β:Type} {y:Int} {m:List β} {gs:List (Int×List β)} {q:Int×List β} (h:gs[Q0G y gs]?=some q):gApp y m gs=gs.set (Q0G y gs) (q.1,q.2++m):=by unfold gApp;rw [h]
theorem Y5X {β:Type} {y:Int} {m:List β} {gs:List (Int×List β)} (h:Q0G y gs=gs.length):gApp y m gs=gs++[(y,m)]:=by
 unfold gApp;rw [h,List.getElem?_eq_none (Nat.le_refl _)]
def Y4G {β:Type} (l:List β) (i:Nat) (x:β):List β:=if i<l.length then l.set i x else l++[x]
theorem Z6l {β:Type} {l:List β} {i:Nat} {x:β} (h:i<=l.length):(Y4G l i x).length=if i<l.length then l.length else l.length+1:=by
 unfold Y4G;split <;> simp
theorem Z9p {β:Type} {l:List β} {i:Nat} {x:β} (h:i<=l.length) (j:Nat):(Y4G l i x)[j]?=if j=i then some x else l[j]?:=by
 unfold Y4G;split
 ·rename_i b
  rw [List.getElem?_set]
  by_cases hj:i=j
  ·subst hj;rw [if_pos rfl,if_pos rfl,if_pos b]
  ·rw [if_neg hj,if_neg (fun h=>hj h.symm)]
 ·have b:i=l.length:=by omega
  subst b
  by_cases hj:j=l.length
  ·subst hj;rw [if_pos rfl];simp
  ·rw [if_neg hj]
   rcases Nat.lt_or_ge j l.length with c|c
   ·rw [List.getElem?_append_left c]
   ·rw [List.getElem?_append_right c,List.getElem?_eq_none (by omega:l.length<=j)]
    have:j-l.length=(j-l.length-1)+1:=by omega
    rw [this];rfl
theorem Z9C {β:Type} {y:Int} {m:List β} {gs:List (Int×List β)}:∃ q,q.1=y/\q.2=gRow y gs++m/\gApp y m gs=Y4G gs (Q0G y gs) q/\Q0G y gs<=gs.length:=by
 rcases Q7p y gs with ⟨c,q,d,f⟩|⟨b,_⟩
 ·refine ⟨(q.1,q.2++m),f,by unfold gRow;rw [d],?_,by omega⟩
  rw [Y2Q d];unfold Y4G;rw [if_pos c]
 ·refine ⟨(y,m),rfl,?_,?_,by omega⟩
  ·unfold gRow;rw [b,List.getElem?_eq_none (Nat.le_refl _)];simp
  ·rw [Y5X b];unfold Y4G;rw [b,if_neg (Nat.lt_irrefl _)]
theorem W1M {β:Type} {y:Int} {m:List β} {gs:List (Int×List β)}:∃ q,(gApp y m gs)[Q0G y gs]?=some q/\q.1=y:=by
 obtain ⟨q,c,_,b,d⟩:=Z9C (y:=y) (m:=m) (gs:=gs);refine ⟨q,?_,c⟩
 rw [b];unfold Y4G
 split
 ·rename_i h;rw [List.getElem?_set_self h]
 ·have:Q0G y gs=gs.length:=by omega
  rw [this,List.getElem?_append_right (Nat.le_refl _),Nat.sub_self];rfl
theorem Y4h {β:Type} {y:Int} {m:List β} {gs:List (Int×List β)} (hnd:(gs.map (·.1)).Nodup):((gApp y m gs).map (·.1)).Nodup:=by
 rcases Q7p y gs with ⟨d,q,b,l⟩|⟨g,c⟩
 ·rw [Y2Q b,List.map_set]
  have:(gs.map (·.1)).set (Q0G y gs) q.1=gs.map (·.1):=by
   apply List.ext_getElem?;intro j
   rw [List.getElem?_set];split
   ·rename_i i;subst i
    rw [if_pos (by simpa using d),List.getElem?_map,b];rfl
   ·rfl
  rw [this];exact hnd
 ·rw [Y5X g,List.map_append]
  refine List.nodup_append.2 ⟨hnd,by simp,?_⟩;intro x h z f
  obtain ⟨q,b,rfl⟩:=List.mem_map.1 h;simp at f
  subst f;exact c q b
theorem KAt.gApp (hL:LOk P L) {gs:List (Int×List α)} {m:List α} {base g d:Nat} {y:Int} {t tx ty:Nat} {te:TI} (hT:slT L t te) (hes:te.size=Emb.es α)
  (hk:Q2c ds k=xE [g] { v:=.v (.c (.cp d (1+Q0G y gs))),del:=[g],new:=some (.exr [base] (Q8z (Go.Ab.gApp y m gs) (some (Q0G y gs)))) })
  (hop:(Y9 ops.toList k).op=.call { callee:=.builtin .append,args:= #[.tmp tx,.tmp ty],argTypes:= #[t,t] }) (hdo:(gOk ops nt (V2 L ops ops.toList ds e s k) (Y9 ops.toList k)&&(Y9 ops.toList k).dst==some d && !(tx==ty))=true)
  (hx:V2 L ops ops.toList ds e s k tx=.v (.c (.cp g (1+Q0G y gs)))) (hy:V2 L ops ops.toList ds e s k ty=AL m) (hs:Q2k L ops ops.toList ds e s k g=some (.exr [base] (Q8z gs none)))
  (hby:te.bytes<=8192) (hzl:te.zero.length=te.size) (hlim:(gRow y gs).length+m.length<=LIM):KAt P C nt L ops ds e s k:=by
 obtain ⟨ti,el,ht,e5,f5⟩:=hT;unfold KAt
 rw [hk];simp only [gOk,Bool.and_eq_true,beq_iff_eq,Bool.not_eq_true',beq_eq_false_iff_ne] at hdo
 obtain ⟨⟨⟨h1,h2⟩,h3⟩,h4⟩:=hdo;refine Y2d [g] h1 h2 fun R η e0 s0 a w he i8 f6 hn A=>?_
 have ox:Operand.tmp tx ∈ (Y9 ops.toList k).op.operands.toList:=by rw [hop];simp [Op.operands,Call.operands]
 have oy:Operand.tmp ty ∈ (Y9 ops.toList k).op.operands.toList:=by rw [hop];simp [Op.operands,Call.operands]
 have ex:e0 tx=.v (.c (.cp g (1+Q0G y gs))):=(he _ ox).trans hx;have ey:e0 ty=AL m:=(he _ oy).trans hy
 have F:s0 g=some (.exr [base] (Q8z gs none)):=(f6 g (by simp)).trans hs;have d9:=Q5x h1 d h3
 have b7:¬ R d:=hn d h3 (by simp);obtain ⟨b,N,b0,a0,hb,hg,f⟩:=Y1L A F
 have i0:g≠d:=fun h=>b7 (h ▸ (A.sr _ _ F).1)
 have b9:=A.ev tx;rw [ex] at b9
 generalize hv1e:a.tmps.getD tx undef=v1 at b9;have c1:(N++[.slice none 0 0])[Q0G y gs]?=some v1:=by
  cases b9 with|v _ _ hh=>cases hh with|c _ _ hh=>cases hh with|cp _ _ _ vs q1 q2 _=>
  rw [hg] at q1;cases q1
  rwa [Z6y] at q2
 obtain ⟨q,f7,f2,a8,H⟩:=Z9C (y:=y) (m:=m) (gs:=gs);have W : Q0G y gs<=N.length:=by rw [f.len];exact H
 have G:∀ x,x ∈ Y8 (.agg (Q5u b N))->Own s0 η x:=fun x hx=>⟨g,_,F,by rw [hg];exact hx⟩
 have d3:Y3t w (XS C s0 η) v1 (gRow y gs)/\(∀ x ∈ Y8 v1,x ∈ Y8 (.agg (Q5u b N)))/\b ∉ Y8 v1/\∀ j u,j≠Q0G y gs->N[j]?=some u->∀ x ∈ Y8 u,x ∉ Y8 v1:=by
  rcases Q7p y gs with ⟨Y,q',a2,e3⟩|⟨hl,_⟩
  ·have z:N[Q0G y gs]?=some v1:=by rwa [List.getElem?_append_left (by rw [f.len];exact Y)] at c1
   refine ⟨?_,fun x hx=>(Q0I f.one).2 (.inr ⟨v1,List.mem_of_getElem? z,hx⟩),f.off _ _ z,fun j u D hu x hx f3=>D (f.apart _ _ _ _ x hu z hx f3)⟩;unfold gRow;rw [a2]
   exact f.rows _ _ _ a2 z
  ·have z:v1=.slice none 0 0:=by
    rw [hl, <-f.len,List.getElem?_append_right (Nat.le_refl _),Nat.sub_self] at c1;simpa using c1.symm
   subst z;refine ⟨?_,fun x hx=>by simp [Y8] at hx,by simp [Y8],fun j u _ _ x _ hx=>by simp [Y8] at hx⟩
   unfold gRow;rw [hl,List.getElem?_eq_none (Nat.le_refl _)]
   exact fun η C=>.nil _ _ _
 obtain ⟨f8,J,b4,a7⟩:=d3;obtain ⟨v',w',d4,I,a1,c0⟩:=Y6P hL A h3 d9 h4 hop ht e5 f5 hes (l:=gRow y gs) (m:=m) (by rw [hv1e];exact f8) (fun x hx=>by rw [hv1e] at hx;exact .inr (G x (J x hx))) ey hby hzl hlim
 rw [hv1e] at I a1 c0;have b8:∀ x ∈ Y8 (.agg (Q5u b N)),C.M x\/C.w0.heap.size<=x:=fun x hx=>by
  rcases A.ow g _ x F (by rw [hg];exact hx) with ⟨h,_⟩|h
  ·cases h
  ·exact h
 have Y:∀ x ∈ Y8 (.agg (Q5u b N)),x<w.heap.size:=fun x hx=>f.lt hx
 let rs':=Y4G N (Q0G y gs) v'
 have n : ∀ j,rs'[j]?=if j=Q0G y gs then some v' else N[j]?:=fun j=>Z9p W j
 have b3 : ∀ j,(Go.Ab.gApp y m gs)[j]?=if j=Q0G y gs then some q else gs[j]?:=fun j=>by rw [a8];exact Z9p H j
 have T:=(c0 (fun _=>False) fun _ _ h=>h.elim).form;have b6 : ∀ v ∈ rs',Y4o v=Y8 v:=fun v z=>by
  obtain ⟨j,D⟩:=List.getElem?_of_mem z;have B:=n j
  rw [D] at B
  by_cases h:j=Q0G y gs
  ·rw [if_pos h] at B;cases B;exact T.choose_spec.choose_spec.choose_spec.2.1
  ·rw [if_neg h] at B;exact f.one _ (List.mem_of_getElem? B.symm)
 have hu:∀ x,x ∈ Y8 (.agg (Q5u b rs'))->x=b\/x ∈ Y8 v' \/ ∃ j u,j≠Q0G y gs/\N[j]?=some u/\x ∈ Y8 u:=fun x hx=>by
  rcases (Q0I b6).1 hx with h|⟨v,z,hx⟩
  ·exact .inl h
  ·obtain ⟨j,D⟩:=List.getElem?_of_mem z
   have B:=n j;rw [D] at B
   by_cases h:j=Q0G y gs
   ·rw [if_pos h] at B;cases B;exact .inr (.inl hx)
   ·rw [if_neg h] at B;exact .inr (.inr ⟨j,_,h,B.symm,hx⟩)
 have c7:∀ x,x ∈ Y8 (.agg (Q5u b rs'))->w.heap.size<=x\/x ∈ Y8 (.agg (Q5u b N)):=fun x hx=>by
  rcases hu x hx with rfl|h|⟨j,u,_,h,hx⟩
  ·exact .inr ((Q0I f.one).2 (.inl rfl))
  ·rcases a1 x h with h|h
   ·exact .inr (J x h)
   ·exact .inl h
  ·exact .inr ((Q0I f.one).2 (.inr ⟨u,List.mem_of_getElem? h,hx⟩))
 let r:SR:= { v:=.v (.c (.cp d (1+Q0G y gs))),del:=[g],new:=some (.exr [base] (Q8z (Go.Ab.gApp y m gs) (some (Q0G y gs)))) }
 have d0:=Q5N (C:=C) (s:=s0) (η:=η) r (Y9 ops.toList k).dst (.agg (Q5u b rs')) (fun x=>x ∈ Y8 v1) I (fun x hx=>G x (J x hx)) (fun o' dd _ _ x hx=>by
  rcases c7 x hx with h|h
  ·exact .inl h
  ·exact .inr (G x h)) (fun k o hh=>by cases hh)
 have U:∀ i,r.eta (Y9 ops.toList k).dst (.agg (Q5u b rs')) η i=if i=d then .agg (Q5u b rs') else η i:=fun i=>by simp only [SR.eta,h3,r]
 have e8:w'.heap[b]?=w.heap[b]?:=I.block b (G4 f.heap) b4;have d5:∀ x,x<w'.heap.size->XS C (r.sto (Y9 ops.toList k).dst s0) (r.eta (Y9 ops.toList k).dst (.agg (Q5u b rs')) η) x->(XS C s0 η x/\x ∉ Y8 v1)\/x ∈ Y8 v':=by
  intro x hx hX;rcases hX with ⟨d1,c9⟩|⟨i,oi,p,Z⟩
  ·refine .inl ⟨.inl ⟨d1,c9⟩,fun b5=>?_⟩
   rcases b8 x (J x b5) with h|h
   ·exact c9 (A.ok.md x h)
   ·have:=A.ok.lt x d1;omega
  ·rcases Y0b r (Y9 ops.toList k).dst i oi p with ⟨_,a9⟩|⟨f4,_⟩|⟨ho,e2,_,a9⟩
   ·rw [h3] at a9;cases a9
    rw [U,if_pos rfl] at Z;rcases hu x Z with rfl|h|⟨j,u,D,d2,O⟩
    ·exact .inl ⟨.inr (G x ((Q0I f.one).2 (.inl rfl))),b4⟩
    ·exact .inr h
    ·exact .inl ⟨.inr (G x ((Q0I f.one).2 (.inr ⟨u,List.mem_of_getElem? d2,O⟩))),a7 j u D d2 x O⟩
   ·cases f4
   ·have e7:i≠d:=fun h=>by
     subst h;rcases a9 with h|h
     ·cases h
     ·exact h h3
    rw [U,if_neg e7] at Z;refine .inl ⟨.inr ⟨i,oi,ho,Z⟩,fun b5=>?_⟩
    have:i=g:=A.ds i g x (by rw [ho];simp) (by rw [F];simp) Z (by rw [hg];exact J x b5)
    subst this;exact e2 (by simp [r])
 have d8:GrpAt (Go.Ab.gApp y m gs) (some (Q0G y gs)) w' (XS C (r.sto (Y9 ops.toList k).dst s0) (r.eta (Y9 ops.toList k).dst (.agg (Q5u b rs')) η)) b rs' b0 a0:=by
  obtain ⟨e9,e1⟩:=f.ents;refine ⟨e8.trans f.heap,f.st,?_,Y4h f.nd,fun i e' v p z=>?_,fun i j u v x p D O a6=>?_,fun i v p d6=>?_,?_,?_,fun i e' v p V z=>?_⟩
  ·rw [a8,Z6l H,Z6l W,f.len]
  ·rw [b3] at p
   rw [n] at z
   by_cases h:i=Q0G y gs
   ·rw [if_pos h] at p z
    cases p;cases z
    rw [f2];exact c0 _ d5
   ·rw [if_neg h] at p z
    exact (f.rows i e' v p z).mono d0 fun x hx=>I.block x (Y x ((Q0I f.one).2 (.inr ⟨v,List.mem_of_getElem? z,hx⟩))) (a7 i v h z x hx)
  ·rw [n] at p D
   by_cases h:i=Q0G y gs <;> by_cases h' : j=Q0G y gs
   ·rw [h,h']
   ·rw [if_pos h] at p;rw [if_neg h'] at D
    cases p
    exfalso
    rcases a1 x O with h5|h5
    ·exact a7 j v h' D x a6 h5
    ·have:=Y x ((Q0I f.one).2 (.inr ⟨v,List.mem_of_getElem? D,a6⟩));omega
   ·rw [if_neg h] at p;rw [if_pos h'] at D
    cases D
    exfalso
    rcases a1 x a6 with h5|h5
    ·exact a7 i u h p x O h5
    ·have:=Y x ((Q0I f.one).2 (.inr ⟨u,List.mem_of_getElem? p,O⟩));omega
   ·rw [if_neg h] at p;rw [if_neg h'] at D
    exact f.apart i j u v x p D O a6
  ·rw [n] at p
   by_cases h:i=Q0G y gs
   ·rw [if_pos h] at p
    cases p
    rcases a1 b d6 with h5|h5
    ·exact b4 h5
    ·have:=G4 f.heap;omega
   ·rw [if_neg h] at p
    exact f.off i v p d6
  ·rw [a8,Z6l H];split <;> omega
  ·rw [a8,Z6l H]
   split
   ·exact .inl e9
   ·exact .inr ⟨by omega,by omega⟩
  ·rw [b3] at V
   rw [n] at z;have a5:i<gs.length:=by omega
   have c8:i<N.length:=by rw [f.len];exact a5
   obtain ⟨bo,c5⟩:=e1 i gs[i] N[i] (List.getElem?_eq_getElem a5) (List.getElem?_eq_getElem c8)
   by_cases h:i=Q0G y gs
   ·rw [if_pos h] at V
    cases V
    refine ⟨N[i],bo,?_,fun hh=>absurd h hh⟩;rw [c5]
    have:gs[i].1=q.1:=by
     rcases Q7p y gs with ⟨b1,q',a2,e3⟩|⟨hl,_⟩
     ·have h6:gs[i]?=some q':=by rw [h];exact a2
      rw [List.getElem?_eq_getElem a5] at h6;cases h6
      rw [e3,f7]
     ·omega
    rw [this]
   ·rw [if_neg h] at V z
    rw [List.getElem?_eq_getElem a5] at V;rw [List.getElem?_eq_getElem c8] at z
    cases V;cases z
    exact ⟨_,bo,c5,fun _=>rfl⟩
 refine ⟨v',.agg (Q5u b rs'),w',.inl d4,A.stepG (Y9 ops.toList k).dst (fun x hx=>by rw [h3] at hx;cases hx;exact d9) r v' (.agg (Q5u b rs')) w' (fun x=>x ∈ Y8 v1) I ?_ ?_ (fun k o hh=>by cases hh) ?_⟩
 ·intro x hx
  exact ⟨⟨g,.inl (by simp [r]),by rw [F];simp,by rw [hg];exact J x hx⟩,b8 x (J x hx)⟩
 ·intro o' dd e6 d7
  rw [h3] at d7;cases d7
  have f9:o'=.exr [base] (Q8z (Go.Ab.gApp y m gs) (some (Q0G y gs))):=by simpa [r] using e6.symm
  subst f9;refine ⟨b7,rfl,fun j D=>?_,?_,fun x hx=>?_⟩
  ·exact (A.sr g _ F).2 j D
  ·have g0:base≠d:=fun h=>b7 (h ▸ (A.sr g _ F).2 base (by simp [Obj.refs]))
   refine .exr _ _ _ ⟨b,rs',b0,a0,?_,rfl,d8⟩ (Y0D _) fun x hx=>d8.lt hx
   simp [U,g0,hb]
  ·rcases c7 x hx with h|h
   ·exact .inl h
   ·exact .inr ⟨⟨g,by simp [r],by rw [F];simp,by rw [hg];exact h⟩,b8 x h⟩
 ·intro _
  refine ⟨.v _ _ (.c _ _ (.cp _ _ _ (Q5u b rs') (by rw [U,if_pos rfl]) ?_ T.choose_spec.choose_spec.choose_spec.2.2)),fun j D=>?_⟩
  ·rw [Z6y]
   have b1 : Q0G y gs<rs'.length:=by
    have:=n (Q0G y gs)
    rw [if_pos rfl] at this;exact (List.getElem?_eq_some_iff.1 this).1
   rw [List.getElem?_append_left b1,n,if_pos rfl]
  ·simp [r,AVal.refs,TV.refs,CV.refs] at D
   subst D;exact .inr ⟨by simp [r],h3⟩
theorem W0X {gs:List (Int×List α)} {base g j:Nat} {t kT eT:TypeId} {m x v:Operand} {y:Int} {q:Int×List α} (ht:P.underlying t=some (.map kT eT)) (hkT:P.underlying kT=some (.int .i64))
  (hk:Q2c ds k=xE [] { upd:=some (g,.exr [base] (Q8z gs none)) }) (hop:(Y9 ops.toList k).op=.mapUpdate t m x v) (hdo:(gOk ops nt (V2 L ops ops.toList ds e s k) (Y9 ops.toList k)&&(Y9 ops.toList k).dst.isNone)=true)
  (hm:aev (V2 L ops ops.toList ds e s k) m=.v (.c (.own base))) (hx:aev (V2 L ops ops.toList ds e s k) x=vi y) (hv:aev (V2 L ops ops.toList ds e s k) v=.v (.c (.cp g (1+j))))
  (hs:Q2k L ops ops.toList ds e s k g=some (.exr [base] (Q8z gs (some j)))) (hq:gs[j]?=some q) (hqy:q.1=y):KAt P C nt L ops ds e s k:=by
 unfold KAt;rw [hk]
 simp only [gOk,Bool.and_eq_true,beq_iff_eq] at hdo;obtain ⟨⟨h1,h2⟩,h3⟩:=hdo
 refine Y2d [] h1 h2 fun R η e0 s0 a w he d4 e7 hn H=>Snd.g ?_
 have om:m ∈ (Y9 ops.toList k).op.operands.toList:=by rw [hop];simp [Op.operands]
 have ox:x ∈ (Y9 ops.toList k).op.operands.toList:=by rw [hop];simp [Op.operands]
 have ov:v ∈ (Y9 ops.toList k).op.operands.toList:=by rw [hop];simp [Op.operands]
 have em:=(W5 H m).1;rw [he m om,hm] at em
 have em:=Q6R em;have ex:=(W5 H x).1
 rw [he x ox,hx] at ex;have ex:=Y9o ex
 have G:s0 g=some (.exr [base] (Q8z gs (some j))):=(d4 v ov g (by rw [hv];simp [AVal.refs,TV.refs,CV.refs])).trans hs;obtain ⟨b,V,l,d1,hb,hg,A⟩:=Y1L H G
 rw [hb] at em;have ev:=(W5 H v).1
 rw [he v ov,hv] at ev;have c2:j<V.length:=by rw [A.len];exact (List.getElem?_eq_some_iff.1 hq).1
 have O:V[j]?=some (a.eval v):=by
  generalize a.eval v=v1 at ev
  cases ev with|v _ _ I=>cases I with|c _ _ I=>cases I with|cp _ _ _ vs q1 q2 _=>
  rw [hg] at q1;cases q1
  rw [Z6y,List.getElem?_append_left c2] at q2;exact q2
 generalize hve:a.eval v=v1 at O;obtain ⟨d9,U,F⟩:=A.ents
 have a7:∀ (i:Nat) (z:MapEntry),l[i]?=some z->∃ J u,gs[i]?=some J /\ V[i]?=some u/\z.key=.int .i64 J.1/\(i≠j->z.val=u):=fun i z Z=>by
  have T:i<l.size:=(Array.getElem?_eq_some_iff.1 Z).1;have a4:i<gs.length:=by omega
  have b6:i<V.length:=by rw [A.len];exact a4
  obtain ⟨u,W,n,M⟩:=F i gs[i] V[i] T (List.getElem?_eq_getElem a4) (List.getElem?_eq_getElem b6);rw [Z] at n
  cases n
  exact ⟨gs[i],V[i],List.getElem?_eq_getElem a4,List.getElem?_eq_getElem b6,rfl,M⟩
 have c4:∀ z ∈ l.toList,IsKey (.int .i64) z.key:=fun z Z=>by
  obtain ⟨i,T,rfl⟩:=List.getElem_of_mem Z;obtain ⟨J,_,_,_,d0,_⟩:=a7 i l[i] (Array.getElem?_eq_getElem (by simpa using T))
  simp only [Array.getElem_toList];rw [d0];rfl
 have e6:b<w.heap.size:=G4 A.heap;have b2:∃ (B : Array MapEntry) (f : Nat),(execOp a.eval (Y9 ops.toList k)).run P w=.ok .skip { w with heap:=w.heap.setIfInBounds b (.map B f) } /\ Stamped B f /\ B.size=gs.length/\∀ (i:Nat) (J : Int×List α) (u:Value),gs[i]?=some J -> V[i]?=some u->∃ W,B[i]?=some ⟨.int .i64 J.1,u,W⟩:=by
  rcases findNow_spec (d:=.int .i64) (k:=.int .i64 y) rfl l.toList 0 c4 with ⟨f1,f2⟩|⟨i,z,f1,f2,f3⟩
  ·refine ⟨_,_,?_,stamped_push (val:=v1) A.st f2,?_,fun i J u D hu=>?_⟩
   ·simp [execOp,hop,em,ex,hve,Instr.mapUpdate,run_underlying ht,MapKept.run_getObj_map A.heap,MapKept.run_checkKey hkT (k:=.int .i64 y) (d:=.int .i64) rfl,MapKept.run_findKey hkT f1,MapKept.run_setObj_map _ A.heap]
   ·rw [Array.size_push]
    rcases U with h|⟨h,_⟩
    ·exfalso
     obtain ⟨u,W,n,_⟩:=F j q v1 (by omega) hq O;exact f2 _ (by have:=Array.mem_of_getElem? n;simpa using this) (by rw [hqy])
    ·exact h
   ·rcases U with h|⟨h,hj⟩
    ·exfalso
     obtain ⟨u,W,n,_⟩:=F j q v1 (by omega) hq O;exact f2 _ (by have:=Array.mem_of_getElem? n;simpa using this) (by rw [hqy])
    ·rw [Array.getElem?_push]
     by_cases T:i=l.size
     ·rw [if_pos T]
      have a1:i=j:=by omega
      subst a1;rw [hq] at D;rw [O] at hu
      cases D;cases hu
      exact ⟨_,by rw [hqy]⟩
     ·rw [if_neg T]
      have c9:i<gs.length:=(List.getElem?_eq_some_iff.1 D).1;obtain ⟨u',W,n,M⟩:=F i J u (by omega) D hu
      rw [M (by omega)] at n;exact ⟨W,n⟩
  ·have fz:l[i]?=some z:=by simpa using f2
   obtain ⟨J,u,D,hu,b0,e9⟩:=a7 i z fz;have c8:J.1=y:=by rw [f3] at b0;cases b0;rfl
   have a1:i=j:=Y0r A.nd D hq (by rw [c8,hqy]);subst a1
   refine ⟨_,_,?_,stamped_modify A.st i (fun e=> { e with key:=.int .i64 y,val:=v1 }) (fun _ _=>rfl) (fun b1 _ p=>?_),?_,fun i' b1 u' p a2=>?_⟩
   ·simp [execOp,hop,em,ex,hve,Instr.mapUpdate,run_underlying ht,MapKept.run_getObj_map A.heap,MapKept.run_checkKey hkT (k:=.int .i64 y) (d:=.int .i64) rfl,MapKept.run_findKey hkT f1,fz,f3,MapKept.run_keyThatStays (d:=.int .i64) (k:=.int .i64 y) rfl,MapKept.run_setObj_map _ A.heap]
   ·rw [fz] at p;cases p;exact f3.symm
   ·rw [Array.size_modify]
    rcases U with h|⟨h,hj⟩
    ·exact h
    ·have:i<l.size:=(Array.getElem?_eq_some_iff.1 fz).1
     omega
   ·rw [Array.getElem?_modify]
    by_cases T:i=i'
    ·subst T
     rw [if_pos rfl,fz];rw [hq] at p;rw [O] at a2
     cases p;cases a2
     exact ⟨z.born,by rw [hqy];rfl⟩
    ·rw [if_neg T]
     have c9:i' < gs.length:=(List.getElem?_eq_some_iff.1 p).1;have e1:i<l.size:=(Array.getElem?_eq_some_iff.1 fz).1
     obtain ⟨e2,W,n,M⟩:=F i' b1 u' (by rcases U with h|⟨h,hj⟩ <;> omega) p a2;rw [M (fun h=>T h.symm)] at n
     exact ⟨W,n⟩
 obtain ⟨B,f,b7,b5,b4,a3⟩:=b2;have Y:Stp (fun x=>x=b) w { w with heap:=w.heap.setIfInBounds b (.map B f) } :=
  ⟨rfl,rfl,rfl,by simp,fun x _ hx=>(heap_set A.heap).2 x hx,Nat.le_refl _⟩
 have N:b ∈ Y8 (η g):=by rw [hg];exact (Q0I A.one).2 (.inl rfl)
 have hd:(Y9 ops.toList k).dst=none:=by simpa using h3
 let r:SR:= { upd:=some (g,.exr [base] (Q8z gs none)) }
 have a9:=Q5N (C:=C) (s:=s0) (η:=η) r (Y9 ops.toList k).dst undef (fun x=>x=b) Y (fun x hx=>by subst hx;exact ⟨g,_,G,N⟩) (fun _ _ I=>by cases I) (fun k o I=>by cases I;rw [G];simp);have b9:r.eta (Y9 ops.toList k).dst undef η=η:=by funext i;simp [SR.eta,r]
 refine ⟨undef,_,.inr ⟨b7,rfl⟩,H.step (Y9 ops.toList k).dst (fun x hx=>by rw [hd] at hx;cases hx) r undef _ (fun x=>x=b) Y (fun x hx=>?_) (fun _ _ I=>by cases I) (fun k' o' I=>?_) (fun I=>absurd hd I)⟩
 ·subst hx
  refine ⟨⟨g,.inr ⟨_,rfl⟩,by rw [G];simp,N⟩,?_⟩;rcases H.ow g _ x G N with ⟨h,_⟩|h
  ·cases h
  ·exact h
 ·cases I
  refine ⟨⟨_,G,rfl⟩,rfl,by simp [r],fun j hj=>(H.sr g _ G).2 j hj,?_⟩;rw [b9] at a9 ⊢
  rw [hg];have b8:GrpAt gs none { w with heap:=w.heap.setIfInBounds b (.map B f) } (XS C (r.sto (Y9 ops.toList k).dst s0) η) b V B f :=
   ⟨(heap_set A.heap).1,b5,A.len,A.nd,fun i J u D hu=>(A.rows i J u D hu).mono a9 fun z Z=>(heap_set A.heap).2 z (fun h=>by subst h;exact A.off i u hu Z),A.apart,A.off,b4,a3⟩
  exact .exr _ _ _ ⟨b,V,B,f,by simp [hb],rfl,b8⟩ (Y0D _) fun z Z=>b8.lt Z
end
section
variable {P:Program} {C:Ctx} {nt:Nat} {L:Lay} {pins:List Nat} {K:Act->World->Prop} {α:Type} [Emb α]
theorem W0V (Fm:Fr P L C pins) {E:List (Nat×AVal)} {S0:List (Nat×Obj)} {id k:Nat} {o o' : Obj} (hp:pins.contains k=false)
  (hfr:((E.flatMap fun p=>p.2.refs)++(((id,o)::S0).flatMap fun p=>p.1::p.2.refs)).contains k=false) (hid:(S0.map (·.1)).contains id=false) (hro:o.ro=false) (hro' : o'.ro=false) (hrf:∀ j ∈ o'.refs,j=id\/j ∈ o.refs)
  (hu:∀ R η a w,Conc C nt R η (lk E) (ls ((id,o)::S0)) a w->∃ u,(∀ b ∈ Y8 u,b ∈ Y8 (η id))/\∀ X' η',Q7i w w (XS C (ls ((id,o)::S0)) η) X' -> (∀ i,i≠k->η' i=η i)->ORep w X' η' C u o')
  (hk:Kn C nt E ((k,o')::S0) K):Kn C nt E ((id,o)::S0) K:=by
 intro R η a w l;have g:ls ((id,o)::S0) id=some o:=by rw [U8,if_pos rfl]
 obtain ⟨u,r,G⟩:=hu R η a w l;have T:C.pin k=none:=by
  rcases hq:C.pin k with _|u
  ·rfl
  ·have:=Fm.pin k (by rw [hq];simp)
   rw [List.contains_iff_mem.2 this] at hp;cases hp
 have A:∀ i ∈ (E.flatMap fun p=>p.2.refs)++(((id,o)::S0).flatMap fun p=>p.1::p.2.refs),i≠k:=by
  intro i d M;subst M
  rw [List.contains_iff_mem.2 d] at hfr;cases hfr
 have a4:id≠k:=A id (by simp);have a6:∀ j ∈ o.refs,j≠k:=fun j q=>A j (by simp [q])
 have m:∀ i o',ls S0 i=some o' -> i≠k/\i≠id/\(∀ j ∈ o'.refs,j≠k)/\ls ((id,o)::S0) i=some o':=by
  intro i o' d;have hm:=U6 d
  have I:i≠id:=by
   intro M;subst M
   have:i ∈ S0.map (·.1):=List.mem_map.2 ⟨_,hm,rfl⟩
   rw [List.contains_iff_mem.2 this] at hid;cases hid
  refine ⟨A i (List.mem_append.2 (.inr (List.mem_flatMap.2 ⟨_,List.mem_cons_of_mem _ hm,by simp⟩))),I,fun j q=>A j (List.mem_append.2 (.inr (List.mem_flatMap.2 ⟨_,List.mem_cons_of_mem _ hm,by simp [q]⟩))),?_⟩;rw [U8,if_neg I];exact d
 have Y:∀ u i,i ∈ (lk E u).refs->i≠k:=by
  intro u i d;rcases Y0t (E:=E) (t:=u) with Z|Z
  ·rw [Z] at d;cases d
  ·exact A i (List.mem_append.2 (.inl (List.mem_flatMap.2 ⟨_,Z,d⟩)))
 let η' : Nat->Value:=fun i=>if i=k then u else η i
 have f : ∀ i,i≠k->η' i=η i:=fun i d=>by show (if i=k then u else η i)=_;rw [if_neg d]
 have B:η' k=u:=by show (if k=k then u else η k)=_;rw [if_pos rfl]
 have J:∀ b,Own (ls ((k,o')::S0)) η' b->Own (ls ((id,o)::S0)) η b:=by
  rintro b ⟨i,n,d,D⟩;rw [U8] at d
  by_cases c:i=k
  ·subst c
   rw [B] at D;exact ⟨id,_,g,r b D⟩
  ·rw [if_neg c] at d
   rw [f i c] at D;exact ⟨i,n,(m i n d).2.2.2,D⟩
 have hX:Q7i w w (XS C (ls ((id,o)::S0)) η) (XS C (ls ((k,o')::S0)) η'):=by
  intro b N hn;refine ⟨rfl,fun O=>?_⟩
  rcases O with O|O
  ·exact hn (.inl O)
  ·exact hn (.inr (J b O))
 refine hk (fun i=>R i\/i=k) η' a w ⟨l.ok,l.df,l.sz,fun t=>?_,fun t i d=>.inl (l.er t i d),fun i n d=>?_,fun i n d=>?_,fun i j b d q z x=>?_,fun i n b d N=>?_,l.fr,fun i v d=>?_⟩
 ·exact (l.ev t).mono hX fun i d=>f i (Y t i d)
 ·rw [U8] at d
  by_cases c:i=k
  ·subst c
   rw [if_pos rfl] at d;cases d
   rw [B];exact G _ _ hX f
  ·rw [if_neg c] at d
   obtain ⟨F,V,W,H⟩:=m i n d;rw [f i c]
   exact (l.st i n H).mono hX (fun j q=>f j (W j q)) fun _ _=>rfl
 ·rw [U8] at d
  by_cases c:i=k
  ·subst c
   rw [if_pos rfl] at d;cases d
   refine ⟨.inr rfl,fun j q=>.inl ?_⟩;rcases hrf j q with rfl|h
   ·exact (l.sr j _ g).1
   ·exact (l.sr id _ g).2 j h
  ·rw [if_neg c] at d
   obtain ⟨F,V,W,H⟩:=m i n d;have:=l.sr i n H
   exact ⟨.inl this.1,fun j q=>.inl (this.2 j q)⟩
 ·rw [U8] at d q
  by_cases c:i=k <;> by_cases hjk:j=k
  ·rw [c,hjk]
  ·exfalso
   rw [if_neg hjk] at q;obtain ⟨oj,U⟩:=Option.ne_none_iff_exists'.1 q
   obtain ⟨F,V,W,H⟩:=m j oj U;rw [c,B] at z
   rw [f j hjk] at x;exact V (l.ds j id b (by rw [H];simp) (by rw [g];simp) x (r b z))
  ·exfalso
   rw [if_neg c] at d;obtain ⟨n,U⟩:=Option.ne_none_iff_exists'.1 d
   obtain ⟨F,V,W,H⟩:=m i n U;rw [hjk,B] at x
   rw [f i c] at z;exact V (l.ds i id b (by rw [H];simp) (by rw [g];simp) z (r b x))
  ·rw [if_neg c] at d
   rw [if_neg hjk] at q;obtain ⟨n,U⟩:=Option.ne_none_iff_exists'.1 d
   obtain ⟨oj,a1⟩:=Option.ne_none_iff_exists'.1 q;rw [f i c] at z
   rw [f j hjk] at x;exact l.ds i j b (by rw [(m i n U).2.2.2];simp) (by rw [(m j oj a1).2.2.2];simp) z x
 ·rw [U8] at d
  by_cases c:i=k
  ·subst c
   rw [if_pos rfl] at d;cases d
   rw [B] at N;rcases l.ow id _ b g (r b N) with ⟨F,_⟩|F
   ·rw [hro] at F;cases F
   ·exact .inr F
  ·rw [if_neg c] at d
   rw [f i c] at N;exact l.ow i n b (m i n d).2.2.2 N
 ·have c:i≠k:=by intro M;subst M;rw [T] at d;cases d
  have:=l.pn i v d
  exact ⟨(f i c).trans this.1,.inl this.2⟩
theorem W2k (Fm:Fr P L C pins) (α:Type) [Emb α] {E:List (Nat×AVal)} {S0:List (Nat×Obj)} {d g:Nat} {kT eT:TypeId} (hp:pins.contains g=false)
  (hfr:((E.flatMap fun p=>p.2.refs)++(((d,Obj.ext (Y3E P kT eT []))::S0).flatMap fun p=>p.1::p.2.refs)).contains g=false) (hd:(S0.map (·.1)).contains d=false)
  (hk:Kn C nt E ((g,.exr [d] (Q8z ([]:List (Int×List α)) none))::S0) K):Kn C nt E ((d,.ext (Y3E P kT eT []))::S0) K:=by
 refine W0V Fm hp hfr hd rfl rfl (fun j F=>.inl (by simpa [Obj.refs] using F)) (fun R η a w B=>?_) hk;have f:=B.st d _ (show ls ((d,.ext (Y3E P kT eT []))::S0) d=some (.ext (Y3E P kT eT [])) by rw [U8,if_pos rfl])
 generalize hη:η d=u at f
 cases f with
 | ext _ _ hp' _ hlt=>
  obtain ⟨b,rfl,A,c,G,I,D,_⟩:=hp';have t:A=#[]:=Array.eq_empty_of_size_eq_zero (by simpa using D)
  subst t;refine ⟨.agg (Q5u b []),fun x q=>?_,fun X' η' H m=>?_⟩
  ·have:=(Q0I (rs:=[]) (fun v r=>by cases r)).1 q
   rcases this with rfl|⟨v,r,_⟩
   ·simp [Y8]
   ·cases r
  ·have n:d≠g:=fun h=>by
    subst h;have:((E.flatMap fun p=>p.2.refs)++(((d,Obj.ext (Y3E P kT eT []))::S0).flatMap fun p=>p.1::p.2.refs)).contains d=true:=by simp
    rw [this] at hfr;cases hfr
   have z:GrpAt ([]:List (Int×List α)) none w X' b [] #[] c:=⟨G,⟨by simp,by simp,by simp⟩,rfl,by simp,fun i e v o=>by simp at o,fun i j u v x l=>by simp at l,fun i v l=>by simp at l,rfl,fun i e v o=>by simp at o⟩;exact .exr _ _ _ ⟨b,[], #[],c,by simp [m d n,hη],rfl,z⟩ (Y0D _) fun x q=>z.lt q
theorem W3c {E0:List (Nat×AVal)} {S0:List (Nat×Obj)} {t d g:Nat} {gs:List (Int×List α)} (hid:(S0.map (·.1)).contains g=false)
  (hk:Kn C nt ((t,.v (.c (.d (MP gs))))::E0) S0 K):Kn C nt ((t,.v (.c (.own d)))::E0) ((g,.exr [d] (Q8z gs none))::S0) K:=by
 intro R η a w m;have D:ls ((g,.exr [d] (Q8z gs none))::S0) g=some (.exr [d] (Q8z gs none)):=by rw [U8,if_pos rfl]
 have p:∀ i o,ls S0 i=some o->i≠g/\ls ((g,.exr [d] (Q8z gs none))::S0) i=some o:=by
  intro i o h;have q:i≠g:=by
   intro he;subst he
   have:i ∈ S0.map (·.1):=List.mem_map.2 ⟨_,U6 h,rfl⟩
   rw [List.contains_iff_mem.2 this] at hid;cases hid
  exact ⟨q,by rw [U8,if_neg q];exact h⟩
 obtain ⟨b,z,N,G,hb,hg,B⟩:=Y1L m D;have T:∀ x,XS C (ls S0) η x->XS C (ls ((g,.exr [d] (Q8z gs none))::S0)) η x:=fun x A=>by
  rcases A with A|⟨i,o,h,F⟩
  ·exact .inl A
  ·exact .inr ⟨i,o,(p i o h).2,F⟩
 have hX:Q7i w w (XS C (ls ((g,.exr [d] (Q8z gs none))::S0)) η) (XS C (ls S0) η):=fun x _ V=>⟨rfl,fun A=>V (T x A)⟩
 have U:∀ x ∈ Y8 (η g),¬ XS C (ls S0) η x:=fun x A Z=>by
  rcases Z with ⟨a2,Y⟩|⟨i,o,h,F⟩
  ·rcases m.ow g _ x D A with ⟨J,_⟩|J|J
   ·cases J
   ·exact Y (m.ok.md x J)
   ·have:=m.ok.lt x a2;omega
  ·exact (p i o h).1 (m.ds i g x (by rw [(p i o h).2];simp) (by rw [D];simp) F A)
 obtain ⟨a1,O⟩:=B.ents;have hD:DRep w (XS C (ls S0) η) (.map (some b)) (MP gs):=by
  refine .mp b N G gs.length _ (fun i=>z.getD i undef) _ (U b (by rw [hg];exact (Q0I B.one).2 (.inl rfl))) B.heap B.st a1 (fun i h=>?_) fun i h=>?_
  ·have I:i<z.length:=by rw [B.len];exact h
   obtain ⟨bo,W⟩:=O i gs[i] z[i] (List.getElem?_eq_getElem h) (List.getElem?_eq_getElem I);exact ⟨bo,by rw [W];simp [List.getD_eq_getElem?_getD,h,I]⟩
  ·have I:i<z.length:=by rw [B.len];exact h
   have e1:z.getD i undef=z[i]:=by simp [List.getD_eq_getElem?_getD,I]
   have e2:gs.getD i (0,[])=gs[i]:=by simp [List.getD_eq_getElem?_getD,h]
   simp only [e1,e2];have l:=B.rows i gs[i] z[i] (List.getElem?_eq_getElem h) (List.getElem?_eq_getElem I) η C
   have M:∀ x ∈ Y8 z[i],¬ XS C (ls S0) η x:=fun x A=>U x (by rw [hg];exact (Q0I B.one).2 (.inr ⟨z[i],List.getElem_mem I,A⟩))
   unfold AO at l;unfold DL
   generalize gs[i].2.length=n at l ⊢;generalize LF gs[i].2=f at l ⊢
   generalize z[i]=v at l M ⊢
   cases l with
   | nil ad es f=>exact .nil ad 0 f
   | arr b n cap es c e f J h2 h3 h4 h5 h6 h7=>
    refine .lst b 0 n cap c e _ f _ (M b (by simp [Y8];omega)) J h3 (by rw [h2,Nat.zero_add];exact Nat.mul_le_mul_right _ h3) h6 fun i j h hj=>?_
    rw [Nat.zero_add];exact (h7 i j h hj).mono hX
 have q:∀ i,ls S0 i≠none->ls ((g,.exr [d] (Q8z gs none))::S0) i≠none:=fun i h V=>by
  obtain ⟨o,ho⟩:=Option.ne_none_iff_exists'.1 h;rw [(p i o ho).2] at V;cases V
 refine hk R η a w ⟨m.ok,m.df,m.sz,fun u=>?_,fun u i h=>?_,fun i o h=>(m.st i o (p i o h).2).mono hX (fun _ _=>rfl) fun _ _=>rfl,fun i o h=>m.sr i o (p i o h).2,fun i j b h hj=>m.ds i j b (q i h) (q j hj),fun i o b h=>m.ow i o b (p i o h).2,m.fr,m.pn⟩
 ·rw [Z9v]
  have r:=m.ev u;rw [Z9v] at r
  by_cases hu:u=t
  ·rw [if_pos hu] at r ⊢
   rw [Q6R r,hb];exact .v _ _ (.c _ _ (.d _ _ hD))
  ·rw [if_neg hu] at r ⊢
   exact r.mono hX fun _ _=>rfl
 ·rw [Z9v] at h
  have H:=m.er u i;rw [Z9v] at H
  by_cases hu:u=t
  ·rw [if_pos hu] at h;cases h
  ·rw [if_neg hu] at h H
   exact H h
end
end
section
def ov:List (Nat×Obj)->List (Nat×Obj)->List (Nat×Obj)
 | [],S=>S
 | _::_,[]=>[]
 | (k,o)::W,(i,x)::S=>match Nat.beq k i with
  | true=>(i,o)::ov W S
  | false=>(i,x)::ov ((k,o)::W) S
def FW:List (Nat×Obj)->List (Nat×Obj)->Prop
 | [],_=>True
 | _::_,[]=>True
 | (k,o)::W,(i,x)::S=>match Nat.beq k i with
  | true=>OLe o x/\FW W S
  | false=>FW ((k,o)::W) S
theorem Y7R:∀ {W S:List (Nat×Obj)},FW W S->FSl (ov W S) S
 | [],S,_=>by cases S <;> exact FSl.refl _
 | _::_,[],_=>True.intro
 | (k,o)::W,(i,x)::S,h=>by
  unfold ov;unfold FW at h
  cases e:Nat.beq k i with
  | true=>rw [e] at h;exact ⟨rfl,h.1,Y7R h.2⟩
  | false=>rw [e] at h;exact ⟨rfl,OLe.refl _,Y7R h⟩
section
variable {P:Program} {C:Ctx} {nt:Nat} {L:Lay} {pins:List Nat} {E:List (Nat×AVal)} {S:List (Nat×Obj)} {Q:Exit->Act->World->Prop}
theorem W1f (Fm:Fr P L C pins) {id:Nat} {ops:Array Oper} {draw:Bool} (ds:List Dir) (c:(Nat->Prop)->Prop) (E' : List (Nat×AVal)) (S' : List (Nat×Obj)) (hc:c (KAt P C nt L ops ds (lk E) (ls S))) (W:List (Nat×Obj)) (hW:FW W S') (k:Kn C nt E' S' (Q .normal))
  (h:(Z7z L pins nt ops draw ds E S [] (ov W S'),Q7r P C nt L ops ops.toList ds (lk E) (ls S),E'.map (fun p=>Z3n ops.toList (Q1k L ops ops.toList ds (lk E) (ls S)) (lk E) p.1),(ov W S').map (fun p=>Z3m (Q1k L ops ops.toList ds (lk E) (ls S)) (ls S) (V3 [] p.1)))
   = (true,c (KAt P C nt L ops ds (lk E) (ls S)),E'.map (fun p=>p.2.ren (V3 [])),(ov W S').map (fun p=>some (p.2.ren (V3 [])))):=by kernel_rfl):AW P C nt (.region id ops draw) E S Q:=
 AW.g Fm ds c E' (ov W S') hc h (Q4X E' S' (FE.refl _) (Y7R hW) k)
theorem W2C (Fm:Fr P L C pins) {id:Nat} {ops:Array Oper} {draw:Bool} {y:Code} (ds:List Dir) (c:(Nat->Prop)->Prop) (E' : List (Nat×AVal)) (S' : List (Nat×Obj)) (hc:c (KAt P C nt L ops ds (lk E) (ls S))) (W:List (Nat×Obj)) (hW:FW W S') (k:AW P C nt y E' S' Q)
  (h:(Z7z L pins nt ops draw ds E S [] (ov W S'),Q7r P C nt L ops ops.toList ds (lk E) (ls S),E'.map (fun p=>Z3n ops.toList (Q1k L ops ops.toList ds (lk E) (ls S)) (lk E) p.1),(ov W S').map (fun p=>Z3m (Q1k L ops ops.toList ds (lk E) (ls S)) (ls S) (V3 [] p.1)))
   = (true,c (KAt P C nt L ops ds (lk E) (ls S)),E'.map (fun p=>p.2.ren (V3 [])),(ov W S').map (fun p=>some (p.2.ren (V3 [])))):=by kernel_rfl):AW P C nt (.seq (.region id ops draw) y) E S Q:=
 W1b Fm ds c E' (ov W S') hc h (Q4X E' S' (FE.refl _) (Y7R hW) k)
theorem W1c (Fm:Fr P L C pins) {id:Nat} {ops:Array Oper} {draw:Bool} (ds:List Dir) (E' : List (Nat×AVal)) (S' : List (Nat×Obj)) {q:Prop} (hc:q) (k:Kn C nt E' S' (Q .normal)) (h:(Z7z L pins nt ops draw ds E S [] S',Q7r P C nt L ops ops.toList ds (lk E) (ls S),E'.map (fun p=>Z3n ops.toList (Q1k L ops ops.toList ds (lk E) (ls S)) (lk E) p.1),(S').map (fun p=>Z3m (Q1k L ops ops.toList ds (lk E) (ls S)) (ls S) (V3 [] p.1)))
   = (true,q,E'.map (fun p=>p.2.ren (V3 [])),(S').map (fun p=>some (p.2.ren (V3 [])))):=by kernel_rfl):AW P C nt (.region id ops draw) E S Q:=AW.g Fm ds (fun _=>q) E' S' hc h k
theorem W3z (Fm:Fr P L C pins) {id:Nat} {ops:Array Oper} {draw:Bool} {y:Code} (ds:List Dir) (E' : List (Nat×AVal)) (S' : List (Nat×Obj)) {q:Prop} (hc:q) (k:AW P C nt y E' S' Q) (h:(Z7z L pins nt ops draw ds E S [] S',Q7r P C nt L ops ops.toList ds (lk E) (ls S),E'.map (fun p=>Z3n ops.toList (Q1k L ops ops.toList ds (lk E) (ls S)) (lk E) p.1),(S').map (fun p=>Z3m (Q1k L ops ops.toList ds (lk E) (ls S)) (ls S) (V3 [] p.1)))
   = (true,q,E'.map (fun p=>p.2.ren (V3 [])),(S').map (fun p=>some (p.2.ren (V3 [])))):=by kernel_rfl):AW P C nt (.seq (.region id ops draw) y) E S Q:=W1b Fm ds (fun _=>q) E' S' hc h k
theorem W3x (Fm:Fr P L C pins) {id:Nat} {ops:Array Oper} {draw:Bool} (ds:List Dir) (E' : List (Nat×AVal)) (S' : List (Nat×Obj)) {q:Prop} (hc:q) (W:List (Nat×Obj)) (hW:FW W S') (k:Kn C nt E' S' (Q .normal)) (h:(Z7z L pins nt ops draw ds E S [] (ov W S'),Q7r P C nt L ops ops.toList ds (lk E) (ls S),E'.map (fun p=>Z3n ops.toList (Q1k L ops ops.toList ds (lk E) (ls S)) (lk E) p.1),((ov W S')).map (fun p=>Z3m (Q1k L ops ops.toList ds (lk E) (ls S)) (ls S) (V3 [] p.1)))
   = (true,q,E'.map (fun p=>p.2.ren (V3 [])),((ov W S')).map (fun p=>some (p.2.ren (V3 [])))):=by kernel_rfl):AW P C nt (.region id ops draw) E S Q:=W1f Fm ds (fun _=>q) E' S' hc W hW k h
theorem W3y (Fm:Fr P L C pins) {id:Nat} {ops:Array Oper} {draw:Bool} {y:Code} (ds:List Dir) (E' : List (Nat×AVal)) (S' : List (Nat×Obj)) {q:Prop} (hc:q) (W:List (Nat×Obj)) (hW:FW W S') (k:AW P C nt y E' S' Q) (h:(Z7z L pins nt ops draw ds E S [] (ov W S'),Q7r P C nt L ops ops.toList ds (lk E) (ls S),E'.map (fun p=>Z3n ops.toList (Q1k L ops ops.toList ds (lk E) (ls S)) (lk E) p.1),((ov W S')).map (fun p=>Z3m (Q1k L ops ops.toList ds (lk E) (ls S)) (ls S) (V3 [] p.1)))
   = (true,q,E'.map (fun p=>p.2.ren (V3 [])),((ov W S')).map (fun p=>some (p.2.ren (V3 [])))):=by kernel_rfl):AW P C nt (.seq (.region id ops draw) y) E S Q:=W2C Fm ds (fun _=>q) E' S' hc W hW k h
theorem cT {p:Prop} (h:p):p/\True:=⟨h,True.intro⟩
theorem cA {p q:Prop} (h:p) (k:q):p/\q:=⟨h,k⟩
@[reducible] def lI {α:Type} (l:List α):Int:=((l.length:Nat):Int)
theorem Q2 {t:Nat} {x y:Code} {b:Bool} {R:Type} {u v:Option R} {r:R} (h:br b u v=some r) (ht:b=true->u=some r->AW P C nt x E S Q) (hf:b=false->v=some r->AW P C nt y E S Q) (hb:lk E t=vb b:=by kernel_rfl):AW P C nt (.cond (.tmp t) x y) E S Q:=
 AW.cond hb (fun q=>ht q (W3E h q)) (fun q=>hf q (W3F h q))
theorem W3r {b:Bool} {R:Type} {u v:Option R} {r:R} (h:br b u v=some r):(b=true/\u=some r)\/(b=false/\v=some r):=by
 cases b
 ·exact .inr ⟨rfl,h⟩
 ·exact .inl ⟨rfl,h⟩
theorem gS {R:Type} {p:Prop} [Decidable p] {x:Option R} {r:R} (h:gd p x=some r):p/\x=some r:=Y7Z h
theorem bS {α R:Type} {x:Option α} {f:α->Option R} {r:R} (h:x.bind f=some r):∃ z,x=some z/\f z=some r:=W2h h
theorem FI {f:Nat} {fn:Func} {c:Code} (hf:P.funcs[f]?=some fn) (hm:P.follows .mixedOrders=true) (hL:LOk P L) {args:List AVal} {S:List (Nat×Obj)} {r:AVal} {S' : List (Nat×Obj)}
  (h:∀ C,Fr P L C (S.map (·.1))->AW P C fn.ntmps c (Y6t args) S (Y5F P fn C r S')) (hb:fn.body=some c:=by rfl) (hn0:Nat.ble args.length fn.ntmps=true:=by kernel_rfl):Q6 P f args S r S':=Q6.intro hm hL hf hb hn0 h
end
end
section
section
variable {P:Program} {C:Ctx} {nt:Nat} {L:Lay} {ops:Array Oper} {ds:List Dir} {e:Env} {s:Sto} {k:Nat}
end
end
section
open Go.MapKept
section
variable {P:Program} {C:Ctx} {nt:Nat} {L:Lay} {R:Nat->Prop} {η:Nat->Value} {e:Env} {s:Sto} {a:Act} {w:World}
variable {ops:Array Oper} {ds:List Dir} {k:Nat}
end
section
variable {P:Program} {C:Ctx} {nt:Nat} {L:Lay} {pins:List Nat} {E:List (Nat×AVal)} {S:List (Nat×Obj)} {Q:Exit->Act->World->Prop}
end
end
section
open Go.MapKept
section
variable {P:Program} {C:Ctx} {nt:Nat} {L:Lay} {ops:Array Oper} {ds:List Dir} {e:Env} {s:Sto} {k:Nat}
end
section
variable {P:Program} {C:Ctx} {nt:Nat} {K:Act->World->Prop}
end
end
section
section
variable {P:Program} {C:Ctx} {nt:Nat} {L:Lay} {ops:Array Oper} {ds:List Dir} {e:Env} {s:Sto} {k:Nat}
end
end
section
section
variable {P:Program} {C:Ctx} {nt:Nat} {L:Lay} {ops:Array Oper} {ds:List Dir} {e:Env} {s:Sto}
end
end
section
def bOf (m:Int):ByteArray:=ByteArray.empty.push (UInt8.ofNat m.toNat)
section
variable {P:Program} {C:Ctx} {nt:Nat} {L:Lay} {ops:Array Oper} {ds:List Dir} {e:Env} {s:Sto}
theorem Z9Q {k:Nat} {t t' : TypeId} {x y:Operand} {a b:ByteArray} (hk:Q2c ds k=sE (.v (.c (.d (.str (a++b)))))) (hop:(Y9 ops.toList k).op=.binOp .add t x y t') (hb:Y2I ops nt (V2 L ops ops.toList ds e s k) (Y9 ops.toList k) x y=true)
  (hx:aev (V2 L ops ops.toList ds e s k) x=.v (.c (.d (.str a)))) (hy:aev (V2 L ops ops.toList ds e s k) y=.v (.c (.d (.str b)))) (hc:a.size+b.size<=LIM):KAt P C nt L ops ds e s k:=by
 unfold KAt;rw [hk]
 simp only [Y2I,Bool.and_eq_true,beq_iff_eq] at hb;obtain ⟨⟨⟨o,l⟩,m⟩,q⟩:=hb
 refine Z1B rfl m q fun R η r z u w g f=>?_
 have h:=(W5 f x).1;rw [J4 g o,hx] at h
 have h:=Z4k h;have i:=(W5 f y).1
 rw [J4 g l,hy] at i;have i:=Z4k i
 have j:¬ (((a.size+b.size:Nat):Int) > IntKind.i64.max):=by
  have:IntKind.i64.max=9223372036854775807:=rfl
  rw [this];unfold LIM at hc;omega
 refine ⟨.string (a++b),?_,.v _ _ (.c _ _ (.d _ _ (.str _)))⟩;have p:(eqGuard .add t x y (.string a) (.string b)).run P w=.ok () w:=Z4W _ _ _ _ _ _ _
 have n:(binOp .add t (.string a) (.string b)).run P w=.ok (.string (a++b)) w:=by
  show (Op.stringOp .add a b).run P w=_;simp only [Op.stringOp]
  rw [if_neg j];rfl
 simp only [execOp,hop,Sem.run_bind,h,i,p,n,Result.andThen_ok,Sem.run_pure]
theorem Y1Q {k:Nat} {src dst el:TypeId} (hs:P.underlying src=some (.slice el)) (he:P.underlying el=some (.int .u8)) (hd:P.underlying dst=some .string) {x:Operand} {m:Int} (hk:Q2c ds k=sE (.v (.c (.d (.str (bOf m))))))
  (hop:(Y9 ops.toList k).op=.convert src dst x) (hb:Y2I ops nt (V2 L ops ops.toList ds e s k) (Y9 ops.toList k) x x=true)
  (hx:aev (V2 L ops ops.toList ds e s k) x=.v (.c (.d (.lst 1 (Z0a 1 [.int .u8 m]))))):KAt P C nt L ops ds e s k:=by
 unfold KAt;rw [hk]
 simp only [Y2I,Bool.and_eq_true,beq_iff_eq] at hb;obtain ⟨⟨⟨z,I⟩,F⟩,A⟩:=hb
 refine Z1B rfl F A fun R η p H r w i l=>?_
 have g:=(W5 l x).1;rw [J4 i z,hx] at g
 generalize hu:r.eval x=u at g
 cases g with|v _ _ g=>cases g with|c _ _ g=>cases g with|d _ _ g=>
 cases g with|lst b off n cap c e' fz f es hX hheap hn ho hf hd' =>
 have G:=hf 0 (by omega);have o:es=1:=by rw [<-G];rfl
 subst o;have h:=hd' 0 0 (by omega) (by omega)
 have B:c.getD off undef=.int .u8 m:=by
  have p:off+(0*1+0)=off:=by omega
  rw [p] at h;have q:(Z0a 1 [DVal.int .u8 m] 0).getD 0 .any=.int .u8 m:=rfl
  rw [q] at h;generalize c.getD off undef=u at h ⊢
  cases h;rfl
 have D:=run_loadCells (P:=P) w ⟨b,off,none⟩ 1 (fun j=>c.getD (off+j) undef) (fun j J=>by rw [add_lit];exact Z9L hheap _ (by omega));refine ⟨.string (bOf m),?_,.v _ _ (.c _ _ (.d _ _ (.str _)))⟩
 have t:c[off]?.getD undef=.int .u8 m:=by rw [<-B];simp
 simp [execOp,hop,hu,convert,run_underlying hs,run_underlying hd,run_underlying he,Conv.bytesToString,D,t,bOf]
end
end
section
def eK (ks:List Nat) (E:List (Nat×AVal)) (n:List (Nat×AVal)):List (Nat×AVal):=ks.map (fun t=>(t,lk E t))++n
def sK (ks:List Nat) (S:List (Nat×Obj)) (n:List (Nat×Obj)):List (Nat×Obj):=ks.map (fun i=>(i,(ls S i).getD (.box false [])))++n
section
variable {P:Program} {C:Ctx} {nt:Nat} {L:Lay} {pins:List Nat} {E:List (Nat×AVal)} {S:List (Nat×Obj)} {Q:Exit->Act->World->Prop}
abbrev ckL (P:Program) (C:Ctx) (nt:Nat) (L:Lay) (pins:List Nat) (E:List (Nat×AVal)) (S:List (Nat×Obj)) (ops:Array Oper) (draw:Bool) (ds:List Dir) (E' : List (Nat×AVal)) (S' : List (Nat×Obj)):Bool×Prop×List AVal×List (Option Obj):=
 (Z7z L pins nt ops draw ds E S [] S',Q7r P C nt L ops ops.toList ds (lk E) (ls S),E'.map (fun p=>Z3n ops.toList (Q1k L ops ops.toList ds (lk E) (ls S)) (lk E) p.1),S'.map (fun p=>Z3m (Q1k L ops ops.toList ds (lk E) (ls S)) (ls S) (V3 [] p.1)))
abbrev ckR (q:Prop) (E' : List (Nat×AVal)) (S' : List (Nat×Obj)):Bool×Prop×List AVal×List (Option Obj):=(true,q,E'.map (fun p=>p.2.ren (V3 [])),S'.map (fun p=>some (p.2.ren (V3 []))))
variable {id:Nat} {ops:Array Oper} {draw:Bool} {y:Code}
theorem Q4 (Fm:Fr P L C pins) (ds:List Dir) (c:(Nat->Prop)->Prop) (kE:List Nat) (nE:List (Nat×AVal)) (kS:List Nat) (nS:List (Nat×Obj)) (hc:c (KAt P C nt L ops ds (lk E) (ls S))) (k:Kn C nt (eK kE E nE) (sK kS S nS) (Q .normal))
  (h:ckL P C nt L pins E S ops draw ds (eK kE E nE) (sK kS S nS)=ckR (c (KAt P C nt L ops ds (lk E) (ls S))) (eK kE E nE) (sK kS S nS):=by kernel_rfl):AW P C nt (.region id ops draw) E S Q:=AW.g Fm ds c _ _ hc h k
theorem Q1x (Fm:Fr P L C pins) (ds:List Dir) (c:(Nat->Prop)->Prop) (kE:List Nat) (nE:List (Nat×AVal)) (kS:List Nat) (nS:List (Nat×Obj)) (hc:c (KAt P C nt L ops ds (lk E) (ls S))) (k:AW P C nt y (eK kE E nE) (sK kS S nS) Q)
  (h:ckL P C nt L pins E S ops draw ds (eK kE E nE) (sK kS S nS)=ckR (c (KAt P C nt L ops ds (lk E) (ls S))) (eK kE E nE) (sK kS S nS):=by kernel_rfl):AW P C nt (.seq (.region id ops draw) y) E S Q:=W1b Fm ds c _ _ hc h k
theorem Q6e (Fm:Fr P L C pins) (n:Nat) (kE:List Nat) (nE:List (Nat×AVal)) (kS:List Nat) (nS:List (Nat×Obj)) (k:Kn C nt (eK kE E nE) (sK kS S nS) (Q .normal))
  (h:ckL P C nt L pins E S ops draw (ss n) (eK kE E nE) (sK kS S nS)=ckR True (eK kE E nE) (sK kS S nS):=by kernel_rfl):AW P C nt (.region id ops draw) E S Q:=W2B Fm n _ _ h k
theorem Q0 (Fm:Fr P L C pins) (n:Nat) (kE:List Nat) (nE:List (Nat×AVal)) (kS:List Nat) (nS:List (Nat×Obj)) (k:AW P C nt y (eK kE E nE) (sK kS S nS) Q)
  (h:ckL P C nt L pins E S ops draw (ss n) (eK kE E nE) (sK kS S nS)=ckR True (eK kE E nE) (sK kS S nS):=by kernel_rfl):AW P C nt (.seq (.region id ops draw) y) E S Q:=W1a Fm n _ _ h k
theorem Z2o (Fm:Fr P L C pins) (ds:List Dir) (c:(Nat->Prop)->Prop) (kE:List Nat) (nE:List (Nat×AVal)) (kS:List Nat) (nS:List (Nat×Obj)) (hc:c (KAt P C nt L ops ds (lk E) (ls S))) (W:List (Nat×Obj)) (hW:FW W (sK kS S nS)) (k:Kn C nt (eK kE E nE) (sK kS S nS) (Q .normal))
  (h:ckL P C nt L pins E S ops draw ds (eK kE E nE) (ov W (sK kS S nS))=ckR (c (KAt P C nt L ops ds (lk E) (ls S))) (eK kE E nE) (ov W (sK kS S nS)):=by kernel_rfl):AW P C nt (.region id ops draw) E S Q:=W1f Fm ds c _ _ hc W hW k h
theorem y5 (Fm:Fr P L C pins) (ds:List Dir) (c:(Nat->Prop)->Prop) (kE:List Nat) (nE:List (Nat×AVal)) (kS:List Nat) (nS:List (Nat×Obj)) (hc:c (KAt P C nt L ops ds (lk E) (ls S))) (W:List (Nat×Obj)) (hW:FW W (sK kS S nS)) (k:AW P C nt y (eK kE E nE) (sK kS S nS) Q)
  (h:ckL P C nt L pins E S ops draw ds (eK kE E nE) (ov W (sK kS S nS))=ckR (c (KAt P C nt L ops ds (lk E) (ls S))) (eK kE E nE) (ov W (sK kS S nS)):=by kernel_rfl):AW P C nt (.seq (.region id ops draw) y) E S Q:=W2C Fm ds c _ _ hc W hW k h
theorem J5 (Fm:Fr P L C pins) (ds:List Dir) (kE:List Nat) (nE:List (Nat×AVal)) (kS:List Nat) (nS:List (Nat×Obj)) {q:Prop} (hc:q) (k:Kn C nt (eK kE E nE) (sK kS S nS) (Q .normal))
  (h:ckL P C nt L pins E S ops draw ds (eK kE E nE) (sK kS S nS)=ckR q (eK kE E nE) (sK kS S nS):=by kernel_rfl):AW P C nt (.region id ops draw) E S Q:=W1c Fm ds _ _ hc k h
theorem Z8 (Fm:Fr P L C pins) (ds:List Dir) (kE:List Nat) (nE:List (Nat×AVal)) (kS:List Nat) (nS:List (Nat×Obj)) {q:Prop} (hc:q) (k:AW P C nt y (eK kE E nE) (sK kS S nS) Q)
  (h:ckL P C nt L pins E S ops draw ds (eK kE E nE) (sK kS S nS)=ckR q (eK kE E nE) (sK kS S nS):=by kernel_rfl):AW P C nt (.seq (.region id ops draw) y) E S Q:=W3z Fm ds _ _ hc k h
theorem Q0Z (Fm:Fr P L C pins) (ds:List Dir) (kE:List Nat) (nE:List (Nat×AVal)) (kS:List Nat) (nS:List (Nat×Obj)) {q:Prop} (hc:q) (W:List (Nat×Obj)) (hW:FW W (sK kS S nS)) (k:Kn C nt (eK kE E nE) (sK kS S nS) (Q .normal))
  (h:ckL P C nt L pins E S ops draw ds (eK kE E nE) (ov W (sK kS S nS))=ckR q (eK kE E nE) (ov W (sK kS S nS)):=by kernel_rfl):AW P C nt (.region id ops draw) E S Q:=W3x Fm ds _ _ hc W hW k h
theorem Z0G (Fm:Fr P L C pins) (ds:List Dir) (kE:List Nat) (nE:List (Nat×AVal)) (kS:List Nat) (nS:List (Nat×Obj)) {q:Prop} (hc:q) (W:List (Nat×Obj)) (hW:FW W (sK kS S nS)) (k:AW P C nt y (eK kE E nE) (sK kS S nS) Q)
  (h:ckL P C nt L pins E S ops draw ds (eK kE E nE) (ov W (sK kS S nS))=ckR q (eK kE E nE) (ov W (sK kS S nS)):=by kernel_rfl):AW P C nt (.seq (.region id ops draw) y) E S Q:=W3y Fm ds _ _ hc W hW k h
theorem W3w {x y:Code} (k:AW P C nt y E S Q):AW P C nt (.cond (.const (.bool false)) x y) E S Q:=fun R η a w b=>wp_cond_false rfl (k R η a w b)
end
theorem eI {k:IntKind} {e v:Int} (h:some e=some v):ALe (.v (.c (.d (.int k e)))) (.v (.c (.d (.int k v)))):=by cases h;exact ALe.refl _
section
variable {α:Type} [Emb α]
def rSt (l:List α) (i off:Nat) (ds:List DVal):Obj:=.arr (Emb.es α) l.length fun j=>if j=i then Q4v (LF l i) off ds else LF l j
def rAp (l m:List α):Obj:=.arr (Emb.es α) (l.length+m.length) (Q5z l.length (LF l) (LF m))
def rA0 (m:List α):Obj:=.arr (Emb.es α) (0+m.length) (Q5z 0 (fun _=>[]) (LF m))
theorem oSt {l:List α} {i off:Nat} {ds:List DVal} {y:α} (hi:i<l.length) (hy:Q4v (LF l i) off ds=Emb.cells y:=by kernel_rfl):OLe (rSt l i off ds) (AO (l.set i y)):=OLe.is (Is.set (Is.refl l) hi y hy)
theorem oAp {l m:List α}:OLe (rAp l m) (AO (l++m)):=OLe.is (Is.app (Is.refl l) (Is.refl m))
theorem oA0 {m:List α}:OLe (rA0 m) (AO ([]++m)):=OLe.is (Is.app Is.nil (Is.refl m))
theorem lfl (l:List α):∀ j,j<l.length->(LF l j).length=Emb.es α:=(Is.refl l).len
theorem Q8f (x:α):ALe (.v (.c (.d (.lst 1 (Z0a (Emb.es α) (Emb.cells x)))))) (AL [x]):=ALe.lst (.lit [x] (by
 show [Z0a (Emb.es α) (Emb.cells x) 0]=[Emb.cells x];unfold Z0a
 have:=Emb.len x
 rw [Nat.zero_mul,List.drop_zero,List.take_of_length_le (by omega)]))
end
end
section
section
variable {P:Program} {C:Ctx} {nt:Nat} {L:Lay} {ops:Array Oper} {ds:List Dir} {e:Env} {s:Sto}
theorem W0W {k:Nat} {x y z:Operand} {tys:Array TypeId} {a b c:Int} (hk:Q2c ds k=sE (vi (Q0x (Q0x a b) c))) (hop:(Y9 ops.toList k).op=.call { callee:=.builtin .max,args:= #[x,y,z],argTypes:=tys })
  (hb:Y2I ops nt (V2 L ops ops.toList ds e s k) (Y9 ops.toList k) x y=true) (hb2:Y2I ops nt (V2 L ops ops.toList ds e s k) (Y9 ops.toList k) z z=true)
  (hx:aev (V2 L ops ops.toList ds e s k) x=vi a) (hy:aev (V2 L ops ops.toList ds e s k) y=vi b) (hz:aev (V2 L ops ops.toList ds e s k) z=vi c):KAt P C nt L ops ds e s k:=by
 unfold KAt;rw [hk]
 simp only [Y2I,Bool.and_eq_true,beq_iff_eq] at hb hb2;obtain ⟨⟨⟨n,j⟩,l⟩,o⟩:=hb
 obtain ⟨⟨⟨m,_⟩,_⟩,_⟩:=hb2;refine Z1B rfl l o fun R η p r q w f d=>?_
 have g:=(W5 d x).1;rw [J4 f n,hx] at g
 have g:=Q5R g;have h:=(W5 d y).1
 rw [J4 f j,hy] at h;have h:=Q5R h
 have i:=(W5 d z).1;rw [J4 f m,hz] at i
 have i:=Q5R i;refine ⟨.int .i64 (Q0x (Q0x a b) c),?_,Q4U _ _ _⟩
 simp [execOp,hop,resolve,invoke,builtin,Builtin.max_,Builtin.max2,g,h,i,Q0x]
 rfl
end
section
variable {P:Program} {C:Ctx} {nt:Nat} {E:List (Nat×AVal)} {S:List (Nat×Obj)} {Q:Exit->Act->World->Prop}
theorem AW.rounds {c:Code} (n:Nat) (h:AW P C nt c E S (Exit.then (fun a w=>Code.rounds P c Q n a w) Q)):AW P C nt (.loop c) E S Q:=fun R η a w b=>wp_loop_rounds (n+1) (h R η a w b)
theorem Z3Y {c:Code} {n:Nat} (h:AW P C nt c E S (Exit.then (fun a w=>Code.rounds P c Q n a w) Q)):Kn C nt E S (fun a w=>Code.rounds P c Q (n+1) a w):=fun R η a w b=>h R η a w b
end
end
section
@[reducible] def gn {α:Type} [Emb α] (l:List α) (i:Int):α:=gl l i.toNat
@[reducible] def jb (t:Nat) (z:Bool):List (Nat×AVal):=[(t,vb z)]
@[reducible] def nn {σ β:Type}:σ->List β:=fun _=>[]
@[reducible] def f0:CV:=.fl 0 fun _=>[]
@[reducible] def k1 (i:Nat) (K:Nat->Prop):Prop:=K i/\True
@[reducible] def k2 (i j:Nat) (K:Nat->Prop):Prop:=K i/\K j/\True
theorem gO {p q:Prop} [Decidable p] {R:Type} {x:Option R} {r:R} (h:gd p x=some r) (k:p->x=some r->q):q:=k (gS h).1 (gS h).2
theorem bO {α R:Type} {x:Option α} {f:α->Option R} {r:R} {q:Prop} (h:x.bind f=some r) (k:∀ z,x=some z->f z=some r->q):q:=(bS h).elim fun z e=>k z e.1 e.2
theorem brO {b:Bool} {R:Type} {u v:Option R} {r:R} {q:Prop} (h:br b u v=some r) (ht:b=true->u=some r->q) (hf:b=false->v=some r->q):q:=(W3r h).elim (fun e=>ht e.1 e.2) fun e=>hf e.1 e.2
section
variable {P:Program} {C:Ctx} {nt:Nat} {L:Lay} {pins:List Nat} {E:List (Nat×AVal)} {S:List (Nat×Obj)} {Q:Exit->Act->World->Prop}
theorem W2 (Fm:Fr P L C pins) {fn:Func} {R:Type} {a r:R} (h:some a=some r) {g:R->AVal} {G:R->List (Nat×Obj)} (hQ:Q .ret=Y5F P fn C (g r) (G r) .ret:=by rfl) (hq:(Y6R L (lk E) (ls S) fn.results.toList,(G a).map (fun p=>ls S p.1))=(some (g a),(G a).map (fun p=>some p.2)):=by kernel_rfl):AW P C nt .ret E S Q:=by
 cases h
 exact AW.ret (hQ ▸ Q3a Fm hq)
theorem Y1i {σ R:Type} {r:R} {c:Code} {body:(σ->Option R)->σ->Option R} {n:Nat} {z0:σ} (h:Z3 body n z0=some r) (E' : σ->List (Nat×AVal)) (S' : σ->List (Nat×Obj))
  (round:∀ (again:σ->Option R) (z:σ) (J:Act->World->Prop),(∀ z',again z'=some r->Kn C nt (E' z') (S' z') J)->body again z=some r->AW P C nt c (E' z) (S' z) (Exit.then J Q)):AW P C nt (.loop c) (E' z0) (S' z0) Q:=W1e E' S' round h
theorem Q5 {σ R:Type} (r:R) {x y:Code} (f:σ->Option R) (kE:List Nat) (nE:σ->List (Nat×AVal)) (kS:List Nat) (nS:σ->List (Nat×Obj)) (hy:∀ z,f z=some r->AW P C nt y (eK kE E (nE z)) (sK kS S (nS z)) Q)
  (hx:∀ J:Act->World->Prop,(∀ z,f z=some r->Kn C nt (eK kE E (nE z)) (sK kS S (nS z)) J)->AW P C nt x E S (Exit.then J Q)):AW P C nt (.seq x y) E S Q:=AW.join f _ _ hy hx
variable {K:Act->World->Prop}
theorem Kn.w (Fm:Fr P L C pins) (E' : List (Nat×AVal)) (S' : List (Nat×Obj)) (h:Kn C nt E' S' K)
  (hq:(pins.all (fun i=>V3 [] i==i),E'.map (fun p=>lk E p.1),S'.map (fun p=>ls S (V3 [] p.1)),Q2S (S'.map fun p=>V3 [] p.1))=(true,E'.map (fun p=>p.2.ren (V3 [])),S'.map (fun p=>some (p.2.ren (V3 []))),true):=by kernel_rfl):Kn C nt E S K:=W3b Fm E' S' hq h
theorem Q0L {k es n:Nat} {f:Nat->List DVal} (E' : List (Nat×AVal)) (S' : List (Nat×Obj)) (h:Kn C nt E' S' K)
  (hq:(E.map (fun p=>(p.1,p.2.frz k n f)),S.map (fun p=>(p.1,p.2.frz k n f)),(S.map (·.1)).contains k)=(E',S',false):=by kernel_rfl):Kn C nt E ((k,.arr es n f)::S) K:=Kn.frz E' S' (congrArg (·.1) hq) (congrArg (·.2.1) hq) (congrArg (·.2.2) hq) h
theorem Q1K (Fm:Fr P L C pins) (ρ:List (Nat×Nat)) (E' : List (Nat×AVal)) (S' : List (Nat×Obj)) (h:Kn C nt E' S' K)
  (hq:(pins.all (fun i=>V3 ρ i==i),E'.map (fun p=>lk E p.1),S'.map (fun p=>ls S (V3 ρ p.1)),Q2S (S'.map fun p=>V3 ρ p.1))=(true,E'.map (fun p=>p.2.ren (V3 ρ)),S'.map (fun p=>some (p.2.ren (V3 ρ))),true):=by kernel_rfl):Kn C nt E S K:=
 Kn.re Fm ρ E' S' (congrArg (·.1) hq) (congrArg (·.2.1) hq) (congrArg (·.2.2.1) hq) (congrArg (·.2.2.2) hq) h
abbrev rnL (pins:List Nat) (E:List (Nat×AVal)) (S:List (Nat×Obj)) (E' : List (Nat×AVal)) (S' : List (Nat×Obj)):Bool×List AVal×List (Option Obj)×Bool:=(pins.all (fun i=>V3 [] i==i),E'.map (fun p=>lk E p.1),S'.map (fun p=>ls S (V3 [] p.1)),Q2S (S'.map fun p=>V3 [] p.1))
abbrev rnR (E' : List (Nat×AVal)) (S' : List (Nat×Obj)):Bool×List AVal×List (Option Obj)×Bool:=(true,E'.map (fun p=>p.2.ren (V3 [])),S'.map (fun p=>some (p.2.ren (V3 []))),true)
theorem W4 (Fm:Fr P L C pins) {σ R:Type} {r:R} {c:Code} {body:(σ->Option R)->σ->Option R} {n:Nat} {z0:σ} (h:Z3 body n z0=some r) (E' : σ->List (Nat×AVal)) (S' : σ->List (Nat×Obj))
  (round:∀ (again:σ->Option R) (z:σ) (J:Act->World->Prop),(∀ z',again z'=some r->Kn C nt (E' z') (S' z') J)->body again z=some r->AW P C nt c (E' z) (S' z) (Exit.then J Q)) (hq:rnL pins E S (E' z0) (S' z0)=rnR (E' z0) (S' z0):=by kernel_rfl):AW P C nt (.loop c) E S Q:=W3b Fm (E' z0) (S' z0) hq (Y1i h E' S' round)
section
variable {id:Nat} {ops:Array Oper} {draw:Bool} {y:Code}
theorem Y2 (Fm:Fr P L C pins) (n:Nat) (kE:List Nat) (nE:List (Nat×AVal)) (k:AW P C nt y (eK kE E nE) (sK [] S []) Q) (h:ckL P C nt L pins E S ops draw (ss n) (eK kE E nE) (sK [] S [])=ckR True (eK kE E nE) (sK [] S []):=by kernel_rfl):AW P C nt (.seq (.region id ops draw) y) E S Q:=Q0 Fm n kE nE [] [] k h
theorem Y5 (Fm:Fr P L C pins) (n:Nat) (nE:List (Nat×AVal)) {fn:Func} {R:Type} {a r:R} (h:some a=some r) {g:R->AVal} {G:R->List (Nat×Obj)} (hQ:Q .ret=Y5F P fn C (g r) (G r) .ret:=by rfl)
  (h1:ckL P C nt L pins E S ops draw (ss n) (eK [] E nE) (sK [] S [])=ckR True (eK [] E nE) (sK [] S []):=by kernel_rfl) (hq:(Y6R L (lk (eK [] E nE)) (ls (sK [] S [])) fn.results.toList,(G a).map (fun p=>ls (sK [] S []) p.1))=(some (g a),(G a).map (fun p=>some p.2)):=by kernel_rfl):AW P C nt (.seq (.region id ops draw) .ret) E S Q:=Q0 Fm n [] nE [] [] (W2 Fm h hQ hq) h1
variable {E2:List (Nat×AVal)} {S2:List (Nat×Obj)}
theorem Y6 (Fm:Fr P L C pins) (ds:List Dir) (kE:List Nat) (nE:List (Nat×AVal)) (kS:List Nat) {q:Prop} (hc:q) (k:Kn C nt E2 S2 (Q .normal)) (h:ckL P C nt L pins E S ops draw ds (eK kE E nE) (sK kS S [])=ckR q (eK kE E nE) (sK kS S []):=by kernel_rfl)
  (hq:rnL pins (eK kE E nE) (sK kS S []) E2 S2=rnR E2 S2:=by kernel_rfl):AW P C nt (.region id ops draw) E S Q:=J5 Fm ds kE nE kS [] hc (Kn.R Fm k hq) h
theorem Y3 (Fm:Fr P L C pins) (ds:List Dir) (kE:List Nat) (t:Nat) (v:Bool) (kS:List Nat) {b c:Bool} (e:b=c) (k:Kn C nt E2 S2 (Q .normal)) (h:ckL P C nt L pins E S ops draw ds (eK kE E [(t,vb v)]) (sK kS S [])=ckR (ALe (vb b) (vb c)/\True) (eK kE E [(t,vb v)]) (sK kS S []):=by kernel_rfl)
  (hq:rnL pins (eK kE E [(t,vb v)]) (sK kS S []) E2 S2=rnR E2 S2:=by kernel_rfl):AW P C nt (.region id ops draw) E S Q:=Y6 Fm ds kE [(t,vb v)] kS (Go.Ab.cT (ALe.bool e)) k h hq
theorem AW.nx (Fm:Fr P L C pins) {e:Int} {R:Type} {x:Option R} {r:R} (g:gd (I64 (e+1)) x=some r) (kE:List Nat) (t:Nat) (kS:List Nat) (k:x=some r->Kn C nt E2 S2 (Q .normal)) (h:ckL P C nt L pins E S ops draw [.s,.s] (eK kE E [(t,vi (e+1))]) (sK kS S [])=ckR ((I64 (e+1)/\True)/\True) (eK kE E [(t,vi (e+1))]) (sK kS S []):=by kernel_rfl)
  (hq:rnL pins (eK kE E [(t,vi (e+1))]) (sK kS S []) E2 S2=rnR E2 S2:=by kernel_rfl):AW P C nt (.region id ops draw) E S Q:=Y6 Fm [.s,.s] kE [(t,vi (e+1))] kS (Go.Ab.cT (Go.Ab.cT (gS g).1)) (k (gS g).2) h hq
end
end
section
variable {P:Program} {C:Ctx} {nt:Nat} {L:Lay} {ops:Array Oper} {ds:List Dir} {e:Env} {s:Sto}
theorem KAt.cX {k:Nat} {f:Nat} {args:List AVal} {Si:List (Nat×Obj)} {r:AVal} {So:List (Nat×Obj)} (hspec:Q6 P f args Si r So) (hcall:∀ args w,(callFunc f args).run P w=.ok (.enter f args) w) (m:List (Nat×Nat)) (extra:List Nat) (xs:List Operand)
  (hargs:Z6J C nt (V2 L ops ops.toList ds e s k) (Q2k L ops ops.toList ds e s k) Si (V3 m) (Q0g (Y9 ops.toList k)++V8 ops (Y9 ops.toList k)) (Z2L (V2 L ops ops.toList ds e s k) (Y9 ops.toList k)++(Si.map (fun p=>V3 m p.1)++extra)) xs args)
  (hk:Q2c ds k=cE m extra r Si So:=by rfl) (hq:(Go.Ab.callB ops nt (V2 L ops ops.toList ds e s k) (Y9 ops.toList k) f m r Si So,Si.map (fun p=>Q2k L ops ops.toList ds e s k (V3 m p.1)),(Go.Ab.callXs (Y9 ops.toList k)).toList)=(true,Si.map (fun p=>some (p.2.ren (V3 m))),xs):=by kernel_rfl):KAt P C nt L ops ds e s k:=
 Y9j hspec hcall m extra xs hk (congrArg (·.1) hq) (congrArg (·.2.1) hq) (congrArg (·.2.2) hq) hargs
theorem G5.cX {f:Nat} (hcall:∀ args w,(callFunc f args).run P w=.ok (.enter f args) w) {F:List AVal->AVal->Prop} (cs:List (List CV)) (hspec:∀ args r,F args r->Q6 P f (args++Z8H cs) (Z0f cs) r (Z0f cs)/\r.closed=true)
  {Si:List (Nat×Obj)} {m:Nat->Nat} {rd ids:List Nat} {x:Operand} (cids:List Nat) (hbox:W0H s cids cs)
  (hx:Q5M rd x=true:=by kernel_rfl) (hv:aev e x=.v (.c (.clo f cids)):=by kernel_rfl) (hnd:(Q2S cids&&cs.all (fun c=>c.all CV.closed)&&cids.all (fun i=>ids.contains i))=true:=by kernel_rfl)
  (hsi:siB s Si m ids cids=true:=by kernel_rfl):G5 C nt e s Si m rd ids x (Z5z P F):=G5.cloX hcall cs (fun a r h=>(hspec a r h).1) (fun a r h=>(hspec a r h).2) hx cids hv hnd hbox hsi
end
end
end
end Go.Ab
