/- Abstract states over the model. -/
import Derived.Test.YtaipicdihcmjkaaGreatAbB
import Derived.Test.YtaipicdihcmjkaaGreatPuA
import Derived.Sort.AssemblyPlain
import Derived.Lib.BitFns
import Derived.Shelf.SortM.Plain
import Derived.Shelf.SortM.SortNone
import Derived.Shelf.SlSortCmp.WholeK
import Derived.Shelf.SlSortCmp.NoneTotal
import Derived.WalkKit
import Derived.ProofKit
import Derived.OpenShut
import Derived.Carry
import Derived.ChangeSame
import Derived.ChangeSlices
import Derived.Laws.Small
import Derived.Laws.Entries
import Derived.Shelf.Spec.SlicesGrow
import Derived.Deep.Slices
import Derived.ChangeArms
import Derived.Maps.Own
import Derived.Lib.SlKeysI
import Derived.Shelf.SlIterI.Nil
import Derived.Maps.RangeRun
import Derived.Laws.IdiomRangeMap
import Derived.ChangeKeysEq
import Derived.LoopN
import Derived.Shelf.SlSortCmp.Whole1
set_option linter.unusedVariables false
set_option linter.unusedSimpArgs false
namespace Go.Ab
noncomputable section
section
section
variable {α:Type} [Emb α]
def clr(l:List α)(lo n:Nat):List α:=(List.range l.length).map fun i=>if lo<=i/\i<lo+n then Emb.d else gl l i
theorem Q3K{f:Nat->List DVal}{N:Nat}(l:List α)(h:l.length=N)(hf:∀ i,i<N->f i=Emb.cells (gl l i)):Is N f l:=by
 subst h;refine ⟨rfl,fun i a=>?_⟩
 rw [hf i a];rfl
theorem Z0O(N:Nat)(f:Nat->α)(i:Nat)(h:i<N):gl ((List.range N).map f) i=f i:=by simp [gl,List.getD_eq_getElem?_getD,h]
theorem Is.clr{l:List α}(lo n:Nat){zd:List DVal}(hz:zd=Emb.cells (Emb.d:α)):Is l.length (fun i=>if lo<=i/\i<lo+n then (fun _=>zd) (i-lo) else LF l i) (clr l lo n):=by
 refine Q3K _ (by simp [Go.Ab.clr]) fun i a=>?_
 rw [Go.Ab.clr,Z0O _ _ _ a]
 by_cases h:lo<=i/\i<lo+n
 .grind
 .rw [if_neg h,if_neg h];rfl
end
end
section
open Go.Sort
def Uh(l:List Int):Option (List Int):=if l.length<=Y5 then some (l.mergeSort fun x y=>decide (x<=y)) else none
theorem Q5l{l r:List Int}(h:Uh l=some r):l.length<=Y5/\r=l.mergeSort fun x y=>decide (x<=y):=by
 unfold Uh at h
 grind
def YV{α:Type}(cf:α->α->Int)(x y:α):Bool:=decide (cf x y<0)
section
variable {α:Type} [Emb α]
def ZF(cf:α->α->Int)(l:List α):List α:=(@pdq α ⟨Emb.d⟩ (YV cf) l.toArray 0 l.length (Lib.bitLen l.length) true true).toList
open Classical in
noncomputable def Jx(l:List α)(q:α->α->Option Int):Option (List α):=
 if h:l.length<=Y5/\∃ cf:α->α->Int,SWO (YV cf)/\∀ x y,q x y=some (cf x y) then some (ZF h.2.choose l) else none
theorem Q5q{l:List α}{q:α->α->Option Int}(cf:α->α->Int)(hl:l.length<=Y5)(hO:SWO (YV cf))(hq:∀ x y,q x y=some (cf x y)):Jx l q=some (ZF cf l):=by
 have h:l.length<=Y5/\∃ cf:α->α->Int,SWO (YV cf)/\∀ x y,q x y=some (cf x y):=⟨hl,cf,hO,hq⟩;unfold Jx
 rw [dif_pos h];have e:h.2.choose=cf:=by
  grind
 rw [e]
theorem Q5p{l r:List α}{q:α->α->Option Int}(h:Jx l q=some r):l.length<=Y5/\∃ cf:α->α->Int,SWO (YV cf)/\(∀ x y,q x y=some (cf x y))/\r=ZF cf l:=by
 unfold Jx at h;split at h
 all_goals grind
end
section
variable {α:Type}
end
def Ka{α:Type}(n:Int):Option (List α):=if 0<=n/\n<=Y5 then some [] else none
end
section
open Go.Sort Go.Proofs Go.Shelf
theorem Q0s{α:Type}[Inhabited α](enc:α->Value)(w:World)(b off n:Nat)(d:Array α)(os:Array Go.Obj){c:Array Value}{e:TypeId}{fz:Nat×Nat}(hb:w.heap[b]?=some (.cells c e fz)):
  (grow (putRow enc (Go.Sort.ahead w n) b off d) os).heap[b]?=some (.cells (putCells enc off d c) e fz):=by
 have a:b<w.heap.size:=YJ hb;unfold grow
 rw [Array.getElem?_append];rw [if_pos (by simpa using a)]
 unfold putRow mapBlock;simp only [Array.getElem?_modify,if_true]
 show Option.map _ (w.heap[b]?)=_;rw [hb]
 rfl
theorem yf{α:Type}[Inhabited α](enc:α->Value)(w:World)(b off n:Nat)(d:Array α)(os:Array Go.Obj):Stp (fun x=>x=b) w (grow (putRow enc (Go.Sort.ahead w n) b off d) os):=by
 refine ⟨rfl,rfl,rfl,by simp [Go.Sort.ahead],fun x c a=>?_,Nat.le_add_right _ _⟩;unfold grow
 rw [Array.getElem?_append];rw [if_pos (by simpa [Go.Sort.ahead] using c)]
 unfold putRow mapBlock;simp only [Array.getElem?_modify]
 rw [if_neg (Ne.symm a)];rfl
theorem jh{α:Type}[Inhabited α](enc:α->Value)(off:Nat)(d:Array α)(c:Array Value):(putCells enc off d c).size=c.size:=by simp [putCells]
theorem Q1C{α:Type}[Inhabited α](enc:α->Value)(d:Array α)(c:Array Value)(j:Nat)(hj:j<d.size)(hs:d.size<=c.size):(putCells enc 0 d c).getD j undef=enc d[j]! := by
 have a:j<c.size:=by omega
 simp [putCells,a,hj]
theorem Q3B(l:List Int)(i:Nat):LF l i=[.int .i64 (l.getD i 0)]:=rfl
theorem Q3e{w w' : World}{X:Nat->Prop}{η:Nat->Value}{α:Type}[Emb α]{l r:List α}{b n cap:Nat}{c' : Array Value}{e:TypeId}(hη:η 0=.slice (some ⟨b,0,none⟩) n cap)(h0:0<cap)(hstp:Stp (fun x=>x=b) w w')(hh:w'.heap[b]?=some (.cells c' e (0,0)))(hs:c'.size=cap*Emb.es α)(hr:r.length=n)(hn:n<=cap)(hm:cap<=maxLen)(hd:∀ i j,i<n->j<Emb.es α->DRep w' X (c'.getD (i*Emb.es α+j) undef) ((LF r i).getD j .any))(hX:∀ x,X x->x<w.heap.size)(hXb:X b):
  Behind (QW [(0,AO l)] w X η) .any [(0,AO r)] (.tuple #[]) η w':=by
 subst hr;have d:∀ x,x ∈ Y7 (η 0)↔x=b:=by intro x;rw [hη];simp [Y7];omega
 have c:∀ i o,ls [(0,AO (α:=α) r)] i=some o->i=0/\o=AO r:=by
  intro i o a;rw [Qq] at a
  by_cases h:i=0
  .grind
  .rw [if_neg h] at a;cases a
 have p:∀ x,x=b->(QW [(0,AO (α:=α) l)] w X η).M x:=by
  rintro x rfl;exact ⟨0,AO l,by rw [Qq,if_pos rfl],rfl,(d _).2 rfl⟩
 have m:∀ x,XS (QW [(0,AO (α:=α) l)] w X η) (ls [(0,AO (α:=α) r)]) η x->X x:=by
  rintro x (⟨g,_⟩|⟨i,o,a,hib⟩)
  .exact g
  all_goals grind
 refine ⟨hstp.mono fun x _ g=>p x g,.any _,fun i o a=>?_,fun i j x a f _ _=>?_,fun i o x a s=>?_,fun i v a=>?_⟩
 .obtain ⟨rfl,rfl⟩:=c i o a
  rw [hη];refine .arr b _ cap _ c' e _ hh hs hn hm h0 (Is.refl r).len fun i j a f=>?_
  exact (hd i j a f).mono fun x _ g=>⟨rfl,fun k=>g (m x k)⟩
 .obtain ⟨q,a⟩:=Option.ne_none_iff_exists'.1 a
  obtain ⟨t,f⟩:=Option.ne_none_iff_exists'.1 f;rw [(c i q a).1,(c j t f).1]
 .obtain ⟨rfl,rfl⟩:=c i o a
  exact .inr (.inl (p x ((d x).1 s)))
 .change (if ((List.lookup i [(0,AO (α:=α) l)]).isSome=true) then some (η i) else none)=some v at a
  split at a
  .cases a;rfl
  .cases a
theorem Q3f{w:World}{X:Nat->Prop}{η:Nat->Value}{α:Type}[Emb α]{l:List α}{ad:Option Addr}(hη:η 0=.slice ad 0 0)(hX:∀ x,X x->x<w.heap.size):
  Behind (QW [(0,AO l)] w X η) .any [(0,AO ([]:List α))] (.tuple #[]) η w:=by
 have c:∀ x,x ∉ Y7 (η 0):=by intro x;rw [hη];cases ad <;> simp [Y7]
 have b:∀ i o,ls [(0,AO ([]:List α))] i=some o->i=0/\o=AO ([]:List α):=by
  intro i o a;rw [Qq] at a
  by_cases h:i=0
  .grind
  .rw [if_neg h] at a;cases a
 refine ⟨Stp.refl _ _,.any _,fun i o a=>?_,fun i j x a d _ _=>?_,fun i o x a f=>?_,fun i v a=>?_⟩
 .obtain ⟨rfl,rfl⟩:=b i o a
  rw [hη];exact .nil _ _ _
 .obtain ⟨e,a⟩:=Option.ne_none_iff_exists'.1 a
  obtain ⟨g,d⟩:=Option.ne_none_iff_exists'.1 d;rw [(b i e a).1,(b j g d).1]
 .obtain ⟨rfl,rfl⟩:=b i o a
  exact absurd f (c x)
 .change (if ((List.lookup i [(0,AO (α:=α) l)]).isSome=true) then some (η i) else none)=some v at a
  split at a
  .cases a;rfl
  .cases a
theorem Q4r{vs:Array Value}(h:vs.size=1):vs=#[vs.getD 0 undef]:=by
 apply Array.ext
 .simpa using h
 .intro i a b
  have:i=0:=by omega
  subst this;simp [a]
theorem kh{vs:Array Value}(h:vs.size=2):vs=#[vs.getD 0 undef,vs.getD 1 undef]:=by
 apply Array.ext
 .simpa using h
 .intro i a b
  have:i=0\/i=1:=by omega
  rcases this with rfl|rfl <;> simp [a]
theorem Q5n{P:Program}{ρ:Ren}(Ly:SlLaysM.n5 P ρ){x r:List Int}(h:Uh x=some r):K8 P (ρ.f 5) [.v (.c (.own 0))] [(0,AO (α:=Int) x)] .any [(0,AO (α:=Int) r)]:=by
 obtain ⟨R,rfl⟩:=Q5l h;intro w X η K M k z U d m
 have d:K.size=1:=d;have J:K.getD 0 undef=η 0:=Vv (C:=QW [(0,AO (α:=Int) x)] w X η) (s:=ls [(0,AO (α:=Int) x)]) (by have:=m 0 (by simp);rw [TH k];exact this)
 rw [Q4r d,J];have A:=z 0 (AO x) (by rw [Qq,if_pos rfl])
 have B:∀ b,b ∈ Y7 (η 0)->X b:=fun b E=>k b ⟨0,_,by rw [Qq,if_pos rfl],E⟩
 generalize hu:η 0=u at A;unfold AO at A
 generalize hn:x.length=n at A
 cases A with
 | nil ad=>
  have W:x=[]:=List.eq_nil_of_length_eq_zero hn;refine (AnyM.slices_Sort_int_none Ly ad 0 w).mono fun e V G=>?_
  obtain ⟨N,D⟩:=G;refine ⟨_,η,N,?_⟩
  rw [D];have E:=Q3f (w:=w) (X:=X) (l:=x) hu M
  subst W;simpa using E
 | arr b _ cap _ c e _ h1 h2 h3 h4 h5 h6 h7=>
  have g:Emb.es Int=1:=rfl
  rename_i n
  have o:∀ j,j<n->c.getD j undef=.int .i64 (x.getD j 0):=by
   intro j t;have:=h7 j 0 t (by rw [g];omega)
   rw [g,Nat.mul_one,Nat.add_zero,Q3B] at this;have L:DRep w X (c.getD j undef) (.int .i64 (x.getD j 0)):=this
   generalize c.getD j undef=u at L
   cases L;rfl
  have T:c.size=cap:=by rw [h2,g,Nat.mul_one]
  have Q:Holds (Value.int .i64) w b 0 x.toArray:=by
   intro j t;have F : j<n:=by simpa [hn] using t
   have H:j<x.length:=by omega
   have p:j<c.size:=by omega
   refine ⟨?_,by simp [World.frozen?,h1]⟩;have:=o j F
   simp only [Nat.zero_add,World.cell?,h1,Option.isSome_none,Bool.false_eq_true,if_false];simp only [p,Array.getD,dite_true] at this
   rw [Array.getElem?_eq_getElem p];congr 1
   refine Eq.trans this ?_;simp [H]
  rw [<-hn];refine ((AnyM.slices_Sort_int Ly b 0 cap x w Q (YJ h1) (by simp only [Y5] at R;omega)).mono fun Z V G=>?_)
  .obtain ⟨rfl,q,Y,D⟩:=G
   subst D;refine ⟨_,η,rfl,?_⟩
   have a:(x.mergeSort fun x y=>decide (x<=y)).length=n:=by rw [List.length_mergeSort];exact hn
   refine Q3e (c':=putCells (Value.int .i64) 0 (x.mergeSort fun x y=>decide (x<=y)).toArray c) (e:=e) (b:=b) (n:=n) (cap:=cap) hu h5 (yf _ _ _ _ _ _ _) (Q0s _ _ _ _ _ _ _ h1) (by rw [jh];exact h2) a h3 h4 (fun i j S t=>?_) M (B b (by rw [hu];simp [Y7];omega));have I:j=0:=by rw [g] at t;omega
   subst I;rw [g,Nat.mul_one,Nat.add_zero,Q1C _ _ _ _ (by simpa [a] using S) (by simp only [List.size_toArray,a];omega),Q3B]
   have:i<(x.mergeSort fun x y=>decide (x<=y)).length:=by omega
   have O:(x.mergeSort fun x y=>decide (x<=y)).toArray[i]! = (x.mergeSort fun x y=>decide (x<=y)).getD i 0:=by
    simp [List.getD_eq_getElem?_getD,this]
   rw [O];exact .int _ _
end
section
open Go.Sort Go.Proofs Go.Shelf
def DVal.lit:DVal->Bool
 | .int _ _=>true
 | .bool _=>true
 | .str _=>true
 | _=>false
def DVal.val:DVal->Value
 | .int k n=>.int k n
 | .bool b=>.bool b
 | .str s=>.string s
 | _=>undef
theorem DRep.lit{w:World}{X:Nat->Prop}{v:Value}{d:DVal}(h:DRep w X v d)(hd:d.lit=true):v=d.val:=by
 cases h <;> first|rfl|cases hd
theorem DVal.rep(w:World)(X:Nat->Prop){d:DVal}(hd:d.lit=true):DRep w X d.val d:=by
 cases d with
 | int k n=>exact .int k n
 | bool b=>exact .bool b
 | str s=>exact .str s
 | _=>cases hd
theorem Z3R{d:DVal}(hd:d.lit=true):d.val.oneCell'=true:=by
 cases d <;> first|rfl|cases hd
theorem Q5c{w w' : World}(h:Stp (fun _=>False) w w'):∃ q os,w'=grow (w.drewN q) os:=by
 refine ⟨w'.drawn-w.drawn,w'.heap.extract w.heap.size w'.heap.size,?_⟩;have e:w'.heap=w.heap++w'.heap.extract w.heap.size w'.heap.size:=by
  apply Array.ext_getElem?;intro k
  rw [Array.getElem?_append];split
  .rename_i c;exact h.block k c fun b=>b
  all_goals grind
 have d:=h.dr;have a:w'=⟨w'.heap,w'.tape,w'.drawn,w'.os,w'.output⟩:=rfl
 rw [a,h.tape,h.os,h.output];unfold grow World.drewN
 congr 1
 simp only
 omega
theorem vt{β:Type}(l:List β)(j:Nat)(h:j<l.length)(d:β):l.getD j d=l[j]:=by
 grind
theorem Q5r{α:Type}[Emb α]{P:Program}{L:V9}(hL:z7 P L){ρ:Ren}(Ly:SlLaysF0.n6 P ρ)(hlit:∀ x:α,(Emb.cells x).all DVal.lit=true){te:TI}(hte:L (ρ.t 24)=some te)(hagg:te.kind.agg=true)(hsz:te.size=Emb.es α)(F:(α->α->Option Int)->List AVal->AVal->Prop)(hF:∀ q x y z,q x y=some z->F q [.v (.g ((Emb.cells x).map .d)),.v (.g ((Emb.cells y).map .d))] (vi z)){x r:List α}{q:α->α->Option Int}(h:Jx x q=some r):
  K8 P (ρ.f 6) [.v (.c (.own 0)),YS P (F q)] [(0,AO (α:=α) x)] .any [(0,AO (α:=α) r)]:=by
 obtain ⟨hl,o,hO,hq,rfl⟩:=Q5p h;obtain ⟨ti,td,tz,a0⟩:=hL _ _ hte
 letI inst:Inhabited α:=⟨Emb.d⟩
 let enc:α->List Value:=fun x=>(Emb.cells x).map DVal.val
 have hk:∀ x,(enc x).length=Emb.es α:=fun x=>by simp [enc,Emb.len]
 have h1:∀ x,∀ v ∈ enc x,v.oneCell'=true:=by
  intro x v hv;obtain ⟨d,hd,rfl⟩:=List.mem_map.1 hv
  exact Z3R (List.all_eq_true.1 (hlit x) d hd)
 intro w X η V hX E a1 f6 A B;have A:V.size=2:=A
 have b3:V.getD 0 undef=η 0:=Vv (C:=QW [(0,AO (α:=α) x)] w X η) (s:=ls [(0,AO (α:=α) x)]) (by have:=B 0 (by simp);rw [TH E];exact this);have a5:QP P (F q) w (Own (ls [(0,AO (α:=α) x)]) η) X (V.getD 1 undef):=by
  have:=B 1 (by simp)
  change ARep w X η _ (V.getD 1 undef) (YS P (F q)) at this;generalize V.getD 1 undef=u at this
  cases this with|v _ _ k=>cases k with|c _ _ k=>cases k with|sem _ _ k _=>exact k
 rw [kh A,b3];have ho:=a1 0 (AO x) (by rw [Qq,if_pos rfl])
 have a6:∀ b,b ∈ Y7 (η 0)->X b:=fun b hb=>E b ⟨0,_,by rw [Qq,if_pos rfl],hb⟩
 generalize hu:η 0=u at ho;have p:(ZF o x).length=x.length:=by
  have:=(pdq_sorts (YV o) hO x.toArray 0 x.length (Lib.bitLen x.length) true true (Nat.zero_le _) (by simp) (.inl rfl)).1.1
  unfold ZF
  grind
 unfold AO at ho;generalize hn:x.length=n at ho
 cases ho with
 | nil ad=>
  have hx:x=[]:=List.eq_nil_of_length_eq_zero hn;refine (AnyF.slices_SortFunc_none Ly ad 0 _ w).mono fun e w' k=>?_
  obtain ⟨U,hw⟩:=k;refine ⟨_,η,U,?_⟩
  rw [hw];have hb:=Q3f (w:=w) (X:=X) (l:=x) hu hX
  grind
 | arr b _ cap _ c e _ g1 g2 g3 g4 g5 g6 g7=>
  rename_i n
  obtain ⟨R,J,b5,N,T⟩:=a5;rw [b5]
  have c5:∀ i,i<n->(LF x i)=Emb.cells (x.getD i Emb.d):=fun i _=>rfl
  have Q:∀ i j,i<n->j<Emb.es α->c.getD (i*Emb.es α+j) undef=(enc (x.getD i Emb.d)).getD j undef:=by
   intro i j hi D;have h0:=g7 i j hi D
   have a : j<(Emb.cells (x.getD i Emb.d)).length:=by rw [Emb.len];exact D
   have e1:(LF x i).getD j .any=(Emb.cells (x.getD i Emb.d))[j]:=vt _ _ a _;rw [e1] at h0
   have h2:=h0.lit (List.all_eq_true.1 (hlit _) _ (List.getElem_mem a))
   grind
  have K:∀ t,t<n*Emb.es α->c.getD t undef=(flatK enc (Emb.es α) x.toArray)[t]! := by
   intro t ht;have Y:0<Emb.es α:=by
    grind
   have p1:t / Emb.es α<n:=Nat.div_lt_of_lt_mul (by rw [Nat.mul_comm];exact ht);have p2:t % Emb.es α<Emb.es α:=Nat.mod_lt _ Y
   have:=Q _ _ p1 p2
   rw [show t / Emb.es α*Emb.es α+t % Emb.es α=t from by rw [Nat.mul_comm];exact Nat.div_add_mod t _] at this;rw [this,get_flatK _ _ _ _ (by simpa [hn] using ht)]
   grind
  have hH:HoldsK enc (Emb.es α) w b 0 x.toArray:=by
   intro t ht;have a7 : t<n*Emb.es α:=by simpa [hn] using ht
   have W:t<c.size:=by
    have:n*Emb.es α<=cap*Emb.es α:=Nat.mul_le_mul_right _ g3
    omega
   refine ⟨?_,by simp [World.frozen?,g1]⟩;have:=K t a7
   simp only [Nat.zero_add,World.cell?,g1,Option.isSome_none,Bool.false_eq_true,if_false,id];rw [Array.getElem?_eq_getElem W]
   congr 1
   rw [<-this];simp [W]
  have H:b ∈ Y7 (η 0):=by rw [hu];simp [Y7];omega
  have S:CmpLays P R J enc (Emb.es α) o b 0 x.toArray.size w:=by
   intro m os dk e0 u v;have M:=yf id w b 0 m (flatK enc (Emb.es α) dk) os
   have I:∀ (w1:World) (z:α) η C,ARep w1 X η C (.agg (enc z).toArray) (.v (.g ((Emb.cells z).map .d))):=by
    intro w1 z η' C';refine .v _ _ (.g _ _ ⟨by simp [enc],fun j D=>?_⟩)
    have a : j<(Emb.cells z).length:=by simpa using D
    have e1:(enc z).toArray.getD j undef=((Emb.cells z)[j]).val:=by
     have:(enc z).toArray.getD j undef=(enc z).getD j undef:=by simp [List.getD_eq_getElem?_getD]
     grind
    have e2:((Emb.cells z).map CV.d).getD j (.d .any)=.d ((Emb.cells z)[j]):=by rw [vt _ j (by simpa using a)];simp
    rw [e1,e2];exact .d _ _ (DVal.rep _ _ (List.all_eq_true.1 (hlit z) _ (List.getElem_mem a)))
   refine (T (grow (putRow id (Go.Sort.ahead w m) b 0 (flatK enc (Emb.es α) dk)) os) X #[.agg (enc u).toArray,.agg (enc v).toArray] _ _ (hF q u v (o u v) (hq u v)) M.size (fun y hy hD=>M.block y hy fun e=>hD ?_)
    (fun y hy=>Nat.lt_of_lt_of_le (hX y hy) M.size) (fun y _ _=>Iff.rfl) rfl (fun j D η C=>?_)).mono fun e2 w2 k=>?_
   .rw [e];exact ⟨0,_,by rw [Qq,if_pos rfl],H⟩
   .have:j=0\/j=1:=by simp at D;omega
    rcases this with rfl|rfl
    .exact I _ _ _ _
    .exact I _ _ _ _
   .obtain ⟨v',U,a8,hr⟩:=k
    have b1:=hr η (QW [] w X η);have e3:v'=.int .i64 (o u v):=by
     cases b1 with|v _ _ k=>cases k with|c _ _ k=>cases k with|d _ _ k=>cases k;rfl
    obtain ⟨qq,a9,b4⟩:=Q5c a8;exact ⟨by rw [U,e3],qq,a9,b4⟩
  rw [<-hn];have O:=AnyQ.slices_SortFunc_eq Ly (Emb.es α) (fun w=>by rw [RV a0 w,hagg]) (fun w=>by rw [YG a0,hsz]) enc hk h1 o hO R J b 0 cap x.toArray w N S hH (YJ g1) (by simp only [List.size_toArray];simp only [Y5] at hl;omega)
  refine O.mono fun e' w' k=>?_
  obtain ⟨U,nn,os,hw⟩:=k;refine ⟨_,η,U,?_⟩
  have b8:w'=grow (putRow id (Go.Sort.ahead w nn) b 0 (flatK enc (Emb.es α) (ZF o x).toArray)) os:=hw;rw [b8]
  refine Q3e (c':=putCells id 0 (flatK enc (Emb.es α) (ZF o x).toArray) c) (e:=e) (b:=b) (n:=n) (cap:=cap) hu g5 (yf _ _ _ _ _ _ _) (Q0s _ _ _ _ _ _ _ g1) (by rw [jh];exact g2) (by rw [p,hn]) g3 g4 (fun i j hi D=>?_) hX (a6 b H);have Z:i*Emb.es α+j<n*Emb.es α:=by
   have:(i+1)*Emb.es α<=n*Emb.es α:=Nat.mul_le_mul_right _ hi
   grind
  have G:(flatK enc (Emb.es α) (ZF o x).toArray).size=n*Emb.es α:=by simp [p,hn]
  rw [Q1C _ _ _ _ (by rw [G];exact Z) (by rw [G,g2];exact Nat.mul_le_mul_right _ g3)];rw [get_flatK _ _ _ _ (by simpa [p,hn] using Z)]
  have d1:(i*Emb.es α+j) / Emb.es α=i:=by
   rw [Nat.add_comm,Nat.add_mul_div_right _ _ (by omega),Nat.div_eq_of_lt D,Nat.zero_add]
  have d2:(i*Emb.es α+j) % Emb.es α=j:=by rw [Nat.add_comm,Nat.add_mul_mod_self_right,Nat.mod_eq_of_lt D]
  rw [d1,d2];have e4:(ZF o x).toArray[i]! = (ZF o x).getD i Emb.d:=by
   grind
  rw [e4];have a : j<(Emb.cells ((ZF o x).getD i Emb.d)).length:=by rw [Emb.len];exact D
  have e5:(enc ((ZF o x).getD i Emb.d))[j]! = ((Emb.cells ((ZF o x).getD i Emb.d))[j]).val:=by
   grind
  have e6:(LF (ZF o x) i).getD j .any=(Emb.cells ((ZF o x).getD i Emb.d))[j]:=vt _ _ a _;rw [e5,e6]
  exact DVal.rep _ _ (List.all_eq_true.1 (hlit _) _ (List.getElem_mem a))
end
section
open Go.ChangeShapes Go.WideShapes Go.ChangeAt Go.RowKit
theorem Q2U{w:World}{a:Addr}{v:Value}(h:w.cell? a=some v):a.spot=none/\∃ c e fz,w.heap[a.block]?=some (.cells c e fz)/\a.off<c.size/\c.getD a.off undef=v:=by
 unfold World.cell? at h;split at h
 .rename_i c e fz d
  split at h
  .cases h
  .rename_i g
   obtain ⟨b,f⟩:=Array.getElem?_eq_some_iff.1 h;exact ⟨by simpa using g,c,e,fz,d,b,by simp [b,f]⟩
 .cases h
theorem Z2S(b o i:Nat):(⟨b,o,none⟩:Addr).add i=⟨b,o+i,none⟩:=add_lit b o i
theorem Z1O{w:World}{a:Addr}{len cap:Nat}{zs:List Int}(hl:len<=cap)(hz:len<=zs.length)(hc:∀ i,i<zs.length->w.cell? (a.add i)=some (.int .i64 (zs.getD i 0))):
  DRep w (fun _=>False) (.slice (some a) len cap) (DL (α:=Int) (zs.take len)):=by
 have q:(zs.take len).length=len:=by simp;omega
 unfold DL;rw [q]
 by_cases h0:len=0
 .subst h0;exact .nil _ _ _
 .have m:a.spot=none:=by
   have:=(Q2U (hc 0 (by omega))).1
   cases hsp:a.spot with
   | none=>rfl
   | some s=>simp [Addr.add,hsp] at this
  obtain ⟨b,d,t⟩:=a;simp only at m
  subst m;have g : ∀ i,i<zs.length->∃ c e l,w.heap[b]?=some (.cells c e l)/\d+i<c.size/\c.getD (d+i) undef=.int .i64 (zs.getD i 0):=by
   intro i k;have:=hc i k
   rw [Z2S] at this;exact (Q2U this).2
  obtain ⟨c,e,l,p,_,_⟩:=g 0 (by omega);have f:∀ i,i<zs.length->d+i<c.size/\c.getD (d+i) undef=.int .i64 (zs.getD i 0):=by
   grind
  refine .lst b d len cap c e l _ 1 (fun h=>h) p hl (by have:=(f (len-1) (by omega)).1;omega) (fun i _=>rfl) fun i j k r=>?_
  have:j=0:=by omega
  subst this;rw [Nat.mul_one,Nat.add_zero,(f i (by omega)).2]
  have o:((LF (zs.take len) i).getD 0 .any)=.int .i64 ((zs.take len).getD i 0):=rfl;rw [o]
  have n:(zs.take len).getD i 0=zs.getD i 0:=by simp [List.getD_eq_getElem?_getD,List.getElem?_take,k]
  rw [n];exact .int _ _
theorem Q8N{H:Type}{enc:TypeId×Value->H}{P:Program}{W:World}{t e:TypeId}{v:Value}{d:DataW H}{ps:List MemPlace}(ht:P.underlying t=some (.slice e))(he:P.underlying e=some (.int .i64))(hc:P.cellsOf e=1){r:Reach}{b0:Nat}(hv:Value.okWide P W r b0 t v)(hd:DataW.Trod enc P W 0 (fun _=>true) true t v d ps):∃ l:List Int,DRep W (fun _=>False) v (DL l)/\∀ n ∈ l,(Lit.int .i64 n).wf=true:=by
 obtain ⟨i,m⟩:=hd;obtain ⟨w,g,s,rfl⟩:=okWide_slice ht hv
 rcases open_ints ht he hc m with ⟨b,o⟩|⟨a,k,j,zs,b,x,p,u,q,o,c,h⟩
 .simp [Value.cells] at b
  obtain ⟨rfl,rfl,rfl⟩:=b;exact ⟨[],.nil _ _ _,fun n f=>by cases f⟩
 .simp [Value.cells] at b
  obtain ⟨rfl,rfl,rfl⟩:=b;simp only [if_true] at q
  exact ⟨zs.take g,Z1O p (by omega) c,fun n f=>h n (List.mem_of_mem_take f)⟩
theorem kq{H:Type}{enc:TypeId×Value->H}{P:Program}(hl:laidOutB P=true){W W' : World}(hb:Below W.heap.size W W'):∀ {ts:List TypeId} {vs:List Value} {ds:List (DataW H)} {ps:List MemPlace},
  ts.all (fun t=>P.readableRec t&&decide (t<P.types.size))=true->DataW.TrodAll enc P W 0 (fun _=>true) true ts vs ds ps->(∀ x ∈ ps,x.block<W.heap.size)->∀ sp:Nat->Bool,(∀ x ∈ ps,sp x.block=true)->DataW.TrodAll enc P W' 0 sp true ts vs ds ps
 | [],[],[],_,_,h,_,_,_=>h
 | t::ts,v::vs,d::ds,ps,hr,⟨p,q,h1,h2,e⟩,hlt,sp,hs=>by
  simp only [List.all_cons,Bool.and_eq_true,decide_eq_true_eq] at hr;subst e
  exact ⟨p,q,WideElems.Trod_stays hl hr.1.1 hr.1.2 h1 (fun x a=>hb.same (hlt x (List.mem_append_left _ a))) (fun x a=>hs x (List.mem_append_left _ a)),
   kq hl hb hr.2 h2 (fun x a=>hlt x (List.mem_append_right _ a)) sp (fun x a=>hs x (List.mem_append_right _ a)),rfl⟩
theorem Q8z{H:Type}{enc:TypeId×Value->H}{P:Program}(hl:laidOutB P=true){fn:Func}{s:ChangeSpec}{W W' : World}{args:Array Value}{ds gs:List (DataW H)}{before:List MemPlace}{apart fresh handsOn again:Bool}(hW:DataW.Whole enc P fn.params.toList s.vars apart W args.toList ds gs before)(hv:s.vars=[])(hs:s.fn H (ds++gs)={ results:=[.lit (.bool true)],args:=ds })(hr:fn.params.toList.all (fun t=>P.readableRec t&&decide (t<P.types.size))=true){t:TypeId}(hres:fn.resultTypes=#[t])(ht:P.underlying t=some .bool)(hb:Below W.heap.size W W'):s.post enc P fn apart fresh handsOn again W args (.bool true) W':=by
 have g:=hW.lt;have h:=hW
 obtain ⟨p,q,z,u,o,A,w⟩:=hW;rw [hv] at u
 obtain ⟨rfl,rfl⟩:=trodVars_none u;rw [List.append_nil] at o
 subst o;have n:∀ (j:Nat) (t' : TypeId) (r:Value),fn.resultTypes[j]?=some t' -> ((Value.bool true).resultList fn.resultTypes.size)[j]?=some r->Value.okWide P W' .any 0 t' r:=ok_one hres rfl (okWide_bool_mk ht _)
 have k:∀ x ∈ before,(fun b=>decide (b<W.heap.size)) x.block=true:=fun x f=>by simpa using g x f
 have e:∀ a:Nat->Bool,(∀ x ∈ before,a x.block=true)->DataW.TrodAll enc P W' 0 a true fn.params.toList args.toList (s.fn H (ds++[])).args before:=fun a m=>by
  rw [hs];exact kq hl hb hr z g a m
 have d:∀ (b:Nat) (a:Nat->Bool) (v:Bool),DataW.TrodAll enc P W' b a v fn.resultTypes.toList ((Value.bool true).resultList fn.resultTypes.size) (s.fn H (ds++[])).results []:=fun b a v=>by
  rw [hs,hres];exact trodAll_cons_mk (shut_bool ht _) trodAll_mk0
 have c:∀ a:Nat->Bool,DataW.TrodVars enc P W' a s.vars (s.fn H (ds++[])).vars []:=fun a=>by
  rw [hs,hv];exact rfl
 refine ⟨ds,_,before,[],before,[],h,d _ _ _,e _ k,c _,World.keptBut_mono (fun x f=>⟨f,by simpa using f⟩) (hb.frame (· ∈ before)),fun _=>⟨n,?_⟩⟩;obtain ⟨_,_,_,_,_,B,C⟩:=h
 refine ⟨_,_,([]++before)++[],⟨[]++before,[],trodAll_append (e _ fun _ _=>rfl) (d _ _ _),c _,rfl,fun b i f=>?_,fun y=>?_⟩,fun x f _=>?_⟩
 .have l:MemPlace.cell b i ∈ before:=by simpa using f
  rw [hb.frozen (g _ l)];exact B b i l
 .simpa using C y
 .simpa using f
theorem Q8A{H:Type}{enc:TypeId×Value->H}{P:Program}(hl:laidOutB P=true){fn:Func}{s:ChangeSpec}{W W' : World}{args:Array Value}{ds gs:List (DataW H)}{before:List MemPlace}{apart fresh handsOn again:Bool}(hW:DataW.Whole enc P fn.params.toList s.vars apart W args.toList ds gs before)(hv:s.vars=[])(hs:s.fn H (ds++gs)={ results:=[.lit (.bool true)],args:=ds })(hr:fn.params.toList.all (fun t=>P.readableRec t&&decide (t<P.types.size))=true){t:TypeId}(hres:fn.resultTypes=#[t])(ht:P.underlying t=some .bool)(hstp:Stp (fun _=>False) W W'):s.post enc P fn apart fresh handsOn again W args (.bool true) W' :=
 Q8z hl hW hv hs hr hres ht (hstp.below _ (Nat.le_refl _) fun _ _ h=>h)
end
section
section
variable {P:Program} {C:Ctx} {nt:Nat} {L:V9} {ops:Array Oper} {ds:List Dir} {e:W4} {s:W5}
end
end
section
def ci(n:Int):CV:=.d (.int .i64 n)
def gC{α:Type}[Emb α](x:α):List CV:=(Emb.cells x).map .d
def gE{α:Type}[Emb α](x:α):AVal:=.v (.g (gC x))
section
variable {P:Program} {C:Ctx} {nt:Nat} {L:V9} {pins:List Nat} {E:List (Nat×AVal)} {S:List (Nat×Obj)} {Q:Exit->Act->World->Prop}
variable {K:Act->World->Prop}
theorem Q3C(Fm:Fr P L C pins)(E' : List (Nat×AVal))(S' : List (Nat×Obj))(hq:(pins.all (fun i=>V3 [] i==i),E'.map (fun p=>lk E p.1),S'.map (fun p=>ls S (V3 [] p.1)),Yf (S'.map fun p=>V3 [] p.1))=(true,E'.map (fun p=>p.2.ren (V3 [])),S'.map (fun p=>some (p.2.ren (V3 []))),true))(h:Kn C nt E' S' K):Kn C nt E S K:=
 xB Fm [] E' S' (congrArg (·.1) hq) (congrArg (·.2.1) hq) (congrArg (·.2.2.1) hq) (congrArg (·.2.2.2) hq) h
theorem Zd(Fm:Fr P L C pins){fn:Func}{r:AVal}{S' : List (Nat×Obj)}(hq:(UJ L (lk E) (ls S) fn.results.toList,S'.map (fun p=>ls S p.1))=(some r,S'.map (fun p=>some p.2))):Kn C nt E S (WY P fn C r S' .ret):=
 Z3C Fm (congrArg (·.1) hq) (congrArg (·.2) hq)
end
section
variable {P:Program} {C:Ctx} {nt:Nat} {L:V9} {ops:Array Oper} {ds:List Dir} {e:W4} {s:W5}
theorem Z3M{k:Nat}{f:Nat}{args:List AVal}{Si:List (Nat×Obj)}{r:AVal}{So:List (Nat×Obj)}(hspec:K8 P f args Si r So)(hcall:∀ args w,(callFunc f args).run P w=.ok (.enter f args) w)(m:List (Nat×Nat))(hk:Qs ds k=cE m [] r Si So)(hq:(Go.Ab.callB ops nt (V7 L ops ops.toList ds e s k) (Y6 ops.toList k) f m r Si So,Si.map (fun p=>QU L ops ops.toList ds e s k (V3 m p.1)),
   (Go.Ab.callXs (Y6 ops.toList k)).toList.all (Qv (Qx (Y6 ops.toList k)++Qi ops (Y6 ops.toList k)))&&args.all AVal.noSem,(Go.Ab.callXs (Y6 ops.toList k)).toList.map (Y2 (V7 L ops ops.toList ds e s k)))
   = (true,Si.map (fun p=>some (p.2.ren (V3 m))),true,args.map (AVal.ren (V3 m)))):U9 P C nt L ops ds e s k:=
 Z3P hspec hcall m hk (congrArg (·.1) hq) (congrArg (·.2.1) hq) (congrArg (·.2.2.1) hq) (congrArg (·.2.2.2) hq)
end
end
section
open Go.Proofs Go.Shelf
theorem Q1z{α:Type}[Emb α]{P:Program}{L:V9}(hL:z7 P L){ρ:Ren}(Ly:Lays8.n4 P ρ){te:TI}(hte:L (ρ.t 25)=some te)(hsz:te.size=Emb.es α)(hpos:0<te.size)(hby:te.bytes<=8192)(hzl:te.zero.length=te.size){n:Int}{r:List α}(h:Ka n=some r):K8 P (ρ.f 4) [.v (.c (.fl 0 fun _=>[])),vi n] [] (.v (.c (.own 100))) [(100,AO (α:=α) r)]:=by
 unfold Ka at h;split at h
 case isFalse=>cases h
 rename_i hn
 cases h
 obtain ⟨I,d0,J,k⟩:=hL _ _ hte;intro w X η A hX V Y a1 p q
 have p:A.size=2:=p;have D:∃ B,A.getD 0 undef=.slice B 0 0:=by
  have:=q 0 (by simp)
  change ARep w X η _ (A.getD 0 undef) (.v (.c (.fl 0 fun _=>[]))) at this;generalize A.getD 0 undef=u at this
  cases this with|v _ _ l=>cases l with|c _ _ l=>cases l with|fl a _ _ _=>exact ⟨a,rfl⟩
 have N:A.getD 1 undef=.int .i64 n:=by
  have:=q 1 (by simp)
  change ARep w X η _ (A.getD 1 undef) (.v (.c (.d (.int .i64 n)))) at this;generalize A.getD 1 undef=u at this
  cases this with|v _ _ l=>cases l with|c _ _ l=>cases l with|d _ _ l=>cases l;rfl
 obtain ⟨B,D⟩:=D;rw [kh p,D,N]
 obtain ⟨m,rfl⟩:∃ m:Nat,n=m:=⟨n.toNat,by omega⟩;have R:m<=Y5:=by omega
 have g:∀ i o,ls [(100,AO (α:=α) [])] i=some o->i=100/\o=AO (α:=α) []:=by
  intro i o b;rw [Qq] at b
  by_cases h:i=100
  .grind
  .rw [if_neg h] at b;cases b
 rcases Nat.eq_zero_or_pos m with W|W
 .subst W
  refine (Any8.slices_Grow_room Ly B 0 0 0 w (Nat.le_refl _) (by omega) (by omega) (Nat.le_refl _)).mono fun e w' l=>?_
  obtain ⟨M,O⟩:=l;refine ⟨_,fun _=>.slice B 0 0,M,?_⟩
  rw [O];have z:∀ x,x ∉ Y7 (.slice B 0 0):=by intro x;cases B <;> simp [Y7]
  refine ⟨Stp.refl _ _,.v _ _ (.c _ _ (.own _ _ rfl rfl)),fun i o b=>?_,fun i j x b F y _=>absurd y (z x),fun i o x b y=>absurd y (z x),fun i v b=>?_⟩
  .obtain ⟨rfl,rfl⟩:=g i o b
   exact .nil _ _ _
  .change (if ((List.lookup i ([]:List (Nat×Obj))).isSome=true) then some (η i) else none)=some v at b
   cases b
 .have H:(0+m)*I.bytes<=140737488355328:=by
   have h1:(0+m)*I.bytes<=4294967296*8192:=Nat.mul_le_mul (by simp only [Y5] at R;omega) (by rw [k.bytes];exact hby);omega
  refine (Any8.slices_Grow_grow Ly I J k.info k.zero (by rw [k.size];exact hpos) B 0 0 m [] w (Nat.le_refl _) (by omega) H (by simp only [Y5] at R;omega) (by simp) (fun _=>rfl) (fun _ _ _ _ F=>by simp at F)).mono fun e w' l=>?_
  obtain ⟨M,O⟩:=l;have hG:m<=grownCap w (0+m) 0 (ρ.t 25):=by have:=grownCap_ge w (0+m) 0 (ρ.t 25);omega
  have U:=grownCap_le_maxLen w (0+m) 0 (ρ.t 25) (by simp only [Y5] at R;simp only [maxLen];omega);generalize grownCap w (0+m) 0 (ρ.t 25)=G at *
  refine ⟨_,fun _=>.slice (some ⟨w.heap.size,0,none⟩) 0 G,M,?_⟩;rw [O]
  have T:J.cells.size=I.size:=by rw [(k.zrep w (fun _=>False) η (QW [] w X η)).1,hzl,k.size]
  refine ⟨(Stp.drew _ _).trans (Stp.alloc _ _ _),.v _ _ (.c _ _ (.own _ _ rfl rfl)),fun i o b=>?_,fun i j x b F _ _=>?_,fun i o x b y=>?_,fun i v b=>?_⟩
  .obtain ⟨rfl,rfl⟩:=g i o b
   refine .arr w.heap.size 0 G _ (([]:List Value).toArray++Builtin.zeroCells J.cells (0+m-0)++Builtin.zeroCells J.cells (G-(0+m))) (ρ.t 25) _ (heap_alloc_new w.drew _) ?_ (Nat.zero_le _) U (by omega) (fun i b=>absurd b (Nat.not_lt_zero i)) fun i j b=>absurd b (Nat.not_lt_zero i)
   rw [Array.size_append,Array.size_append,size_zeroCells,size_zeroCells,T,k.size, <-hsz];have e1:(([]:List Value).toArray).size=0:=rfl
   rw [e1,Nat.zero_add, <-Nat.add_mul];congr 1
   omega
  .obtain ⟨Z,b⟩:=Option.ne_none_iff_exists'.1 b
   obtain ⟨oj,F⟩:=Option.ne_none_iff_exists'.1 F;rw [(g i Z b).1,(g j oj F).1]
  .have:x=w.heap.size:=by
    have y:x ∈ Y7 (.slice (some ⟨w.heap.size,0,none⟩) 0 G):=y;simp [Y7] at y
    exact y.2
   subst this;exact .inr (.inr (Nat.le_refl _))
  .change (if ((List.lookup i ([]:List (Nat×Obj))).isSome=true) then some (η i) else none)=some v at b
   cases b
end
section
def PP(P:Program)(x:CV):Prop:=x.closed=true\/∃ F,x=.sem (QP P F)
section
variable {w:World} {X:Nat->Prop} {η η' : Nat->Value} {C C' : Ctx} {P:Program}
theorem G8.port{vs:Array Value}{cs:List CV}(h:G8 w X η C vs cs)(H:∀ F v,QP P F C.w0 C.D C.X v->QP P F C'.w0 C'.D C'.X v)(hx:∀ x ∈ cs,PP P x):G8 w X η' C' vs cs:=by
 refine ⟨h.1,fun j g=>?_⟩;have c:=h.2 j g
 rcases hx _ (YA (d:=.d .any) g) with a|⟨F,a⟩
 .simp only [CV.closed,Bool.and_eq_true,List.isEmpty_iff] at a
  exact (c.mono (fun b _ k=>⟨rfl,k⟩) (fun i f=>by rw [a.1] at f;cases f)).ctx a.2
 .rw [a] at c ⊢
  generalize vs.getD j undef=u at c ⊢
  cases c with|sem _ _ g1 g2=>exact .sem _ _ (H F _ g1) g2
end
section
variable {P:Program} {C:Ctx} {nt:Nat} {e:W4} {s:W5}
theorem Z3W{f:Nat}(hcall:∀ args w,(callFunc f args).run P w=.ok (.enter f args) w){F:List AVal->AVal->Prop}{cs:List (List CV)}(hspec:∀ args r,F args r->K8 P f (args++WD cs) (Zv cs) r (Zv cs))(hres:∀ args r,F args r->r.closed=true){Si:List (Nat×Obj)}{m:Nat->Nat}{rd ids:List Nat}{x:Operand}(hx:Qv rd x=true){cids:List Nat}(hv:Y2 e x=.v (.c (.clo f cids)))(hlen:cids.length=cs.length)(hnd:Yf cids=true)(hbox:∀ k,k<cs.length->∃ ro,s (cids.getD k 0)=some (.box ro (cs.getD k [])))(hcl:∀ c ∈ cs,∀ x ∈ c,PP P x)(hsi:∀ p ∈ Si,∃ o1,s (m p.1)=some o1)(hin:∀ p ∈ Si,m p.1 ∈ ids)(hcin:∀ i ∈ cids,i ∈ ids)(hapart:∀ p ∈ Si,m p.1 ∉ cids):YQ C nt e s Si m rd ids x (YS P F):=by
 intro R η e0 s0 a w e4 T G;have b5:=(U5 G x).1
 rw [ZR e4 hx,hv] at b5;have b1:=Me b5
 refine .v _ _ (.c _ _ (.sem _ _ ⟨f,_,b1,hcall,?_⟩ (by rw [b1];rfl)));intro w1 X1 vs args r hF c6 J c3 a5 e6 e3
 have O : w.heap.size<=w1.heap.size:=c6;have Y:∀ k,k<cs.length->cids.getD k 0 ∈ cids:=fun k hk=>YA (by omega)
 have A:∀ k,k<cs.length->∃ ro,s0 (cids.getD k 0)=some (.box ro (cs.getD k [])):=by
  grind
 have I:∀ k,k<cs.length->∃ b c' e',η (cids.getD k 0)=.pointer (some ⟨b,0,none⟩)/\w.heap[b]?=some (.cells c' e' (0,0))/\G8 w (XS C s0 η) η C c' (cs.getD k []):=by
  intro k hk;obtain ⟨ro,h⟩:=A k hk
  have:=G.st _ _ h
  generalize η (cids.getD k 0)=u at this
  cases this with
  | box b _ c' e' _ y hcs=>exact ⟨b,c',e',rfl,y,hcs⟩
 have W:∀ k,k<cs.length->∀ b,b ∈ Y7 (η (cids.getD k 0))->¬ Own (ls Si) (fun i=>η (m i)) b:=by
  rintro k hk b y ⟨i,B,l,n⟩;obtain ⟨ro,h⟩:=A k hk
  obtain ⟨o1,Z⟩:=hsi _ (G7 l);have d0 : s0 (m i)=some o1:=by rw [T _ (hin _ (G7 l))];exact Z
  have:=G.ds _ _ b (by rw [h];simp) (by rw [d0];simp) y n
  exact hapart _ (G7 l) (this ▸ Y k hk)
 have c9:∀ b,Own (ls Si) (fun i=>η (m i)) b->XS C s0 η b:=by
  rintro b ⟨i,B,l,n⟩;obtain ⟨o1,Z⟩:=hsi _ (G7 l)
  exact .inr ⟨m i,o1,by rw [T _ (hin _ (G7 l))];exact Z,n⟩
 have hk:QZ w w1 (XS C s0 η) X1:=by
  intro b y hX;have b6:¬ Own (ls Si) (fun i=>η (m i)) b:=fun ho=>hX (c9 b ho)
  exact ⟨J b y b6,fun hx=>hX ((a5 b y b6).1 hx)⟩
 have z:∀ k o,ls (Zv cs) k=some o->k<cs.length/\o=.box true (cs.getD k []):=by
  intro k o hk;rw [Q2V] at hk
  grind
 have N:∀ b,Own (ls (Zv cs)) (fun k=>η (cids.getD k 0)) b->X1 b:=by
  rintro b ⟨k,B,M,U⟩;obtain ⟨t,_⟩:=z k B M
  obtain ⟨ro,h⟩:=A k t;have d8:b<w.heap.size:=(G.st _ _ h).lt U
  exact (a5 b d8 (W k t b U)).2 (.inr ⟨_,_,h,U⟩)
 have a3:∀ F' v,QP P F' C.w0 C.D C.X v->QP P F' w1 (Own (ls (Zv cs)) fun k=>η (cids.getD k 0)) X1 v:=by
  rintro F' v ⟨g,gc,g1,g2,g3⟩;refine ⟨g,gc,g1,g2,fun w2 X2 us c8 q hq s1 s2 s3 s4 s5 s6=>?_⟩
  have b3:∀ b,b<C.w0.heap.size->¬ C.D b->¬ Own (ls Si) (fun i=>η (m i)) b:=by
   rintro b y H ⟨i,B,l,n⟩;obtain ⟨o1,h⟩:=hsi _ (G7 l)
   rcases G.ow (m i) o1 b (by rw [T _ (hin _ (G7 l))];exact h) n with ⟨_,h⟩|h|h
   .exact H h
   .exact H (G.ok.md b h)
   .omega
  have b4:∀ b,b<C.w0.heap.size->¬ C.D b->¬ Own (ls (Zv cs)) (fun k=>η (cids.getD k 0)) b:=by
   rintro b y H ⟨k,B,M,U⟩;obtain ⟨t,_⟩:=z k B M
   obtain ⟨ro,h⟩:=A k t;rcases G.ow _ _ b h U with ⟨_,h⟩|h|h
   .exact H h
   .exact H (G.ok.md b h)
   .omega
  refine g3 w2 X2 us c8 q hq (Nat.le_trans G.fr.size (Nat.le_trans O s1)) (fun b y H=>?_) s3 (fun b y H=>?_) s5 s6
  .have V:b<w.heap.size:=Nat.lt_of_lt_of_le y G.fr.size
   exact ((s2 b (Nat.lt_of_lt_of_le V O) (b4 b y H)).trans (J b V (b3 b y H))).trans (G.fr.block b y fun hM=>H (G.ok.md b hM))
  .have V:b<w.heap.size:=Nat.lt_of_lt_of_le y G.fr.size
   rw [s4 b (Nat.lt_of_lt_of_le V O) (b4 b y H),a5 b V (b3 b y H)];constructor
   .rintro (⟨hx,_⟩|⟨i,B,l,n⟩)
    .exact hx
    .rcases G.ow i B b l n with ⟨_,h⟩|h|h
     .grind
     .exact absurd (G.ok.md b h) H
     .omega
   .exact fun hx=>.inl ⟨hx,H⟩
 have d2:=hspec args r hF w1 X1 (fun k=>η (cids.getD k 0)) (vs++(cids.map η).toArray) c3 N
  (fun k o M=>by
   obtain ⟨t,rfl⟩:=z k o M;obtain ⟨b,c',e',h,Z,h3⟩:=I k t
   have d7:=W k t b (by rw [h];simp [Y7]);show ORep w1 X1 _ _ (η (cids.getD k 0)) _
   rw [h];have c5:∀ x ∈ cs.getD k [],PP P x:=hcl _ (YA (d:=[]) t)
   exact .box b true c' e' _ ((J b (YJ Z) d7).trans Z) ((h3.mono (η':=η) hk (fun _ _=>rfl)).port a3 c5))
  (fun i j b l hj b9 d5=>by
   obtain ⟨oi,l⟩:=Option.ne_none_iff_exists'.1 l;obtain ⟨oj,hj⟩:=Option.ne_none_iff_exists'.1 hj
   obtain ⟨c1,_⟩:=z i oi l;obtain ⟨c0,_⟩:=z j oj hj
   obtain ⟨r1,h⟩:=A i c1;obtain ⟨r2,Z⟩:=A j c0
   have b7:=G.ds _ _ b (by rw [h];simp) (by rw [Z];simp) b9 d5;have hn:=Un hnd
   have c4:i<cids.length:=by omega
   have c2:j<cids.length:=by omega
   rw [List.getD_eq_getElem?_getD,List.getD_eq_getElem?_getD,List.getElem?_eq_getElem c4,List.getElem?_eq_getElem c2] at b7;exact (List.getElem_inj hn).1 (by simpa using b7))
  (by simp [e6,WD,hlen])
  (fun j hj=>by
   rw [List.length_append] at hj
   by_cases hja:j<args.length
   .have e1:(vs++(cids.map η).toArray).getD j undef=vs.getD j undef:=by
     have:j<vs.size:=by omega
     simp [Array.getD_eq_getD_getElem?,Array.getElem?_append,this]
    have e2:(args++WD cs).getD j .any=args.getD j .any:=by simp [List.getD_eq_getElem?_getD,List.getElem?_append,hja]
    grind
   .have t:j-args.length<cs.length:=by simp [WD] at hj;omega
    obtain ⟨b,c',e',h,Z,h3⟩:=I _ t;have e1:(vs++(cids.map η).toArray).getD j undef=η (cids.getD (j-args.length) 0):=by
     have g1:¬ j<vs.size:=by omega
     have g2:j-vs.size<cids.length:=by omega
     have g3:j-args.length<cids.length:=by omega
     have:j-vs.size=j-args.length:=by omega
     simp [Array.getD_eq_getD_getElem?,Array.getElem?_append,g1,List.getD_eq_getElem?_getD,this,g3]
    have e2:(args++WD cs).getD j .any=.v (.c (.ptr (j-args.length) 0)):=by
     simp [List.getD_eq_getElem?_getD,List.getElem?_append,hja,WD,t]
    rw [e1,e2,h];exact .v _ _ (.c _ _ (.ptr b _ 0 h)))
 refine d2.mono fun en w' hh=>?_
 obtain ⟨v,η',rfl,y⟩:=hh;refine ⟨v,rfl,y.stp.mono fun b _ hM=>?_,fun η2 C2=>?_⟩
 .obtain ⟨i,B,l,c7,_⟩:=hM
  obtain ⟨_,rfl⟩:=z i B l;cases c7
 .have hX:∀ b,XS (QW (Zv cs) w1 X1 fun k=>η (cids.getD k 0)) (ls (Zv cs)) η' b↔X1 b:=by
   have a1:∀ i B,ls (Zv cs) i=some B -> η' i=η (cids.getD i 0):=by
    intro i B l;refine y.pn i _ ?_
    unfold ls at l;simp [QW,l]
   intro b;constructor
   .rintro (⟨hx,_⟩|⟨i,B,l,n⟩)
    .exact hx
    .rw [a1 i B l] at n
     exact N b ⟨i,B,l,n⟩
   .intro hx
    rcases Classical.em (Own (ls (Zv cs)) (fun k=>η (cids.getD k 0)) b) with ho|ho
    .obtain ⟨i,B,l,n⟩:=ho
     exact .inr ⟨i,B,l,by rw [a1 i B l];exact n⟩
    .exact .inl ⟨hx,ho⟩
  exact (y.res.mono (η':=η') (fun b _ hx=>⟨rfl,fun d9=>hx ((hX b).2 d9)⟩) (fun _ _=>rfl)).free (hres args r hF)
def yj(P:Program):List CV->Prop
 | []=>True
 | c::cs=>PP P c/\yj P cs
def yi(P:Program):List (List CV)->Prop
 | []=>True
 | c::cs=>yj P c/\yi P cs
theorem Q8B{cs:List CV}(h:yj P cs):∀ x ∈ cs,PP P x:=by
 induction cs with
 | nil=>intro x a;cases a
 | cons c cs ih=>
  intro x a;rcases List.mem_cons.1 a with rfl|a
  .exact h.1
  .exact ih h.2 x a
theorem Q8C{cs:List (List CV)}(h:yi P cs):∀ c ∈ cs,∀ x ∈ c,PP P x:=by
 induction cs with
 | nil=>intro x a;cases a
 | cons c cs ih=>
  intro x a;rcases List.mem_cons.1 a with rfl|a
  .exact Q8B h.1
  .exact ih h.2 x a
theorem Z3U{f:Nat}(hcall:∀ args w,(callFunc f args).run P w=.ok (.enter f args) w){F:List AVal->AVal->Prop}(cs:List (List CV))(hspec:∀ args r,F args r->K8 P f (args++WD cs) (Zv cs) r (Zv cs))(hres:∀ args r,F args r->r.closed=true){Si:List (Nat×Obj)}{m:Nat->Nat}{rd ids:List Nat}{x:Operand}(hx:Qv rd x=true)(cids:List Nat)(hv:Y2 e x=.v (.c (.clo f cids)))(hnd:(Yf cids&&cids.all (fun i=>ids.contains i))=true)(hp:yi P cs)(hbox:Mh s cids cs)(hsi:Bz s Si m ids cids=true):YQ C nt e s Si m rd ids x (YS P F):=by
 simp only [Bool.and_eq_true] at hnd;obtain ⟨a,b⟩:=Q3d hbox
 exact Z3W hcall hspec hres hx hv a hnd.1 b (Q8C hp) (Jz hsi).1 (Jz hsi).2.1 (fun i d=>by simpa using List.all_eq_true.1 hnd.2 i d) (Jz hsi).2.2
end
end
section
section
variable {P:Program} {C:Ctx} {nt:Nat} {L:V9} {pins:List Nat} {K:Act->World->Prop}
theorem UE(Fm:Fr P L C pins){E:List (Nat×AVal)}{S0:List (Nat×Obj)}{i k es j:Nat}{cs:List CV}{f f' : Nat->List DVal}(hp:pins.contains k=false)(hfr:((E.flatMap fun p=>p.2.refs)++(((i,Obj.box false cs)::S0).flatMap fun p=>p.1::p.2.refs)).contains k=false)(hj:j<cs.length)(hc0:cs.getD j (.d .any)=.fl 0 f)(hk:Kn C nt E ((k,.arr es 0 f')::(i,.box false (cs.set j (.own k)))::S0) K):Kn C nt E ((i,.box false cs)::S0) K:=by
 intro R η a w r;have A:ls ((i,Obj.box false cs)::S0) i=some (.box false cs):=by rw [Qq,if_pos rfl]
 have W:=r.st i _ A;obtain ⟨b0,c',e',hη0,hb0,hcs⟩:∃ b c' e',η i=.pointer (some ⟨b,0,none⟩)/\w.heap[b]?=some (.cells c' e' (0,0))/\G8 w (XS C (ls ((i,Obj.box false cs)::S0)) η) η C c' cs:=by
  generalize η i=u at W
  cases W with|box b _ c' e' _ N h=>exact ⟨b,c',e',rfl,N,h⟩
 obtain ⟨ad,hv⟩:∃ ad,c'.getD j undef=.slice ad 0 0:=by
  have:=hcs.2 j hj
  rw [hc0] at this;generalize c'.getD j undef=u at this
  cases this with|fl ad _ _ _=>exact ⟨ad,rfl⟩
 have V:C.pin k=none:=by
  rcases hq:C.pin k with _|u
  .rfl
  .have:=Fm.pin k (by rw [hq];simp)
   grind
 have a6:∀ x ∈ (E.flatMap fun p=>p.2.refs)++(((i,Obj.box false cs)::S0).flatMap fun p=>p.1::p.2.refs),x≠k:=by
  grind
 have hS:∀ x o,ls ((i,Obj.box false cs)::S0) x=some o->x≠k/\∀ y ∈ o.refs,y≠k:=by
  intro x o c;have hm:=G7 c
  grind
 have Y:i≠k:=(hS i _ A).1;have hE:∀ u x,x ∈ (lk E u).refs->x≠k:=by
  intro u x c;rcases XX (E:=E) (t:=u) with h0|h0
  .rw [h0] at c;cases c
  all_goals grind
 let η' : Nat->Value:=fun x=>if x=k then .slice ad 0 0 else η x
 have l : ∀ x,x≠k->η' x=η x:=fun x c=>by show (if x=k then Value.slice ad 0 0 else η x)=_;rw [if_neg c]
 have H:η' k=.slice ad 0 0:=by show (if k=k then Value.slice ad 0 0 else η k)=_;rw [if_pos rfl]
 have F:∀ b,b ∉ Y7 (η' k):=by intro b;rw [H];cases ad <;> simp [Y7]
 have D:∀ x o,ls ((k,Obj.arr es 0 f')::(i,.box false (cs.set j (.own k)))::S0) x=some o->(x=k/\o=.arr es 0 f')\/(x=i/\o=.box false (cs.set j (.own k)))\/(x≠k/\x≠i/\ls ((i,Obj.box false cs)::S0) x=some o):=by
  intro x o c;rw [Qq] at c
  by_cases m:x=k
  .grind
  .rw [if_neg m,Qq] at c
   by_cases B:x=i
   .grind
   .rw [if_neg B] at c
    exact .inr (.inr ⟨m,B,by rw [Qq,if_neg B];exact c⟩)
 have n:∀ x o,ls ((k,Obj.arr es 0 f')::(i,.box false (cs.set j (.own k)))::S0) x=some o->x≠k->∃ M,ls ((i,Obj.box false cs)::S0) x=some M /\ M.ro=o.ro:=by
  intro x o c g;rcases D x o c with ⟨m,_⟩|⟨m,B⟩|⟨_,_,O⟩
  .grind
  .subst m;subst B;exact ⟨_,A,rfl⟩
  all_goals grind
 have T:∀ b,Own (ls ((k,Obj.arr es 0 f')::(i,.box false (cs.set j (.own k)))::S0)) η' b->Own (ls ((i,Obj.box false cs)::S0)) η b:=by
  rintro b ⟨x,o,c,G⟩
  by_cases g:x=k
  .grind
  .obtain ⟨M,m,_⟩:=n x o c g
   exact ⟨x,M,m,by rw [<-l x g];exact G⟩
 have hX:QZ w w (XS C (ls ((i,Obj.box false cs)::S0)) η) (XS C (ls ((k,Obj.arr es 0 f')::(i,.box false (cs.set j (.own k)))::S0)) η'):=by
  intro b N hn;refine ⟨rfl,fun c=>?_⟩
  rcases c with c|c
  .exact hn (.inl c)
  .exact hn (.inr (T b c))
 refine hk (fun x=>R x\/x=k) η' a w ⟨r.ok,r.df,r.sz,fun u=>(r.ev u).mono hX fun x c=>l x (hE u x c),fun u x c=>.inl (r.er u x c),fun x o c=>?_,fun x o c=>?_,fun x y b c v G J=>?_,fun x o b c N=>?_,r.fr,fun x u c=>?_⟩
 .rcases D x o c with ⟨rfl,rfl⟩|⟨rfl,rfl⟩|⟨m,B,O⟩
  .rw [H];exact .nil _ _ _
  .rw [l x Y,hη0]
   refine .box b0 false c' e' _ hb0 ⟨by rw [hcs.1];simp,fun q hq=>?_⟩;have I : q<cs.length:=by simpa using hq
   by_cases hqj:q=j
   .subst hqj
    have:(cs.set q (.own k)).getD q (.d .any)=.own k:=by simp [List.getD_eq_getElem?_getD,I]
    rw [this,hv];exact .own _ _ H.symm rfl
   .have:(cs.set j (.own k)).getD q (.d .any)=cs.getD q (.d .any):=by
     grind
    rw [this];refine (hcs.2 q I).mono hX fun y v=>l y ((hS x _ A).2 y ?_)
    exact List.mem_flatMap.2 ⟨_,YA I,v⟩
  .rw [l x m]
   exact (r.st x o O).mono hX (fun y v=>l y ((hS x o O).2 y v)) fun _ _=>rfl
 .rcases D x o c with ⟨rfl,rfl⟩|⟨rfl,rfl⟩|⟨m,B,O⟩
  .exact ⟨.inr rfl,by simp [Obj.refs]⟩
  .have:=r.sr x _ A
   refine ⟨.inl this.1,fun y v=>?_⟩;obtain ⟨z,hz,U⟩:=List.mem_flatMap.1 v
   rcases List.mem_or_eq_of_mem_set hz with Z|Z
   .exact .inl (this.2 y (List.mem_flatMap.2 ⟨z,Z,U⟩))
   .subst Z
    exact .inr (by simpa [CV.refs] using U)
  .have:=r.sr x o O
   exact ⟨.inl this.1,fun y v=>.inl (this.2 y v)⟩
 .obtain ⟨ox,c⟩:=Option.ne_none_iff_exists'.1 c
  obtain ⟨oy,v⟩:=Option.ne_none_iff_exists'.1 v
  by_cases g:x=k
  .subst g;exact absurd G (F b)
  .by_cases hyk:y=k
   .subst hyk;exact absurd J (F b)
   .obtain ⟨o1,m,_⟩:=n x ox c g
    obtain ⟨o2,B,_⟩:=n y oy v hyk;rw [l x g] at G
    rw [l y hyk] at J;exact r.ds x y b (by rw [m];simp) (by rw [B];simp) G J
 .by_cases g:x=k
  .subst g;exact absurd N (F b)
  .obtain ⟨M,m,B⟩:=n x o c g
   rw [l x g] at N;rw [<-B]
   exact r.ow x M b m N
 .have g:x≠k:=by intro h;subst h;rw [V] at c;cases c
  have:=r.pn x u c
  exact ⟨by rw [l x g];exact this.1,.inl this.2⟩
end
end
theorem xH{α:Type}[Emb α]{P:Program}{f:Nat}{args:List AVal}{r:List α}(h:K8 P f args [] (.v (.c (.own 100))) [(100,AO r)]):K8 P f args [] (AL r) []:=by
 intro w X η M H t z D A k;refine (h w X η M H t z D A k).mono fun e R y=>?_
 obtain ⟨v,η',I,l⟩:=y;refine ⟨v,η',I,?_⟩
 have p:∀ i o,ls ([]:List (Nat×Obj)) i=some o->False:=fun i o a=>by cases a
 have B:=l.objs 100 (AO r) (by rw [Qq,if_pos rfl]);have J:v=η' 100:=by
  have:=l.res
  cases this with|v _ _ y=>cases y with|c _ _ y=>cases y with|own _ _ g _=>exact g
 have q:∀ b,b ∈ Y7 (η' 100)->¬ XS (QW [] w X η) (ls []) η' b:=by
  intro b F O;have G:w.heap.size<=b:=by
   rcases l.ow 100 (AO r) b (by rw [Qq,if_pos rfl]) F with ⟨g,_⟩|⟨i,o,a,_⟩|g
   .cases g
   .grind
   .exact g
  rcases O with ⟨g,_⟩|⟨i,o,a,_⟩
  .have:=H b g
   omega
  all_goals grind
 have x:∀ b,¬ XS (QW [] w X η) (ls [(100,AO r)]) η' b->¬ XS (QW [] w X η) (ls []) η' b:=by
  intro b g m;rcases m with m|⟨i,o,a,_⟩
  .exact g (.inl m)
  all_goals grind
 refine ⟨l.stp,?_,fun i o a=>(p i o a).elim,fun i j b a=>?_,fun i o b a=>(p i o a).elim,l.pn⟩
 .rw [J]
  refine .v _ _ (.c _ _ (.d _ _ ?_));show DRep _ _ _ (.lst r.length (LF r))
  unfold AO at B;generalize η' 100=u at B q
  generalize hn:r.length=n at B
  cases B with
  | nil ad=>exact .nil _ _ _
  | arr b n cap es c e f g m h3 h4 h5 h6 h7=>
   refine .lst b 0 n cap c e _ _ _ (q b (by simp [Y7];omega)) g h3 ?_ h6 fun i j a N=>?_
   .rw [m,Nat.zero_add];exact Nat.mul_le_mul_right _ h3
   .rw [Nat.zero_add]
    exact (h7 i j a N).mono fun b _ l=>⟨rfl,x b (by unfold AO;rw [hn];exact l)⟩
 .exact absurd rfl a
section
def Wd(es n:Nat)(f:Nat->List DVal)(w:World)(X:Nat->Prop)(u:Value):Prop:=
 (∃ ad,u=.tuple #[.slice ad n n]/\DRep w X (.slice ad n n) (.lst n f))\/∀ η C,ORep w X η C u (.arr es n f)
def AP{α:Type}[Emb α](l:List α):Obj:=.ext (Wd (Emb.es α) l.length (LF l))
theorem Z2G{w:World}{X:Nat->Prop}{η:Nat->Value}{C:Ctx}{v:Value}{es n:Nat}{f:Nat->List DVal}(h:ORep w X η C v (.arr es n f))(η' : Nat->Value)(C' : Ctx):ORep w X η' C' v (.arr es n f):=by
 cases h with
 | nil ad=>exact .nil ad _ _
 | arr b _ cap _ c e _ h1 h2 h3 h4 h5 h6 h7=>exact .arr b _ cap _ c e _ h1 h2 h3 h4 h5 h6 h7
theorem Q3n(es n:Nat)(f:Nat->List DVal)(u:Value):PQ (Wd es n f) u:=by
 intro w g X i a b h;rcases h with ⟨d,e,c⟩|h
 .exact .inl ⟨d,e,c.mono a⟩
 .exact .inr fun η C=>(h η C).mono (η':=η) a (fun _ _=>rfl) b
theorem W7.ap(k:Nat):W7 (.own k) (.ap k):=⟨fun w X η C v a=>by cases a with|own _ _ h h1=>exact .ap _ _ (.inl h.symm) h1,fun i b=>b⟩
theorem U2.ap(es n:Nat)(f:Nat->List DVal):U2 (.arr es n f) (.ext (Wd es n f)):=
 ⟨fun w X η C v a=>.ext _ _ (.inr fun η' C'=>Z2G a η' C') (Q3n es n f v) fun b c=>a.lt c,rfl,fun i d=>by cases d⟩
def JB(k:Nat)(y:CV):CV->CV
 | .ap i=>if i=k then y else .ap i
 | x=>x
def TV.sb(k:Nat)(y:CV):TV->TV
 | .c x=>.c (JB k y x)
 | .g xs=>.g (xs.map (JB k y))
def AVal.sb(k:Nat)(y:CV):AVal->AVal
 | .any=>.any
 | .v x=>.v (x.sb k y)
 | .t xs=>.t (xs.map (TV.sb k y))
def Obj.sb(k:Nat)(y:CV):Obj->Obj
 | .box ro cs=>.box ro (cs.map (JB k y))
 | o=>o
section
variable {w:World} {X X' : Nat->Prop} {η:Nat->Value} {C:Ctx} {k:Nat} {y:CV}
theorem CRep.sb{v:Value}{x:CV}(h:CRep w X η C v x)(hX:∀ b,¬ X b->¬ X' b)(hk:∀ v,CRep w X η C v (.ap k)->CRep w X' η C v y):CRep w X' η C v (JB k y x):=by
 have a:QZ w w X X':=fun b _ c=>⟨rfl,hX b c⟩
 cases x with
 | ap i=>
  simp only [JB];split
  .grind
  .exact h.mono a fun _ _=>rfl
 | _=>exact h.mono a fun _ _=>rfl
theorem G8.sb{vs:Array Value}{cs:List CV}(h:G8 w X η C vs cs)(hX:∀ b,¬ X b->¬ X' b)(hk:∀ v,CRep w X η C v (.ap k)->CRep w X' η C v y):G8 w X' η C vs (cs.map (JB k y)):=by
 refine ⟨by simpa using h.1,fun j c=>?_⟩;have a : j<cs.length:=by simpa using c
 have:=(h.2 j a).sb hX hk
 grind
theorem TRep.sb{v:Value}{x:TV}(h:TRep w X η C v x)(hX:∀ b,¬ X b->¬ X' b)(hk:∀ v,CRep w X η C v (.ap k)->CRep w X' η C v y):TRep w X' η C v (x.sb k y):=by
 cases h with
 | c _ _ h=>exact .c _ _ (h.sb hX hk)
 | g _ _ h=>exact .g _ _ (h.sb hX hk)
theorem ARep.sb{v:Value}{x:AVal}(h:ARep w X η C v x)(hX:∀ b,¬ X b->¬ X' b)(hk:∀ v,CRep w X η C v (.ap k)->CRep w X' η C v y):ARep w X' η C v (x.sb k y):=by
 cases h with
 | any=>exact .any v
 | v _ _ h=>exact .v _ _ (h.sb hX hk)
 | t us xs h1 h2=>
  refine .t us _ (by simpa using h1) fun j c=>?_
  have a : j<xs.length:=by simpa using c
  have:=(h2 j a).sb hX hk
  grind
theorem ORep.sb{v:Value}{o:Obj}(h:ORep w X η C v o)(hX:∀ b,¬ X b->¬ X' b)(hk:∀ v,CRep w X η C v (.ap k)->CRep w X' η C v y):ORep w X' η C v (o.sb k y):=by
 cases o with
 | box ro cs=>cases h with|box b _ c e _ h1 h2=>exact .box b ro c e _ h1 (h2.sb hX hk)
 | arr es n f=>exact h.mono (fun b _ a=>⟨rfl,hX b a⟩) (fun _ _=>rfl) fun _ _=>rfl
 | ext p=>exact h.mono (fun b _ a=>⟨rfl,hX b a⟩) (fun _ _=>rfl) fun _ _=>rfl
 | exr refs p=>exact h.mono (fun b _ a=>⟨rfl,hX b a⟩) (fun _ _=>rfl) fun _ _=>rfl
theorem xO(hy:∀ i ∈ y.refs,i=k)(x:CV):∀ j ∈ (JB k y x).refs,j ∈ x.refs:=by
 cases x <;> simp only [JB] <;> try exact fun j a=>a
 split
 .rename_i b;intro j a;rw [hy j a,b];simp [CV.refs]
 all_goals grind
theorem Q3s(hy:∀ i ∈ y.refs,i=k)(x:TV):∀ j ∈ (x.sb k y).refs,j ∈ x.refs:=by
 cases x with
 | c x=>exact xO hy x
 | g xs=>exact Xx (xO hy)
theorem Z4j(hy:∀ i ∈ y.refs,i=k)(x:AVal):∀ j ∈ (x.sb k y).refs,j ∈ x.refs:=by
 cases x with
 | any=>exact fun j a=>a
 | v x=>exact Q3s hy x
 | t xs=>exact Xx (Q3s hy)
theorem Z3l(hy:∀ i ∈ y.refs,i=k)(o:Obj):∀ j ∈ (o.sb k y).refs,j ∈ o.refs:=by
 cases o with
 | box ro cs=>exact Xx (xO hy)
 | arr es n f=>exact fun j a=>a
 | ext p=>exact fun j a=>a
 | exr refs p=>exact fun j a=>a
theorem Z3k(o:Obj):(o.sb k y).ro=o.ro:=by cases o <;> rfl
end
section
variable {P:Program} {C:Ctx} {nt:Nat} {L:V9} {pins:List Nat} {K:Act->World->Prop} {E:List (Nat×AVal)} {S:List (Nat×Obj)}
theorem Conc.sb{R:Nat->Prop}{η:Nat->Value}{a:Act}{w:World}{S0:List (Nat×Obj)}{k:Nat}{y:CV}(hc:Conc C nt R η (lk E) (ls S0) a w)(s' : W5)(hy:∀ i ∈ y.refs,i=k)(hs:∀ i o',s' i=some o' -> ∃ o,ls S0 i=some o/\(o'=o.sb k y\/(o'.refs=[]/\o'.ro=o.ro/\ORep w (XS C s' η) η C (η i) o')))(hrep:∀ v,CRep w (XS C (ls S0) η) η C v (.ap k)->CRep w (XS C s' η) η C v y):Conc C nt R η (lk (E.map fun p=>(p.1,p.2.sb k y))) s' a w:=by
 have r:∀ b,¬ XS C (ls S0) η b->¬ XS C s' η b:=by
  intro b l q;rcases q with q|⟨i,o',c,n⟩
  .exact l (.inl q)
  .obtain ⟨o,d,_⟩:=hs i o' c
   exact l (.inr ⟨i,o,d,n⟩)
 have m:∀ i,s' i≠none->ls S0 i≠none:=by
  intro i c;obtain ⟨o',c⟩:=Option.ne_none_iff_exists'.1 c
  grind
 refine ⟨hc.ok,hc.df,hc.sz,fun t=>?_,fun t i c=>?_,fun i o' c=>?_,fun i o' c=>?_,fun i j b c f=>hc.ds i j b (m i c) (m j f),fun i o' b c l=>?_,hc.fr,hc.pn⟩
 .rw [TX (g:=AVal.sb k y) rfl];exact (hc.ev t).sb r hrep
 .rw [TX (g:=AVal.sb k y) rfl] at c;exact hc.er t i (Z4j hy _ i c)
 .obtain ⟨o,d,h|⟨_,_,h⟩⟩:=hs i o' c
  .rw [h];exact (hc.st i o d).sb r hrep
  .exact h
 .obtain ⟨o,d,h|⟨h,_,_⟩⟩:=hs i o' c
  .have:=hc.sr i o d
   exact ⟨this.1,fun j f=>this.2 j (by rw [h] at f;exact Z3l hy o j f)⟩
  .exact ⟨(hc.sr i o d).1,fun j f=>by rw [h] at f;cases f⟩
 .obtain ⟨o,d,h|⟨_,h,_⟩⟩:=hs i o' c
  .have:=hc.ow i o b d l
   rw [h,Z3k];exact this
  .have:=hc.ow i o b d l
   rw [h];exact this
theorem FY{k es n:Nat}{f:Nat->List DVal}(hk:(S.map (·.1)).contains k=false)(h1:Kn C nt (E.map fun p=>(p.1,p.2.sb k (.own k))) ((k,.arr es n f)::S.map fun p=>(p.1,p.2.sb k (.own k))) K)(h2:Kn C nt (E.map fun p=>(p.1,p.2.sb k (.fl n f))) (S.map fun p=>(p.1,p.2.sb k (.fl n f))) K):Kn C nt E ((k,.ext (Wd es n f))::S) K:=by
 intro R η a w A;have t:ls ((k,.ext (Wd es n f))::S) k=some (.ext (Wd es n f)):=by rw [Qq,if_pos rfl]
 have H:ls S k=none:=by
  cases g:ls S k with
  | none=>rfl
  | some o=>
   have:k ∈ S.map (·.1):=List.mem_map.2 ⟨_,G7 g,rfl⟩
   grind
 have j:∀ i o,ls S i=some o->ls ((k,.ext (Wd es n f))::S) i=some o:=by
  intro i o c;have D:i≠k:=by intro h;rw [h,H] at c;cases c
  rw [Qq,if_neg D];exact c
 have z:=A.st k _ t;have G:Wd es n f w (XS C (ls ((k,.ext (Wd es n f))::S)) η) (η k):=by
  generalize η k=u at z
  cases z with|ext _ _ h _ _=>exact h
 rcases G with ⟨J,e,I⟩|g
 .refine h2 R η a w (A.sb _ (by simp [CV.refs]) (fun i B c=>?_) fun v d=>?_)
  .rw [UW] at c
   cases g:ls S i with
   | none=>rw [g] at c;cases c
   | some o=>rw [g] at c;cases c;exact ⟨o,j i o g,.inl rfl⟩
  .have F:∀ b,¬ XS C (ls ((k,.ext (Wd es n f))::S)) η b->¬ XS C (ls (S.map fun p=>(p.1,p.2.sb k (.fl n f)))) η b:=by
    intro b m x;rcases x with x|⟨i,B,c,q⟩
    .exact m (.inl x)
    .rw [UW] at c
     cases g:ls S i with
     | none=>rw [g] at c;cases c
     | some o=>exact m (.inr ⟨i,o,j i o g,q⟩)
   cases d with|ap _ _ d h1=>
   rw [e] at d;rcases d with rfl|d|⟨l,d⟩
   .cases h1
   .cases d;exact .fl _ _ _ (I.mono fun b _ m=>⟨rfl,F b m⟩)
   .cases d
 .have F:∀ b,¬ XS C (ls ((k,.ext (Wd es n f))::S)) η b->¬ XS C (ls ((k,.arr es n f)::S.map fun p=>(p.1,p.2.sb k (.own k)))) η b:=by
   intro b m x;rcases x with x|⟨i,B,c,q⟩
   .exact m (.inl x)
   .rw [Qq] at c
    split at c
    .rename_i r;subst r;exact m (.inr ⟨i,_,t,q⟩)
    .rw [UW] at c
     cases g:ls S i with
     | none=>rw [g] at c;cases c
     | some o=>exact m (.inr ⟨i,o,j i o g,q⟩)
  refine h1 R η a w (A.sb _ (by simp [CV.refs]) (fun i B c=>?_) fun v d=>?_)
  .rw [Qq] at c
   split at c
   .rename_i r
    cases c
    subst r;exact ⟨_,t,.inr ⟨rfl,rfl,(g η C).mono (fun b _ m=>⟨rfl,F b m⟩) (fun _ _=>rfl) fun _ _=>rfl⟩⟩
   .rw [UW] at c
    cases ho' : ls S i with
    | none=>rw [ho'] at c;cases c
    | some o=>rw [ho'] at c;cases c;exact ⟨o,j i o ho',.inl rfl⟩
  .cases d with|ap _ _ d h1=>
   have:=g η C
   rcases d with d|d|⟨l,d⟩
   .exact .own _ _ d.symm h1
   .rw [d] at this;cases this
   .rw [d] at this;cases this
theorem xC(Fm:Fr P L C pins){S0:List (Nat×Obj)}{ro:Bool}{i k es n j:Nat}{cs:List CV}{f:Nat->List DVal}(hp:pins.contains k=false)(hfr:((E.flatMap fun p=>p.2.refs)++(((i,Obj.box ro cs)::S0).flatMap fun p=>p.1::p.2.refs)).contains k=false)(hj:j<cs.length)(hc0:cs.getD j (.d .any)=.fl n f)(hk:Kn C nt E ((k,.ext (Wd es n f))::(i,.box ro (cs.set j (.ap k)))::S0) K):Kn C nt E ((i,.box ro cs)::S0) K:=by
 intro R η a w A;have D:ls ((i,Obj.box ro cs)::S0) i=some (.box ro cs):=by rw [Qq,if_pos rfl]
 have Y:=A.st i _ D;obtain ⟨b0,c',e',hη0,hb0,hcs⟩:∃ b c' e',η i=.pointer (some ⟨b,0,none⟩)/\w.heap[b]?=some (.cells c' e' (0,0))/\G8 w (XS C (ls ((i,Obj.box ro cs)::S0)) η) η C c' cs:=by
  generalize η i=u at Y
  cases Y with|box b _ c' e' _ I h=>exact ⟨b,c',e',rfl,I,h⟩
 obtain ⟨ad,hv,hdr⟩:∃ ad,c'.getD j undef=.slice ad n n/\DRep w (XS C (ls ((i,Obj.box ro cs)::S0)) η) (.slice ad n n) (.lst n f):=by
  have:=hcs.2 j hj
  rw [hc0] at this;generalize c'.getD j undef=u at this
  cases this with|fl ad _ _ h=>exact ⟨ad,rfl,h⟩
 have W:C.pin k=none:=by
  rcases hq:C.pin k with _|u
  .rfl
  .have:=Fm.pin k (by rw [hq];simp)
   grind
 have a7:∀ x ∈ (E.flatMap fun p=>p.2.refs)++(((i,Obj.box ro cs)::S0).flatMap fun p=>p.1::p.2.refs),x≠k:=by
  grind
 have hS:∀ x o,ls ((i,Obj.box ro cs)::S0) x=some o->x≠k/\∀ y ∈ o.refs,y≠k:=by
  intro x o c;have hm:=G7 c
  grind
 have a0:i≠k:=(hS i _ D).1;have hE:∀ u x,x ∈ (lk E u).refs->x≠k:=by
  intro u x c;rcases XX (E:=E) (t:=u) with h0|h0
  .rw [h0] at c;cases c
  all_goals grind
 let η' : Nat->Value:=fun x=>if x=k then .tuple #[.slice ad n n] else η x
 have l : ∀ x,x≠k->η' x=η x:=fun x c=>by show (if x=k then Value.tuple #[.slice ad n n] else η x)=_;rw [if_neg c]
 have J:η' k=.tuple #[.slice ad n n]:=by show (if k=k then Value.tuple #[.slice ad n n] else η k)=_;rw [if_pos rfl]
 have v:∀ b,b ∉ Y7 (η' k):=by intro b;rw [J];simp [Y7]
 have G:∀ x o,ls ((k,Obj.ext (Wd es n f))::(i,.box ro (cs.set j (.ap k)))::S0) x=some o->(x=k/\o=.ext (Wd es n f))\/(x=i/\o=.box ro (cs.set j (.ap k)))\/(x≠k/\x≠i/\ls ((i,Obj.box ro cs)::S0) x=some o):=by
  intro x o c;rw [Qq] at c
  by_cases m:x=k
  .grind
  .rw [if_neg m,Qq] at c
   by_cases F:x=i
   .grind
   .rw [if_neg F] at c
    exact .inr (.inr ⟨m,F,by rw [Qq,if_neg F];exact c⟩)
 have r:∀ x o,ls ((k,Obj.ext (Wd es n f))::(i,.box ro (cs.set j (.ap k)))::S0) x=some o->x≠k->∃ O,ls ((i,Obj.box ro cs)::S0) x=some O /\ O.ro=o.ro:=by
  intro x o c g;rcases G x o c with ⟨m,_⟩|⟨m,F⟩|⟨_,_,T⟩
  .grind
  .subst m;subst F;exact ⟨_,D,rfl⟩
  all_goals grind
 have U:∀ b,Own (ls ((k,Obj.ext (Wd es n f))::(i,.box ro (cs.set j (.ap k)))::S0)) η' b->Own (ls ((i,Obj.box ro cs)::S0)) η b:=by
  rintro b ⟨x,o,c,H⟩
  by_cases g:x=k
  .grind
  .obtain ⟨O,m,_⟩:=r x o c g
   exact ⟨x,O,m,by rw [<-l x g];exact H⟩
 have Z:QZ w w (XS C (ls ((i,Obj.box ro cs)::S0)) η) (XS C (ls ((k,Obj.ext (Wd es n f))::(i,.box ro (cs.set j (.ap k)))::S0)) η'):=by
  intro b I hn;refine ⟨rfl,fun c=>?_⟩
  rcases c with c|c
  .exact hn (.inl c)
  .exact hn (.inr (U b c))
 refine hk (fun x=>R x\/x=k) η' a w ⟨A.ok,A.df,A.sz,fun u=>(A.ev u).mono Z fun x c=>l x (hE u x c),fun u x c=>.inl (A.er u x c),fun x o c=>?_,fun x o c=>?_,fun x y b c B H N=>?_,fun x o b c I=>?_,A.fr,fun x u c=>?_⟩
 .rcases G x o c with ⟨rfl,rfl⟩|⟨rfl,rfl⟩|⟨m,F,T⟩
  .refine .ext _ _ ?_ (Q3n es n f _) (fun b I=>absurd I (v b))
   rw [J];exact .inl ⟨ad,rfl,hdr.mono Z⟩
  .rw [l x a0,hη0]
   refine .box b0 ro c' e' _ hb0 ⟨by rw [hcs.1];simp,fun q hq=>?_⟩;have M : q<cs.length:=by simpa using hq
   by_cases hqj:q=j
   .subst hqj
    have:(cs.set q (.ap k)).getD q (.d .any)=.ap k:=by simp [List.getD_eq_getElem?_getD,M]
    rw [this,hv];exact .ap _ _ (.inr (.inl J)) rfl
   .have:(cs.set j (.ap k)).getD q (.d .any)=cs.getD q (.d .any):=by
     grind
    rw [this];refine (hcs.2 q M).mono Z fun y B=>l y ((hS x _ D).2 y ?_)
    exact List.mem_flatMap.2 ⟨_,YA M,B⟩
  .rw [l x m]
   exact (A.st x o T).mono Z (fun y B=>l y ((hS x o T).2 y B)) fun _ _=>rfl
 .rcases G x o c with ⟨rfl,rfl⟩|⟨rfl,rfl⟩|⟨m,F,T⟩
  .exact ⟨.inr rfl,by simp [Obj.refs]⟩
  .have:=A.sr x _ D
   refine ⟨.inl this.1,fun y B=>?_⟩;obtain ⟨z,hz,V⟩:=List.mem_flatMap.1 B
   rcases List.mem_or_eq_of_mem_set hz with h4|h4
   .exact .inl (this.2 y (List.mem_flatMap.2 ⟨z,h4,V⟩))
   .subst h4
    exact .inr (by simpa [CV.refs] using V)
  .have:=A.sr x o T
   exact ⟨.inl this.1,fun y B=>.inl (this.2 y B)⟩
 .obtain ⟨ox,c⟩:=Option.ne_none_iff_exists'.1 c
  obtain ⟨oy,B⟩:=Option.ne_none_iff_exists'.1 B
  by_cases g:x=k
  .subst g;exact absurd H (v b)
  .by_cases hyk:y=k
   .subst hyk;exact absurd N (v b)
   .obtain ⟨o1,m,_⟩:=r x ox c g
    obtain ⟨o2,F,_⟩:=r y oy B hyk;rw [l x g] at H
    rw [l y hyk] at N;exact A.ds x y b (by rw [m];simp) (by rw [F];simp) H N
 .by_cases g:x=k
  .subst g;exact absurd I (v b)
  .obtain ⟨O,m,F⟩:=r x o c g
   rw [l x g] at I;rw [<-F]
   exact A.ow x O b m I
 .have g:x≠k:=by intro h;subst h;rw [W] at c;cases c
  have:=A.pn x u c
  exact ⟨by rw [l x g];exact this.1,.inl this.2⟩
end
end
section
section
variable {P:Program} {C:Ctx} {nt:Nat} {L:V9} {ops:Array Oper} {ds:List Dir} {e:W4} {s:W5}
def GR(caps:List Nat):List AVal:=caps.map fun c=>.v (.c (.ptr c 0))
theorem Q5g{f:Nat}(hcall:∀ args w,(callFunc f args).run P w=.ok (.enter f args) w){o:Oper}{fx:Operand}{xs:Array Operand}{tys:Array TypeId}(hop:o.op=.call { callee:=.value fx,args:=xs,argTypes:=tys }){args:List AVal}{Si:List (Nat×Obj)}{r:AVal}{So:List (Nat×Obj)}{m:Nat->Nat}{caps:List Nat}(hfx:Y2 e fx=.v (.c (.clo f (caps.map m))))(hrf:Qv (Qx o++Qi ops o) fx=true)(hspec:K8 P f (args++GR caps) Si r So)(hbox:∀ c ∈ caps,∃ ro cs,ls Si c=some (.box ro cs))(hlen:xs.size=args.length)(extra:List Nat)(hargs:∀ j,j<args.length->YQ C nt e s Si m (Qx o++Qi ops o) (WN e o++(Si.map (fun p=>m p.1)++extra)) (xs.toList.getD j (.const undef)) (args.getD j .any))(hsi:∀ p ∈ Si,∃ o1,s (m p.1)=some o1/\U2 o1 (p.2.ren m))(hchk:VG m r Si So=true)(hdo:QS nt o=true)(hg:Zg ops e o=some true):WG P C nt ops o (xl ops o e m extra r Si So) e s:=by
 intro R η e0 G a w A q a3 n K Q hK;have hw:=UG (e:=e) n (fun t ht=>A t (List.mem_append.2 (.inr ht))) hg
 rw [if_pos hw];have I:=(U5 n fx).1
 rw [ZR A hrf,hfx] at I;have M:=Me I
 have a1:=Fg (w:=w) hop M hcall;have g:∀ p ∈ Si,∃ o1,G (m p.1)=some o1/\U2 o1 (p.2.ren m):=by
  intro p hp;rw [q (m p.1) (List.mem_append.2 (.inr (List.mem_append.2 (.inl (List.mem_map.2 ⟨p,hp,rfl⟩)))))]
  exact hsi p hp
 simp only [VG,Bool.and_eq_true] at hchk;have z:=hchk
 obtain ⟨⟨⟨⟨⟨⟨⟨⟨⟨c1,c2⟩,c3⟩,c4⟩,c5⟩,c6⟩,c7⟩,c8⟩,c9⟩,b7⟩:=hchk;have N:∀ b,XS C G η b->b<w.heap.size:=by
  rintro b (⟨hx,_⟩|hx)
  .exact Nat.lt_of_lt_of_le (n.ok.lt b hx) n.fr.size
  .exact n.lt hx
 have O:∀ i l,ls Si i=some l -> l.noSem=true:=fun i l h=>List.all_eq_true.1 c7 _ (G7 h)
 have x:∀ i l,ls Si i=some l -> ORep w (XS C G η) (fun i=>η (m i)) (QW Si w (XS C G η) fun i=>η (m i)) (η (m i)) l:=fun i l h=>by
  obtain ⟨o1,J,a2⟩:=g _ (G7 h);exact (ORep.unren (a2.1 _ _ _ _ _ (n.st _ o1 J))).ctx (O i l h)
 have T:=hspec w (XS C G η) (fun i=>η (m i)) (xs.map a.eval++((caps.map m).map η).toArray) N
  (fun b ⟨i,l,h,hib⟩=>by obtain ⟨o1,J,_⟩:=g _ (G7 h);exact .inr ⟨m i,o1,J,hib⟩)
  x
  (fun i j b h B U Y=>by
   obtain ⟨oi,h⟩:=Option.ne_none_iff_exists'.1 h;obtain ⟨oj,B⟩:=Option.ne_none_iff_exists'.1 B
   obtain ⟨o1,J,_⟩:=g _ (G7 h);obtain ⟨o2,h2,_⟩:=g _ (G7 B)
   have H:m i=m j:=n.ds _ _ b (by rw [J];simp) (by rw [h2];simp) U Y;have n3:=Un c3
   rw [List.nodup_append] at n3;exact vf (ρ:=m) n3.2.1 (by rw [h];simp) (by rw [B];simp) H)
  (by simp [hlen,GR])
  (fun j B=>by
   rw [List.length_append] at B
   by_cases hja:j<args.length
   .have Z : j<xs.size:=by omega
    have e1:(xs.map a.eval++((caps.map m).map η).toArray).getD j undef=a.eval (xs.toList.getD j (.const undef)):=by
     simp [List.getD_eq_getElem?_getD,Z,Array.getD_eq_getD_getElem?,Array.getElem?_append]
    have V:(args++GR caps).getD j .any=args.getD j .any:=by simp [List.getD_eq_getElem?_getD,List.getElem?_append,hja]
    rw [e1,V];exact hargs j hja R η e0 G a w A q n
   .have D:j-args.length<caps.length:=by simp [GR] at B;omega
    have g1:¬ j<xs.size:=by omega
    have g2:j-xs.size=j-args.length:=by omega
    have e1:(xs.map a.eval++((caps.map m).map η).toArray).getD j undef=η (m (caps.getD (j-args.length) 0)):=by
     simp [Array.getD_eq_getD_getElem?,Array.getElem?_append,g1,g2,D,List.getD_eq_getElem?_getD]
    have V:(args++GR caps).getD j .any=.v (.c (.ptr (caps.getD (j-args.length) 0) 0)):=by
     simp [List.getD_eq_getElem?_getD,List.getElem?_append,hja,GR,D]
    rw [e1,V];obtain ⟨ro,cs,W⟩:=hbox _ (YA (d:=0) D)
    have:=x _ _ W
    generalize hu:η (m (caps.getD (j-args.length) 0))=u at this
    cases this with|box b _ c e' _ _ _=>exact .v _ _ (.c _ _ (.ptr b _ 0 hu)))
 unfold Oper.wp;rw [a1]
 show Calls P f _ w _;refine T.mono fun en w' hh=>?_
 obtain ⟨v,η',rfl,W⟩:=hh;have F:VG m r Si So=true:=by simp only [VG,Bool.and_eq_true];exact z
 obtain ⟨η1,a0⟩:=n.call (YY hdo) F g a3 W;exact hK η1 _ w' a0
def ve(f:Nat)(ids:List Nat):AVal->Bool
 | .v (.c (.clo g is))=>g==f&&is==ids
 | _=>false
theorem Z0d{f:Nat}{ids:List Nat}{x:AVal}(h:ve f ids x=true):x=.v (.c (.clo f ids)):=by
 unfold ve at h
 grind
def Q3b(Si:List (Nat×Obj))(caps:List Nat):Bool:=caps.all fun c=>match ls Si c with|some (.box _ _)=>true|_=>false
theorem Z2y{Si:List (Nat×Obj)}{caps:List Nat}(h:Q3b Si caps=true):∀ c ∈ caps,∃ ro cs,ls Si c=some (.box ro cs):=by
 intro c a;have:=List.all_eq_true.1 h c a
 grind
def Q2W(ops:Array Oper)(nt:Nat)(e:W4)(o:Oper)(f:Nat)(m:List (Nat×Nat))(caps:List Nat)(r:AVal)(Si So:List (Nat×Obj)):Bool:=
 Pi o&&ve f (caps.map (V3 m)) (Y2 e (UA o))&&Qv (Qx o++Qi ops o) (UA o)&&VG (V3 m) r Si So&&QS nt o&&(Zg ops e o==some true)&&Q3b Si caps
theorem PU{k:Nat}{f:Nat}{args:List AVal}{Si:List (Nat×Obj)}{r:AVal}{So:List (Nat×Obj)}{caps:List Nat}(hspec:K8 P f (args++GR caps) Si r So)(hcall:∀ args w,(callFunc f args).run P w=.ok (.enter f args) w)(m:List (Nat×Nat))(hk:Qs ds k=cE m [] r Si So)(hq:(Q2W ops nt (V7 L ops ops.toList ds e s k) (Y6 ops.toList k) f m caps r Si So,Si.map (fun p=>QU L ops ops.toList ds e s k (V3 m p.1)),
   (Go.Ab.callXs (Y6 ops.toList k)).toList.all (Qv (Qx (Y6 ops.toList k)++Qi ops (Y6 ops.toList k)))&&args.all AVal.noSem,(Go.Ab.callXs (Y6 ops.toList k)).toList.map (Y2 (V7 L ops ops.toList ds e s k)))
   = (true,Si.map (fun p=>some (p.2.ren (V3 m))),true,args.map (AVal.ren (V3 m)))):U9 P C nt L ops ds e s k:=by
 unfold U9;rw [hk]
 have d:=congrArg (·.1) hq;have c:=congrArg (·.2.1) hq
 have b:=congrArg (·.2.2.1) hq;have a:=congrArg (·.2.2.2) hq
 simp only at d c b a;simp only [Q2W,Bool.and_eq_true] at d
 obtain ⟨⟨⟨⟨⟨⟨u,x⟩,v⟩,A⟩,l⟩,n⟩,o⟩:=d;obtain ⟨z,g⟩:=CE u
 rw [Bool.and_eq_true] at b;obtain ⟨h,i⟩:=(xS (C:=C) (nt:=nt) (s:=QU L ops ops.toList ds e s k) (Si:=Si) (ids:=WN (V7 L ops ops.toList ds e s k) (Y6 ops.toList k)++(Si.map (fun p=>V3 m p.1)++[])) b.1 b.2 a).spec
 exact Q5g hcall g (Z0d x) v hspec (Z2y o) (by simpa using h) [] (fun j t=>i j t) (fun p q=>⟨_,Kc c p q,U2.refl _⟩) A l (by simpa using n)
end
end
section
open Go.Sort Go.Proofs Go.Shelf
section
variable {α:Type} [Emb α]
end
end
section
section
variable {P:Program} {C:Ctx} {nt:Nat} {L:V9} {R:Nat->Prop} {η:Nat->Value} {e:W4} {s:W5} {a:Act} {w:World}
theorem G4.upd_le{o:Oper}{x:AVal}{id:Nat}{ob ob' : Obj}{c:Prop}(h:G4 P C nt R η e s a w o { v:=x,upd:=some (id,ob),cond:=c })(hle:U2 ob ob'):G4 P C nt R η e s a w o { v:=x,upd:=some (id,ob'),cond:=c }:=by
 obtain ⟨v,p,u,g⟩:=h;refine ⟨v,p,u,?_⟩
 have b:∀ q i,SR.sto { v:=x,upd:=some (id,q),cond:=c } o.dst s i=if i=id then some q else s i:=by
  intro q i;unfold SR.sto
  simp
 have r:=g.conv (R':=SR.rng { v:=x,upd:=some (id,ob'),cond:=c } o.dst R) (e':=SR.env { v:=x,upd:=some (id,ob'),cond:=c } o.dst e) (s':=SR.sto { v:=x,upd:=some (id,ob'),cond:=c } o.dst s) (fun i=>i)
  (fun t=>by rw [Mw];exact Z8.refl _) (fun i l d=>by
   rw [Mq];rw [b] at d ⊢
   split at d
   .grind
   .rename_i f;exact ⟨l,by rw [if_neg f];exact d,U2.refl _⟩) (fun i j _ _ h=>h) (fun t i d=>g.er t i d) (fun i l d=>by
   rw [b] at d;split at d
   .rename_i f
    cases d
    have:=g.sr i ob (by rw [b,if_pos f])
    exact ⟨this.1,fun j n=>this.2 j (hle.2.2 j n)⟩
   .rename_i f
    exact g.sr i l (by rw [b,if_neg f];exact d)) (fun i d=>⟨rfl,by
   obtain ⟨v,m⟩:=Option.ne_none_iff_exists'.1 d;exact (g.pn i v m).2⟩)
 exact r
variable {ops:Array Oper} {ds:List Dir} {k:Nat}
theorem Q3G(hL:z7 P L){id:Nat}{ob ob' : Obj}{c:Prop}(hk:Qs ds k=rE { v:=.any,upd:=some (id,ob') })(hdo:(QS nt (Y6 ops.toList k)&&(Zg ops (V7 L ops ops.toList ds e s k) (Y6 ops.toList k)==some true))=true)(hr:Zr L false (V7 L ops ops.toList ds e s k) (QU L ops ops.toList ds e s k) (Y6 ops.toList k)=some { v:=.any,upd:=some (id,ob),cond:=c })(hc:c)(hle:U2 ob ob'):U9 P C nt L ops ds e s k:=by
 unfold U9;rw [hk]
 simp only [Bool.and_eq_true,beq_iff_eq] at hdo;have g:∀ t x y,(Y6 ops.toList k).op=.store t x y->(Y6 ops.toList k).dst=none:=by
  intro t x y i;have:=hdo.1
  simp only [QS,i,Bool.and_eq_true] at this
  grind
 refine UH hdo.1 hdo.2 fun R η n p a w l f j b=>?_
 have h:=(Q3p (L:=L) (e:=V7 L ops ops.toList ds e s k) (s:=QU L ops ops.toList ds e s k) false (Y6 ops.toList k) l f).trans hr;exact (Q3o hL b false _ (fun x m=>YY hdo.1 x m) h hc (fun d o j=>absurd rfl j) g).upd_le hle
theorem Z3K(hL:z7 P L){te:TI}{t:TypeId}(hT:VR L t te){x y:Operand}{d n m:Nat}{f g:Nat->List DVal}(hk:Qs ds k=rE { v:=.v (.c (.own d)),new:=some (.arr te.size (n+m) (QH n f g)) })(hop:(Y6 ops.toList k).op=.call { callee:=.builtin .append,args:= #[x,y],argTypes:= #[t,t] })(hdo:(QS nt (Y6 ops.toList k)&&(Zg ops (V7 L ops ops.toList ds e s k) (Y6 ops.toList k)==some true)&&(Y6 ops.toList k).dst==some d&&Nat.ble te.bytes 8192&&te.zero.length==te.size)=true)(hx:Y2 (V7 L ops ops.toList ds e s k) x=.v (.c (.fl n f)))(hy:VI (QU L ops ops.toList ds e s k) (Y2 (V7 L ops ops.toList ds e s k) y)=some (m,g))(hm:0<m)(hlim:n+m<=Y5)(hgl:∀ j,j<m->(g j).length=te.size)(hfl:∀ j,j<n->(f j).length=te.size):U9 P C nt L ops ds e s k:=by
 unfold U9;rw [hk]
 simp only [Bool.and_eq_true,beq_iff_eq] at hdo;obtain ⟨⟨⟨⟨A,F⟩,i⟩,I⟩,G⟩:=hdo
 obtain ⟨M,N,H,q,p⟩:=hT;refine UH A F fun R η z B a w u l J h=>?_
 have D:x ∈ (Y6 ops.toList k).op.operands.toList:=by rw [hop];simp [Op.operands,Call.operands]
 have b:y ∈ (Y6 ops.toList k).op.operands.toList:=by rw [hop];simp [Op.operands,Call.operands]
 have o:Jf B te.size m (Y2 z x)=some ([],n,f,∀ j,j<n->(f j).length=te.size):=by
  rw [u x D,hx];simp only [Jf]
  grind
 have r:VI B (Y2 z y)=some (m,g):=by rw [u y b,xr (l y b)];exact hy
 exact LX hL h i (YY A d i) (J d i (by simp)) hop H q p r o hfl (Nat.le_of_ble_eq_true I) G hlim hgl
end
end
section
open Go.ChangeShapes Go.WideShapes Go.ChangeAt Go.RowKit
end
section
@[reducible] def ow (n:Nat):AVal:=.v (.c (.own n))
@[reducible] def pt (n:Nat):AVal:=.v (.c (.ptr n 0))
@[reducible] def bx (l:List CV):Obj:=.box false l
section
variable {P:Program} {C:Ctx} {nt:Nat} {L:V9} {pins:List Nat} {E:List (Nat×AVal)} {S:List (Nat×Obj)} {Q:Exit->Act->World->Prop}
variable {K:Act->World->Prop}
theorem Z3D(Fm:Fr P L C pins){E' : List (Nat×AVal)}{S' : List (Nat×Obj)}(h:Kn C nt E' S' K)(hq:(pins.all (fun i=>V3 [] i==i),E'.map (fun p=>lk E p.1),S'.map (fun p=>ls S (V3 [] p.1)),Yf (S'.map fun p=>V3 [] p.1))=(true,E'.map (fun p=>p.2.ren (V3 [])),S'.map (fun p=>some (p.2.ren (V3 []))),true):=by kernel_rfl):Kn C nt E S K:=Q3C Fm E' S' hq h
theorem J7(Fm:Fr P L C pins)(ρ:List (Nat×Nat)){E' : List (Nat×AVal)}{S' : List (Nat×Obj)}(h:Kn C nt E' S' K)(hp:pins.all (fun i=>V3 ρ i==i)=true:=by kernel_rfl)(hE:E'.map (fun p=>lk E p.1)=E'.map (fun p=>p.2.ren (V3 ρ)):=by kernel_rfl)(hS:S'.map (fun p=>ls S (V3 ρ p.1))=S'.map (fun p=>some (p.2.ren (V3 ρ))):=by kernel_rfl)(hinj:Yf (S'.map fun p=>V3 ρ p.1)=true:=by kernel_rfl):Kn C nt E S K:=xB Fm ρ E' S' hp hE hS hinj h
theorem Q3E(Fm:Fr P L C pins){fn:Func}{r:AVal}{S' : List (Nat×Obj)}(hq:(UJ L (lk E) (ls S) fn.results.toList,S'.map (fun p=>ls S p.1))=(some r,S'.map (fun p=>some p.2)):=by kernel_rfl):Kn C nt E S (WY P fn C r S' .ret):=Zd Fm hq
end
section
variable {P:Program} {C:Ctx} {nt:Nat} {L:V9} {ops:Array Oper} {ds:List Dir} {e:W4} {s:W5}
theorem Q3J{k:Nat}{f:Nat}{args:List AVal}{Si:List (Nat×Obj)}{r:AVal}{So:List (Nat×Obj)}(hspec:K8 P f args Si r So)(hcall:∀ args w,(callFunc f args).run P w=.ok (.enter f args) w)(m:List (Nat×Nat))(hk:Qs ds k=cE m [] r Si So:=by rfl)(hq:(Go.Ab.callB ops nt (V7 L ops ops.toList ds e s k) (Y6 ops.toList k) f m r Si So,Si.map (fun p=>QU L ops ops.toList ds e s k (V3 m p.1)),
   (Go.Ab.callXs (Y6 ops.toList k)).toList.all (Qv (Qx (Y6 ops.toList k)++Qi ops (Y6 ops.toList k)))&&args.all AVal.noSem,(Go.Ab.callXs (Y6 ops.toList k)).toList.map (Y2 (V7 L ops ops.toList ds e s k)))
   = (true,Si.map (fun p=>some (p.2.ren (V3 m))),true,args.map (AVal.ren (V3 m))):=by kernel_rfl):U9 P C nt L ops ds e s k:=Z3M hspec hcall m hk hq
end
section
variable {C:Ctx} {nt:Nat} {e:W4} {s:W5}
theorem YQ.p{Si:List (Nat×Obj)}{m:Nat->Nat}{rd ids:List Nat}{x:Operand}{y:AVal}(hx:Qv rd x=true:=by kernel_rfl)(hle:Y2 e x=y.ren m:=by kernel_rfl)(hs:y.noSem=true:=by kernel_rfl):YQ C nt e s Si m rd ids x y:=PY hx (Z8.of_eq hle) hs
end
end
section
open Go.Maps (Keyed)
open Go.WideElems (Fit rd rg pl rd_val elemAt)
open Go.ChangeMaps Go.MapKept
def Q9f(ks:List Int):DataW Unit:=ks.foldl (fun D k=>D.put (.int .i64 k) (.lit (.bool true))) (.map [])
def JV(P:Program)(kT eT:TypeId)(ks:List Int)(w:World)(_:Nat->Prop)(v:Value):Prop:=∃ b,v=.map (some b)/\w.ownsMap P kT (plainElem P eT) b ks.length (Q9f ks)
theorem Q9e{P:Program}{kT eT:TypeId}{ks:List Int}(v:Value):PQ (JV P kT eT ks) v:=by
 intro w m X X' _ f d;obtain ⟨b,rfl,h,c,l,g,i,j⟩:=d
 exact ⟨b,rfl,h,c,(f b (by simp [Y7])).trans l,g,i,j⟩
end
section
section
variable {P:Program} {C:Ctx} {nt:Nat} {L:V9} {R:Nat->Prop} {η:Nat->Value} {e:W4} {s:W5} {a:Act} {w:World}
theorem ki{X:Nat->Prop}{v:Value}{n:Int}(h:ARep w X η C v (vi n)):v=.int .i64 n:=by
 cases h with|v _ _ hh=>cases hh with|c _ _ hh=>cases hh with|d _ _ hh=>cases hh;rfl
theorem Q5C(h:Conc C nt R η e s a w){o:Oper}{d:Nat}(hd:o.dst=some d)(hdn:d<nt)(hR:¬ R d){p:World->(Nat->Prop)->Value->Prop}{v:Value}{w' : World}(hrun:(execOp a.eval o).run P w=.ok (.value v) w')(hstep:Stp (fun _=>False) w w')(hone:v.oneCell'=true)(hv:∀ b,b ∈ Y7 v->w.heap.size<=b)(hob:∀ X' η',ORep w' X' η' C v (.ext p)):
  G4 P C nt R η e s a w o { v:=.v (.c (.own d)),new:=some (.ext p) }:=by
 have q:=UX (C:=C) (s:=s) (η:=η) { v:=.v (.c (.own d)),new:=some (.ext p) } o.dst v (fun _=>False) hstep (fun b f=>f.elim) (fun _ _ _ _ b f=>.inl (hv b f)) (fun k o i=>by cases i);refine ⟨v,w',.inl hrun,h.step o.dst (fun x n=>by rw [hd] at n;cases n;exact hdn) _ _ _ (fun _=>False) hstep (fun b f=>f.elim) ?_ (fun k o i=>by cases i) ?_⟩
 .intro r dd l g
  cases l
  rw [hd] at g;cases g
  exact ⟨hR,rfl,by simp [Obj.refs],hob _ _,fun b f=>.inl (hv b f)⟩
 .intro _
  refine ⟨.v _ _ (.c _ _ (.own _ _ (by simp [SR.eta,hd]) hone)),fun j m=>?_⟩;simp [AVal.refs,TV.refs,CV.refs] at m
  exact .inr ⟨by simp,by rw [hd,m]⟩
variable {ops:Array Oper} {ds:List Dir} {k:Nat}
theorem Z3F{kT eT t:TypeId}{d:Nat}(hk:Qs ds k=rE { v:=.v (.c (.own d)),new:=some (.ext (JV P kT eT [])) })(hop:(Y6 ops.toList k).op=.makeMap t none)(hdo:(QS nt (Y6 ops.toList k)&&(Zg ops (V7 L ops ops.toList ds e s k) (Y6 ops.toList k)==some true)&&(Y6 ops.toList k).dst==some d)=true):U9 P C nt L ops ds e s k:=by
 unfold U9;rw [hk]
 simp only [Bool.and_eq_true,beq_iff_eq] at hdo;obtain ⟨⟨i,j⟩,h⟩:=hdo
 refine UH i j fun R η o p a w n m l g=>?_
 refine Q5C g h (YY i d h) (l d h (by simp)) (v:=.map (some w.heap.size)) (w':=w.alloc (.map #[] 0)) ?_ (Stp.alloc _ w _) rfl (fun b f=>by simp [Y7] at f;omega) fun X' η'=>?_
 .simp [execOp,hop,Instr.makeMap]
 .refine .ext _ _ ⟨_,rfl,World.ownsMap_made w P kT _⟩ (Q9e _) fun b f=>?_
  simp only [Y7,List.mem_singleton] at f;subst f
  show w.heap.size<(w.heap.push _).size;rw [Array.size_push];omega
end
end
section
open Go.Sort Go.Proofs Go.Shelf Go.Maps
end
section
section
variable {P:Program} {L:V9}
end
section
variable {P:Program} {C:Ctx} {nt:Nat} {L:V9} {ops:Array Oper} {ds:List Dir} {e:W4} {s:W5}
end
end
section
open Go.Sort Go.Proofs Go.Shelf Go.Maps
end
section
def J0(s:ByteArray)(i:Int):Int:=(((s[i.toNat]?).getD 0).toNat:Nat)
def Zm(a b:ByteArray):Bool:=a.toList==b.toList
def Vp(a b:ByteArray):Bool:=Op.bytesLess a.toList b.toList
def LN(op:BinOp)(a b:ByteArray):Option Bool:=
 match op with
 | .eql=>some (Zm a b)
 | .neq=>some (!Zm a b)
 | .lss=>some (Vp a b)
 | .leq=>some (Vp a b||Zm a b)
 | .gtr=>some (!(Vp a b||Zm a b))
 | .geq=>some (!Vp a b)
 | _=>none
section
variable {P:Program} {C:Ctx} {nt:Nat} {L:V9} {ops:Array Oper} {ds:List Dir} {e:W4} {s:W5}
theorem jD(op:BinOp)(t:TypeId)(x y:Operand)(a b:ByteArray)(w:World):(eqGuard op t x y (.string a) (.string b)).run P w=.ok () w:=by
 unfold eqGuard;split <;> rfl
theorem Q6H(op:BinOp)(t:TypeId)(a b:ByteArray){c:Bool}(h:LN op a b=some c)(w:World):(binOp op t (.string a) (.string b)).run P w=.ok (.bool c) w:=by
 cases op <;> simp only [LN,Option.some.injEq,reduceCtorEq] at h <;> subst h <;> simp [binOp,Op.stringOp,Zm,Vp]
def VX(ops:Array Oper)(nt:Nat)(e:W4)(o:Oper)(x y:Operand):Bool:=Qv (Qx o++Qi ops o) x&&Qv (Qx o++Qi ops o) y&&QS nt o&&(Zg ops e o==some true)
theorem PT{k:Nat}{op:BinOp}{t t' : TypeId}{x y:Operand}{a b:ByteArray}{c:Bool}(hk:Qs ds k=sE (vb c))(hop:(Y6 ops.toList k).op=.binOp op t x y t')(hb:VX ops nt (V7 L ops ops.toList ds e s k) (Y6 ops.toList k) x y=true)(hx:Y2 (V7 L ops ops.toList ds e s k) x=.v (.c (.d (.str a))))(hy:Y2 (V7 L ops ops.toList ds e s k) y=.v (.c (.d (.str b))))(hc:LN op a b=some c):U9 P C nt L ops ds e s k:=by
 unfold U9;rw [hk]
 simp only [VX,Bool.and_eq_true,beq_iff_eq] at hb;obtain ⟨⟨⟨j,m⟩,l⟩,n⟩:=hb
 refine KD rfl l n fun R η o p q w g f=>?_
 have i:=(U5 f x).1;rw [ZR g j,hx] at i
 have i:=KC i;have h:=(U5 f y).1
 rw [ZR g m,hy] at h;have h:=KC h
 exact ⟨_,by simp only [execOp,hop,Sem.run_bind,i,h,jD,Q6H op t a b hc,Result.andThen_ok,Sem.run_pure],FO _ _⟩
theorem ZS{k:Nat}{t:TypeId}(ht:P.underlying t=some .string){x y:Operand}{a:ByteArray}{m:Int}(hk:Qs ds k=sE (.v (.c (.d (.int .u8 (J0 a m))))))(hop:(Y6 ops.toList k).op=.index t x y)(hb:VX ops nt (V7 L ops ops.toList ds e s k) (Y6 ops.toList k) x y=true)(hx:Y2 (V7 L ops ops.toList ds e s k) x=.v (.c (.d (.str a))))(hy:ZJ (Y2 (V7 L ops ops.toList ds e s k) y)=some m)(hc:0<=m/\m<((a.size:Nat):Int)):U9 P C nt L ops ds e s k:=by
 unfold U9;rw [hk]
 simp only [VX,Bool.and_eq_true,beq_iff_eq] at hb;obtain ⟨⟨⟨l,o⟩,n⟩,q⟩:=hb
 refine KD rfl n q fun R η r u z w f b=>?_
 have g:=(U5 b x).1;rw [ZR f l,hx] at g
 have g:=KC g;rw [<-ZR f o] at hy
 obtain ⟨A,i⟩:=PI b hy;have p:m.toNat<a.size:=by omega
 have h:a[m.toNat]?=some a[m.toNat]:=by
  grind
 have j:J0 a m=((a[m.toNat].toNat:Nat):Int):=by unfold J0;rw [h];rfl
 rw [j];refine ⟨.int .u8 (a[m.toNat].toNat:Nat),?_,WM _ _ _⟩
 simp [execOp,hop,g,i,Instr.index,asIntOf,run_underlying ht,hc.1,h]
end
theorem Lc{α:Type}[Emb α]{l:List α}{lo n:Nat}(h:lo+n<=l.length):Is n (fun j=>LF l (lo+j)) ((l.drop lo).take n):=by
 have b:((l.drop lo).take n).length=n:=by rw [List.length_take,List.length_drop];omega
 refine Q3K _ b fun i c=>?_
 have e:gl l (lo+i)=gl ((l.drop lo).take n) i:=by simp [gl,List.getD_eq_getElem?_getD,c]
 show Emb.cells (gl l (lo+i))=_;rw [e]
end
section
open Go.MapKept
def MP{α:Type}[Emb α](gs:List (Int×List α)):DVal:=.mp gs.length (fun i=>(gs.getD i (0,[])).1) fun i=>DL (gs.getD i (0,[])).2
def PW{α:Type}[Emb α](w:World)(X:Nat->Prop)(x:MapEntry)(e:Int×List α):Prop:=x.key=.int .i64 e.1/\DRep w X x.val (DL e.2)
def Zj{α:Type}[Emb α](left:List (Int×List α))(cur:Option (Int×List α))(w:World)(X:Nat->Prop)(v:Value):Prop:=
 ∃ (r b:Nat) (es:Array MapEntry) (clock since:Nat) (seen:Array Nat) (c0:Nat),v=.pointer (some ⟨r,0,none⟩)/\w.heap[r]?=some (.mapIter (some b) since seen c0)/\¬ X b/\w.heap[b]?=some (.map es clock)/\Stamped es clock/\since<=c0/\since<=clock/\(∀ x ∈ es.toList,x.born<since) /\
  (leftOf es seen).size=left.length/\(∀ (i:Nat) (x:MapEntry) (e:Int×List α),(leftOf es seen)[i]?=some x->left[i]?=some e->PW w X x e) /\
  ∀ e,cur=some e->∃ x ∈ es.toList,∃ seen' : Array Nat,seen=seen'.push x.born/\c0=clock/\PW w X x e
theorem PW.mono{α:Type}[Emb α]{w w' : World}{X X' : Nat->Prop}{x:MapEntry}{e:Int×List α}(h:PW w X x e)(hk:QZ w w' X X'):PW w' X' x e:=⟨h.1,h.2.mono hk⟩
theorem yY{α:Type}[Emb α]{left:List (Int×List α)}{cur:Option (Int×List α)}(v:Value):PQ (Zj left cur) v:=by
 intro w O X X' l F h;obtain ⟨r,b,H,d,c,f,t,rfl,B,q,n,M,z,I,D,N,p,j⟩:=h
 have o:=l b (YJ n) q;exact ⟨r,b,H,d,c,f,t,rfl,(F r (by simp [Y7])).trans B,o.2,o.1.trans n,M,z,I,D,N,fun i x e m g=>(p i x e m g).mono l,fun e g=>by
  obtain ⟨x,m,G,u,A,J⟩:=j e g;exact ⟨x,m,G,u,A,J.mono l⟩⟩
theorem Z0b{α:Type}[Emb α](left:List (Int×List α))(cur:Option (Int×List α)):U2 (.ext (Zj left cur)) (.ext (Zj left none)):=by
 refine ⟨fun w X η C v j=>?_,rfl,fun i o=>by cases o⟩
 cases j with
 | ext _ _ h1 h2 h3=>
  obtain ⟨r,b,z,c,d,f,m,e,l,q,A,n,x,p,t,h,u,_⟩:=h1;exact .ext _ _ ⟨r,b,z,c,d,f,m,e,l,q,A,n,x,p,t,h,u,fun e g=>by cases g⟩ (yY _) h3
section
variable {P:Program} {C:Ctx} {nt:Nat} {L:V9} {R:Nat->Prop} {η:Nat->Value} {e:W4} {s:W5} {a:Act} {w:World}
theorem Q5B(h:Conc C nt R η e s a w){o:Oper}{d:Nat}(hd:o.dst=some d)(hdn:d<nt)(hR:¬ R d){p:World->(Nat->Prop)->Value->Prop}{v:Value}{w' : World}(hrun:(execOp a.eval o).run P w=.ok (.value v) w')(hstep:Stp (fun _=>False) w w')(hone:v.oneCell'=true)(hv:∀ b,b ∈ Y7 v->w.heap.size<=b)(hob:∀ X' η',QZ w w' (XS C s η) X' -> ORep w' X' η' C v (.ext p)):
  G4 P C nt R η e s a w o { v:=.v (.c (.own d)),new:=some (.ext p) }:=by
 have q:=UX (C:=C) (s:=s) (η:=η) { v:=.v (.c (.own d)),new:=some (.ext p) } o.dst v (fun _=>False) hstep (fun b f=>f.elim) (fun _ _ _ _ b f=>.inl (hv b f)) (fun k o i=>by cases i);refine ⟨v,w',.inl hrun,h.step o.dst (fun x n=>by rw [hd] at n;cases n;exact hdn) _ _ _ (fun _=>False) hstep (fun b f=>f.elim) ?_ (fun k o i=>by cases i) ?_⟩
 .intro r dd l g
  cases l
  rw [hd] at g;cases g
  exact ⟨hR,rfl,by simp [Obj.refs],hob _ _ q,fun b f=>.inl (hv b f)⟩
 .intro _
  refine ⟨.v _ _ (.c _ _ (.own _ _ (by simp [SR.eta,hd]) hone)),fun j m=>?_⟩;simp [AVal.refs,TV.refs,CV.refs] at m
  exact .inr ⟨by simp,by rw [hd,m]⟩
theorem Z3o{α:Type}[Emb α]{X:Nat->Prop}{v:Value}{gs:List (Int×List α)}(h:ARep w X η C v (.v (.c (.d (MP gs))))):
  ∃ (b:Nat) (es:Array MapEntry) (clock:Nat),v=.map (some b)/\¬ X b/\w.heap[b]?=some (.map es clock)/\Stamped es clock/\es.size=gs.length/\∀ (i:Nat) (x:MapEntry) (e:Int×List α),es[i]?=some x->gs[i]?=some e->PW w X x e:=by
 cases h with|v _ _ h=>cases h with|c _ _ h=>cases h with|d _ _ h=>
 unfold MP at h
 cases h with|mp b es clock _ _ Zl _ h1 h2 h3 h4 h5 h6=>
 refine ⟨b,es,clock,rfl,h1,h2,h3,h4,fun i x e l f=>?_⟩;obtain ⟨g,m⟩:=List.getElem?_eq_some_iff.1 f
 obtain ⟨p,o⟩:=h5 i g;have n:gs.getD i (0,[])=e:=by rw [List.getD_eq_getElem?_getD,f];rfl
 have j:=h6 i g;rw [o] at l
 cases l
 simp only [n] at j ⊢;exact ⟨rfl,j⟩
variable {ops:Array Oper} {ds:List Dir} {k:Nat}
theorem Z3E{α:Type}[Emb α]{gs:List (Int×List α)}{t kT eT:TypeId}(ht:P.underlying t=some (.map kT eT)){d:Nat}{x:Operand}(hk:Qs ds k=rE { v:=.v (.c (.own d)),new:=some (.ext (Zj gs none)) })(hop:(Y6 ops.toList k).op=.range t x)(hdo:(QS nt (Y6 ops.toList k)&&(Zg ops (V7 L ops ops.toList ds e s k) (Y6 ops.toList k)==some true)&&(Y6 ops.toList k).dst==some d)=true)(hx:Y2 (V7 L ops ops.toList ds e s k) x=.v (.c (.d (MP gs)))):U9 P C nt L ops ds e s k:=by
 unfold U9;rw [hk]
 simp only [Bool.and_eq_true,beq_iff_eq] at hdo;obtain ⟨⟨z,F⟩,o⟩:=hdo
 refine UH z F fun R η U V a w D I T h=>?_
 have J:x ∈ (Y6 ops.toList k).op.operands.toList:=by rw [hop];simp [Op.operands]
 have u:=(U5 h x).1;rw [D x J,hx] at u
 obtain ⟨b,n,f,M,G,p,B,H,N⟩:=Z3o u;refine Q5B h o (YY z d o) (T d o (by simp)) (v:=.pointer (some ⟨w.heap.size,0,none⟩)) (w':=w.alloc (.mapIter (some b) f #[] f)) ?_ (Stp.alloc _ w _) rfl (fun b O=>by simp [Y7] at O;omega) fun X' η' m=>?_
 .simp [execOp,hop,M,run_range_map w t kT eT b n f ht p]
 .have j:=m b (YJ p) G
  have g:leftOf n #[]=n:=by simp [leftOf]
  refine .ext _ _ ⟨w.heap.size,b,n,f,f, #[],f,rfl,by show (w.heap.push _)[w.heap.size]?=_;exact Array.getElem?_push_size,j.2,j.1.trans p,B,Nat.le_refl _,Nat.le_refl _,B.1,by rw [g,H],fun i y q A r=>?_,fun q r=>by cases r⟩ (yY _) fun W l=>?_
  .rw [g] at A
   exact (N i y q A r).mono m
  .simp only [Y7,List.mem_singleton] at l
   subst l;show w.heap.size<(w.heap.push _).size
   rw [Array.size_push];omega
theorem Z3L{α:Type}[Emb α]{gs:List (Int×List α)}{q:Int×List α}{id:Nat}{x:Operand}(hk:Qs ds k=rE { v:=.t [.c (.d (.int .i64 q.1)),.c (.d (DL q.2))] })(hop:(Y6 ops.toList k).op=.entry x)(hdo:(QS nt (Y6 ops.toList k)&&(Zg ops (V7 L ops ops.toList ds e s k) (Y6 ops.toList k)==some true))=true)(hx:Y2 (V7 L ops ops.toList ds e s k) x=.v (.c (.own id)))(hs:QU L ops ops.toList ds e s k id=some (.ext (Zj gs (some q)))):U9 P C nt L ops ds e s k:=by
 unfold U9;rw [hk]
 simp only [Bool.and_eq_true,beq_iff_eq] at hdo;obtain ⟨D,T⟩:=hdo
 refine UH D T fun R η W O a w H n hn f=>?_
 have G:x ∈ (Y6 ops.toList k).op.operands.toList:=by rw [hop];simp [Op.operands]
 have i:=(U5 f x).1;rw [H x G,hx] at i
 have i:=Vv i;have l:O id=some (.ext (Zj gs (some q))):=(n x G id (by rw [hx];simp [AVal.refs,TV.refs,CV.refs])).trans hs
 have h:=f.st id _ l;generalize hu:η id=u at h
 cases h with
 | ext _ _ hp _ _=>
  obtain ⟨r,b,F,p,g,B,A,rfl,U,g2,N,I,Z,g6,Y,g8,g9,m⟩:=hp;obtain ⟨y,M,J,rfl,rfl,o,z⟩:=m q rfl
  refine Ze f (YY D) (v:=.tuple #[y.key,y.val]) ?_ ?_ (by simp [AVal.refs,TV.refs,CV.refs])
  .simp [execOp,hop,i,hu,run_entry_at w r b g J F A y U N M ((stamped_iff F A).1 I).2.1]
  .refine .t _ _ rfl fun j V=>?_
   have:j=0\/j=1:=by simp at V;omega
   rcases this with rfl|rfl
   .exact .c _ _ (.d _ _ (by show DRep w _ y.key _;rw [o];exact .int _ _))
   .exact .c _ _ (.d _ _ z)
end
theorem Q9s{es:Array MapEntry}{clock:Nat}(hst:Stamped es clock){seen:Array Nat}{i:Nat}{x:MapEntry}(hx:(leftOf es seen)[i]?=some x):(leftOf es (seen.push x.born)).toList=(leftOf es seen).toList.eraseIdx i:=by
 have c:((leftOf es seen).toList.map (·.born)).Nodup:=by
  unfold leftOf;rw [Array.toList_filter]
  exact (List.filter_sublist.map _).nodup hst.2.1
 have d:(leftOf es (seen.push x.born)).toList=(leftOf es seen).toList.filter fun y=>y.born != x.born:=by
  unfold leftOf;rw [Array.toList_filter,Array.toList_filter,List.filter_filter]
  grind
 rw [d];have b : (leftOf es seen).toList[i]?=some x:=by simpa using hx
 generalize (leftOf es seen).toList=l at c b
 clear hx d
 induction l generalizing i with
 | nil=>simp at b
 | cons y l ih=>
  rw [List.map_cons,List.nodup_cons] at c
  cases i with
  | zero=>
   simp at b
   subst b;rw [List.eraseIdx_zero,List.filter_cons,if_neg (by simp)]
   rw [List.tail_cons];refine List.filter_eq_self.2 fun z f=>?_
   grind
  | succ i=>
   grind
noncomputable def Gz{α R:Type}(gs:List α)(stop:Option R)(go:α->List α->Option R):Option R:=
 open Classical in
 match gs with
 | []=>stop
 | g::l=>if h:∃ r,∀ i (hi:i<(g::l).length),go (g::l)[i] ((g::l).eraseIdx i)=some r then some h.choose else none
theorem Q8R{α R:Type}{gs:List α}{stop:Option R}{go:α->List α->Option R}{r:R}(h:Gz gs stop go=some r)(hg:gs=[]):stop=some r:=by subst hg;exact h
theorem Q8U{α R:Type}{gs:List α}{stop:Option R}{go:α->List α->Option R}{r:R}(h:Gz gs stop go=some r){x:α}{l:List α}(hx:∃ i,∃ hi:i<gs.length,x=gs[i]/\l=gs.eraseIdx i):go x l=some r:=by
 obtain ⟨i,hi,rfl,rfl⟩:=hx
 cases gs with
 | nil=>exact absurd hi (Nat.not_lt_zero _)
 | cons g l=>
  unfold Gz at h;simp only at h
  split at h
  all_goals grind
theorem Q8T{α R:Type}{stop:Option R}{go:α->List α->Option R}:Gz [] stop go=stop:=rfl
theorem Q8S{α R:Type}{gs:List α}{stop:Option R}{go:α->List α->Option R}{r:R}(hne:gs≠[])(h:∀ i (hi:i<gs.length),go gs[i] (gs.eraseIdx i)=some r):Gz gs stop go=some r:=by
 cases gs with
 | nil=>exact absurd rfl hne
 | cons g l=>
  unfold Gz;simp only
  have b:∃ r,∀ i (hi:i<(g::l).length),go (g::l)[i] ((g::l).eraseIdx i)=some r:=⟨r,h⟩;rw [dif_pos b]
  have c:=b.choose_spec 0 (by simp)
  grind
section
variable {P:Program} {C:Ctx} {nt:Nat} {L:V9} {pins:List Nat} {E:List (Nat×AVal)} {S:List (Nat×Obj)} {Q:Exit->Act->World->Prop}
theorem Z4b{α:Type}[Emb α]{gs:List (Int×List α)}{id it t5 t6 t7 ty6 ty7:Nat}{p6 p7:String}{af6 af7:Array Edge}(hE:lk E t5=.v (.c (.own it)))(h6:(E.map (·.1)).contains t6=false)(hn:(Nat.blt t6 nt&&Nat.blt t7 nt && !(t6==t7))=true)(stop:gs=[]->Kn C nt ((t7,vb false)::E) ((it,.ext (Zj gs none))::S) (Q .normal))(go:∀ q l,(∃ i,∃ hi:i<gs.length,q=gs[i]/\l=gs.eraseIdx i)->Kn C nt ((t7,vb true)::E) ((it,.ext (Zj l (some q)))::S) (Q .normal)):
  AW P C nt (.region id #[{ dst:=some t6,op:=.next (.tmp t5) false,type:=ty6,pos:=p6,after:=af6,guard:=none }, { dst:=some t7,op:=.extract (.tmp t6) 0,type:=ty7,pos:=p7,after:=af7,guard:=none }] false) E ((it,.ext (Zj gs none))::S) Q:=by
 simp only [Bool.and_eq_true,Nat.blt_eq,Bool.not_eq_true',beq_eq_false_iff_ne] at hn;obtain ⟨⟨n6,n7⟩,f1⟩:=hn
 intro R η a w hc;refine wp_region_list ?_
 have A:ls ((it,.ext (Zj gs none))::S) it=some (.ext (Zj gs none)):=by rw [Qq,if_pos rfl]
 have e5:a.tmps.getD t5 undef=η it:=by have:=hc.ev t5;rw [hE] at this;exact Vv this
 have l6:lk E t6=.any:=by
  unfold lk
  grind
 have a9:=hc.st it _ A;have a3:∀ b,b ∈ Y7 (η it)->Own (ls ((it,.ext (Zj gs none))::S)) η b:=fun b hb=>⟨it,_,A,hb⟩
 have e0:∀ x,x ∈ Y7 (η it)->C.M x\/C.w0.heap.size<=x:=fun x m=>by
  rcases hc.ow it _ x A m with ⟨h1,_⟩|h1
  .cases h1
  .exact h1
 generalize hu:η it=u at a9
 cases a9 with
 | ext _ _ hp _ hlt=>
 obtain ⟨r,b,Z,f,g,d,c0,rfl,g1,g2,g3,g4,g5,g6,g7,g8,g9,_⟩:=hp;have e8:r≠b:=fun h=>by rw [h,g3] at g1;cases g1
 have a7:∀ (H:Bool) (Y : List (Int×List α)) (a0:Option (Int×List α)) (I:World) (G:Array Value) (R1:Nat->Prop) (η1:Nat->Value),G.getD 0 undef=.bool H->G.size≠0 ->
   Conc C nt R1 η1 (Zw (some t6) .any (lk E)) (ls ((it,.ext (Zj Y a0))::S)) (a.put (some t6) (.tuple G)) I ->
   Kn C nt ((t7,vb H)::E) ((it,.ext (Zj Y a0))::S) (Q .normal) ->
   wpList P #[{ dst:=some t6,op:=.next (.tmp t5) false,type:=ty6,pos:=p6,after:=af6,guard:=none }, { dst:=some t7,op:=.extract (.tmp t6) 0,type:=ty7,pos:=p7,after:=af7,guard:=none }] Q [{ dst:=some t7,op:=.extract (.tmp t6) 0,type:=ty7,pos:=p7,after:=af7,guard:=none }] (a.put (some t6) (.tuple G)) I:=by
  intro H Y a0 I G R1 η1 c6 c2 n kn;refine wpList_plain rfl fun K hK=>?_
  have hv:(a.put (some t6) (.tuple G)).tmps.getD t6 undef=.tuple G:=by rw [ye a _ _ _ (by rw [hc.sz];intro x m;cases m;exact n6),if_pos rfl]
  have h0:G[0]?=some (.bool H):=by
   have:0<G.size:=Nat.pos_of_ne_zero c2
   rw [Array.getD_eq_getD_getElem?,Array.getElem?_eq_getElem this] at c6
   grind
  have c9:(execOp (a.put (some t6) (.tuple G)).eval ({ dst:=some t7,op:=.extract (.tmp t6) 0,type:=ty7,pos:=p7,after:=af7,guard:=none }:Oper)).run P I=.ok (.value (.bool H)) I:=by
   simp [execOp,Act.eval,hv,Instr.extract,h0]
  refine PZ c9 (hK _ _ ?_);have b4:=n.val (some t7) (fun x m=>by cases m;exact n7) (vb H) (.bool H) fun _=>⟨FO _ _,fun j hj=>by cases hj⟩
  have he:SR.env { v:=vb H } (some t7) (Zw (some t6) .any (lk E))=lk ((t7,vb H)::E):=by
   funext t
   simp only [SR.env,Zw];rw [Hl]
   grind
  rw [he] at b4;exact kn _ _ _ _ b4
 refine wpList_plain rfl fun K hK=>?_
 have U:∀ {v:Value} {w' : World},(Instr.next (.pointer (some ⟨r,0,none⟩)) false ty6).run P w=.ok v w' ->
   (execOp a.eval ({ dst:=some t6,op:=.next (.tmp t5) false,type:=ty6,pos:=p6,after:=af6,guard:=none }:Oper)).run P w=.ok (.value v) w':=fun J=>by
  simp [execOp,Act.eval,e5,hu,J]
 rcases run_next_at (P:=P) w ty6 r b g c0 d Z f g1 g3 g7 g5 with ⟨h0,F⟩|⟨y,hy,I,D,F⟩
 .have c8:gs=[]:=List.eq_nil_of_length_eq_zero (by rw [<-g8,h0])
  refine PZ (U F) (hK _ _ ?_);have n:=hc.val (some t6) (fun x m=>by cases m;exact n6) .any (.tuple #[.bool false]) fun _=>⟨.any _,by simp [AVal.refs]⟩
  exact a7 false gs none w #[.bool false] R η rfl (by simp) n (stop c8)
 .obtain ⟨i,hi,b8⟩:=List.getElem_of_mem hy
  have b7 : i<(leftOf Z d).size:=by simpa using hi
  have O : (leftOf Z d)[i]?=some y:=by rw [Array.getElem?_eq_getElem b7];simpa using b8
  have a4:i<gs.length:=by omega
  have b9:=g9 i y gs[i] O (List.getElem?_eq_getElem a4);have b1:y ∈ Z.toList:=by
   have:y ∈ (leftOf Z d).toList:=hy
   unfold leftOf at this
   grind
  refine PZ (U F) (hK _ _ ?_);have W:I.heap=w.heap:=by rcases D with rfl|rfl <;> rfl
  have a5:I.heap[r]?=some (.mapIter (some b) g d c0):=by rw [W];exact g1
  have B:Stp (fun x=>x=r) w (ChangeMaps.setBlock I r (.mapIter (some b) g (d.push y.born) f)):=by
   refine ⟨?_,?_,?_,?_,fun x m hn=>?_,?_⟩
   .rcases D with rfl|rfl <;> rfl
   .rcases D with rfl|rfl <;> rfl
   .rcases D with rfl|rfl <;> rfl
   .simp [ChangeMaps.setBlock,W]
   .exact ((heap_set a5).2 x hn).trans (by rw [W])
   .rcases D with rfl|rfl
    .exact Nat.le_refl _
    .exact Nat.le_succ _
  have a8:r ∈ Y7 (η it):=by rw [hu];simp [Y7]
  have d0:∀ (p:World->(Nat->Prop)->Value->Prop),SR.sto { v:=.any,upd:=some (it,.ext p) } (some t6) (ls ((it,.ext (Zj gs none))::S))=ls ((it,.ext p)::S):=fun p=>by
   funext z
   simp only [SR.sto,List.contains_nil,Bool.false_eq_true,if_false];rw [Qq,Qq]
   grind
  have T:SR.eta { v:=.any,upd:=some (it,.ext (Zj (gs.eraseIdx i) (some gs[i]))) } (some t6) (.tuple #[.bool true,y.key,y.val]) η=η:=by funext z;simp [SR.eta]
  have hk:=UX (C:=C) (s:=ls ((it,.ext (Zj gs none))::S)) (η:=η) { v:=.any,upd:=some (it,.ext (Zj (gs.eraseIdx i) (some gs[i]))) } (some t6) (.tuple #[.bool true,y.key,y.val]) (fun x=>x=r) B (fun x m=>by subst m;exact a3 _ a8) (fun _ _ J=>by cases J)
   (fun k o J=>by cases J;rw [A];simp)
  have n:=hc.step (some t6) (fun x m=>by cases m;exact n6) { v:=.any,upd:=some (it,.ext (Zj (gs.eraseIdx i) (some gs[i]))) } (.tuple #[.bool true,y.key,y.val]) _ (fun x=>x=r) B
   (fun x m=>by
    grind)
   (fun _ _ J=>by cases J)
   (fun k o J=>by
    cases J
    refine ⟨⟨_,A,rfl⟩,rfl,by simp,by simp [Obj.refs],?_⟩;rw [T] at hk ⊢
    rw [hu];have a2:=hk b (YJ g3) g2
    have a6:=Q9s g4 O;refine .ext _ _ ⟨r,b,Z,f,g,d.push y.born,f,rfl,(heap_set a5).1,a2.2,a2.1.trans g3,g4,g6,g6,g7,?_,fun j x q m V=>?_,fun q V=>?_⟩ (yY _) fun x m=>?_
    .have:=congrArg List.length a6
     grind
    .have N:(leftOf Z (d.push y.born)).toList[j]?=some x:=by simpa using m
     rw [a6,List.getElem?_eraseIdx] at N;rw [List.getElem?_eraseIdx] at V
     split at N
     .rename_i hj
      rw [if_pos hj] at V;exact (g9 j x q (by simpa using N) V).mono hk
     .rename_i hj
      rw [if_neg hj] at V;exact (g9 (j+1) x q (by simpa using N) V).mono hk
    .cases V
     exact ⟨y,b1,d,rfl,rfl,b9.mono hk⟩
    .simp only [Y7,List.mem_singleton] at m
     subst m;exact Nat.lt_of_lt_of_le (YJ g1) B.size)
   (fun _=>⟨.any _,by simp [AVal.refs]⟩)
  rw [d0,T] at n;have he:SR.env { v:=.any,upd:=some (it,.ext (Zj (gs.eraseIdx i) (some gs[i]))) } (some t6) (lk E)=Zw (some t6) .any (lk E):=rfl
  rw [he] at n;exact a7 true (gs.eraseIdx i) (some gs[i]) _ #[.bool true,y.key,y.val] _ _ rfl (by simp) n (go gs[i] (gs.eraseIdx i) ⟨i,a4,rfl,rfl⟩)
end
end
section
open Go.MapKept
section
variable {α:Type} [Emb α]
def K6(y:Int)(gs:List (Int×List α)):Nat:=gs.findIdx fun e=>e.1==y
def gApp(y:Int)(m:List α)(gs:List (Int×List α)):List (Int×List α):=
 match gs[K6 y gs]? with
 | some e=>gs.set (K6 y gs) (e.1,e.2++m)
 | none=>gs++[(y,m)]
theorem Kb{β:Type}(y:Int)(gs:List (Int×List β)):(K6 y gs<gs.length/\∃ e,gs[K6 y gs]?=some e/\e.1=y)\/(K6 y gs=gs.length/\∀ e ∈ gs,e.1≠y):=by
 unfold K6;rcases Nat.lt_or_ge (gs.findIdx fun e=>e.1==y) gs.length with h|h
 .left
  refine ⟨h,_,List.getElem?_eq_getElem h,?_⟩
  grind
 all_goals grind
theorem yn{β:Type}{gs:List (Int×List β)}(hnd:(gs.map (·.1)).Nodup){i j:Nat}{a b:Int×List β}(ha:gs[i]?=some a)(hb:gs[j]?=some b)(h:a.1=b.1):i=j:=by
 obtain ⟨c,ha⟩:=List.getElem?_eq_some_iff.1 ha;obtain ⟨d,hb⟩:=List.getElem?_eq_some_iff.1 hb
 exact (List.getElem_inj (h₀:=by simpa using c) (h₁:=by simpa using d) hnd).1 (by simp [ha,hb,h])
def Ue(w:World)(X:Nat->Prop)(v:Value)(l:List α):Prop:=∀ η C,ORep w X η C v (AO l)
def ZP(b:Nat)(rs:List Value):Array Value:=(Value.map (some b)::(rs++[.slice none 0 0])).toArray
structure GrpAt (gs:List (Int×List α)) (pend:Option Nat) (w:World) (X:Nat->Prop) (b:Nat) (rs:List Value) (ents:Array MapEntry) (clock:Nat):Prop where
 heap:w.heap[b]?=some (.map ents clock)
 st:Stamped ents clock
 len:rs.length=gs.length
 nd:(gs.map (·.1)).Nodup
 rows:∀ (i:Nat) (e:Int×List α) (v:Value),gs[i]?=some e->rs[i]?=some v->Ue w X v e.2
 apart:∀ (i j:Nat) (u v:Value) (x:Nat),rs[i]?=some u->rs[j]?=some v->x ∈ Y7 u->x ∈ Y7 v->i=j
 off:∀ (i:Nat) (v:Value),rs[i]?=some v->b ∉ Y7 v
 ents:match pend with
  | none=>ents.size=gs.length/\∀ (i:Nat) (e:Int×List α) (v:Value),gs[i]?=some e->rs[i]?=some v->∃ bo,ents[i]?=some ⟨.int .i64 e.1,v,bo⟩
  | some j=>j<gs.length/\(ents.size=gs.length\/(ents.size+1=gs.length/\j=ents.size))/\∀ (i:Nat) (e:Int×List α) (v:Value),i<ents.size->gs[i]?=some e->rs[i]?=some v->∃ u bo,ents[i]?=some ⟨.int .i64 e.1,u,bo⟩/\(i≠j->u=v)
def Zp(gs:List (Int×List α))(pend:Option Nat)(w:World)(X:Nat->Prop)(us:List Value)(v:Value):Prop:=
 ∃ b rs ents clock,us=[.map (some b)]/\v=.agg (ZP b rs)/\GrpAt gs pend w X b rs ents clock
theorem Ue.form{w:World}{X:Nat->Prop}{v:Value}{l:List α}(h:Ue w X v l):∃ ad n cap,v=.slice ad n cap/\PH v=Y7 v/\v.oneCell'=true:=by
 have:=h (fun _=>undef) (QW [] w X fun _=>undef)
 unfold AO at this;generalize l.length=n at this
 cases this with
 | nil ad=>exact ⟨_,_,_,rfl,by cases ad <;> rfl,rfl⟩
 | arr=>exact ⟨_,_,_,rfl,rfl,rfl⟩
theorem Ue.mono{w w' : World}{X X' : Nat->Prop}{v:Value}{l:List α}(h:Ue w X v l)(hk:QZ w w' X X')(hb:∀ b ∈ Y7 v,w'.heap[b]?=w.heap[b]?):Ue w' X' v l:=
 fun η C=>(h η C).mono hk (fun _ _=>rfl) hb
theorem Ue.lt{w:World}{X:Nat->Prop}{v:Value}{l:List α}(h:Ue w X v l){b:Nat}(hb:b ∈ Y7 v):b<w.heap.size:=
 (h (fun _=>undef) (QW [] w X fun _=>undef)).lt hb
theorem Wl{b x:Nat}{rs:List Value}(h1:∀ v ∈ rs,PH v=Y7 v):x ∈ Y7 (.agg (ZP b rs))↔x=b\/∃ v ∈ rs,x ∈ Y7 v:=by
 show x ∈ (Value.map (some b)::(rs++[.slice none 0 0])).flatMap PH↔_;rw [List.flatMap_cons,List.mem_append,List.flatMap_append,List.mem_append,List.mem_flatMap,List.mem_flatMap]
 constructor
 .rintro (h|⟨v,hv,h⟩|⟨v,hv,h⟩)
  .exact .inl (List.mem_singleton.1 h)
  .grind
  .rw [List.mem_singleton.1 hv] at h;cases h
 .rintro (h|⟨v,hv,h⟩)
  .exact .inl (List.mem_singleton.2 h)
  all_goals grind
theorem GrpAt.one{gs:List (Int×List α)}{pend:Option Nat}{w:World}{X:Nat->Prop}{b:Nat}{rs:List Value}{ents:Array MapEntry}{clock:Nat}(h:GrpAt gs pend w X b rs ents clock):∀ v ∈ rs,PH v=Y7 v:=fun v g=>by
 obtain ⟨i,d,rfl⟩:=List.getElem_of_mem g;have c : i<gs.length:=by rw [<-h.len];exact d
 obtain ⟨_,_,_,_,f,_⟩:=(h.rows i gs[i] rs[i] (List.getElem?_eq_getElem c) (List.getElem?_eq_getElem d)).form;exact f
theorem GrpAt.mono{gs:List (Int×List α)}{pend:Option Nat}{w w' : World}{X X' : Nat->Prop}{b:Nat}{rs:List Value}{ents:Array MapEntry}{clock:Nat}(h:GrpAt gs pend w X b rs ents clock)(hk:QZ w w' X X')(hb:∀ x ∈ Y7 (.agg (ZP b rs)),w'.heap[x]?=w.heap[x]?):GrpAt gs pend w' X' b rs ents clock:=
 ⟨(hb b ((Wl h.one).2 (.inl rfl))).trans h.heap,h.st,h.len,h.nd,fun i e v d c=>(h.rows i e v d c).mono hk fun x f=>hb x ((Wl h.one).2 (.inr ⟨v,List.mem_of_getElem? c,f⟩)),h.apart,h.off,h.ents⟩
theorem vo{gs:List (Int×List α)}{pend:Option Nat}{us:List Value}(v:Value):PQ (fun w X v=>Zp gs pend w X us v) v:=by
 intro w m X X' f i h;obtain ⟨b,g,d,c,l,rfl,j⟩:=h
 exact ⟨b,g,d,c,l,rfl,j.mono f i⟩
theorem GrpAt.lt{gs:List (Int×List α)}{pend:Option Nat}{w:World}{X:Nat->Prop}{b:Nat}{rs:List Value}{ents:Array MapEntry}{clock:Nat}(h:GrpAt gs pend w X b rs ents clock){x:Nat}(hx:x ∈ Y7 (.agg (ZP b rs))):x<w.heap.size:=by
 rcases (Wl h.one).1 hx with rfl|⟨v,f,hx⟩
 .exact YJ h.heap
 .obtain ⟨i,d,rfl⟩:=List.getElem_of_mem f
  have c : i<gs.length:=by rw [<-h.len];exact d
  exact (h.rows i gs[i] rs[i] (List.getElem?_eq_getElem c) (List.getElem?_eq_getElem d)).lt hx
end
def HY(extra:List Nat)(ops:Array Oper)(o:Oper)(e:W4)(r:SR):Eff:= { rd:=Qx o++Qi ops o,ids:=WN e o++extra,v:=r.v,l:=r.l o.dst,news:=r.nw o.dst }
def xE(extra:List Nat)(r:SR):Array Oper->Oper->W4->Eff:=fun ops o e=>HY extra ops o e r
section
variable {P:Program} {C:Ctx} {nt:Nat} {L:V9} {ops:Array Oper} {ds:List Dir} {e:W4} {s:W5}
def Q3z(P:Program)(C:Ctx)(nt:Nat)(R:Nat->Prop)(η:Nat->Value)(e:W4)(s:W5)(a:Act)(w:World)(o:Oper)(r:SR):Prop:=
 ∃ v u w',((execOp a.eval o).run P w=.ok (.value v) w' \/ ((execOp a.eval o).run P w=.ok .skip w' /\ v=undef)) /\
  Conc C nt (r.rng o.dst R) (r.eta o.dst u η) (r.env o.dst e) (r.sto o.dst s) (a.put o.dst v) w'
theorem G4.g{R:Nat->Prop}{η:Nat->Value}{a:Act}{w:World}{o:Oper}{r:SR}(h:G4 P C nt R η e s a w o r):Q3z P C nt R η e s a w o r:=by
 obtain ⟨v,b,d,c⟩:=h;exact ⟨v,v,b,d,c⟩
theorem LP(extra:List Nat){o:Oper}(hdo:QS nt o=true){r:SR}(hg:Zg ops e o=some true)(hsnd:∀ (R:Nat->Prop) (η:Nat->Value) (e0:W4) (s0:W5) (a:Act) (w:World),(∀ x ∈ o.op.operands.toList,Y2 e0 x=Y2 e x)->(∀ x ∈ o.op.operands.toList,∀ i ∈ (Y2 e x).refs,s0 i=s i)->(∀ i ∈ extra,s0 i=s i)->(∀ d,o.dst=some d->r.new≠none->¬ R d) ->
   Conc C nt R η e0 s0 a w->Q3z P C nt R η e0 s0 a w o r):WG P C nt ops o (HY extra ops o e r) e s:=by
 intro R η e0 s0 a w n c G b K Q T;have q:∀ x ∈ o.op.operands.toList,Y2 e0 x=Y2 e x:=by
  intro x q
  cases x with
  | tmp t=>exact n t (List.mem_append.2 (.inl (List.mem_filterMap.2 ⟨_,q,rfl⟩)))
  | const v=>rfl
  | global g=>rfl
  | func f=>rfl
 have F:∀ x ∈ o.op.operands.toList,∀ i ∈ (Y2 e x).refs,s0 i=s i:=fun x q i A=>c i (List.mem_append_left _ (List.mem_flatMap.2 ⟨x,q,A⟩))
 have O:=UG (e:=e) b (fun t N=>n t (List.mem_append.2 (.inr N))) hg;rw [if_pos O]
 have M:=hsnd R η e0 s0 a w q F (fun i A=>c i (List.mem_append_right _ A)) (fun d U V=>G d (by
  obtain ⟨W,I⟩:=Option.ne_none_iff_exists'.1 V;simp [HY,SR.nw,I,U])) b
 have m:∀ η' z p,Conc C nt (r.rng o.dst R) η' (r.env o.dst e0) (r.sto o.dst s0) z p -> K z p:=fun η' z p B=>by
  refine T η' z p ?_;have H:=B.wider (LS r o.dst R)
  have h:ZC (HY extra ops o e r).l s0=r.sto o.dst s0:=LR r o.dst s0;rw [h]
  have j:Zw o.dst (HY extra ops o e r).v e0=r.env o.dst e0:=rfl;rw [j]
  exact H
 obtain ⟨v,u,p,D|⟨D,rfl⟩,J⟩:=M
 .exact PZ D (m _ _ _ J)
 .exact kc D (m _ _ _ J)
end
section
variable {P:Program} {C:Ctx} {nt:Nat} {L:V9} {R:Nat->Prop} {η:Nat->Value} {e:W4} {s:W5} {a:Act} {w:World}
variable {α:Type} [Emb α]
theorem CQ(h:Conc C nt R η e s a w){g base:Nat}{gs:List (Int×List α)}{pend:Option Nat}(hs:s g=some (.exr [base] (Zp gs pend))):
  ∃ b rs ents clock,η base=.map (some b)/\η g=.agg (ZP b rs)/\GrpAt gs pend w (XS C s η) b rs ents clock:=by
 have c:=h.st g _ hs;generalize hu:η g=u at c
 cases c with
 | exr _ _ _ hp _ _=>
  obtain ⟨b,rs,ents,clock,i,d,f⟩:=hp
  grind
theorem Q6R(hL:z7 P L)(h:Conc C nt R η e s a w){o:Oper}{d:Nat}(hd:o.dst=some d)(hdn:d<nt){t:TypeId}{tx ty:Nat}(hne:tx≠ty)(hop:o.op=.call { callee:=.builtin .append,args:= #[.tmp tx,.tmp ty],argTypes:= #[t,t] }){ti:TI}(ht:L t=some ti){el:Nat}(hk:ti.kind=.slice el){te:TI}(hte:L el=some te)(hes:te.size=Emb.es α){l m:List α}(hx:Ue w (XS C s η) (a.tmps.getD tx undef) l)(hX:∀ b ∈ Y7 (a.tmps.getD tx undef),XS C s η b)(hy:e ty=AL m)(hby:te.bytes<=8192)(hzl:te.zero.length=te.size)(hlim:l.length+m.length<=Y5):
  ∃ v w',(execOp a.eval o).run P w=.ok (.value v) w' /\ Stp (fun b=>b ∈ Y7 (a.tmps.getD tx undef)) w w' /\ (∀ b ∈ Y7 v,b ∈ Y7 (a.tmps.getD tx undef)\/w.heap.size<=b) /\
   ∀ X',(∀ b,b<w'.heap.size->X' b->(XS C s η b/\b ∉ Y7 (a.tmps.getD tx undef))\/b ∈ Y7 v)->Ue w' X' v (l++m):=by
 generalize hv1:a.tmps.getD tx undef=v1 at *;have I:∀ b,XS C s η b->b<w.heap.size:=by
  rintro b (⟨hx,_⟩|hx)
  .exact Nat.lt_of_lt_of_le (h.ok.lt b hx) h.fr.size
  .exact h.lt hx
 let C0:Ctx:= { w0:=w,D:=fun b=>b ∈ Y7 v1,M:=fun b=>b ∈ Y7 v1,X:=XS C s η,pin:=fun _=>none }
 let η0:Nat->Value:=fun _=>v1
 let s0:W5:=fun i=>if i=nt then some (AO l) else none
 let e0:W4:=fun t=>if t=tx then .v (.c (.own nt)) else if t=ty then AL m else .any
 have H:XS C0 s0 η0=XS C s η:=by
  funext b
  apply propext;constructor
  .rintro (⟨U,_⟩|⟨i,x,p,r⟩)
   all_goals grind
  .intro r
   rcases Classical.em (b ∈ Y7 v1) with hm|hm
   .exact .inr ⟨nt,AO l,by simp [s0],hm⟩
   .exact .inl ⟨r,hm⟩
 have F:∀ i x,s0 i=some x -> i=nt/\x=AO l:=fun i x p=>by
  grind
 have N:Conc C0 nt (fun i=>i=nt) η0 e0 s0 a w:=by
  refine ⟨⟨fun b r=>r,fun b r=>hX b r,I⟩,h.df,h.sz,fun t=>?_,fun t i p=>?_,fun i x p=>?_,fun i x p=>?_,fun i j b p hj _ _=>?_,fun i x b p r=>?_,Stp.refl _ _,fun i v p=>by cases p⟩
  .rw [H]
   simp only [e0];split
   .rename_i ht;subst ht
    rw [hv1];exact .v _ _ (.c _ _ (.own _ _ rfl hx.form.choose_spec.choose_spec.choose_spec.2.2))
   .split
    .rename_i _ ht;subst ht
     have:=h.ev t
     rw [hy] at this;unfold AL at this ⊢
     generalize a.tmps.getD t undef=q at this ⊢
     cases this with|v _ _ hh=>cases hh with|c _ _ hh=>cases hh with|d _ _ hh=>exact .v _ _ (.c _ _ (.d _ _ hh))
    .exact .any _
  .simp only [e0] at p
   split at p
   .simpa [AVal.refs,TV.refs,CV.refs] using p
   .split at p
    .simp [AL,AVal.refs,TV.refs,CV.refs] at p
    .simp [AVal.refs] at p
  .obtain ⟨_,rfl⟩:=F i x p
   rw [H];exact hx _ _
  .obtain ⟨rfl,rfl⟩:=F i x p
   exact ⟨rfl,fun j hj=>by simp [AO,Obj.refs] at hj⟩
  all_goals grind
 have hR:¬ (fun i=>i=nt) d:=by show ¬ d=nt;omega
 obtain ⟨v,w',hr,z⟩:=LX (c:=True) hL N hd hdn hR hop ht hk hte (k:=m.length) (g:=LF m) (by simp [Y2,e0,Ne.symm hne,AL,DL,VI])
  (del:=[nt]) (n:=l.length) (f:=LF l) (c0:=True) (by simp [Y2,e0,Jf,s0,AO,hes]) trivial hby hzl hlim (fun j hj=>by rw [hes];exact Emb.len _)
 have G:(SR.sto { v:=.v (.c (.own d)),del:=[nt],new:=some (.arr te.size (l.length+m.length) (QH l.length (LF l) (LF m))),cond:=True } o.dst s0)=fun i=>if i=d then some (.arr te.size (l.length+m.length) (QH l.length (LF l) (LF m))) else none:=by
  funext i
  simp only [SR.sto,hd]
  grind
 rw [G] at z;have B:(fun i=>if i=d then some (Obj.arr te.size (l.length+m.length) (QH l.length (LF l) (LF m))) else none) d=some (.arr te.size (l.length+m.length) (QH l.length (LF l) (LF m))):=by simp
 have A:=z.st d _ B;have u:SR.eta { v:=.v (.c (.own d)),del:=[nt],new:=some (.arr te.size (l.length+m.length) (QH l.length (LF l) (LF m))),cond:=True } o.dst v η0 d=v:=by simp [SR.eta,hd]
 have O:∀ b,b ∈ Y7 v->b ∈ Y7 v1\/w.heap.size<=b:=fun b r=>by
  rcases z.ow d _ b B (by rw [u];exact r) with ⟨U,_⟩|U|U
  all_goals grind
 rw [u] at A;have J:(execOp a.eval o).run P w=.ok (.value v) w':=by
  rcases hr with hr|⟨_,rfl⟩
  .exact hr
  .have hu:(undef:Value)=.tuple #[]:=rfl
   rw [hu] at A;cases A
 refine ⟨v,w',J,z.fr,O,fun X' W=>fun η2 C2=>?_⟩
 .have a2:U2 (.arr te.size (l.length+m.length) (QH l.length (LF l) (LF m))) (AO (l++m)):=by rw [hes];exact U2.is (Is.app (Is.refl l) (Is.refl m))
  have Z:=a2.1 _ _ _ _ _ A;have h3:ORep w' (XS C0 (fun i=>if i=d then some (Obj.arr te.size (l.length+m.length) (QH l.length (LF l) (LF m))) else none) (SR.eta { v:=.v (.c (.own d)),del:=[nt],new:=some (.arr te.size (l.length+m.length) (QH l.length (LF l) (LF m))),cond:=True } o.dst v η0)) η2 C2 v (AO (l++m)):=by
   unfold AO at Z ⊢;generalize (l++m).length=nn at Z ⊢
   cases Z with
   | nil ad=>exact .nil ad _ _
   | arr b' _ cap' _ c' e' _ q1 q2 q3 q4 q5 q6 q7=>exact .arr b' _ cap' _ c' e' _ q1 q2 q3 q4 q5 q6 q7
  refine h3.mono (fun b r T=>⟨rfl,fun Y=>T ?_⟩) (fun _ _=>rfl) fun _ _=>rfl
  rcases W b r Y with ⟨V,h5⟩|V
  .exact .inl ⟨V,h5⟩
  .exact .inr ⟨d,_,B,by rw [u];exact V⟩
theorem HE(b:Nat)(rs:List Value)(i:Nat):(ZP b rs)[1+i]?=(rs++[.slice none 0 0])[i]?:=by
 simp [ZP,Nat.add_comm 1 i]
theorem GrpAt.find{gs:List (Int×List α)}{X:Nat->Prop}{b:Nat}{rs:List Value}{ents:Array MapEntry}{clock:Nat}(h:GrpAt gs none w X b rs ents clock)(y:Int):
  (Instr.findNow (.int .i64) (.int .i64 y) ents.toList 0=some none/\K6 y gs=gs.length) \/
  ∃ x:MapEntry,Instr.findNow (.int .i64) (.int .i64 y) ents.toList 0=some (some (K6 y gs,x.val))/\rs[K6 y gs]?=some x.val/\K6 y gs<gs.length:=by
 obtain ⟨J,c⟩:=h.ents;have i:∀ (j:Nat) (x:MapEntry),ents[j]?=some x->∃ e v,gs[j]?=some e/\rs[j]?=some v/\x.key=.int .i64 e.1/\x.val=v:=fun j x A=>by
  have u:j<ents.size:=(Array.getElem?_eq_some_iff.1 A).1;have D:j<gs.length:=by omega
  have q:j<rs.length:=by rw [h.len];exact D
  obtain ⟨I,F⟩:=c j gs[j] rs[j] (List.getElem?_eq_getElem D) (List.getElem?_eq_getElem q)
  grind
 have z:∀ x ∈ ents.toList,IsKey (.int .i64) x.key:=fun x A=>by
  obtain ⟨j,u,rfl⟩:=List.getElem_of_mem A;obtain ⟨e,v,_,_,g,_⟩:=i j _ (by simp at u ⊢;exact Array.getElem?_eq_getElem u)
  simp only [Array.getElem_toList] at g ⊢;rw [g];rfl
 rcases findNow_spec (d:=.int .i64) (k:=.int .i64 y) rfl ents.toList 0 z with ⟨o,p⟩|⟨j,x,o,p,H⟩
 .left
  refine ⟨o,?_⟩;rcases Kb y gs with ⟨l,e,n,f⟩|⟨N,_⟩
  .exfalso
   have q:K6 y gs<rs.length:=by rw [h.len];exact l
   obtain ⟨I,F⟩:=c _ e _ n (List.getElem?_eq_getElem q);exact p _ (by have:=Array.mem_of_getElem? F;simpa using this) (by rw [f])
  .exact N
 .right
  obtain ⟨e,v,n,G,g,t⟩:=i j x (by simpa using p);rw [H] at g
  have f:e.1=y:=by cases g;rfl
  have r:K6 y gs=j:=by
   rcases Kb y gs with ⟨l,O,B,m⟩|⟨_,M⟩
   .exact yn h.nd B n (by rw [f,m])
   all_goals grind
  rw [Nat.zero_add] at o;rw [r]
  exact ⟨x,o,by rw [t];exact G,(List.getElem?_eq_some_iff.1 n).1⟩
variable {ops:Array Oper} {ds:List Dir} {k:Nat}
def Pr(ops:Array Oper)(nt:Nat)(e:W4)(o:Oper):Bool:=QS nt o&&(Zg ops e o==some true)
theorem Z3I{gs:List (Int×List α)}{base g:Nat}{t kT eT:TypeId}{m x:Operand}{y:Int}(ht:P.underlying t=some (.map kT eT))(hkT:P.underlying kT=some (.int .i64))(hz:∀ w,(zeroValue eT).run P w=.ok (.slice none 0 0) w)(hk:Qs ds k=xE [g] { v:=.v (.c (.cp g (1+K6 y gs))) })(hop:(Y6 ops.toList k).op=.lookup t m x false)(hdo:Pr ops nt (V7 L ops ops.toList ds e s k) (Y6 ops.toList k)=true)(hm:Y2 (V7 L ops ops.toList ds e s k) m=.v (.c (.own base)))(hx:Y2 (V7 L ops ops.toList ds e s k) x=vi y)(hs:QU L ops ops.toList ds e s k g=some (.exr [base] (Zp gs none))):U9 P C nt L ops ds e s k:=by
 unfold U9;rw [hk]
 simp only [Pr,Bool.and_eq_true,beq_iff_eq] at hdo;obtain ⟨A,N⟩:=hdo
 refine LP [g] A N fun R η Y W a w F O z Z f=>G4.g ?_
 have U:m ∈ (Y6 ops.toList k).op.operands.toList:=by rw [hop];simp [Op.operands]
 have T:x ∈ (Y6 ops.toList k).op.operands.toList:=by rw [hop];simp [Op.operands]
 have n:=(U5 f m).1;rw [F m U,hm] at n
 have n:=Vv n;have p:=(U5 f x).1
 rw [F x T,hx] at p;have p:=ki p
 have r:W g=some (.exr [base] (Zp gs none)):=(z g (by simp)).trans hs;obtain ⟨b,M,i,D,V,H,o⟩:=CQ f r
 rw [V] at n;have h:∀ v,(v=.slice none 0 0/\K6 y gs=gs.length/\Instr.findNow (.int .i64) (.int .i64 y) i.toList 0=some none)\/(M[K6 y gs]?=some v/\Instr.findNow (.int .i64) (.int .i64 y) i.toList 0=some (some (K6 y gs,v))) ->
   (execOp a.eval (Y6 ops.toList k)).run P w=.ok (.value v) w:=by
  rintro v (⟨rfl,_,l⟩|⟨_,l⟩)
  .simp [execOp,hop,n,p,Instr.lookup,run_underlying ht,MapKept.run_getObj_map o.heap,MapKept.run_checkKey hkT (k:=.int .i64 y) (d:=.int .i64) rfl,MapKept.run_findKey hkT l,hz]
  .simp [execOp,hop,n,p,Instr.lookup,run_underlying ht,MapKept.run_getObj_map o.heap,MapKept.run_checkKey hkT (k:=.int .i64 y) (d:=.int .i64) rfl,MapKept.run_findKey hkT l]
 have G:∀ j ∈ (AVal.v (.c (.cp g (1+K6 y gs)))).refs,R j:=fun j I=>by
  simp [AVal.refs,TV.refs,CV.refs] at I
  subst I;exact (f.sr _ _ r).1
 rcases o.find y with ⟨l,J⟩|⟨q,l,B,u⟩
 .refine Ze f (YY A) (h _ (.inl ⟨rfl,J,l⟩)) (.v _ _ (.c _ _ (.cp _ _ _ _ H ?_ rfl))) G
  rw [HE,J, <-o.len];simp
 .obtain ⟨e',he'⟩:∃ e',gs[K6 y gs]?=some e':=⟨_,List.getElem?_eq_getElem u⟩
  refine Ze f (YY A) (h _ (.inr ⟨B,l⟩)) (.v _ _ (.c _ _ (.cp _ _ _ _ H ?_ ((o.rows _ _ _ he' B).form.choose_spec.choose_spec.choose_spec.2.2)))) G;rw [HE,List.getElem?_append_left (by rw [o.len];exact u)]
  exact B
end
end
section
open Go.MapKept
section
variable {P:Program} {C:Ctx} {nt:Nat} {L:V9} {R:Nat->Prop} {η:Nat->Value} {e:W4} {s:W5} {a:Act} {w:World}
variable {α:Type} [Emb α] {ops:Array Oper} {ds:List Dir} {k:Nat}
def gRow(y:Int)(gs:List (Int×List α)):List α:=match gs[K6 y gs]? with|some e=>e.2|none=>[]
theorem Q1H{β:Type}{y:Int}{m:List β}{gs:List (Int×List β)}{q:Int×List β}(h:gs[K6 y gs]?=some q):gApp y m gs=gs.set (K6 y gs) (q.1,q.2++m):=by unfold gApp;rw [h]
theorem Q1F{β:Type}{y:Int}{m:List β}{gs:List (Int×List β)}(h:K6 y gs=gs.length):gApp y m gs=gs++[(y,m)]:=by
 unfold gApp
 grind
def UQ{β:Type}(l:List β)(i:Nat)(x:β):List β:=if i<l.length then l.set i x else l++[x]
theorem Hf{β:Type}{l:List β}{i:Nat}{x:β}(h:i<=l.length):(UQ l i x).length=if i<l.length then l.length else l.length+1:=by
 unfold UQ;split <;> simp
theorem Hg{β:Type}{l:List β}{i:Nat}{x:β}(h:i<=l.length)(j:Nat):(UQ l i x)[j]?=if j=i then some x else l[j]?:=by
 unfold UQ
 grind
theorem CR{β:Type}{y:Int}{m:List β}{gs:List (Int×List β)}:∃ q,q.1=y/\q.2=gRow y gs++m/\gApp y m gs=UQ gs (K6 y gs) q/\K6 y gs<=gs.length:=by
 rcases Kb y gs with ⟨c,q,d,f⟩|⟨b,_⟩
 .refine ⟨(q.1,q.2++m),f,by unfold gRow;rw [d],?_,by omega⟩
  rw [Q1H d];unfold UQ;rw [if_pos c]
 .refine ⟨(y,m),rfl,?_,?_,by omega⟩
  .unfold gRow;rw [b,List.getElem?_eq_none (Nat.le_refl _)];simp
  .rw [Q1F b];unfold UQ;rw [b,if_neg (Nat.lt_irrefl _)]
theorem Z0U{β:Type}{y:Int}{m:List β}{gs:List (Int×List β)}:∃ q,(gApp y m gs)[K6 y gs]?=some q/\q.1=y:=by
 obtain ⟨q,c,_,b,d⟩:=CR (y:=y) (m:=m) (gs:=gs);refine ⟨q,?_,c⟩
 rw [b];unfold UQ
 grind
theorem Q1G{β:Type}{y:Int}{m:List β}{gs:List (Int×List β)}(hnd:(gs.map (·.1)).Nodup):((gApp y m gs).map (·.1)).Nodup:=by
 rcases Kb y gs with ⟨c,q,d,g⟩|⟨b,f⟩
 .rw [Q1H d,List.map_set]
  grind
 .rw [Q1F b,List.map_append]
  grind
theorem Z3J(hL:z7 P L){gs:List (Int×List α)}{m:List α}{base g d:Nat}{y:Int}{t tx ty:Nat}{te:TI}(hT:VR L t te)(hes:te.size=Emb.es α)(hk:Qs ds k=xE [g] { v:=.v (.c (.cp d (1+K6 y gs))),del:=[g],new:=some (.exr [base] (Zp (Go.Ab.gApp y m gs) (some (K6 y gs)))) })(hop:(Y6 ops.toList k).op=.call { callee:=.builtin .append,args:= #[.tmp tx,.tmp ty],argTypes:= #[t,t] })(hdo:(Pr ops nt (V7 L ops ops.toList ds e s k) (Y6 ops.toList k)&&(Y6 ops.toList k).dst==some d && !(tx==ty))=true)(hx:V7 L ops ops.toList ds e s k tx=.v (.c (.cp g (1+K6 y gs))))(hy:V7 L ops ops.toList ds e s k ty=AL m)(hs:QU L ops ops.toList ds e s k g=some (.exr [base] (Zp gs none)))(hby:te.bytes<=8192)(hzl:te.zero.length=te.size)(hlim:(gRow y gs).length+m.length<=Y5):U9 P C nt L ops ds e s k:=by
 obtain ⟨ti,el,ht,f6,f7⟩:=hT;unfold U9
 rw [hk];simp only [Pr,Bool.and_eq_true,beq_iff_eq,Bool.not_eq_true',beq_eq_false_iff_ne] at hdo
 obtain ⟨⟨⟨h1,h2⟩,h3⟩,h4⟩:=hdo;refine LP [g] h1 h2 fun R η e0 s0 a w he i6 f3 hn n=>?_
 have ox:Operand.tmp tx ∈ (Y6 ops.toList k).op.operands.toList:=by rw [hop];simp [Op.operands,Call.operands]
 have oy:Operand.tmp ty ∈ (Y6 ops.toList k).op.operands.toList:=by rw [hop];simp [Op.operands,Call.operands]
 have ex:e0 tx=.v (.c (.cp g (1+K6 y gs))):=(he _ ox).trans hx;have ey:e0 ty=AL m:=(he _ oy).trans hy
 have A:s0 g=some (.exr [base] (Zp gs none)):=(f3 g (by simp)).trans hs;have c6:=YY h1 d h3
 have b5:¬ R d:=hn d h3 (by simp);obtain ⟨b,H,a5,W,hb,hg,f⟩:=CQ n A
 have g9:g≠d:=fun h=>b5 (h ▸ (n.sr _ _ A).1)
 have a8:=n.ev tx;rw [ex] at a8
 generalize hv1e:a.tmps.getD tx undef=v1 at a8;have d5:(H++[.slice none 0 0])[K6 y gs]?=some v1:=by
  cases a8 with|v _ _ hh=>cases hh with|c _ _ hh=>cases hh with|cp _ _ _ vs q1 q2 _=>
  rw [hg] at q1;cases q1
  rwa [HE] at q2
 obtain ⟨q,i5,g8,Y,G⟩:=CR (y:=y) (m:=m) (gs:=gs);have U : K6 y gs<=H.length:=by rw [f.len];exact G
 have I:∀ x,x ∈ Y7 (.agg (ZP b H))->Own s0 η x:=fun x hx=>⟨g,_,A,by rw [hg];exact hx⟩
 have d0:Ue w (XS C s0 η) v1 (gRow y gs)/\(∀ x ∈ Y7 v1,x ∈ Y7 (.agg (ZP b H)))/\b ∉ Y7 v1/\∀ j u,j≠K6 y gs->H[j]?=some u->∀ x ∈ Y7 u,x ∉ Y7 v1:=by
  rcases Kb y gs with ⟨V,q',b3,e8⟩|⟨hl,_⟩
  .have D:H[K6 y gs]?=some v1:=by rwa [List.getElem?_append_left (by rw [f.len];exact V)] at d5
   refine ⟨?_,fun x hx=>(Wl f.one).2 (.inr ⟨v1,List.mem_of_getElem? D,hx⟩),f.off _ _ D,fun j u B hu x hx f1=>B (f.apart _ _ _ _ x hu D hx f1)⟩;unfold gRow;rw [b3]
   exact f.rows _ _ _ b3 D
  .have D:v1=.slice none 0 0:=by
    rw [hl, <-f.len,List.getElem?_append_right (Nat.le_refl _),Nat.sub_self] at d5
    grind
   subst D;refine ⟨?_,fun x hx=>by simp [Y7] at hx,by simp [Y7],fun j u _ _ x _ hx=>by simp [Y7] at hx⟩
   unfold gRow;rw [hl,List.getElem?_eq_none (Nat.le_refl _)]
   exact fun η C=>.nil _ _ _
 obtain ⟨f5,O,a6,d4⟩:=d0;obtain ⟨v',w',c8,F,a0,c2⟩:=Q6R hL n h3 c6 h4 hop ht f6 f7 hes (l:=gRow y gs) (m:=m) (by rw [hv1e];exact f5) (fun x hx=>by rw [hv1e] at hx;exact .inr (I x (O x hx))) ey hby hzl hlim
 rw [hv1e] at F a0 c2;have b7:∀ x ∈ Y7 (.agg (ZP b H)),C.M x\/C.w0.heap.size<=x:=fun x hx=>by
  rcases n.ow g _ x A (by rw [hg];exact hx) with ⟨h,_⟩|h
  .cases h
  .exact h
 have V:∀ x ∈ Y7 (.agg (ZP b H)),x<w.heap.size:=fun x hx=>f.lt hx
 let rs':=UQ H (K6 y gs) v'
 have z : ∀ j,rs'[j]?=if j=K6 y gs then some v' else H[j]?:=fun j=>Hg U j
 have a3 : ∀ j,(Go.Ab.gApp y m gs)[j]?=if j=K6 y gs then some q else gs[j]?:=fun j=>by rw [Y];exact Hg G j
 have Z:=(c2 (fun _=>False) fun _ _ h=>h.elim).form;have a7 : ∀ v ∈ rs',PH v=Y7 v:=fun v D=>by
  obtain ⟨j,B⟩:=List.getElem?_of_mem D;have a9:=z j
  rw [B] at a9
  by_cases h:j=K6 y gs
  .grind
  .rw [if_neg h] at a9;exact f.one _ (List.mem_of_getElem? a9.symm)
 have hu:∀ x,x ∈ Y7 (.agg (ZP b rs'))->x=b\/x ∈ Y7 v' \/ ∃ j u,j≠K6 y gs/\H[j]?=some u/\x ∈ Y7 u:=fun x hx=>by
  rcases (Wl a7).1 hx with h|⟨v,D,hx⟩
  .exact .inl h
  .obtain ⟨j,B⟩:=List.getElem?_of_mem D
   grind
 have e1:∀ x,x ∈ Y7 (.agg (ZP b rs'))->w.heap.size<=x\/x ∈ Y7 (.agg (ZP b H)):=fun x hx=>by
  rcases hu x hx with rfl|h|⟨j,u,_,h,hx⟩
  .exact .inr ((Wl f.one).2 (.inl rfl))
  .grind
  .exact .inr ((Wl f.one).2 (.inr ⟨u,List.mem_of_getElem? h,hx⟩))
 let r:SR:= { v:=.v (.c (.cp d (1+K6 y gs))),del:=[g],new:=some (.exr [base] (Zp (Go.Ab.gApp y m gs) (some (K6 y gs)))) }
 have c5:=UX (C:=C) (s:=s0) (η:=η) r (Y6 ops.toList k).dst (.agg (ZP b rs')) (fun x=>x ∈ Y7 v1) F (fun x hx=>I x (O x hx)) (fun o' dd _ _ x hx=>by
  grind) (fun k o hh=>by cases hh)
 have J:∀ i,r.eta (Y6 ops.toList k).dst (.agg (ZP b rs')) η i=if i=d then .agg (ZP b rs') else η i:=fun i=>by simp only [SR.eta,h3,r]
 have f2:w'.heap[b]?=w.heap[b]?:=F.block b (YJ f.heap) a6;have g0:∀ x,x<w'.heap.size->XS C (r.sto (Y6 ops.toList k).dst s0) (r.eta (Y6 ops.toList k).dst (.agg (ZP b rs')) η) x->(XS C s0 η x/\x ∉ Y7 v1)\/x ∈ Y7 v':=by
  intro x hx hX;rcases hX with ⟨d7,d6⟩|⟨i,oi,p,T⟩
  .refine .inl ⟨.inl ⟨d7,d6⟩,fun b1=>?_⟩
   rcases b7 x (O x b1) with h|h
   .exact d6 (n.ok.md x h)
   .have:=n.ok.lt x d7;omega
  .rcases LO r (Y6 ops.toList k).dst i oi p with ⟨_,b4⟩|⟨e7,_⟩|⟨ho,g2,_,b4⟩
   .rw [h3] at b4;cases b4
    rw [J,if_pos rfl] at T;rcases hu x T with rfl|h|⟨j,u,B,c9,N⟩
    .exact .inl ⟨.inr (I x ((Wl f.one).2 (.inl rfl))),a6⟩
    .exact .inr h
    .exact .inl ⟨.inr (I x ((Wl f.one).2 (.inr ⟨u,List.mem_of_getElem? c9,N⟩))),d4 j u B c9 x N⟩
   .cases e7
   .have f4:i≠d:=fun h=>by
     grind
    rw [J,if_neg f4] at T;refine .inl ⟨.inr ⟨i,oi,ho,T⟩,fun b1=>?_⟩
    have:i=g:=n.ds i g x (by rw [ho];simp) (by rw [A];simp) T (by rw [hg];exact O x b1)
    grind
 have c3:GrpAt (Go.Ab.gApp y m gs) (some (K6 y gs)) w' (XS C (r.sto (Y6 ops.toList k).dst s0) (r.eta (Y6 ops.toList k).dst (.agg (ZP b rs')) η)) b rs' a5 W:=by
  obtain ⟨h9,d8⟩:=f.ents;refine ⟨f2.trans f.heap,f.st,?_,Q1G f.nd,fun i e' v p D=>?_,fun i j u v x p B N b0=>?_,fun i v p c7=>?_,?_,?_,fun i e' v p b6 D=>?_⟩
  .rw [Y,Hf G,Hf U,f.len]
  .rw [a3] at p
   rw [z] at D
   by_cases h:i=K6 y gs
   .grind
   .rw [if_neg h] at p D
    exact (f.rows i e' v p D).mono c5 fun x hx=>F.block x (V x ((Wl f.one).2 (.inr ⟨v,List.mem_of_getElem? D,hx⟩))) (d4 i v h D x hx)
  .rw [z] at p B
   by_cases h:i=K6 y gs <;> by_cases h' : j=K6 y gs
   .rw [h,h']
   .rw [if_pos h] at p;rw [if_neg h'] at B
    cases p
    exfalso
    rcases a0 x N with h5|h5
    .grind
    .have:=V x ((Wl f.one).2 (.inr ⟨v,List.mem_of_getElem? B,b0⟩));omega
   .rw [if_neg h] at p;rw [if_pos h'] at B
    cases B
    exfalso
    rcases a0 x b0 with h5|h5
    .grind
    .have:=V x ((Wl f.one).2 (.inr ⟨u,List.mem_of_getElem? p,N⟩));omega
   .rw [if_neg h] at p;rw [if_neg h'] at B
    exact f.apart i j u v x p B N b0
  .rw [z] at p
   by_cases h:i=K6 y gs
   .rw [if_pos h] at p
    cases p
    rcases a0 b c7 with h5|h5
    .exact a6 h5
    .have:=YJ f.heap;omega
   .rw [if_neg h] at p
    exact f.off i v p c7
  .rw [Y,Hf G];split <;> omega
  .rw [Y,Hf G]
   grind
  .rw [a3] at b6
   rw [z] at D;have c1:i<gs.length:=by omega
   have e5:i<H.length:=by rw [f.len];exact c1
   obtain ⟨bo,e2⟩:=d8 i gs[i] H[i] (List.getElem?_eq_getElem c1) (List.getElem?_eq_getElem e5)
   by_cases h:i=K6 y gs
   .rw [if_pos h] at b6
    cases b6
    refine ⟨H[i],bo,?_,fun hh=>absurd h hh⟩;rw [e2]
    have:gs[i].1=q.1:=by
     rcases Kb y gs with ⟨a2,q',b3,e8⟩|⟨hl,_⟩
     all_goals grind
    rw [this]
   all_goals grind
 refine ⟨v',.agg (ZP b rs'),w',.inl c8,n.stepG (Y6 ops.toList k).dst (fun x hx=>by rw [h3] at hx;cases hx;exact c6) r v' (.agg (ZP b rs')) w' (fun x=>x ∈ Y7 v1) F ?_ ?_ (fun k o hh=>by cases hh) ?_⟩
 .intro x hx
  exact ⟨⟨g,.inl (by simp [r]),by rw [A];simp,by rw [hg];exact O x hx⟩,b7 x (O x hx)⟩
 .intro o' dd e3 d2
  rw [h3] at d2;cases d2
  have e6:o'=.exr [base] (Zp (Go.Ab.gApp y m gs) (some (K6 y gs))):=by simpa [r] using e3.symm
  subst e6;refine ⟨b5,rfl,fun j B=>?_,?_,fun x hx=>?_⟩
  .exact (n.sr g _ A).2 j B
  .have e4:base≠d:=fun h=>b5 (h ▸ (n.sr g _ A).2 base (by simp [Obj.refs]))
   refine .exr _ _ _ ⟨b,rs',a5,W,?_,rfl,c3⟩ (vo _) fun x hx=>c3.lt hx
   simp [J,e4,hb]
  .rcases e1 x hx with h|h
   .exact .inl h
   .exact .inr ⟨⟨g,by simp [r],by rw [A];simp,by rw [hg];exact h⟩,b7 x h⟩
 .intro _
  refine ⟨.v _ _ (.c _ _ (.cp _ _ _ (ZP b rs') (by rw [J,if_pos rfl]) ?_ Z.choose_spec.choose_spec.choose_spec.2.2)),fun j B=>?_⟩
  .rw [HE]
   have a2 : K6 y gs<rs'.length:=by
    grind
   rw [List.getElem?_append_left a2,z,if_pos rfl]
  .simp [r,AVal.refs,TV.refs,CV.refs] at B
   subst B;exact .inr ⟨by simp [r],h3⟩
theorem Z3H{gs:List (Int×List α)}{base g j:Nat}{t kT eT:TypeId}{m x v:Operand}{y:Int}{q:Int×List α}(ht:P.underlying t=some (.map kT eT))(hkT:P.underlying kT=some (.int .i64))(hk:Qs ds k=xE [] { upd:=some (g,.exr [base] (Zp gs none)) })(hop:(Y6 ops.toList k).op=.mapUpdate t m x v)(hdo:(Pr ops nt (V7 L ops ops.toList ds e s k) (Y6 ops.toList k)&&(Y6 ops.toList k).dst.isNone)=true)(hm:Y2 (V7 L ops ops.toList ds e s k) m=.v (.c (.own base)))(hx:Y2 (V7 L ops ops.toList ds e s k) x=vi y)(hv:Y2 (V7 L ops ops.toList ds e s k) v=.v (.c (.cp g (1+j))))(hs:QU L ops ops.toList ds e s k g=some (.exr [base] (Zp gs (some j))))(hq:gs[j]?=some q)(hqy:q.1=y):U9 P C nt L ops ds e s k:=by
 unfold U9;rw [hk]
 simp only [Pr,Bool.and_eq_true,beq_iff_eq] at hdo;obtain ⟨⟨h1,h2⟩,h3⟩:=hdo
 refine LP [] h1 h2 fun R η e0 s0 a w he c6 e6 hn A=>G4.g ?_
 have om:m ∈ (Y6 ops.toList k).op.operands.toList:=by rw [hop];simp [Op.operands]
 have ox:x ∈ (Y6 ops.toList k).op.operands.toList:=by rw [hop];simp [Op.operands]
 have ov:v ∈ (Y6 ops.toList k).op.operands.toList:=by rw [hop];simp [Op.operands]
 have Y:=(U5 A m).1;rw [he m om,hm] at Y
 have Y:=Vv Y;have ex:=(U5 A x).1
 rw [he x ox,hx] at ex;have ex:=ki ex
 have B:s0 g=some (.exr [base] (Zp gs (some j))):=(c6 v ov g (by rw [hv];simp [AVal.refs,TV.refs,CV.refs])).trans hs;obtain ⟨b,U,l,b8,hb,hg,n⟩:=CQ A B
 rw [hb] at Y;have ev:=(U5 A v).1
 rw [he v ov,hv] at ev;have c7:j<U.length:=by rw [n.len];exact (List.getElem?_eq_some_iff.1 hq).1
 have I:U[j]?=some (a.eval v):=by
  generalize a.eval v=v1 at ev
  cases ev with|v _ _ D=>cases D with|c _ _ D=>cases D with|cp _ _ _ vs q1 q2 _=>
  rw [hg] at q1;cases q1
  rw [HE,List.getElem?_append_left c7] at q2;exact q2
 generalize hve:a.eval v=v1 at I;obtain ⟨e7,a4,N⟩:=n.ents
 have a9:∀ (i:Nat) (z:MapEntry),l[i]?=some z->∃ J u,gs[i]?=some J /\ U[i]?=some u/\z.key=.int .i64 J.1/\(i≠j->z.val=u):=fun i z T=>by
  have Z:i<l.size:=(Array.getElem?_eq_some_iff.1 T).1;have b7:i<gs.length:=by omega
  have e3:i<U.length:=by rw [n.len];exact b7
  grind
 have c3:∀ z ∈ l.toList,IsKey (.int .i64) z.key:=fun z T=>by
  obtain ⟨i,Z,rfl⟩:=List.getElem_of_mem T;obtain ⟨J,_,_,_,b4,_⟩:=a9 i l[i] (Array.getElem?_eq_getElem (by simpa using Z))
  simp only [Array.getElem_toList];rw [b4];rfl
 have d7:b<w.heap.size:=YJ n.heap;have b1:∃ (p : Array MapEntry) (f : Nat),(execOp a.eval (Y6 ops.toList k)).run P w=.ok .skip { w with heap:=w.heap.setIfInBounds b (.map p f) } /\ Stamped p f /\ p.size=gs.length/\∀ (i:Nat) (J : Int×List α) (u:Value),gs[i]?=some J -> U[i]?=some u->∃ bo,p[i]?=some ⟨.int .i64 J.1,u,bo⟩:=by
  rcases findNow_spec (d:=.int .i64) (k:=.int .i64 y) rfl l.toList 0 c3 with ⟨f1,f2⟩|⟨i,z,f1,f2,f3⟩
  .refine ⟨_,_,?_,stamped_push (val:=v1) n.st f2,?_,fun i J u F hu=>?_⟩
   .simp [execOp,hop,Y,ex,hve,Instr.mapUpdate,run_underlying ht,MapKept.run_getObj_map n.heap,MapKept.run_checkKey hkT (k:=.int .i64 y) (d:=.int .i64) rfl,MapKept.run_findKey hkT f1,MapKept.run_setObj_map _ n.heap]
   .rw [Array.size_push]
    rcases a4 with h|⟨h,_⟩
    .exfalso
     obtain ⟨u,bo,O,_⟩:=N j q v1 (by omega) hq I;exact f2 _ (by have:=Array.mem_of_getElem? O;simpa using this) (by rw [hqy])
    .exact h
   .rcases a4 with h|⟨h,hj⟩
    .exfalso
     obtain ⟨u,bo,O,_⟩:=N j q v1 (by omega) hq I;exact f2 _ (by have:=Array.mem_of_getElem? O;simpa using this) (by rw [hqy])
    .rw [Array.getElem?_push]
     by_cases Z:i=l.size
     .rw [if_pos Z]
      have W:i=j:=by omega
      subst W;rw [hq] at F;rw [I] at hu
      cases F;cases hu
      exact ⟨_,by rw [hqy]⟩
     all_goals grind
  .have fz:l[i]?=some z:=by simpa using f2
   obtain ⟨J,u,F,hu,a1,d6⟩:=a9 i z fz;have c5:J.1=y:=by rw [f3] at a1;cases a1;rfl
   have W:i=j:=yn n.nd F hq (by rw [c5,hqy]);subst W
   refine ⟨_,_,?_,stamped_modify n.st i (fun e=> { e with key:=.int .i64 y,val:=v1 }) (fun _ _=>rfl) (fun c8 _ G=>?_),?_,fun i' c8 u' G b0=>?_⟩
   .simp [execOp,hop,Y,ex,hve,Instr.mapUpdate,run_underlying ht,MapKept.run_getObj_map n.heap,MapKept.run_checkKey hkT (k:=.int .i64 y) (d:=.int .i64) rfl,MapKept.run_findKey hkT f1,fz,f3,MapKept.run_keyThatStays (d:=.int .i64) (k:=.int .i64 y) rfl,MapKept.run_setObj_map _ n.heap]
   .grind
   .grind
   .rw [Array.getElem?_modify]
    by_cases Z:i=i'
    .subst Z
     rw [if_pos rfl,fz];rw [hq] at G;rw [I] at b0
     cases G;cases b0
     exact ⟨z.born,by rw [hqy];rfl⟩
    all_goals grind
 obtain ⟨p,f,a7,a6,a8,V⟩:=b1;have M:Stp (fun x=>x=b) w { w with heap:=w.heap.setIfInBounds b (.map p f) } :=
  ⟨rfl,rfl,rfl,by simp,fun x _ hx=>(heap_set n.heap).2 x hx,Nat.le_refl _⟩
 have H:b ∈ Y7 (η g):=by rw [hg];exact (Wl n.one).2 (.inl rfl)
 have hd:(Y6 ops.toList k).dst=none:=by simpa using h3
 let r:SR:= { upd:=some (g,.exr [base] (Zp gs none)) }
 have b2:=UX (C:=C) (s:=s0) (η:=η) r (Y6 ops.toList k).dst undef (fun x=>x=b) M (fun x hx=>by subst hx;exact ⟨g,_,B,H⟩) (fun _ _ D=>by cases D) (fun k o D=>by cases D;rw [B];simp);have a2:r.eta (Y6 ops.toList k).dst undef η=η:=by funext i;simp [SR.eta,r]
 refine ⟨undef,_,.inr ⟨a7,rfl⟩,A.step (Y6 ops.toList k).dst (fun x hx=>by rw [hd] at hx;cases hx) r undef _ (fun x=>x=b) M (fun x hx=>?_) (fun _ _ D=>by cases D) (fun k' o' D=>?_) (fun D=>absurd hd D)⟩
 .subst hx
  refine ⟨⟨g,.inr ⟨_,rfl⟩,by rw [B];simp,H⟩,?_⟩;rcases A.ow g _ x B H with ⟨h,_⟩|h
  .cases h
  .exact h
 .cases D
  refine ⟨⟨_,B,rfl⟩,rfl,by simp [r],fun j hj=>(A.sr g _ B).2 j hj,?_⟩;rw [a2] at b2 ⊢
  rw [hg];have a5:GrpAt gs none { w with heap:=w.heap.setIfInBounds b (.map p f) } (XS C (r.sto (Y6 ops.toList k).dst s0) η) b U p f :=
   ⟨(heap_set n.heap).1,a6,n.len,n.nd,fun i J u F hu=>(n.rows i J u F hu).mono b2 fun z T=>(heap_set n.heap).2 z (fun h=>by subst h;exact n.off i u hu T),n.apart,n.off,a8,V⟩
  exact .exr _ _ _ ⟨b,U,p,f,by simp [hb],rfl,a5⟩ (vo _) fun z T=>a5.lt T
end
section
variable {P:Program} {C:Ctx} {nt:Nat} {L:V9} {pins:List Nat} {K:Act->World->Prop} {α:Type} [Emb α]
theorem Z3t(Fm:Fr P L C pins){E:List (Nat×AVal)}{S0:List (Nat×Obj)}{id k:Nat}{o o' : Obj}(hp:pins.contains k=false)(hfr:((E.flatMap fun p=>p.2.refs)++(((id,o)::S0).flatMap fun p=>p.1::p.2.refs)).contains k=false)(hid:(S0.map (·.1)).contains id=false)(hro:o.ro=false)(hro' : o'.ro=false)(hrf:∀ j ∈ o'.refs,j=id\/j ∈ o.refs)(hu:∀ R η a w,Conc C nt R η (lk E) (ls ((id,o)::S0)) a w->∃ u,(∀ b ∈ Y7 u,b ∈ Y7 (η id))/\∀ X' η',QZ w w (XS C (ls ((id,o)::S0)) η) X' -> (∀ i,i≠k->η' i=η i)->ORep w X' η' C u o')(hk:Kn C nt E ((k,o')::S0) K):Kn C nt E ((id,o)::S0) K:=by
 intro R η a w m;have g:ls ((id,o)::S0) id=some o:=by rw [Qq,if_pos rfl]
 obtain ⟨u,r,H⟩:=hu R η a w m;have O:C.pin k=none:=by
  rcases hq:C.pin k with _|u
  .rfl
  .have:=Fm.pin k (by rw [hq];simp)
   grind
 have D:∀ i ∈ (E.flatMap fun p=>p.2.refs)++(((id,o)::S0).flatMap fun p=>p.1::p.2.refs),i≠k:=by
  grind
 have a2:id≠k:=D id (by simp);have a6:∀ j ∈ o.refs,j≠k:=fun j q=>D j (by simp [q])
 have l:∀ i o',ls S0 i=some o' -> i≠k/\i≠id/\(∀ j ∈ o'.refs,j≠k)/\ls ((id,o)::S0) i=some o':=by
  intro i o' d;have hm:=G7 d
  have T:i≠id:=by
   grind
  refine ⟨D i (List.mem_append.2 (.inr (List.mem_flatMap.2 ⟨_,List.mem_cons_of_mem _ hm,by simp⟩))),T,fun j q=>D j (List.mem_append.2 (.inr (List.mem_flatMap.2 ⟨_,List.mem_cons_of_mem _ hm,by simp [q]⟩))),?_⟩;rw [Qq,if_neg T];exact d
 have Y:∀ u i,i ∈ (lk E u).refs->i≠k:=by
  intro u i d;rcases XX (E:=E) (t:=u) with h0|h0
  .rw [h0] at d;cases d
  all_goals grind
 let η' : Nat->Value:=fun i=>if i=k then u else η i
 have f : ∀ i,i≠k->η' i=η i:=fun i d=>by show (if i=k then u else η i)=_;rw [if_neg d]
 have A:η' k=u:=by show (if k=k then u else η k)=_;rw [if_pos rfl]
 have I:∀ b,Own (ls ((k,o')::S0)) η' b->Own (ls ((id,o)::S0)) η b:=by
  rintro b ⟨i,n,d,B⟩;rw [Qq] at d
  by_cases c:i=k
  .subst c
   rw [A] at B;exact ⟨id,_,g,r b B⟩
  .rw [if_neg c] at d
   rw [f i c] at B;exact ⟨i,n,(l i n d).2.2.2,B⟩
 have Z:QZ w w (XS C (ls ((id,o)::S0)) η) (XS C (ls ((k,o')::S0)) η'):=by
  intro b J hn;refine ⟨rfl,fun U=>?_⟩
  rcases U with U|U
  .exact hn (.inl U)
  .exact hn (.inr (I b U))
 refine hk (fun i=>R i\/i=k) η' a w ⟨m.ok,m.df,m.sz,fun t=>?_,fun t i d=>.inl (m.er t i d),fun i n d=>?_,fun i n d=>?_,fun i j b d q x z=>?_,fun i n b d J=>?_,m.fr,fun i v d=>?_⟩
 .exact (m.ev t).mono Z fun i d=>f i (Y t i d)
 .rw [Qq] at d
  by_cases c:i=k
  .subst c
   rw [if_pos rfl] at d;cases d
   rw [A];exact H _ _ Z f
  .rw [if_neg c] at d
   obtain ⟨F,N,V,G⟩:=l i n d;rw [f i c]
   exact (m.st i n G).mono Z (fun j q=>f j (V j q)) fun _ _=>rfl
 .rw [Qq] at d
  by_cases c:i=k
  .subst c
   rw [if_pos rfl] at d;cases d
   refine ⟨.inr rfl,fun j q=>.inl ?_⟩;rcases hrf j q with rfl|h
   .exact (m.sr j _ g).1
   .exact (m.sr id _ g).2 j h
  .rw [if_neg c] at d
   obtain ⟨F,N,V,G⟩:=l i n d;have:=m.sr i n G
   exact ⟨.inl this.1,fun j q=>.inl (this.2 j q)⟩
 .rw [Qq] at d q
  by_cases c:i=k <;> by_cases hjk:j=k
  .rw [c,hjk]
  .exfalso
   rw [if_neg hjk] at q;obtain ⟨oj,M⟩:=Option.ne_none_iff_exists'.1 q
   obtain ⟨F,N,V,G⟩:=l j oj M;rw [c,A] at x
   rw [f j hjk] at z;exact N (m.ds j id b (by rw [G];simp) (by rw [g];simp) z (r b x))
  .exfalso
   rw [if_neg c] at d;obtain ⟨n,M⟩:=Option.ne_none_iff_exists'.1 d
   obtain ⟨F,N,V,G⟩:=l i n M;rw [hjk,A] at z
   rw [f i c] at x;exact N (m.ds i id b (by rw [G];simp) (by rw [g];simp) x (r b z))
  .rw [if_neg c] at d
   rw [if_neg hjk] at q;obtain ⟨n,M⟩:=Option.ne_none_iff_exists'.1 d
   obtain ⟨oj,W⟩:=Option.ne_none_iff_exists'.1 q;rw [f i c] at x
   rw [f j hjk] at z;exact m.ds i j b (by rw [(l i n M).2.2.2];simp) (by rw [(l j oj W).2.2.2];simp) x z
 .rw [Qq] at d
  by_cases c:i=k
  .subst c
   rw [if_pos rfl] at d;cases d
   rw [A] at J;rcases m.ow id _ b g (r b J) with ⟨F,_⟩|F
   .rw [hro] at F;cases F
   .exact .inr F
  .rw [if_neg c] at d
   rw [f i c] at J;exact m.ow i n b (l i n d).2.2.2 J
 .have c:i≠k:=by intro he;subst he;rw [O] at d;cases d
  have:=m.pn i v d
  exact ⟨(f i c).trans this.1,.inl this.2⟩
theorem Z3x(Fm:Fr P L C pins)(α:Type)[Emb α]{E:List (Nat×AVal)}{S0:List (Nat×Obj)}{d g:Nat}{kT eT:TypeId}(hp:pins.contains g=false)(hfr:((E.flatMap fun p=>p.2.refs)++(((d,Obj.ext (JV P kT eT []))::S0).flatMap fun p=>p.1::p.2.refs)).contains g=false)(hd:(S0.map (·.1)).contains d=false)(hk:Kn C nt E ((g,.exr [d] (Zp ([]:List (Int×List α)) none))::S0) K):Kn C nt E ((d,.ext (JV P kT eT []))::S0) K:=by
 refine Z3t Fm hp hfr hd rfl rfl (fun j F=>.inl (by simpa [Obj.refs] using F)) (fun R η a w A=>?_) hk;have f:=A.st d _ (show ls ((d,.ext (JV P kT eT []))::S0) d=some (.ext (JV P kT eT [])) by rw [Qq,if_pos rfl])
 generalize hη:η d=u at f
 cases f with
 | ext _ _ hp' _ hlt=>
  obtain ⟨b,rfl,G,c,D,H,B,_⟩:=hp';have o:G=#[]:=Array.eq_empty_of_size_eq_zero (by simpa using B)
  subst o;refine ⟨.agg (ZP b []),fun x t=>?_,fun X' η' I q=>?_⟩
  .have:=(Wl (rs:=[]) (fun v n=>by cases n)).1 t
   rcases this with rfl|⟨v,n,_⟩
   .simp [Y7]
   .cases n
  .have r:d≠g:=fun h=>by
    grind
   have z:GrpAt ([]:List (Int×List α)) none w X' b [] #[] c:=⟨D,⟨by simp,by simp,by simp⟩,rfl,by simp,fun i e v l=>by simp at l,fun i j u v x m=>by simp at m,fun i v m=>by simp at m,rfl,fun i e v l=>by simp at l⟩;exact .exr _ _ _ ⟨b,[], #[],c,by simp [q d r,hη],rfl,z⟩ (vo _) fun x t=>z.lt t
theorem Z3v{E0:List (Nat×AVal)}{S0:List (Nat×Obj)}{t d g:Nat}{gs:List (Int×List α)}(hid:(S0.map (·.1)).contains g=false)(hk:Kn C nt ((t,.v (.c (.d (MP gs))))::E0) S0 K):Kn C nt ((t,.v (.c (.own d)))::E0) ((g,.exr [d] (Zp gs none))::S0) K:=by
 intro R η a w m;have G:ls ((g,.exr [d] (Zp gs none))::S0) g=some (.exr [d] (Zp gs none)):=by rw [Qq,if_pos rfl]
 have p:∀ i o,ls S0 i=some o->i≠g/\ls ((g,.exr [d] (Zp gs none))::S0) i=some o:=by
  intro i o h;have r:i≠g:=by
   intro he;subst he
   have:i ∈ S0.map (·.1):=List.mem_map.2 ⟨_,G7 h,rfl⟩
   grind
  exact ⟨r,by rw [Qq,if_neg r];exact h⟩
 obtain ⟨b,A,M,H,hb,hg,B⟩:=CQ m G;have N:∀ x,XS C (ls S0) η x->XS C (ls ((g,.exr [d] (Zp gs none))::S0)) η x:=fun x z=>by
  rcases z with z|⟨i,o,h,F⟩
  .exact .inl z
  .exact .inr ⟨i,o,(p i o h).2,F⟩
 have hX:QZ w w (XS C (ls ((g,.exr [d] (Zp gs none))::S0)) η) (XS C (ls S0) η):=fun x _ hn=>⟨rfl,fun z=>hn (N x z)⟩
 have J:∀ x ∈ Y7 (η g),¬ XS C (ls S0) η x:=fun x z U=>by
  rcases U with ⟨Y,W⟩|⟨i,o,h,F⟩
  .rcases m.ow g _ x G z with ⟨I,_⟩|I|I
   .cases I
   .exact W (m.ok.md x I)
   .have:=m.ok.lt x Y;omega
  .exact (p i o h).1 (m.ds i g x (by rw [(p i o h).2];simp) (by rw [G];simp) F z)
 obtain ⟨V,a2⟩:=B.ents;have hD:DRep w (XS C (ls S0) η) (.map (some b)) (MP gs):=by
  refine .mp b M H gs.length _ (fun i=>A.getD i undef) _ (J b (by rw [hg];exact (Wl B.one).2 (.inl rfl))) B.heap B.st V (fun i h=>?_) fun i h=>?_
  .have T:i<A.length:=by rw [B.len];exact h
   grind
  .have T:i<A.length:=by rw [B.len];exact h
   have e1:A.getD i undef=A[i]:=by simp [List.getD_eq_getElem?_getD,T]
   have e2:gs.getD i (0,[])=gs[i]:=by simp [List.getD_eq_getElem?_getD,h]
   simp only [e1,e2];have l:=B.rows i gs[i] A[i] (List.getElem?_eq_getElem h) (List.getElem?_eq_getElem T) η C
   have O:∀ x ∈ Y7 A[i],¬ XS C (ls S0) η x:=fun x z=>J x (by rw [hg];exact (Wl B.one).2 (.inr ⟨A[i],List.getElem_mem T,z⟩))
   unfold AO at l;unfold DL
   generalize gs[i].2.length=n at l ⊢;generalize LF gs[i].2=f at l ⊢
   generalize A[i]=v at l O ⊢
   cases l with
   | nil ad es f=>exact .nil ad 0 f
   | arr b n cap es c e f I h2 h3 h4 h5 h6 h7=>
    refine .lst b 0 n cap c e _ f _ (O b (by simp [Y7];omega)) I h3 (by rw [h2,Nat.zero_add];exact Nat.mul_le_mul_right _ h3) h6 fun i j h Z=>?_
    rw [Nat.zero_add];exact (h7 i j h Z).mono hX
 have r:∀ i,ls S0 i≠none->ls ((g,.exr [d] (Zp gs none))::S0) i≠none:=fun i h hn=>by
  obtain ⟨o,ho⟩:=Option.ne_none_iff_exists'.1 h
  grind
 refine hk R η a w ⟨m.ok,m.df,m.sz,fun u=>?_,fun u i h=>?_,fun i o h=>(m.st i o (p i o h).2).mono hX (fun _ _=>rfl) fun _ _=>rfl,fun i o h=>m.sr i o (p i o h).2,fun i j b h Z=>m.ds i j b (r i h) (r j Z),fun i o b h=>m.ow i o b (p i o h).2,m.fr,m.pn⟩
 .rw [Hl]
  have q:=m.ev u;rw [Hl] at q
  by_cases hu:u=t
  .rw [if_pos hu] at q ⊢
   rw [Vv q,hb];exact .v _ _ (.c _ _ (.d _ _ hD))
  .rw [if_neg hu] at q ⊢
   exact q.mono hX fun _ _=>rfl
 .rw [Hl] at h
  have D:=m.er u i;rw [Hl] at D
  by_cases hu:u=t
  .rw [if_pos hu] at h;cases h
  .rw [if_neg hu] at h D
   exact D h
end
end
section
section
variable {P:Program} {C:Ctx} {nt:Nat} {L:V9} {pins:List Nat} {E:List (Nat×AVal)} {S:List (Nat×Obj)} {Q:Exit->Act->World->Prop}
theorem cT{p:Prop}(h:p):p/\True:=⟨h,True.intro⟩
theorem cA{p q:Prop}(h:p)(k:q):p/\q:=⟨h,k⟩
@[reducible] def lI {α:Type} (l:List α):Int:=((l.length:Nat):Int)
theorem Q3{t:Nat}{x y:Code}{b:Bool}{R:Type}{u v:Option R}{r:R}(h:br b u v=some r)(ht:b=true->u=some r->AW P C nt x E S Q)(hf:b=false->v=some r->AW P C nt y E S Q)(hb:lk E t=vb b:=by kernel_rfl):AW P C nt (.cond (.tmp t) x y) E S Q:=
 Uf hb (fun q=>ht q (Z2v h q)) (fun q=>hf q (Z2x h q))
theorem Z2w{b:Bool}{R:Type}{u v:Option R}{r:R}(h:br b u v=some r):(b=true/\u=some r)\/(b=false/\v=some r):=by
 cases b
 .exact .inr ⟨rfl,h⟩
 .exact .inl ⟨rfl,h⟩
theorem gS{R:Type}{p:Prop}[Decidable p]{x:Option R}{r:R}(h:gd p x=some r):p/\x=some r:=Q1E h
theorem bS{α R:Type}{x:Option α}{f:α->Option R}{r:R}(h:x.bind f=some r):∃ z,x=some z/\f z=some r:=Z2z h
theorem FI{f:Nat}{fn:Func}{c:Code}(hf:P.funcs[f]?=some fn)(hm:P.follows .mixedOrders=true)(hL:z7 P L){args:List AVal}{S:List (Nat×Obj)}{r:AVal}{S' : List (Nat×Obj)}(h:∀ C,Fr P L C (S.map (·.1))->AW P C fn.ntmps c (PJ args) S (WY P fn C r S'))(hb:fn.body=some c:=by rfl)(hn0:Nat.ble args.length fn.ntmps=true:=by kernel_rfl):K8 P f args S r S':=Z3Q hm hL hf hb hn0 h
end
end
section
section
variable {P:Program} {C:Ctx} {nt:Nat} {L:V9} {ops:Array Oper} {ds:List Dir} {e:W4} {s:W5} {k:Nat}
end
end
section
open Go.MapKept
section
variable {P:Program} {C:Ctx} {nt:Nat} {L:V9} {R:Nat->Prop} {η:Nat->Value} {e:W4} {s:W5} {a:Act} {w:World}
variable {ops:Array Oper} {ds:List Dir} {k:Nat}
end
section
variable {P:Program} {C:Ctx} {nt:Nat} {L:V9} {pins:List Nat} {E:List (Nat×AVal)} {S:List (Nat×Obj)} {Q:Exit->Act->World->Prop}
end
end
section
open Go.MapKept
section
variable {P:Program} {C:Ctx} {nt:Nat} {L:V9} {ops:Array Oper} {ds:List Dir} {e:W4} {s:W5} {k:Nat}
end
section
variable {P:Program} {C:Ctx} {nt:Nat} {K:Act->World->Prop}
end
end
section
section
variable {P:Program} {C:Ctx} {nt:Nat} {L:V9} {ops:Array Oper} {ds:List Dir} {e:W4} {s:W5} {k:Nat}
end
end
section
section
variable {P:Program} {C:Ctx} {nt:Nat} {L:V9} {ops:Array Oper} {ds:List Dir} {e:W4} {s:W5}
end
end
section
def Yb(m:Int):ByteArray:=ByteArray.empty.push (UInt8.ofNat m.toNat)
section
variable {P:Program} {C:Ctx} {nt:Nat} {L:V9} {ops:Array Oper} {ds:List Dir} {e:W4} {s:W5}
theorem FZ{k:Nat}{t t' : TypeId}{x y:Operand}{a b:ByteArray}(hk:Qs ds k=sE (.v (.c (.d (.str (a++b))))))(hop:(Y6 ops.toList k).op=.binOp .add t x y t')(hb:VX ops nt (V7 L ops ops.toList ds e s k) (Y6 ops.toList k) x y=true)(hx:Y2 (V7 L ops ops.toList ds e s k) x=.v (.c (.d (.str a))))(hy:Y2 (V7 L ops ops.toList ds e s k) y=.v (.c (.d (.str b))))(hc:a.size+b.size<=Y5):U9 P C nt L ops ds e s k:=by
 unfold U9;rw [hk]
 simp only [VX,Bool.and_eq_true,beq_iff_eq] at hb;obtain ⟨⟨⟨m,p⟩,o⟩,q⟩:=hb
 refine KD rfl o q fun R η r u z w g f=>?_
 have i:=(U5 f x).1;rw [ZR g m,hx] at i
 have i:=KC i;have h:=(U5 f y).1
 rw [ZR g p,hy] at h;have h:=KC h
 have j:¬ (((a.size+b.size:Nat):Int) > IntKind.i64.max):=by
  have:IntKind.i64.max=9223372036854775807:=rfl
  rw [this];unfold Y5 at hc;omega
 refine ⟨.string (a++b),?_,.v _ _ (.c _ _ (.d _ _ (.str _)))⟩;have l:(eqGuard .add t x y (.string a) (.string b)).run P w=.ok () w:=jD _ _ _ _ _ _ _
 have n:(binOp .add t (.string a) (.string b)).run P w=.ok (.string (a++b)) w:=by
  show (Op.stringOp .add a b).run P w=_;simp only [Op.stringOp]
  rw [if_neg j];rfl
 simp only [execOp,hop,Sem.run_bind,i,h,l,n,Result.andThen_ok,Sem.run_pure]
theorem Lb{k:Nat}{src dst el:TypeId}(hs:P.underlying src=some (.slice el))(he:P.underlying el=some (.int .u8))(hd:P.underlying dst=some .string){x:Operand}{m:Int}(hk:Qs ds k=sE (.v (.c (.d (.str (Yb m))))))(hop:(Y6 ops.toList k).op=.convert src dst x)(hb:VX ops nt (V7 L ops ops.toList ds e s k) (Y6 ops.toList k) x x=true)(hx:Y2 (V7 L ops ops.toList ds e s k) x=.v (.c (.d (.lst 1 (Zi 1 [.int .u8 m]))))):U9 P C nt L ops ds e s k:=by
 unfold U9;rw [hk]
 simp only [VX,Bool.and_eq_true,beq_iff_eq] at hb;obtain ⟨⟨⟨A,I⟩,B⟩,G⟩:=hb
 refine KD rfl B G fun R η p J r w l i=>?_
 have g:=(U5 i x).1;rw [ZR l A,hx] at g
 generalize hu:r.eval x=u at g
 cases g with|v _ _ g=>cases g with|c _ _ g=>cases g with|d _ _ g=>
 cases g with|lst b off n cap c e' fz f es hX hheap hn ho hf hd' =>
 have t:=hf 0 (by omega);have o:es=1:=by rw [<-t];rfl
 subst o;have h:=hd' 0 0 (by omega) (by omega)
 have q:c.getD off undef=.int .u8 m:=by
  have p:off+(0*1+0)=off:=by omega
  rw [p] at h;have z:(Zi 1 [DVal.int .u8 m] 0).getD 0 .any=.int .u8 m:=rfl
  rw [z] at h;generalize c.getD off undef=u at h ⊢
  cases h;rfl
 have D:=run_loadCells (P:=P) w ⟨b,off,none⟩ 1 (fun j=>c.getD (off+j) undef) (fun j H=>by rw [add_lit];exact Mf hheap _ (by omega));refine ⟨.string (Yb m),?_,.v _ _ (.c _ _ (.d _ _ (.str _)))⟩
 have F:c[off]?.getD undef=.int .u8 m:=by rw [<-q];simp
 simp [execOp,hop,hu,convert,run_underlying hs,run_underlying hd,run_underlying he,Conv.bytesToString,D,F,Yb]
end
end
section
def sK(ks:List Nat)(S:List (Nat×Obj))(n:List (Nat×Obj)):List (Nat×Obj):=ks.map (fun i=>(i,(ls S i).getD (.box false [])))++n
section
variable {P:Program} {C:Ctx} {nt:Nat} {L:V9} {pins:List Nat} {E:List (Nat×AVal)} {S:List (Nat×Obj)} {Q:Exit->Act->World->Prop}
variable {id:Nat} {ops:Array Oper} {draw:Bool} {y:Code}
theorem Z4h{x y:Code}(k:AW P C nt y E S Q):AW P C nt (.cond (.const (.bool false)) x y) E S Q:=fun R η a w b=>wp_cond_false rfl (k R η a w b)
end
theorem eI{k:IntKind}{e v:Int}(h:some e=some v):Z8 (.v (.c (.d (.int k e)))) (.v (.c (.d (.int k v)))):=by cases h;exact Z8.refl _
section
variable {α:Type} [Emb α]
def ZM(l:List α)(i off:Nat)(ds:List DVal):Obj:=.arr (Emb.es α) l.length fun j=>if j=i then Ys (LF l i) off ds else LF l j
def Qf(l m:List α):Obj:=.arr (Emb.es α) (l.length+m.length) (QH l.length (LF l) (LF m))
def TF(m:List α):Obj:=.arr (Emb.es α) (0+m.length) (QH 0 (fun _=>[]) (LF m))
theorem ZY{l:List α}{i off:Nat}{ds:List DVal}{y:α}(hi:i<l.length)(hy:Ys (LF l i) off ds=Emb.cells y:=by kernel_rfl):U2 (ZM l i off ds) (AO (l.set i y)):=U2.is (Is.set (Is.refl l) hi y hy)
theorem Ql{l m:List α}:U2 (Qf l m) (AO (l++m)):=U2.is (Is.app (Is.refl l) (Is.refl m))
theorem yl{m:List α}:U2 (TF m) (AO ([]++m)):=U2.is (Is.app Is.nil (Is.refl m))
theorem y7(l:List α):∀ j,j<l.length->(LF l j).length=Emb.es α:=(Is.refl l).len
theorem QR(x:α):Z8 (.v (.c (.d (.lst 1 (Zi (Emb.es α) (Emb.cells x)))))) (AL [x]):=Z8.lst (.lit [x] (by
 show [Zi (Emb.es α) (Emb.cells x) 0]=[Emb.cells x];unfold Zi
 have:=Emb.len x
 rw [Nat.zero_mul,List.drop_zero,List.take_of_length_le (by omega)]))
end
end
section
section
variable {P:Program} {C:Ctx} {nt:Nat} {L:V9} {ops:Array Oper} {ds:List Dir} {e:W4} {s:W5}
theorem Z3G{k:Nat}{x y z:Operand}{tys:Array TypeId}{a b c:Int}(hk:Qs ds k=sE (vi (J3 (J3 a b) c)))(hop:(Y6 ops.toList k).op=.call { callee:=.builtin .max,args:= #[x,y,z],argTypes:=tys })(hb:VX ops nt (V7 L ops ops.toList ds e s k) (Y6 ops.toList k) x y=true)(hb2:VX ops nt (V7 L ops ops.toList ds e s k) (Y6 ops.toList k) z z=true)(hx:Y2 (V7 L ops ops.toList ds e s k) x=vi a)(hy:Y2 (V7 L ops ops.toList ds e s k) y=vi b)(hz:Y2 (V7 L ops ops.toList ds e s k) z=vi c):U9 P C nt L ops ds e s k:=by
 unfold U9;rw [hk]
 simp only [VX,Bool.and_eq_true,beq_iff_eq] at hb hb2;obtain ⟨⟨⟨j,m⟩,l⟩,o⟩:=hb
 obtain ⟨⟨⟨n,_⟩,_⟩,_⟩:=hb2;refine KD rfl l o fun R η p q r w f d=>?_
 have h:=(U5 d x).1;rw [ZR f j,hx] at h
 have h:=Vd h;have g:=(U5 d y).1
 rw [ZR f m,hy] at g;have g:=Vd g
 have i:=(U5 d z).1;rw [ZR f n,hz] at i
 have i:=Vd i;refine ⟨.int .i64 (J3 (J3 a b) c),?_,WM _ _ _⟩
 simp [execOp,hop,resolve,invoke,builtin,Builtin.max_,Builtin.max2,h,g,i,J3]
 rfl
end
section
variable {P:Program} {C:Ctx} {nt:Nat} {E:List (Nat×AVal)} {S:List (Nat×Obj)} {Q:Exit->Act->World->Prop}
theorem Z3Y{c:Code}(n:Nat)(h:AW P C nt c E S (Exit.then (fun a w=>Code.rounds P c Q n a w) Q)):AW P C nt (.loop c) E S Q:=fun R η a w b=>wp_loop_rounds (n+1) (h R η a w b)
theorem Z3s{c:Code}{n:Nat}(h:AW P C nt c E S (Exit.then (fun a w=>Code.rounds P c Q n a w) Q)):Kn C nt E S (fun a w=>Code.rounds P c Q (n+1) a w):=fun R η a w b=>h R η a w b
end
end
section
@[reducible] def gn {α:Type} [Emb α] (l:List α) (i:Int):α:=gl l i.toNat
@[reducible] def jb (t:Nat) (z:Bool):List (Nat×AVal):=[(t,vb z)]
@[reducible] def nn {σ β:Type}:σ->List β:=fun _=>[]
@[reducible] def f0:CV:=.fl 0 fun _=>[]
def oD(a b:Nat)(e:Array Oper->Oper->W4->Eff):List Dir:=List.replicate a .s++.k e::List.replicate b .s
@[reducible] def k1 (i:Nat) (K:Nat->Prop):Prop:=K i/\True
@[reducible] def k2 (i j:Nat) (K:Nat->Prop):Prop:=K i/\K j/\True
theorem gO{p q:Prop}[Decidable p]{R:Type}{x:Option R}{r:R}(h:gd p x=some r)(k:p->x=some r->q):q:=k (gS h).1 (gS h).2
theorem bO{α R:Type}{x:Option α}{f:α->Option R}{r:R}{q:Prop}(h:x.bind f=some r)(k:∀ z,x=some z->f z=some r->q):q:=(bS h).elim fun z e=>k z e.1 e.2
theorem Y8{b:Bool}{R:Type}{u v:Option R}{r:R}{q:Prop}(h:br b u v=some r)(ht:b=true->u=some r->q)(hf:b=false->v=some r->q):q:=(Z2w h).elim (fun e=>ht e.1 e.2) fun e=>hf e.1 e.2
section
variable {P:Program} {C:Ctx} {nt:Nat} {L:V9} {pins:List Nat} {E:List (Nat×AVal)} {S:List (Nat×Obj)} {Q:Exit->Act->World->Prop}
theorem Q3T(Fm:Fr P L C pins){fn:Func}{R:Type}{a r:R}(h:some a=some r){g:R->AVal}{G:R->List (Nat×Obj)}(hQ:Q .ret=WY P fn C (g r) (G r) .ret:=by rfl)(hq:(UJ L (lk E) (ls S) fn.results.toList,(G a).map (fun p=>ls S p.1))=(some (g a),(G a).map (fun p=>some p.2)):=by kernel_rfl):AW P C nt .ret E S Q:=by
 cases h
 exact Jk (hQ ▸ Zd Fm hq)
theorem Z4f{σ R:Type}{r:R}{c:Code}{body:(σ->Option R)->σ->Option R}{n:Nat}{z0:σ}(h:Z7 body n z0=some r)(E' : σ->List (Nat×AVal))(S' : σ->List (Nat×Obj))(round:∀ (again:σ->Option R) (z:σ) (J:Act->World->Prop),(∀ z',again z'=some r->Kn C nt (E' z') (S' z') J)->body again z=some r->AW P C nt c (E' z) (S' z) (Exit.then J Q)):AW P C nt (.loop c) (E' z0) (S' z0) Q:=Z4c E' S' round h
variable {K:Act->World->Prop}
theorem K4(Fm:Fr P L C pins)(E' : List (Nat×AVal))(S' : List (Nat×Obj))(h:Kn C nt E' S' K)(hq:(pins.all (fun i=>V3 [] i==i),E'.map (fun p=>lk E p.1),S'.map (fun p=>ls S (V3 [] p.1)),Yf (S'.map fun p=>V3 [] p.1))=(true,E'.map (fun p=>p.2.ren (V3 [])),S'.map (fun p=>some (p.2.ren (V3 []))),true):=by kernel_rfl):Kn C nt E S K:=Q3C Fm E' S' hq h
theorem Q3D{k es n:Nat}{f:Nat->List DVal}(E' : List (Nat×AVal))(S' : List (Nat×Obj))(h:Kn C nt E' S' K)(hq:(E.map (fun p=>(p.1,p.2.frz k n f)),S.map (fun p=>(p.1,p.2.frz k n f)),(S.map (·.1)).contains k)=(E',S',false):=by kernel_rfl):Kn C nt E ((k,.arr es n f)::S) K:=Z3z E' S' (congrArg (·.1) hq) (congrArg (·.2.1) hq) (congrArg (·.2.2) hq) h
theorem QO(Fm:Fr P L C pins)(ρ:List (Nat×Nat))(E' : List (Nat×AVal))(S' : List (Nat×Obj))(h:Kn C nt E' S' K)(hq:(pins.all (fun i=>V3 ρ i==i),E'.map (fun p=>lk E p.1),S'.map (fun p=>ls S (V3 ρ p.1)),Yf (S'.map fun p=>V3 ρ p.1))=(true,E'.map (fun p=>p.2.ren (V3 ρ)),S'.map (fun p=>some (p.2.ren (V3 ρ))),true):=by kernel_rfl):Kn C nt E S K:=
 xB Fm ρ E' S' (congrArg (·.1) hq) (congrArg (·.2.1) hq) (congrArg (·.2.2.1) hq) (congrArg (·.2.2.2) hq) h
abbrev Yu(pins:List Nat)(E:List (Nat×AVal))(S:List (Nat×Obj))(E' : List (Nat×AVal))(S' : List (Nat×Obj)):Bool×List AVal×List (Option Obj)×Bool:=(pins.all (fun i=>V3 [] i==i),E'.map (fun p=>lk E p.1),S'.map (fun p=>ls S (V3 [] p.1)),Yf (S'.map fun p=>V3 [] p.1))
abbrev Yt(E' : List (Nat×AVal))(S' : List (Nat×Obj)):Bool×List AVal×List (Option Obj)×Bool:=(true,E'.map (fun p=>p.2.ren (V3 [])),S'.map (fun p=>some (p.2.ren (V3 []))),true)
section
variable {id:Nat} {ops:Array Oper} {draw:Bool} {y:Code}
variable {E2:List (Nat×AVal)} {S2:List (Nat×Obj)}
end
end
section
variable {P:Program} {C:Ctx} {nt:Nat} {L:V9} {ops:Array Oper} {ds:List Dir} {e:W4} {s:W5}
theorem G6{k:Nat}{f:Nat}{args:List AVal}{Si:List (Nat×Obj)}{r:AVal}{So:List (Nat×Obj)}(hspec:K8 P f args Si r So)(hcall:∀ args w,(callFunc f args).run P w=.ok (.enter f args) w)(m:List (Nat×Nat))(extra:List Nat)(xs:List Operand)(hargs:Xa C nt (V7 L ops ops.toList ds e s k) (QU L ops ops.toList ds e s k) Si (V3 m) (Qx (Y6 ops.toList k)++Qi ops (Y6 ops.toList k)) (WN (V7 L ops ops.toList ds e s k) (Y6 ops.toList k)++(Si.map (fun p=>V3 m p.1)++extra)) xs args)(hk:Qs ds k=cE m extra r Si So:=by rfl)(hq:(Go.Ab.callB ops nt (V7 L ops ops.toList ds e s k) (Y6 ops.toList k) f m r Si So,Si.map (fun p=>QU L ops ops.toList ds e s k (V3 m p.1)),(Go.Ab.callXs (Y6 ops.toList k)).toList)=(true,Si.map (fun p=>some (p.2.ren (V3 m))),xs):=by kernel_rfl):U9 P C nt L ops ds e s k:=
 Z3N hspec hcall m extra xs hk (congrArg (·.1) hq) (congrArg (·.2.1) hq) (congrArg (·.2.2) hq) hargs
theorem QI{f:Nat}(hcall:∀ args w,(callFunc f args).run P w=.ok (.enter f args) w){F:List AVal->AVal->Prop}(cs:List (List CV))(hspec:∀ args r,F args r->K8 P f (args++WD cs) (Zv cs) r (Zv cs)/\r.closed=true){Si:List (Nat×Obj)}{m:Nat->Nat}{rd ids:List Nat}{x:Operand}(cids:List Nat)(hbox:Mh s cids cs)(hx:Qv rd x=true:=by kernel_rfl)(hv:Y2 e x=.v (.c (.clo f cids)):=by kernel_rfl)(hnd:(Yf cids&&cs.all (fun c=>c.all CV.closed)&&cids.all (fun i=>ids.contains i))=true:=by kernel_rfl)(hsi:Bz s Si m ids cids=true:=by kernel_rfl):YQ C nt e s Si m rd ids x (YS P F):=Z3V hcall cs (fun a r h=>(hspec a r h).1) (fun a r h=>(hspec a r h).2) hx cids hv hnd hbox hsi
end
end
section
section
variable {P:Program} {C:Ctx} {nt:Nat} {L:V9} {R:Nat->Prop} {η:Nat->Value} {e:W4} {s:W5} {a:Act} {w:World}
variable {ops:Array Oper} {ds:List Dir} {k:Nat}
end
end
section
open Go.Sort Go.Proofs Go.Shelf
end
section
def Q0o(ops:Array Oper):List Oper->List Nat->List Nat
 | [],_=>[]
 | o::os,d=>((Qx o++Qi ops o).filter fun t=> !d.contains t)++Q0o ops os (match o.guard,o.dst with|none,some x=>x::d|_,_=>d)
def rkK(o:Oper):Option Nat:=match o.guard with|none=>o.dst|some _=>none
def RX:List ResultVar->List Nat
 | []=>[]
 | .tmp t::r=>t::RX r
 | .cell t _::r=>t::RX r
def Xs:List Nat->List Nat
 | []=>[]
 | x::l=>match (Xs l).contains x with|true=>Xs l|false=>x::Xs l
structure LV where
 out:List Nat
 ex:List (Nat×List Nat)
 rt:List Nat
def U7:Code->LV->List Nat
 | .skip,v=>v.out
 | .region _ ops _,v=>Xs (Q0o ops ops.toList []++v.out.filter fun t=> !(ops.toList.filterMap rkK).contains t)
 | .seq a b,v=>U7 a ⟨U7 b v,v.ex,v.rt⟩
 | .cond x a b,v=>Xs ((match x with | .tmp t=>[t] | _=>[])++(U7 a v++U7 b v))
 | .block i c,v=>U7 c ⟨v.out,(i,v.out)::v.ex,v.rt⟩
 | .loop c,v=>U7 c ⟨[],v.ex,v.rt⟩
 | .exit i,v=>(v.ex.lookup i).getD []
 | .ret,v=>v.rt
 | _,_=>[]
def KV:Code->List Nat
 | .region _ ops _=>ops.toList.filterMap (·.dst)
 | .seq a b=>KV a++KV b
 | .cond _ a b=>KV a++KV b
 | .block _ c=>KV c
 | .loop c=>KV c
 | _=>[]
def Lv(v:LV)(Q:Exit->Act->World->Prop):Exit->Act->World->Prop:=Q
class Fz (P:outParam Program) (L:outParam V9) (C:Ctx) (pins:outParam (List Nat)):Prop where
 b:Fr P L C pins
abbrev sN(n:Nat)(l:List Dir):List Dir:=List.replicate n .s++l
def pd(ops:Array Oper)(ds:List Dir):List Dir:=ds++List.replicate (ops.size-ds.length) .s
def jG(S:List (Nat×Obj)):Nat->List Nat->List Nat
 | 0,l=>l
 | n+1,l=>jG S n (Xs (l++l.flatMap fun i=>match ls S i with|some o=>o.refs|none=>[]))
def qy:List (Nat×Obj)->List Nat
 | []=>[]
 | (i,.exr _ _)::S=>i::qy S
 | _::S=>qy S
def rkB(o:Oper):Bool:=match o.op with | .alloc _=>true | .call _=>true|_=>false
def ZV(pins:List Nat)(ops:Array Oper)(ds:List Dir)(E:List (Nat×AVal))(S:List (Nat×Obj)):List (Nat×Obj):=
 match ds.isEmpty && !(ops.toList.any rkB) with
 | true=>S
 | false=>S.filter fun p=>(jG S 3 (pins++(E.flatMap fun p=>p.2.refs)++qy S)).contains p.1
def Zx(pins:List Nat)(L:V9)(ops:Array Oper)(ds:List Dir)(E:List (Nat×AVal))(S:List (Nat×Obj))(ts:List Nat):List (Nat×AVal):=
 ts.map fun t=>(t,Jc ops.toList (VJ L ops ops.toList (pd ops ds) (lk E) (ls (ZV pins ops ds E S))) (lk E) t)
def jE(L:V9)(ops:Array Oper)(ds:List Dir)(E:List (Nat×AVal))(S:List (Nat×Obj)):List (Nat×Obj):=
 (S.map (·.1)++YI (VJ L ops ops.toList (pd ops ds) (lk E) (ls S))).filterMap fun i=>(Jb (VJ L ops ops.toList (pd ops ds) (lk E) (ls S)) (ls S) i).map fun o=>(i,o)
def Qt(pins:List Nat)(L:V9)(ops:Array Oper)(ds:List Dir)(E:List (Nat×AVal))(S:List (Nat×Obj)):List (Nat×Obj):=jE L ops ds E (ZV pins ops ds E S)
theorem jH:V3 []=fun i=>i:=by funext i;rfl
section
variable {P:Program} {C:Ctx} {nt:Nat} {L:V9} {pins:List Nat} {v:LV} {E:List (Nat×AVal)} {S:List (Nat×Obj)} {Q:Exit->Act->World->Prop}
variable {id:Nat} {ops:Array Oper} {draw:Bool} {y:Code}
abbrev ZL(P:Program)(C:Ctx)(nt:Nat)(L:V9)(pins:List Nat)(E:List (Nat×AVal))(S:List (Nat×Obj))(ops:Array Oper)(draw:Bool)(ds:List Dir):Bool×Prop:=
 (FL L pins nt ops draw (pd ops ds) E (ZV pins ops ds E S) [] (Qt pins L ops ds E S),Km P C nt L ops ops.toList (pd ops ds) (lk E) (ls (ZV pins ops ds E S)))
theorem TW{l:List Nat}{i:Nat}{o:Obj}:∀ {S:List (Nat×Obj)},ls (S.filter fun p=>l.contains p.1) i=some o->ls S i=some o
 | [],h=>h
 | (j,x)::S,h=>by
  rw [Qq];rw [List.filter_cons] at h
  by_cases hj:l.contains j=true
  .rw [if_pos hj,Qq] at h
   by_cases hij:i=j
   .rw [if_pos hij] at h ⊢;exact h
   .rw [if_neg hij] at h ⊢;exact TW h
  .rw [if_neg hj] at h
   by_cases hij:i=j
   .exfalso
    subst hij;have:=G7 h
    exact hj (by simpa using (List.mem_filter.1 this).2)
   .rw [if_neg hij];exact TW h
theorem Z3q{K:Act->World->Prop}{l:List Nat}(h:Kn C nt E (S.filter fun p=>l.contains p.1) K):Kn C nt E S K:=by
 intro R η a w c;refine h R (fun i=>η i) a w (c.conv (fun i=>i) (fun t=>by rw [Mw];exact Z8.refl _) (fun i x b=>⟨x,TW b,by rw [Mq];exact U2.refl _⟩) (fun i j b g d=>d) c.er (fun i x b=>c.sr i x (TW b)) (fun i b=>?_))
 obtain ⟨v,f⟩:=Option.ne_none_iff_exists'.1 b;exact ⟨rfl,(c.pn i v f).2⟩
theorem Z3y{K:Act->World->Prop}{ds:List Dir}(h:Kn C nt E (ZV pins ops ds E S) K):Kn C nt E S K:=by
 unfold ZV at h;split at h
 .exact h
 .exact Z3q h
theorem Z6[Fm:Fz P L C pins](ds:List Dir)(c:(Nat->Prop)->Prop)(hc:c (U9 P C nt L ops (pd ops ds) (lk E) (ls (ZV pins ops ds E S))))(k:Kn C nt (Zx pins L ops ds E S v.out) (Qt pins L ops ds E S) (Q .normal))(h:ZL P C nt L pins E S ops draw ds=(true,c (U9 P C nt L ops (pd ops ds) (lk E) (ls (ZV pins ops ds E S)))):=by kernel_rfl):AW P C nt (.region id ops draw) E S (Lv v Q):=by
 refine Z3y (pins:=pins) (ops:=ops) (ds:=ds) (Z4a Fm.b (pd ops ds) [] c (Zx pins L ops ds E S v.out) (Qt pins L ops ds E S) hc (congrArg (·.1) h) (congrArg (·.2) h) ?_ ?_ k)
 .rw [jH]
  unfold Zx;rw [List.map_map,List.map_map]
  exact List.map_congr_left fun t _=>(Mw _).symm
 .rw [jH]
  refine List.map_congr_left fun p d=>?_
  unfold Qt jE at d;obtain ⟨i,_,g⟩:=List.mem_filterMap.1 d
  obtain ⟨o,f,e⟩:=Option.map_eq_some_iff.1 g;rw [<-e]
  simp only [f,Mq]
theorem Q1{x:Code}(h:AW P C nt x E S (Lv ⟨U7 y v,v.ex,v.rt⟩ (Exit.then (y.wp P (Lv v Q)) (Lv v Q)))):AW P C nt (.seq x y) E S (Lv v Q):=Q3R h
theorem Z2{i:Nat}{c:Code}(h:AW P C nt c E S (Lv ⟨v.out,(i,v.out)::v.ex,v.rt⟩ (Exit.inBlock i (Lv v Q)))):AW P C nt (.block i c) E S (Lv v Q):=Z4i h
theorem Wo[Fm:Fz P L C pins](ds:List Dir)(c:(Nat->Prop)->Prop)(hc:c (U9 P C nt L ops (pd ops ds) (lk E) (ls (ZV pins ops ds E S))))(k:AW P C nt y (Zx pins L ops ds E S (U7 y v)) (Qt pins L ops ds E S) (Lv v Q))(h:ZL P C nt L pins E S ops draw ds=(true,c (U9 P C nt L ops (pd ops ds) (lk E) (ls (ZV pins ops ds E S)))):=by kernel_rfl):AW P C nt (.seq (.region id ops draw) y) E S (Lv v Q):=Q1 (Z6 ds c hc k h)
theorem Jm[Fm:Fz P L C pins](ds:List Dir){q:Prop}(hc:q)(k:Kn C nt (Zx pins L ops ds E S v.out) (Qt pins L ops ds E S) (Q .normal))(h:ZL P C nt L pins E S ops draw ds=(true,q):=by kernel_rfl):AW P C nt (.region id ops draw) E S (Lv v Q):=Z6 ds (fun _=>q) hc k h
theorem V6[Fm:Fz P L C pins](ds:List Dir){q:Prop}(hc:q)(k:AW P C nt y (Zx pins L ops ds E S (U7 y v)) (Qt pins L ops ds E S) (Lv v Q))(h:ZL P C nt L pins E S ops draw ds=(true,q):=by kernel_rfl):AW P C nt (.seq (.region id ops draw) y) E S (Lv v Q):=Wo ds (fun _=>q) hc k h
theorem QC[Fm:Fz P L C pins]{q:Prop}(hc:q)(k:Kn C nt (Zx pins L ops [] E S v.out) (Qt pins L ops [] E S) (Q .normal))(h:ZL P C nt L pins E S ops draw []=(true,q):=by kernel_rfl):AW P C nt (.region id ops draw) E S (Lv v Q):=Jm [] hc k h
theorem V5[Fm:Fz P L C pins]{q:Prop}(hc:q)(k:AW P C nt y (Zx pins L ops [] E S (U7 y v)) (Qt pins L ops [] E S) (Lv v Q))(h:ZL P C nt L pins E S ops draw []=(true,q):=by kernel_rfl):AW P C nt (.seq (.region id ops draw) y) E S (Lv v Q):=V6 [] hc k h
theorem YF[Fm:Fz P L C pins](k:Kn C nt (Zx pins L ops [] E S v.out) (Qt pins L ops [] E S) (Q .normal))(h:ZL P C nt L pins E S ops draw []=(true,True):=by kernel_rfl):AW P C nt (.region id ops draw) E S (Lv v Q):=Jm [] True.intro k h
theorem Q0[Fm:Fz P L C pins](k:AW P C nt y (Zx pins L ops [] E S (U7 y v)) (Qt pins L ops [] E S) (Lv v Q))(h:ZL P C nt L pins E S ops draw []=(true,True):=by kernel_rfl):AW P C nt (.seq (.region id ops draw) y) E S (Lv v Q):=V6 [] True.intro k h
theorem Y4[Fm:Fz P L C pins]{fn:Func}{R:Type}{a r:R}(h:some a=some r){g:R->AVal}{G:R->List (Nat×Obj)}(hQ:Q .ret=WY P fn C (g r) (G r) .ret:=by rfl)(h1:ZL P C nt L pins E S ops draw []=(true,True):=by kernel_rfl)(hq:(UJ L (lk (Zx pins L ops [] E S (U7 .ret v))) (ls (Qt pins L ops [] E S)) fn.results.toList,(G a).map (fun p=>ls (Qt pins L ops [] E S) p.1))=(some (g a),(G a).map (fun p=>some p.2)):=by kernel_rfl):AW P C nt (.seq (.region id ops draw) .ret) E S (Lv v Q):=Q0 (Q3T Fm.b h hQ hq) h1
def rp(N:List (Nat×Obj))(S:List (Nat×Obj)):List (Nat×Obj):=S.map fun p=>(p.1,(N.lookup p.1).getD p.2)
def FX:List (Nat×Obj)->List (Nat×Obj)->Prop
 | (_,o)::W,(_,x)::N=>U2 o x/\FX W N
 | _,_=>True
theorem Q1I:∀ {W N:List (Nat×Obj)},FX W N->W.map (·.1)=N.map (·.1)->∀ {i:Nat} {x:Obj},N.lookup i=some x->∃ o,W.lookup i=some o/\U2 o x
 | [],[],_,_,_,_,h=>by cases h
 | [],_::_,_,h,_,_,_=>by cases h
 | _::_,[],_,h,_,_,_=>by cases h
 | (k,o)::W,(j,z)::N,hf,b,i,x,h=>by
  simp only [List.map_cons,List.cons.injEq] at b;obtain ⟨rfl,b⟩:=b
  rw [List.lookup_cons] at h ⊢
  cases hik:i==k with
  | true=>rw [hik] at h;cases h;exact ⟨o,rfl,hf.1⟩
  | false=>rw [hik] at h;exact Q1I hf.2 b h
theorem Q1J{W N:List (Nat×Obj)}(hf:FX W N)(hk:W.map (·.1)=N.map (·.1)):∀ {S:List (Nat×Obj)},S.map (fun p=>(W.lookup p.1).getD p.2)=S.map (·.2)->Mr S (rp N S)
 | [],_=>True.intro
 | (i,o)::S,h=>by
  simp only [List.map_cons,List.cons.injEq] at h;refine ⟨rfl,?_,Q1J hf hk h.2⟩
  cases hl:N.lookup i with
  | none=>exact U2.refl _
  | some x=>
   obtain ⟨d,c,f⟩:=Q1I hf hk hl;have b:=h.1
   rw [c] at b;have b:d=o:=b
   rw [<-b];exact f
theorem Z3r{K:Act->World->Prop}{W N:List (Nat×Obj)}(hf:FX W N)(k:Kn C nt E (rp N S) K)(h:(W.map (·.1),S.map (fun p=>(W.lookup p.1).getD p.2))=(N.map (·.1),S.map (·.2))):Kn C nt E S K:=
 Ji E _ (FE.refl _) (Q1J hf (congrArg (·.1) h) (congrArg (·.2) h)) k
theorem YR[Fm:Fz P L C pins](ds:List Dir)(c:(Nat->Prop)->Prop)(hc:c (U9 P C nt L ops (pd ops ds) (lk E) (ls (ZV pins ops ds E S))))(W N:List (Nat×Obj))(hW:FX W N)(k:Kn C nt (Zx pins L ops ds E S v.out) (rp N (Qt pins L ops ds E S)) (Q .normal))(h:ZL P C nt L pins E S ops draw ds=(true,c (U9 P C nt L ops (pd ops ds) (lk E) (ls (ZV pins ops ds E S)))):=by kernel_rfl)(h2:(W.map (·.1),(Qt pins L ops ds E S).map (fun p=>(W.lookup p.1).getD p.2))=(N.map (·.1),(Qt pins L ops ds E S).map (·.2)):=by kernel_rfl):AW P C nt (.region id ops draw) E S (Lv v Q):=
 Z6 ds c hc (Z3r hW k h2) h
theorem Jl[Fm:Fz P L C pins](ds:List Dir)(c:(Nat->Prop)->Prop)(hc:c (U9 P C nt L ops (pd ops ds) (lk E) (ls (ZV pins ops ds E S))))(W N:List (Nat×Obj))(hW:FX W N)(k:AW P C nt y (Zx pins L ops ds E S (U7 y v)) (rp N (Qt pins L ops ds E S)) (Lv v Q))(h:ZL P C nt L pins E S ops draw ds=(true,c (U9 P C nt L ops (pd ops ds) (lk E) (ls (ZV pins ops ds E S)))):=by kernel_rfl)(h2:(W.map (·.1),(Qt pins L ops ds E S).map (fun p=>(W.lookup p.1).getD p.2))=(N.map (·.1),(Qt pins L ops ds E S).map (·.2)):=by kernel_rfl):AW P C nt (.seq (.region id ops draw) y) E S (Lv v Q):=
 Q1 (YR ds c hc W N hW k h h2)
theorem Qk[Fm:Fz P L C pins](ds:List Dir){q:Prop}(hc:q)(W N:List (Nat×Obj))(hW:FX W N)(k:Kn C nt (Zx pins L ops ds E S v.out) (rp N (Qt pins L ops ds E S)) (Q .normal))(h:ZL P C nt L pins E S ops draw ds=(true,q):=by kernel_rfl)(h2:(W.map (·.1),(Qt pins L ops ds E S).map (fun p=>(W.lookup p.1).getD p.2))=(N.map (·.1),(Qt pins L ops ds E S).map (·.2)):=by kernel_rfl):AW P C nt (.region id ops draw) E S (Lv v Q):=YR ds (fun _=>q) hc W N hW k h h2
theorem WI[Fm:Fz P L C pins](ds:List Dir){q:Prop}(hc:q)(W N:List (Nat×Obj))(hW:FX W N)(k:AW P C nt y (Zx pins L ops ds E S (U7 y v)) (rp N (Qt pins L ops ds E S)) (Lv v Q))(h:ZL P C nt L pins E S ops draw ds=(true,q):=by kernel_rfl)(h2:(W.map (·.1),(Qt pins L ops ds E S).map (fun p=>(W.lookup p.1).getD p.2))=(N.map (·.1),(Qt pins L ops ds E S).map (·.2)):=by kernel_rfl):AW P C nt (.seq (.region id ops draw) y) E S (Lv v Q):=Jl ds (fun _=>q) hc W N hW k h h2
theorem Ku[Fm:Fz P L C pins](a:Nat){f:Nat}{args:List AVal}{Si:List (Nat×Obj)}{r:AVal}{So:List (Nat×Obj)}(hs:K8 P f args Si r So)(hc:∀ args w,(callFunc f args).run P w=.ok (.enter f args) w)(m:List (Nat×Nat))(k:Kn C nt (Zx pins L ops (oD a 0 (cE m [] r Si So)) E S v.out) (Qt pins L ops (oD a 0 (cE m [] r Si So)) E S) (Q .normal))(hk:Qs (pd ops (oD a 0 (cE m [] r Si So))) a=cE m [] r Si So:=by kernel_rfl)(hq:(Go.Ab.callB ops nt (V7 L ops ops.toList (pd ops (oD a 0 (cE m [] r Si So))) (lk E) (ls (ZV pins ops (oD a 0 (cE m [] r Si So)) E S)) a) (Y6 ops.toList a) f m r Si So,Si.map (fun p=>QU L ops ops.toList (pd ops (oD a 0 (cE m [] r Si So))) (lk E) (ls (ZV pins ops (oD a 0 (cE m [] r Si So)) E S)) a (V3 m p.1)),
   (Go.Ab.callXs (Y6 ops.toList a)).toList.all (Qv (Qx (Y6 ops.toList a)++Qi ops (Y6 ops.toList a)))&&args.all AVal.noSem,(Go.Ab.callXs (Y6 ops.toList a)).toList.map (Y2 (V7 L ops ops.toList (pd ops (oD a 0 (cE m [] r Si So))) (lk E) (ls (ZV pins ops (oD a 0 (cE m [] r Si So)) E S)) a)))=(true,Si.map (fun p=>some (p.2.ren (V3 m))),true,args.map (AVal.ren (V3 m))):=by kernel_rfl)(h:ZL P C nt L pins E S ops draw (oD a 0 (cE m [] r Si So))=(true,U9 P C nt L ops (pd ops (oD a 0 (cE m [] r Si So))) (lk E) (ls (ZV pins ops (oD a 0 (cE m [] r Si So)) E S)) a/\True):=by kernel_rfl):AW P C nt (.region id ops draw) E S (Lv v Q):=Z6 _ (k1 a) ⟨Q3J hs hc m hk hq,True.intro⟩ k h
variable {E2:List (Nat×AVal)} {S2:List (Nat×Obj)}
theorem Y9{K:Act->World->Prop}[Fm:Fz P L C pins](k:Kn C nt E2 S2 K)(hq:Yu pins E S E2 S2=Yt E2 S2:=by kernel_rfl):Kn C nt E S K:=Z3D Fm.b k hq
theorem W9[Fm:Fz P L C pins](ds:List Dir){q:Prop}(hc:q)(k:Kn C nt E2 S2 (Q .normal))(h:ZL P C nt L pins E S ops draw ds=(true,q):=by kernel_rfl)(hq:Yu pins (Zx pins L ops ds E S v.out) (Qt pins L ops ds E S) E2 S2=Yt E2 S2:=by kernel_rfl):AW P C nt (.region id ops draw) E S (Lv v Q):=Jm ds hc (Y9 k hq) h
theorem ZT[Fm:Fz P L C pins]{q:Prop}(hc:q)(k:Kn C nt E2 S2 (Q .normal))(h:ZL P C nt L pins E S ops draw []=(true,q):=by kernel_rfl)(hq:Yu pins (Zx pins L ops [] E S v.out) (Qt pins L ops [] E S) E2 S2=Yt E2 S2:=by kernel_rfl):AW P C nt (.region id ops draw) E S (Lv v Q):=W9 [] hc k h hq
theorem Le[Fm:Fz P L C pins](ds:List Dir){b c:Bool}(e:b=c)(k:Kn C nt E2 S2 (Q .normal))(h:ZL P C nt L pins E S ops draw ds=(true,Z8 (vb b) (vb c)/\True):=by kernel_rfl)(hq:Yu pins (Zx pins L ops ds E S v.out) (Qt pins L ops ds E S) E2 S2=Yt E2 S2:=by kernel_rfl):AW P C nt (.region id ops draw) E S (Lv v Q):=W9 ds (Go.Ab.cT (Z8.bool e)) k h hq
theorem U3[Fm:Fz P L C pins]{e:Int}{R:Type}{x:Option R}{r:R}(g:gd (Q9 (e+1)) x=some r)(k:x=some r->Kn C nt E2 S2 (Q .normal))(h:ZL P C nt L pins E S ops draw []=(true,(Q9 (e+1)/\True)/\True):=by kernel_rfl)(hq:Yu pins (Zx pins L ops [] E S v.out) (Qt pins L ops [] E S) E2 S2=Yt E2 S2:=by kernel_rfl):AW P C nt (.region id ops draw) E S (Lv v Q):=
 ZT (Go.Ab.cT (Go.Ab.cT (gS g).1)) (k (gS g).2) h hq
def Qu(x:Code)(l:List Nat)(E n:List (Nat×AVal)):List (Nat×AVal):=n++E.filter fun p=>l.contains p.1 && !(KV x).contains p.1
theorem Xb{σ R:Type}(r:R){x:Code}(f:σ->Option R)(nE:σ->List (Nat×AVal))(kS:List Nat)(nS:σ->List (Nat×Obj))(hy:∀ z,f z=some r->AW P C nt y (Qu x (U7 y v) E (nE z)) (sK kS S (nS z)) (Lv v Q))(hx:∀ J:Act->World->Prop,(∀ z,f z=some r->Kn C nt (Qu x (U7 y v) E (nE z)) (sK kS S (nS z)) J)->AW P C nt x E S (Lv ⟨U7 y v,v.ex,v.rt⟩ (Exit.then J (Lv v Q)))):AW P C nt (.seq x y) E S (Lv v Q):=Z4g f _ _ hy hx
theorem Z4e[Fm:Fz P L C pins]{σ R:Type}{r:R}{c:Code}{body:(σ->Option R)->σ->Option R}{n:Nat}{z0:σ}(h:Z7 body n z0=some r)(E' : σ->List (Nat×AVal))(S' : σ->List (Nat×Obj))(round:∀ (again:σ->Option R) (z:σ) (J:Act->World->Prop),(∀ z',again z'=some r->Kn C nt (Qu c (U7 (.loop c) v) E (E' z')) (S' z') J)->body again z=some r->AW P C nt c (Qu c (U7 (.loop c) v) E (E' z)) (S' z) (Lv ⟨U7 (.loop c) v,v.ex,v.rt⟩ (Exit.then J (Lv v Q))))(hq:Yu pins E S (Qu c (U7 (.loop c) v) E (E' z0)) (S' z0)=Yt (Qu c (U7 (.loop c) v) E (E' z0)) (S' z0):=by kernel_rfl):AW P C nt (.loop c) E S (Lv v Q):=Y9 (Z4f h (fun z=>Qu c (U7 (.loop c) v) E (E' z)) S' round) hq
def jF(S:List (Nat×Obj))(k:Nat):Nat:=match ls S k with|some (.arr e _ _)=>e|_=>0
def RY(S:List (Nat×Obj))(k:Nat):Nat:=match ls S k with|some (.arr _ n _)=>n|_=>0
def RZ(S:List (Nat×Obj))(k:Nat):Nat->List DVal:=match ls S k with|some (.arr _ _ f)=>f|_=>fun _=>[]
def RW(S:List (Nat×Obj))(k:Nat):List (Nat×Obj):=S.filter fun p=>p.1 != k
theorem y6{K:Act->World->Prop}[Fm:Fz P L C pins](k:Nat)(h:Kn C nt (E.map fun p=>(p.1,p.2.frz k (RY S k) (RZ S k))) ((RW S k).map fun p=>(p.1,p.2.frz k (RY S k) (RZ S k))) K)(h1:Yu pins E S E ((k,.arr (jF S k) (RY S k) (RZ S k))::RW S k)=Yt E ((k,.arr (jF S k) (RY S k) (RZ S k))::RW S k):=by kernel_rfl)(h2:((RW S k).map (·.1)).contains k=false:=by kernel_rfl):Kn C nt E S K:=
 Y9 (Q3D _ _ h (by rw [h2])) h1
theorem Z3u{K:Act->World->Prop}{α:Type}[Emb α][Fm:Fz P L C pins](t:Nat)(k:Kn C nt ((t,AL ([]:List α))::E) S K)(h:Yu pins E S ((t,.v (.c f0))::E) S=Yt ((t,.v (.c f0))::E) S:=by kernel_rfl):Kn C nt E S K:=
 Y9 (Z3B (Z8.c (W7.fl .nil)) k) h
theorem J6{fn:Func}{R:Type}{a r:R}(h:some a=some r){g:R->AVal}{G:R->List (Nat×Obj)}(k:Kn C nt E S (WY P fn C (g a) (G a) .ret))(hQ:Q .ret=WY P fn C (g r) (G r) .ret:=by rfl):AW P C nt .ret E S Q:=by
 cases h
 exact Jk (hQ ▸ k)
theorem Qp[Fm:Fz P L C pins]{fn:Func}{r:AVal}{S' : List (Nat×Obj)}(hq:(UJ L (lk E) (ls S) fn.results.toList,S'.map (fun p=>ls S p.1))=(some r,S'.map (fun p=>some p.2)):=by kernel_rfl):Kn C nt E S (WY P fn C r S' .ret):=Q3E Fm.b hq
end
section
variable {P:Program} {L:V9}
theorem GI{f:Nat}{fn:Func}{c:Code}(hf:P.funcs[f]?=some fn)(hm:P.follows .mixedOrders=true)(hL:z7 P L){args:List AVal}{S:List (Nat×Obj)}{r:AVal}{S' : List (Nat×Obj)}(h:∀ C,Fz P L C (S.map (·.1))->AW P C fn.ntmps c (PJ args) S (Lv ⟨[],[],RX fn.results.toList⟩ (WY P fn C r S')))(hb:fn.body=some c:=by rfl)(hn0:Nat.ble args.length fn.ntmps=true:=by kernel_rfl):K8 P f args S r S':=FI hf hm hL (fun C b=>h C ⟨b⟩) hb hn0
end
theorem Q2z{ops:Array Oper}:∀ {ds:List Dir} {k:Nat} {l:List Dir},Nat.blt k ds.length=true->Qs (ds++l) k=Qs ds k
 | [],k,_,h=>by simp [Nat.blt] at h
 | d::ds,0,l,_=>by cases d <;> rfl
 | d::ds,k+1,l,h=>by
  have b:Nat.blt k ds.length=true:=by simp [Nat.blt] at h ⊢;omega
  have:Qs ((d::ds)++l) (k+1)=Qs (ds++l) k:=by cases d <;> rfl
  rw [this,Q2z (ops:=ops) b]
  cases d <;> rfl
section
variable {P:Program} {C:Ctx} {nt:Nat} {L:V9} {ops:Array Oper} {ds:List Dir} {e:W4} {s:W5}
theorem Z5{k:Nat}{f:Nat}{args:List AVal}{Si:List (Nat×Obj)}{r:AVal}{So:List (Nat×Obj)}(hspec:K8 P f args Si r So)(hcall:∀ args w,(callFunc f args).run P w=.ok (.enter f args) w)(m:List (Nat×Nat))(hk:Qs ds k=cE m [] r Si So:=by rfl)(hl:Nat.blt k ds.length=true:=by kernel_rfl)(hq:(Go.Ab.callB ops nt (V7 L ops ops.toList (pd ops ds) e s k) (Y6 ops.toList k) f m r Si So,Si.map (fun p=>QU L ops ops.toList (pd ops ds) e s k (V3 m p.1)),
   (Go.Ab.callXs (Y6 ops.toList k)).toList.all (Qv (Qx (Y6 ops.toList k)++Qi ops (Y6 ops.toList k)))&&args.all AVal.noSem,(Go.Ab.callXs (Y6 ops.toList k)).toList.map (Y2 (V7 L ops ops.toList (pd ops ds) e s k)))
   = (true,Si.map (fun p=>some (p.2.ren (V3 m))),true,args.map (AVal.ren (V3 m))):=by kernel_rfl):U9 P C nt L ops (pd ops ds) e s k:=Q3J hspec hcall m ((Q2z (ops:=ops) hl).trans hk) hq
end
end
section
section
variable {P:Program} {C:Ctx} {nt:Nat} {L:V9} {pins:List Nat} {v:LV} {E:List (Nat×AVal)} {S:List (Nat×Obj)} {Q:Exit->Act->World->Prop}
variable {id:Nat} {ops:Array Oper} {draw:Bool} {y x c:Code} {R A B D G H:Type}
@[reducible] def n2 {σ τ β:Type}:σ->τ->List β:=fun _ _=>[]
@[reducible] def n3 {σ τ ρ β:Type}:σ->τ->ρ->List β:=fun _ _ _=>[]
theorem K7(r:R)(f:Option R)(nE:List (Nat×AVal))(kS:List Nat)(nS:List (Nat×Obj))(hy:f=some r->AW P C nt y (Qu x (U7 y v) E nE) (sK kS S nS) (Lv v Q))(hx:∀ J:Act->World->Prop,(f=some r->Kn C nt (Qu x (U7 y v) E nE) (sK kS S nS) J)->AW P C nt x E S (Lv ⟨U7 y v,v.ex,v.rt⟩ (Exit.then J (Lv v Q)))):AW P C nt (.seq x y) E S (Lv v Q):=
 Xb r (fun _:Unit=>f) (fun _=>nE) kS (fun _=>nS) (fun _ h=>hy h) (fun J h=>hx J (h ()))
theorem Y3(r:R)(f:A->Option R)(nE:A->List (Nat×AVal))(kS:List Nat)(nS:A->List (Nat×Obj))(hy:∀ a,f a=some r->AW P C nt y (Qu x (U7 y v) E (nE a)) (sK kS S (nS a)) (Lv v Q))(hx:∀ J:Act->World->Prop,(∀ {a},f a=some r->Kn C nt (Qu x (U7 y v) E (nE a)) (sK kS S (nS a)) J)->AW P C nt x E S (Lv ⟨U7 y v,v.ex,v.rt⟩ (Exit.then J (Lv v Q)))):AW P C nt (.seq x y) E S (Lv v Q):=
 Xb r f nE kS nS hy (fun J h=>hx J (h _))
theorem Wg(r:R)(f:A->B->Option R)(nE:A->B->List (Nat×AVal))(kS:List Nat)(nS:A->B->List (Nat×Obj))(hy:∀ a b,f a b=some r->AW P C nt y (Qu x (U7 y v) E (nE a b)) (sK kS S (nS a b)) (Lv v Q))(hx:∀ J:Act->World->Prop,(∀ {a b},f a b=some r->Kn C nt (Qu x (U7 y v) E (nE a b)) (sK kS S (nS a b)) J)->AW P C nt x E S (Lv ⟨U7 y v,v.ex,v.rt⟩ (Exit.then J (Lv v Q)))):AW P C nt (.seq x y) E S (Lv v Q):=
 Xb r (fun z:A×B=>f z.1 z.2) (fun z=>nE z.1 z.2) kS (fun z=>nS z.1 z.2) (fun z=>hy z.1 z.2) (fun J h=>hx J (h (_,_)))
theorem Zk(r:R)(f:A->B->D->Option R)(nE:A->B->D->List (Nat×AVal))(kS:List Nat)(nS:A->B->D->List (Nat×Obj))(hy:∀ a b c,f a b c=some r->AW P C nt y (Qu x (U7 y v) E (nE a b c)) (sK kS S (nS a b c)) (Lv v Q))(hx:∀ J:Act->World->Prop,(∀ {a b c},f a b c=some r->Kn C nt (Qu x (U7 y v) E (nE a b c)) (sK kS S (nS a b c)) J)->AW P C nt x E S (Lv ⟨U7 y v,v.ex,v.rt⟩ (Exit.then J (Lv v Q)))):AW P C nt (.seq x y) E S (Lv v Q):=
 Wg r (fun a (b:B×D)=>f a b.1 b.2) (fun a b=>nE a b.1 b.2) kS (fun a b=>nS a b.1 b.2) (fun a b=>hy a b.1 b.2) (fun J h=>hx J (fun {_ b c}=>h (b:=(b,c))))
theorem Q3U(r:R)(f:A->B->D->G->Option R)(nE:A->B->D->G->List (Nat×AVal))(kS:List Nat)(nS:A->B->D->G->List (Nat×Obj))(hy:∀ a b c d,f a b c d=some r->AW P C nt y (Qu x (U7 y v) E (nE a b c d)) (sK kS S (nS a b c d)) (Lv v Q))(hx:∀ J:Act->World->Prop,(∀ {a b c d},f a b c d=some r->Kn C nt (Qu x (U7 y v) E (nE a b c d)) (sK kS S (nS a b c d)) J)->AW P C nt x E S (Lv ⟨U7 y v,v.ex,v.rt⟩ (Exit.then J (Lv v Q)))):AW P C nt (.seq x y) E S (Lv v Q):=
 Zk r (fun a b (c:D×G)=>f a b c.1 c.2) (fun a b c=>nE a b c.1 c.2) kS (fun a b c=>nS a b c.1 c.2) (fun a b c=>hy a b c.1 c.2) (fun J h=>hx J (fun {_ _ b c}=>h (c:=(b,c))))
theorem K9{r:R}{n:Nat}{z0:A}{body:(A->Option R)->A->Option R}(h:Z7 body n z0=some r)(E' : A->List (Nat×AVal))(S' : A->List (Nat×Obj))(round:∀ (again:A->Option R) (z:A) (J:Act->World->Prop),(∀ {z'},again z'=some r->Kn C nt (Qu c (U7 (.loop c) v) E (E' z')) (S' z') J)->body again z=some r->AW P C nt c (Qu c (U7 (.loop c) v) E (E' z)) (S' z) (Lv ⟨U7 (.loop c) v,v.ex,v.rt⟩ (Exit.then J (Lv v Q))))(hq:Yu pins E S (Qu c (U7 (.loop c) v) E (E' z0)) (S' z0)=Yt (Qu c (U7 (.loop c) v) E (E' z0)) (S' z0):=by kernel_rfl)[Fm:Fz P L C pins]:AW P C nt (.loop c) E S (Lv v Q):=Z4e h E' S' (fun g z J b=>round g z J (b _)) hq
theorem Qb{r:R}{n:Nat}{z0:A×B}{body:(A×B->Option R)->A×B->Option R}(h:Z7 body n z0=some r)(E' : A->B->List (Nat×AVal))(S' : A->B->List (Nat×Obj))(round:∀ (again:A×B->Option R) (a:A) (b:B) (J:Act->World->Prop),(∀ {a b},again (a,b)=some r->Kn C nt (Qu c (U7 (.loop c) v) E (E' a b)) (S' a b) J)->body again (a,b)=some r->AW P C nt c (Qu c (U7 (.loop c) v) E (E' a b)) (S' a b) (Lv ⟨U7 (.loop c) v,v.ex,v.rt⟩ (Exit.then J (Lv v Q))))(hq:Yu pins E S (Qu c (U7 (.loop c) v) E (E' z0.1 z0.2)) (S' z0.1 z0.2)=Yt (Qu c (U7 (.loop c) v) E (E' z0.1 z0.2)) (S' z0.1 z0.2):=by kernel_rfl)[Fm:Fz P L C pins]:AW P C nt (.loop c) E S (Lv v Q):=
 K9 h (fun z=>E' z.1 z.2) (fun z=>S' z.1 z.2) (fun g z J d=>round g z.1 z.2 J d) hq
theorem Vm{r:R}{n:Nat}{z0:A×B×D}{body:(A×B×D->Option R)->A×B×D->Option R}(h:Z7 body n z0=some r)(E' : A->B->D->List (Nat×AVal))(S' : A->B->D->List (Nat×Obj))(round:∀ (again:A×B×D->Option R) (a:A) (b:B) (d:D) (J:Act->World->Prop),(∀ {a b d},again (a,b,d)=some r->Kn C nt (Qu c (U7 (.loop c) v) E (E' a b d)) (S' a b d) J)->body again (a,b,d)=some r->AW P C nt c (Qu c (U7 (.loop c) v) E (E' a b d)) (S' a b d) (Lv ⟨U7 (.loop c) v,v.ex,v.rt⟩ (Exit.then J (Lv v Q))))(hq:Yu pins E S (Qu c (U7 (.loop c) v) E (E' z0.1 z0.2.1 z0.2.2)) (S' z0.1 z0.2.1 z0.2.2)=Yt (Qu c (U7 (.loop c) v) E (E' z0.1 z0.2.1 z0.2.2)) (S' z0.1 z0.2.1 z0.2.2):=by kernel_rfl)[Fm:Fz P L C pins]:AW P C nt (.loop c) E S (Lv v Q):=
 Qb h (fun a z=>E' a z.1 z.2) (fun a z=>S' a z.1 z.2) (fun g a z J f=>round g a z.1 z.2 J f) hq
theorem Vl{r:R}{n:Nat}{z0:A×B×D×G}{body:(A×B×D×G->Option R)->A×B×D×G->Option R}(h:Z7 body n z0=some r)(E' : A->B->D->G->List (Nat×AVal))(S' : A->B->D->G->List (Nat×Obj))(round:∀ (again:A×B×D×G->Option R) (a:A) (b:B) (d:D) (g:G) (J:Act->World->Prop),(∀ {a b d g},again (a,b,d,g)=some r->Kn C nt (Qu c (U7 (.loop c) v) E (E' a b d g)) (S' a b d g) J)->body again (a,b,d,g)=some r->AW P C nt c (Qu c (U7 (.loop c) v) E (E' a b d g)) (S' a b d g) (Lv ⟨U7 (.loop c) v,v.ex,v.rt⟩ (Exit.then J (Lv v Q))))(hq:Yu pins E S (Qu c (U7 (.loop c) v) E (E' z0.1 z0.2.1 z0.2.2.1 z0.2.2.2)) (S' z0.1 z0.2.1 z0.2.2.1 z0.2.2.2)=Yt (Qu c (U7 (.loop c) v) E (E' z0.1 z0.2.1 z0.2.2.1 z0.2.2.2)) (S' z0.1 z0.2.1 z0.2.2.1 z0.2.2.2):=by kernel_rfl)[Fm:Fz P L C pins]:AW P C nt (.loop c) E S (Lv v Q):=
 Vm h (fun a b z=>E' a b z.1 z.2) (fun a b z=>S' a b z.1 z.2) (fun g a b z J f=>round g a b z.1 z.2 J f) hq
theorem xT{r:R}{n:Nat}{z0:A×B×D×G×H}{body:(A×B×D×G×H->Option R)->A×B×D×G×H->Option R}(h:Z7 body n z0=some r)(E' : A->B->D->G->H->List (Nat×AVal))(S' : A->B->D->G->H->List (Nat×Obj))(round:∀ (again:A×B×D×G×H->Option R) (a:A) (b:B) (d:D) (g:G) (k:H) (J:Act->World->Prop),(∀ {a b d g k},again (a,b,d,g,k)=some r->Kn C nt (Qu c (U7 (.loop c) v) E (E' a b d g k)) (S' a b d g k) J)->body again (a,b,d,g,k)=some r->AW P C nt c (Qu c (U7 (.loop c) v) E (E' a b d g k)) (S' a b d g k) (Lv ⟨U7 (.loop c) v,v.ex,v.rt⟩ (Exit.then J (Lv v Q))))(hq:Yu pins E S (Qu c (U7 (.loop c) v) E (E' z0.1 z0.2.1 z0.2.2.1 z0.2.2.2.1 z0.2.2.2.2)) (S' z0.1 z0.2.1 z0.2.2.1 z0.2.2.2.1 z0.2.2.2.2)=Yt (Qu c (U7 (.loop c) v) E (E' z0.1 z0.2.1 z0.2.2.1 z0.2.2.2.1 z0.2.2.2.2)) (S' z0.1 z0.2.1 z0.2.2.1 z0.2.2.2.1 z0.2.2.2.2):=by kernel_rfl)[Fm:Fz P L C pins]:AW P C nt (.loop c) E S (Lv v Q):=
 Vl h (fun a b d z=>E' a b d z.1 z.2) (fun a b d z=>S' a b d z.1 z.2) (fun g a b d z J f=>round g a b d z.1 z.2 J f) hq
theorem Q3S(n:Nat)(h:AW P C nt c E S (Lv ⟨U7 (.loop c) v,v.ex,v.rt⟩ (Exit.then (fun a w=>Code.rounds P c (Lv v Q) n a w) (Lv v Q)))):AW P C nt (.loop c) E S (Lv v Q):=Z3Y n h
theorem PS{n:Nat}(h:AW P C nt c E S (Lv ⟨U7 (.loop c) v,v.ex,v.rt⟩ (Exit.then (fun a w=>Code.rounds P c (Lv v Q) n a w) (Lv v Q)))):Kn C nt E S (fun a w=>Code.rounds P c (Lv v Q) (n+1) a w):=Z3s h
theorem U6{p q:Prop}[Decidable p][Decidable q]{R:Type}{x:Option R}{r:R}{G:Prop}(h:gd p (gd q x)=some r)(k:p->q->x=some r->G):G:=gO h fun a h=>gO h (k a)
theorem VB{p q s:Prop}[Decidable p][Decidable q][Decidable s]{R:Type}{x:Option R}{r:R}{G:Prop}(h:gd p (gd q (gd s x))=some r)(k:p->q->s->x=some r->G):G:=gO h fun a h=>U6 h (k a)
theorem UY{p q s t:Prop}[Decidable p][Decidable q][Decidable s][Decidable t]{R:Type}{x:Option R}{r:R}{G:Prop}(h:gd p (gd q (gd s (gd t x)))=some r)(k:p->q->s->t->x=some r->G):G:=gO h fun a h=>VB h (k a)
theorem GK{p q s t u:Prop}[Decidable p][Decidable q][Decidable s][Decidable t][Decidable u]{R:Type}{x:Option R}{r:R}{G:Prop}(h:gd p (gd q (gd s (gd t (gd u x))))=some r)(k:p->q->s->t->u->x=some r->G):G:=gO h fun a h=>UY h (k a)
end
end
section
section
variable {P:Program} {C:Ctx} {nt:Nat} {L:V9} {pins:List Nat} {v:LV} {E:List (Nat×AVal)} {S:List (Nat×Obj)} {Q:Exit->Act->World->Prop}
variable {id:Nat} {ops:Array Oper} {draw:Bool} {y x c:Code} {R:Type} {r:R} {B:Prop} {a:Option R} {E1 E2:List (Nat×AVal)} {S1 S2:List (Nat×Obj)}
theorem W3[Fm:Fz P L C pins]{i:Nat}(k:a=some r->Kn C nt E2 S2 (Q (.exit i)))(hq:Yu pins E S E2 S2=Yt E2 S2:=by kernel_rfl):B->a=some r->AW P C nt (.exit i) E S Q:=fun _ h=>Xc (Y9 (k h) hq)
theorem Qc[Fm:Fz P L C pins](k:a=some r->Kn C nt E2 S2 (Q .normal))(hq:Yu pins E S E2 S2=Yt E2 S2:=by kernel_rfl):B->a=some r->AW P C nt .skip E S Q:=fun _ h=>Q5 (Y9 (k h) hq)
theorem G2[Fm:Fz P L C pins](n:Nat){b:Bool}{u w:Option R}(h:br b u w=some r)(k1:u=some r->Kn C nt E1 S1 (Q .normal))(k2:w=some r->Kn C nt E2 S2 (Q .normal))(h1:ZL P C nt L pins E S ops draw (sN n [.w (vb true)])=(true,Z8 (vb b) (vb true)/\True):=by kernel_rfl)(h2:ZL P C nt L pins E S ops draw (sN n [.w (vb false)])=(true,Z8 (vb b) (vb false)/\True):=by kernel_rfl)(q1:Yu pins (Zx pins L ops (sN n [.w (vb true)]) E S v.out) (Qt pins L ops (sN n [.w (vb true)]) E S) E1 S1=Yt E1 S1:=by kernel_rfl)(q2:Yu pins (Zx pins L ops (sN n [.w (vb false)]) E S v.out) (Qt pins L ops (sN n [.w (vb false)]) E S) E2 S2=Yt E2 S2:=by kernel_rfl):AW P C nt (.region id ops draw) E S (Lv v Q):=
 Y8 h (fun e g=>Le _ e (k1 g) h1 q1) (fun e g=>Le _ e (k2 g) h2 q2)
theorem bJ[Fm:Fz P L C pins](n:Nat){b:Bool}(c:Bool)(k:a=some r->Kn C nt E2 S2 (Q .normal))(h:ZL P C nt L pins E S ops draw (sN n [.w (vb c)])=(true,Z8 (vb b) (vb c)/\True):=by kernel_rfl)(hq:Yu pins (Zx pins L ops (sN n [.w (vb c)]) E S v.out) (Qt pins L ops (sN n [.w (vb c)]) E S) E2 S2=Yt E2 S2:=by kernel_rfl):b=c->a=some r->AW P C nt (.region id ops draw) E S (Lv v Q):=fun e g=>Le _ e (k g) h hq
theorem qR[Fm:Fz P L C pins]{fn:Func}{a r:R}(h:some a=some r){g:R->AVal}{G:R->List (Nat×Obj)}(hQ:Q .ret=WY P fn C (g r) (G r) .ret:=by rfl)(hq:(UJ L (lk E) (ls S) fn.results.toList,(G a).map (fun p=>ls S p.1))=(some (g a),(G a).map (fun p=>some p.2)):=by kernel_rfl):AW P C nt .ret E S Q:=Q3T Fm.b h hQ hq
theorem bT{b c:Bool}(h:b=c):Z8 (vb b) (vb c):=Z8.bool h
theorem bA{b c:Bool}{q:Prop}(h:b=c)(k:q):Z8 (vb b) (vb c)/\q:=⟨Z8.bool h,k⟩
theorem bU{b c:Bool}(h:b=c):Z8 (vb b) (vb c)/\True:=⟨Z8.bool h,True.intro⟩
theorem Yw{K:Act->World->Prop}(α:Type)[Emb α][Fm:Fz P L C pins](t:Nat)(k:Kn C nt ((t,AL ([]:List α))::E) S K)(h:Yu pins E S ((t,.v (.c f0))::E) S=Yt ((t,.v (.c f0))::E) S:=by kernel_rfl):Kn C nt E S K:=Z3u t k h
theorem nA[Fm:Fz P L C pins](α:Type)[Emb α](i:Nat)(k:AW P C nt y (Zx pins L ops [.m] E S (U7 y v)) (rp [(i,AO ([]:List α))] (Qt pins L ops [.m] E S)) (Lv v Q))(h:ZL P C nt L pins E S ops draw [.m]=(true,True):=by kernel_rfl)(h2:([i],(Qt pins L ops [.m] E S).map (fun p=>(([(i,.arr (Emb.es α) 0 nn)]:List (Nat×Obj)).lookup p.1).getD p.2))=([i],(Qt pins L ops [.m] E S).map (·.2)):=by kernel_rfl):AW P C nt (.seq (.region id ops draw) y) E S (Lv v Q):=
 WI [.m] True.intro [(i,.arr (Emb.es α) 0 nn)] [(i,AO ([]:List α))] ⟨U2.is Is.nil,True.intro⟩ k h h2
theorem bC[Fm:Fz P L C pins]{α:Type}{u:Option α}{F:α->Option R}(h:u.bind F=some r)(b:Nat){f:Nat}{args:List AVal}{Si:List (Nat×Obj)}{g:α->AVal}{So:α->List (Nat×Obj)}(hs:∀ {z},u=some z->K8 P f args Si (g z) (So z))(hc:∀ args w,(callFunc f args).run P w=.ok (.enter f args) w)(m:List (Nat×Nat))(k:∀ z,F z=some r->Kn C nt (Zx pins L ops (oD b 0 (cE m [] (g z) Si (So z))) E S v.out) (Qt pins L ops (oD b 0 (cE m [] (g z) Si (So z))) E S) (Q .normal))(hk:∀ z,Qs (pd ops (oD b 0 (cE m [] (g z) Si (So z)))) b=cE m [] (g z) Si (So z):=by intro z;kernel_rfl)(hq:∀ z,(Go.Ab.callB ops nt (V7 L ops ops.toList (pd ops (oD b 0 (cE m [] (g z) Si (So z)))) (lk E) (ls (ZV pins ops (oD b 0 (cE m [] (g z) Si (So z))) E S)) b) (Y6 ops.toList b) f m (g z) Si (So z),Si.map (fun p=>QU L ops ops.toList (pd ops (oD b 0 (cE m [] (g z) Si (So z)))) (lk E) (ls (ZV pins ops (oD b 0 (cE m [] (g z) Si (So z))) E S)) b (V3 m p.1)),
   (Go.Ab.callXs (Y6 ops.toList b)).toList.all (Qv (Qx (Y6 ops.toList b)++Qi ops (Y6 ops.toList b)))&&args.all AVal.noSem,(Go.Ab.callXs (Y6 ops.toList b)).toList.map (Y2 (V7 L ops ops.toList (pd ops (oD b 0 (cE m [] (g z) Si (So z)))) (lk E) (ls (ZV pins ops (oD b 0 (cE m [] (g z) Si (So z))) E S)) b)))=(true,Si.map (fun p=>some (p.2.ren (V3 m))),true,args.map (AVal.ren (V3 m))):=by intro z;kernel_rfl)(hz:∀ z,ZL P C nt L pins E S ops draw (oD b 0 (cE m [] (g z) Si (So z)))=(true,U9 P C nt L ops (pd ops (oD b 0 (cE m [] (g z) Si (So z)))) (lk E) (ls (ZV pins ops (oD b 0 (cE m [] (g z) Si (So z))) E S)) b/\True):=by intro z;kernel_rfl):AW P C nt (.region id ops draw) E S (Lv v Q):=
 bO h fun z e h=>Ku b (hs e) hc m (k z h) (hk z) (hq z) (hz z)
end
end
end
end Go.Ab
