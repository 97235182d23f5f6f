/- Abstract states over the model. -/
import Derived.Test.YtjafnaffdfaokaaGreatDoorAbB
import Derived.Test.YtjafnaffdfaokaaGreatDoorPuA
import Derived.Sort.AssemblyPlain
import Derived.Lib.BitFns
import Derived.Shelf.SortM.Plain
import Derived.Shelf.SortM.SortNone
import Derived.Shelf.SlSortCmp.WholeK
import Derived.Shelf.SlSortCmp.NoneTotal
import Derived.WalkKit
import Derived.ProofKit
import Derived.OpenShut
import Derived.Carry
import Derived.ChangeSame
import Derived.ChangeSlices
import Derived.Laws.Small
import Derived.Laws.Entries
import Derived.Shelf.Spec.SlicesGrow
import Derived.Deep.Slices
import Derived.ChangeArms
import Derived.Maps.Own
import Derived.Lib.SlKeysI
import Derived.Shelf.SlIterI.Nil
import Derived.Maps.RangeRun
import Derived.Laws.IdiomRangeMap
import Derived.ChangeKeysEq
import Derived.LoopN
import Derived.Shelf.SlSortCmp.Whole1
set_option linter.unusedVariables false
set_option linter.unusedSimpArgs false
namespace Go.Ab
noncomputable section
section
section
variable {α:Type} [Emb α]
def clr(l:List α)(lo n:Nat):List α:=(List.range l.length).map fun i=>if lo<=i/\i<lo+n then Emb.d else gl l i
theorem Q2B{f:Nat->List DVal}{N:Nat}(l:List α)(h:l.length=N)(hf:∀ i,i<N->f i=Emb.cells (gl l i)):Is N f l:=by
 subst h;refine ⟨rfl,fun i a=>?_⟩
 rw [hf i a];rfl
theorem Z1s(N:Nat)(f:Nat->α)(i:Nat)(h:i<N):gl ((List.range N).map f) i=f i:=by simp [gl,List.getD_eq_getElem?_getD,h]
theorem Is.clr{l:List α}(lo n:Nat){zd:List DVal}(hz:zd=Emb.cells (Emb.d:α)):Is l.length (fun i=>if lo<=i/\i<lo+n then (fun _=>zd) (i-lo) else LF l i) (clr l lo n):=by
 refine Q2B _ (by simp [Go.Ab.clr]) fun i a=>?_
 rw [Go.Ab.clr,Z1s _ _ _ a]
 by_cases h:lo<=i/\i<lo+n
 .grind
 .rw [if_neg h,if_neg h];rfl
end
end
section
open Go.Sort
def VU(l:List Int):Option (List Int):=if l.length<=Y5 then some (l.mergeSort fun x y=>decide (x<=y)) else none
theorem Q4S{l r:List Int}(h:VU l=some r):l.length<=Y5/\r=l.mergeSort fun x y=>decide (x<=y):=by
 unfold VU at h
 grind
def ZL{α:Type}(cf:α->α->Int)(x y:α):Bool:=decide (cf x y<0)
section
variable {α:Type} [Emb α]
def ZC(cf:α->α->Int)(l:List α):List α:=(@pdq α ⟨Emb.d⟩ (ZL cf) l.toArray 0 l.length (Lib.bitLen l.length) true true).toList
open Classical in
noncomputable def Jh(l:List α)(q:α->α->Option Int):Option (List α):=
 if h:l.length<=Y5/\∃ cf:α->α->Int,SWO (ZL cf)/\∀ x y,q x y=some (cf x y) then some (ZC h.2.choose l) else none
theorem Q5a{l:List α}{q:α->α->Option Int}(cf:α->α->Int)(hl:l.length<=Y5)(hO:SWO (ZL cf))(hq:∀ x y,q x y=some (cf x y)):Jh l q=some (ZC cf l):=by
 have h:l.length<=Y5/\∃ cf:α->α->Int,SWO (ZL cf)/\∀ x y,q x y=some (cf x y):=⟨hl,cf,hO,hq⟩;unfold Jh
 rw [dif_pos h];have e:h.2.choose=cf:=by
  grind
 rw [e]
theorem Q4Z{l r:List α}{q:α->α->Option Int}(h:Jh l q=some r):l.length<=Y5/\∃ cf:α->α->Int,SWO (ZL cf)/\(∀ x y,q x y=some (cf x y))/\r=ZC cf l:=by
 unfold Jh at h;split at h
 all_goals grind
end
section
variable {α:Type}
def Gx(q:α->α->Option Int)(a b:α):Prop:=∃ z,q a b=some z/\z<0
def Gz(q:α->α->Option Int)(a b:α):Prop:=∃ z,q a b=some z/\0<=z
structure SortedQ (q:α->α->Option Int) (x r:List α):Prop where
 perm:r.Perm x
 asc:r.Pairwise fun a b=>Gx q a b/\Gz q b a
 self:∀ a ∈ r,Gz q a a
theorem Gx.not{q:α->α->Option Int}{a b:α}(h:Gx q a b)(k:Gz q a b):False:=by
 obtain ⟨z,e,h⟩:=h;obtain ⟨d,c,f⟩:=k
 rw [e] at c;cases c;omega
theorem Z3k{q:α->α->Option Int}:∀ {r r' : List α},r.Perm r' -> (r.Pairwise fun a b=>Gx q a b/\Gz q b a)->(r'.Pairwise fun a b=>Gx q a b/\Gz q b a)->r=r':=by
 intro r
 induction r with
 | nil=>intro r' c _ _;exact (List.Perm.nil_eq c)
 | cons a t ih=>
  intro r' c e f
  cases r' with
  | nil=>exact absurd c.length_eq (by simp)
  | cons b t' =>
   rw [List.pairwise_cons] at e f;have g:a=b:=by
    rcases List.mem_cons.1 (c.mem_iff.1 List.mem_cons_self) with d|d
    .exact d
    .rcases List.mem_cons.1 (c.mem_iff.2 List.mem_cons_self) with h|h
     .exact h.symm
     .exact ((e.1 b h).1.not (f.1 a d).2).elim
   subst g;rw [ih ((List.perm_cons a).1 c) e.2 f.2]
theorem SortedQ.uniq{q:α->α->Option Int}{x r r' : List α}(h:SortedQ q x r)(h' : SortedQ q x r'):r=r':=Z3k (h.perm.trans h'.perm.symm) h.asc h'.asc
open Classical in
noncomputable def Vz(x:List α)(q:α->α->Option Int):Option (List α):=if h:x.length<=Y5/\∃ r,SortedQ q x r then some h.2.choose else none
theorem Q4X{x r:List α}{q:α->α->Option Int}(hl:x.length<=Y5)(h:SortedQ q x r):Vz x q=some r:=by
 have a:x.length<=Y5/\∃ r,SortedQ q x r:=⟨hl,r,h⟩;unfold Vz
 rw [dif_pos a,a.2.choose_spec.uniq h]
theorem Q4V{x r:List α}{q:α->α->Option Int}(h:Vz x q=some r):x.length<=Y5/\SortedQ q x r:=by
 unfold Vz at h;split at h
 .rename_i a;cases h;exact ⟨a.1,a.2.choose_spec⟩
 .cases h
theorem SortedQ.at{q:α->α->Option Int}{x r:List α}(h:SortedQ q x r)(i j:Nat)(hi:i<r.length)(hj:j<r.length):(i<j->Gx q r[i] r[j])/\(j<=i->Gz q r[i] r[j]):=by
 have c:=List.pairwise_iff_getElem.1 h.asc;refine ⟨fun a=>(c i j hi hj a).1,fun a=>?_⟩
 rcases Nat.lt_or_ge j i with b|b
 .exact (c j i hj hi b).2
 .have:i=j:=by omega
  subst this;exact h.self _ (List.getElem_mem hi)
end
def Uf{α:Type}(n:Int):Option (List α):=if 0<=n/\n<=Y5 then some [] else none
end
section
open Go.Sort Go.Proofs Go.Shelf
theorem qN{α:Type}[Inhabited α](enc:α->Value)(w:World)(b off n:Nat)(d:Array α)(os:Array Go.Obj){c:Array Value}{e:TypeId}{fz:Nat×Nat}(hb:w.heap[b]?=some (.cells c e fz)):
  (grow (putRow enc (Go.Sort.ahead w n) b off d) os).heap[b]?=some (.cells (putCells enc off d c) e fz):=by
 have a:b<w.heap.size:=J5 hb;unfold grow
 rw [Array.getElem?_append];rw [if_pos (by simpa using a)]
 unfold putRow mapBlock;simp only [Array.getElem?_modify,if_true]
 show Option.map _ (w.heap[b]?)=_;rw [hb]
 rfl
theorem BZ{α:Type}[Inhabited α](enc:α->Value)(w:World)(b off n:Nat)(d:Array α)(os:Array Go.Obj):Stp (fun x=>x=b) w (grow (putRow enc (Go.Sort.ahead w n) b off d) os):=by
 refine ⟨rfl,rfl,rfl,by simp [Go.Sort.ahead],fun x a c=>?_,Nat.le_add_right _ _⟩;unfold grow
 rw [Array.getElem?_append];rw [if_pos (by simpa [Go.Sort.ahead] using a)]
 unfold putRow mapBlock;simp only [Array.getElem?_modify]
 rw [if_neg (Ne.symm c)];rfl
theorem Le{α:Type}[Inhabited α](enc:α->Value)(off:Nat)(d:Array α)(c:Array Value):(putCells enc off d c).size=c.size:=by simp [putCells]
theorem yd{α:Type}[Inhabited α](enc:α->Value)(d:Array α)(c:Array Value)(j:Nat)(hj:j<d.size)(hs:d.size<=c.size):(putCells enc 0 d c).getD j undef=enc d[j]! := by
 have a:j<c.size:=by omega
 simp [putCells,a,hj]
theorem Q2s(l:List Int)(i:Nat):LF l i=[.int .i64 (l.getD i 0)]:=rfl
theorem Cx{w w' : World}{X:Nat->Prop}{η:Nat->Value}{α:Type}[Emb α]{l r:List α}{b n cap:Nat}{c' : Array Value}{e:TypeId}(hη:η 0=.slice (some ⟨b,0,none⟩) n cap)(h0:0<cap)(hstp:Stp (fun x=>x=b) w w')(hh:w'.heap[b]?=some (.cells c' e (0,0)))(hs:c'.size=cap*Emb.es α)(hr:r.length=n)(hn:n<=cap)(hm:cap<=maxLen)(hd:∀ i j,i<n->j<Emb.es α->DRep w' X (c'.getD (i*Emb.es α+j) undef) ((LF r i).getD j .any))(hX:∀ x,X x->x<w.heap.size)(hXb:X b):
  Behind (Qr [(0,AO l)] w X η) .any [(0,AO r)] (.tuple #[]) η w':=by
 subst hr;have d:∀ x,x ∈ Y9 (η 0)↔x=b:=by intro x;rw [hη];simp [Y9];omega
 have c:∀ i o,ls [(0,AO (α:=α) r)] i=some o->i=0/\o=AO r:=by
  intro i o a;rw [Qk] at a
  by_cases h:i=0
  .grind
  .rw [if_neg h] at a;cases a
 have p:∀ x,x=b->(Qr [(0,AO (α:=α) l)] w X η).M x:=by
  rintro x rfl;exact ⟨0,AO l,by rw [Qk,if_pos rfl],rfl,(d _).2 rfl⟩
 have m:∀ x,XS (Qr [(0,AO (α:=α) l)] w X η) (ls [(0,AO (α:=α) r)]) η x->X x:=by
  rintro x (⟨f,_⟩|⟨i,o,a,hib⟩)
  .exact f
  all_goals grind
 refine ⟨hstp.mono fun x _ f=>p x f,.any _,fun i o a=>?_,fun i j x a g _ _=>?_,fun i o x a t=>?_,fun i v a=>?_⟩
 .obtain ⟨rfl,rfl⟩:=c i o a
  rw [hη];refine .arr b _ cap _ c' e _ hh hs hn hm h0 (Is.refl r).len fun i j a g=>?_
  exact (hd i j a g).mono fun x _ f=>⟨rfl,fun k=>f (m x k)⟩
 .obtain ⟨q,a⟩:=Option.ne_none_iff_exists'.1 a
  obtain ⟨s,g⟩:=Option.ne_none_iff_exists'.1 g;rw [(c i q a).1,(c j s g).1]
 .obtain ⟨rfl,rfl⟩:=c i o a
  exact .inr (.inl (p x ((d x).1 t)))
 .change (if ((List.lookup i [(0,AO (α:=α) l)]).isSome=true) then some (η i) else none)=some v at a
  split at a
  .cases a;rfl
  .cases a
theorem yY{w:World}{X:Nat->Prop}{η:Nat->Value}{α:Type}[Emb α]{l:List α}{ad:Option Addr}(hη:η 0=.slice ad 0 0)(hX:∀ x,X x->x<w.heap.size):
  Behind (Qr [(0,AO l)] w X η) .any [(0,AO ([]:List α))] (.tuple #[]) η w:=by
 have c:∀ x,x ∉ Y9 (η 0):=by intro x;rw [hη];cases ad <;> simp [Y9]
 have b:∀ i o,ls [(0,AO ([]:List α))] i=some o->i=0/\o=AO ([]:List α):=by
  intro i o a;rw [Qk] at a
  by_cases h:i=0
  .grind
  .rw [if_neg h] at a;cases a
 refine ⟨Stp.refl _ _,.any _,fun i o a=>?_,fun i j x a d _ _=>?_,fun i o x a f=>?_,fun i v a=>?_⟩
 .obtain ⟨rfl,rfl⟩:=b i o a
  rw [hη];exact .nil _ _ _
 .obtain ⟨e,a⟩:=Option.ne_none_iff_exists'.1 a
  obtain ⟨g,d⟩:=Option.ne_none_iff_exists'.1 d;rw [(b i e a).1,(b j g d).1]
 .obtain ⟨rfl,rfl⟩:=b i o a
  exact absurd f (c x)
 .change (if ((List.lookup i [(0,AO (α:=α) l)]).isSome=true) then some (η i) else none)=some v at a
  split at a
  .cases a;rfl
  .cases a
theorem Q3i{vs:Array Value}(h:vs.size=1):vs=#[vs.getD 0 undef]:=by
 apply Array.ext
 .simpa using h
 .intro i a b
  have:i=0:=by omega
  subst this;simp [a]
theorem CX{vs:Array Value}(h:vs.size=2):vs=#[vs.getD 0 undef,vs.getD 1 undef]:=by
 apply Array.ext
 .simpa using h
 .intro i a b
  have:i=0\/i=1:=by omega
  rcases this with rfl|rfl <;> simp [a]
theorem Q4U{P:Program}{ρ:Ren}(Ly:SlLaysM.n5 P ρ){x r:List Int}(h:VU x=some r):G6 P (ρ.f 5) [.v (.c (.own 0))] [(0,AO (α:=Int) x)] .any [(0,AO (α:=Int) r)]:=by
 obtain ⟨S,rfl⟩:=Q4S h;intro w X η K L k z Q d m
 have d:K.size=1:=d;have E:K.getD 0 undef=η 0:=WM (C:=Qr [(0,AO (α:=Int) x)] w X η) (s:=ls [(0,AO (α:=Int) x)]) (by have:=m 0 (by simp);rw [De k];exact this)
 rw [Q3i d,E];have A:=z 0 (AO x) (by rw [Qk,if_pos rfl])
 have D:∀ b,b ∈ Y9 (η 0)->X b:=fun b F=>k b ⟨0,_,by rw [Qk,if_pos rfl],F⟩
 generalize hu:η 0=u at A;unfold AO at A
 generalize hn:x.length=n at A
 cases A with
 | nil ad=>
  have N:x=[]:=List.eq_nil_of_length_eq_zero hn;refine (AnyM.slices_Sort_int_none Ly ad 0 w).mono fun e T I=>?_
  obtain ⟨R,H⟩:=I;refine ⟨_,η,R,?_⟩
  rw [H];have F:=yY (w:=w) (X:=X) (l:=x) hu L
  subst N;simpa using F
 | arr b _ cap _ c e _ h1 h2 h3 h4 h5 h6 h7=>
  have g:Emb.es Int=1:=rfl
  rename_i n
  have o:∀ j,j<n->c.getD j undef=.int .i64 (x.getD j 0):=by
   intro j t;have:=h7 j 0 t (by rw [g];omega)
   rw [g,Nat.mul_one,Nat.add_zero,Q2s] at this;have M:DRep w X (c.getD j undef) (.int .i64 (x.getD j 0)):=this
   generalize c.getD j undef=u at M
   cases M;rfl
  have O:c.size=cap:=by rw [h2,g,Nat.mul_one]
  have V:Holds (Value.int .i64) w b 0 x.toArray:=by
   intro j t;have B : j<n:=by simpa [hn] using t
   have G:j<x.length:=by omega
   have p:j<c.size:=by omega
   refine ⟨?_,by simp [World.frozen?,h1]⟩;have:=o j B
   simp only [Nat.zero_add,World.cell?,h1,Option.isSome_none,Bool.false_eq_true,if_false];simp only [p,Array.getD,dite_true] at this
   rw [Array.getElem?_eq_getElem p];congr 1
   refine Eq.trans this ?_;simp [G]
  rw [<-hn];refine ((AnyM.slices_Sort_int Ly b 0 cap x w V (J5 h1) (by simp only [Y5] at S;omega)).mono fun Y T I=>?_)
  .obtain ⟨rfl,q,Z,H⟩:=I
   subst H;refine ⟨_,η,rfl,?_⟩
   have a:(x.mergeSort fun x y=>decide (x<=y)).length=n:=by rw [List.length_mergeSort];exact hn
   refine Cx (c':=putCells (Value.int .i64) 0 (x.mergeSort fun x y=>decide (x<=y)).toArray c) (e:=e) (b:=b) (n:=n) (cap:=cap) hu h5 (BZ _ _ _ _ _ _ _) (qN _ _ _ _ _ _ _ h1) (by rw [Le];exact h2) a h3 h4 (fun i j W t=>?_) L (D b (by rw [hu];simp [Y9];omega));have J:j=0:=by rw [g] at t;omega
   subst J;rw [g,Nat.mul_one,Nat.add_zero,yd _ _ _ _ (by simpa [a] using W) (by simp only [List.size_toArray,a];omega),Q2s]
   have:i<(x.mergeSort fun x y=>decide (x<=y)).length:=by omega
   have U:(x.mergeSort fun x y=>decide (x<=y)).toArray[i]! = (x.mergeSort fun x y=>decide (x<=y)).getD i 0:=by
    simp [List.getD_eq_getElem?_getD,this]
   rw [U];exact .int _ _
end
section
open Go.Sort Go.Proofs Go.Shelf
def DVal.lit:DVal->Bool
 | .int _ _=>true
 | .bool _=>true
 | .str _=>true
 | _=>false
def DVal.val:DVal->Value
 | .int k n=>.int k n
 | .bool b=>.bool b
 | .str s=>.string s
 | _=>undef
theorem DRep.lit{w:World}{X:Nat->Prop}{v:Value}{d:DVal}(h:DRep w X v d)(hd:d.lit=true):v=d.val:=by
 cases h <;> first|rfl|cases hd
theorem DVal.rep(w:World)(X:Nat->Prop){d:DVal}(hd:d.lit=true):DRep w X d.val d:=by
 cases d with
 | int k n=>exact .int k n
 | bool b=>exact .bool b
 | str s=>exact .str s
 | _=>cases hd
theorem Z4A{d:DVal}(hd:d.lit=true):d.val.oneCell'=true:=by
 cases d <;> first|rfl|cases hd
theorem xI{w w' : World}(h:Stp (fun _=>False) w w'):∃ q os,w'=grow (w.drewN q) os:=by
 refine ⟨w'.drawn-w.drawn,w'.heap.extract w.heap.size w'.heap.size,?_⟩;have e:w'.heap=w.heap++w'.heap.extract w.heap.size w'.heap.size:=by
  apply Array.ext_getElem?;intro k
  rw [Array.getElem?_append];split
  .rename_i a;exact h.block k a fun b=>b
  all_goals grind
 have d:=h.dr;have c:w'=⟨w'.heap,w'.tape,w'.drawn,w'.os,w'.output⟩:=rfl
 rw [c,h.tape,h.os,h.output];unfold grow World.drewN
 congr 1
 simp only
 omega
theorem Dz{β:Type}(l:List β)(j:Nat)(h:j<l.length)(d:β):l.getD j d=l[j]:=by
 grind
theorem Q5b{α:Type}[Emb α]{P:Program}{L:Lay}(hL:Qa P L){ρ:Ren}(Ly:SlLaysF0.n6 P ρ)(hlit:∀ x:α,(Emb.cells x).all DVal.lit=true){te:TI}(hte:L (ρ.t 24)=some te)(hagg:te.kind.agg=true)(hsz:te.size=Emb.es α)(F:(α->α->Option Int)->List AVal->AVal->Prop)(hF:∀ q x y z,q x y=some z->F q [.v (.g ((Emb.cells x).map .d)),.v (.g ((Emb.cells y).map .d))] (vi z)){x r:List α}{q:α->α->Option Int}(h:Jh x q=some r):
  G6 P (ρ.f 6) [.v (.c (.own 0)),Yh P (F q)] [(0,AO (α:=α) x)] .any [(0,AO (α:=α) r)]:=by
 obtain ⟨hl,o,hO,hq,rfl⟩:=Q4Z h;obtain ⟨ti,td,tz,T⟩:=hL _ _ hte
 letI inst:Inhabited α:=⟨Emb.d⟩
 let enc:α->List Value:=fun x=>(Emb.cells x).map DVal.val
 have hk:∀ x,(enc x).length=Emb.es α:=fun x=>by simp [enc,Emb.len]
 have h1:∀ x,∀ v ∈ enc x,v.oneCell'=true:=by
  intro x v hv;obtain ⟨d,hd,rfl⟩:=List.mem_map.1 hv
  exact Z4A (List.all_eq_true.1 (hlit x) d hd)
 intro w X η W hX I a1 d4 A B;have A:W.size=2:=A
 have b5:W.getD 0 undef=η 0:=WM (C:=Qr [(0,AO (α:=α) x)] w X η) (s:=ls [(0,AO (α:=α) x)]) (by have:=B 0 (by simp);rw [De I];exact this);have a7:Qs P (F q) w (Own (ls [(0,AO (α:=α) x)]) η) X (W.getD 1 undef):=by
  have:=B 1 (by simp)
  change ARep w X η _ (W.getD 1 undef) (Yh P (F q)) at this;generalize W.getD 1 undef=u at this
  cases this with|v _ _ k=>cases k with|c _ _ k=>cases k with|sem _ _ k _=>exact k
 rw [CX A,b5];have ho:=a1 0 (AO x) (by rw [Qk,if_pos rfl])
 have a6:∀ b,b ∈ Y9 (η 0)->X b:=fun b hb=>I b ⟨0,_,by rw [Qk,if_pos rfl],hb⟩
 generalize hu:η 0=u at ho;have p:(ZC o x).length=x.length:=by
  have:=(pdq_sorts (ZL o) hO x.toArray 0 x.length (Lib.bitLen x.length) true true (Nat.zero_le _) (by simp) (.inl rfl)).1.1
  unfold ZC
  grind
 unfold AO at ho;generalize hn:x.length=n at ho
 cases ho with
 | nil ad=>
  have hx:x=[]:=List.eq_nil_of_length_eq_zero hn;refine (AnyF.slices_SortFunc_none Ly ad 0 _ w).mono fun e w' k=>?_
  obtain ⟨V,hw⟩:=k;refine ⟨_,η,V,?_⟩
  rw [hw];have hb:=yY (w:=w) (X:=X) (l:=x) hu hX
  grind
 | arr b _ cap _ c e _ g1 g2 g3 g4 g5 g6 g7=>
  rename_i n
  obtain ⟨Y,J,b8,Q,R⟩:=a7;rw [b8]
  have c4:∀ i,i<n->(LF x i)=Emb.cells (x.getD i Emb.d):=fun i _=>rfl
  have K:∀ i j,i<n->j<Emb.es α->c.getD (i*Emb.es α+j) undef=(enc (x.getD i Emb.d)).getD j undef:=by
   intro i j hi D;have h0:=g7 i j hi D
   have a : j<(Emb.cells (x.getD i Emb.d)).length:=by rw [Emb.len];exact D
   have e1:(LF x i).getD j .any=(Emb.cells (x.getD i Emb.d))[j]:=Dz _ _ a _;rw [e1] at h0
   have h2:=h0.lit (List.all_eq_true.1 (hlit _) _ (List.getElem_mem a))
   grind
  have N:∀ t,t<n*Emb.es α->c.getD t undef=(flatK enc (Emb.es α) x.toArray)[t]! := by
   intro t ht;have Z:0<Emb.es α:=by
    grind
   have p1:t / Emb.es α<n:=Nat.div_lt_of_lt_mul (by rw [Nat.mul_comm];exact ht);have p2:t % Emb.es α<Emb.es α:=Nat.mod_lt _ Z
   have:=K _ _ p1 p2
   rw [show t / Emb.es α*Emb.es α+t % Emb.es α=t from by rw [Nat.mul_comm];exact Nat.div_add_mod t _] at this;rw [this,get_flatK _ _ _ _ (by simpa [hn] using ht)]
   grind
  have hH:HoldsK enc (Emb.es α) w b 0 x.toArray:=by
   intro t ht;have b0 : t<n*Emb.es α:=by simpa [hn] using ht
   have a0:t<c.size:=by
    have:n*Emb.es α<=cap*Emb.es α:=Nat.mul_le_mul_right _ g3
    omega
   refine ⟨?_,by simp [World.frozen?,g1]⟩;have:=N t b0
   simp only [Nat.zero_add,World.cell?,g1,Option.isSome_none,Bool.false_eq_true,if_false,id];rw [Array.getElem?_eq_getElem a0]
   congr 1
   rw [<-this];simp [a0]
  have G:b ∈ Y9 (η 0):=by rw [hu];simp [Y9];omega
  have U:CmpLays P Y J enc (Emb.es α) o b 0 x.toArray.size w:=by
   intro m os dk d8 u v;have M:=BZ id w b 0 m (flatK enc (Emb.es α) dk) os
   have E:∀ (w1:World) (z:α) η C,ARep w1 X η C (.agg (enc z).toArray) (.v (.g ((Emb.cells z).map .d))):=by
    intro w1 z η' C';refine .v _ _ (.g _ _ ⟨by simp [enc],fun j D=>?_⟩)
    have a : j<(Emb.cells z).length:=by simpa using D
    have e1:(enc z).toArray.getD j undef=((Emb.cells z)[j]).val:=by
     have:(enc z).toArray.getD j undef=(enc z).getD j undef:=by simp [List.getD_eq_getElem?_getD]
     grind
    have e2:((Emb.cells z).map CV.d).getD j (.d .any)=.d ((Emb.cells z)[j]):=by rw [Dz _ j (by simpa using a)];simp
    rw [e1,e2];exact .d _ _ (DVal.rep _ _ (List.all_eq_true.1 (hlit z) _ (List.getElem_mem a)))
   refine (R (grow (putRow id (Go.Sort.ahead w m) b 0 (flatK enc (Emb.es α) dk)) os) X #[.agg (enc u).toArray,.agg (enc v).toArray] _ _ (hF q u v (o u v) (hq u v)) M.size (fun y hy hD=>M.block y hy fun e=>hD ?_)
    (fun y hy=>Nat.lt_of_lt_of_le (hX y hy) M.size) (fun y _ _=>Iff.rfl) rfl (fun j D η C=>?_)).mono fun e2 w2 k=>?_
   .rw [e];exact ⟨0,_,by rw [Qk,if_pos rfl],G⟩
   .have:j=0\/j=1:=by simp at D;omega
    rcases this with rfl|rfl
    .exact E _ _ _ _
    .exact E _ _ _ _
   .obtain ⟨v',V,b4,hr⟩:=k
    have a8:=hr η (Qr [] w X η);have e3:v'=.int .i64 (o u v):=by
     cases a8 with|v _ _ k=>cases k with|c _ _ k=>cases k with|d _ _ k=>cases k;rfl
    obtain ⟨qq,b7,b3⟩:=xI b4;exact ⟨by rw [V,e3],qq,b7,b3⟩
  rw [<-hn];have O:=AnyQ.slices_SortFunc_eq Ly (Emb.es α) (fun w=>by rw [MU T w,hagg]) (fun w=>by rw [Yv T,hsz]) enc hk h1 o hO Y J b 0 cap x.toArray w Q U hH (J5 g1) (by simp only [List.size_toArray];simp only [Y5] at hl;omega)
  refine O.mono fun e' w' k=>?_
  obtain ⟨V,nn,os,hw⟩:=k;refine ⟨_,η,V,?_⟩
  have a5:w'=grow (putRow id (Go.Sort.ahead w nn) b 0 (flatK enc (Emb.es α) (ZC o x).toArray)) os:=hw;rw [a5]
  refine Cx (c':=putCells id 0 (flatK enc (Emb.es α) (ZC o x).toArray) c) (e:=e) (b:=b) (n:=n) (cap:=cap) hu g5 (BZ _ _ _ _ _ _ _) (qN _ _ _ _ _ _ _ g1) (by rw [Le];exact g2) (by rw [p,hn]) g3 g4 (fun i j hi D=>?_) hX (a6 b G);have S:i*Emb.es α+j<n*Emb.es α:=by
   have:(i+1)*Emb.es α<=n*Emb.es α:=Nat.mul_le_mul_right _ hi
   grind
  have H:(flatK enc (Emb.es α) (ZC o x).toArray).size=n*Emb.es α:=by simp [p,hn]
  rw [yd _ _ _ _ (by rw [H];exact S) (by rw [H,g2];exact Nat.mul_le_mul_right _ g3)];rw [get_flatK _ _ _ _ (by simpa [p,hn] using S)]
  have d1:(i*Emb.es α+j) / Emb.es α=i:=by
   rw [Nat.add_comm,Nat.add_mul_div_right _ _ (by omega),Nat.div_eq_of_lt D,Nat.zero_add]
  have d2:(i*Emb.es α+j) % Emb.es α=j:=by rw [Nat.add_comm,Nat.add_mul_mod_self_right,Nat.mod_eq_of_lt D]
  rw [d1,d2];have e4:(ZC o x).toArray[i]! = (ZC o x).getD i Emb.d:=by
   grind
  rw [e4];have a : j<(Emb.cells ((ZC o x).getD i Emb.d)).length:=by rw [Emb.len];exact D
  have e5:(enc ((ZC o x).getD i Emb.d))[j]! = ((Emb.cells ((ZC o x).getD i Emb.d))[j]).val:=by
   grind
  have e6:(LF (ZC o x) i).getD j .any=(Emb.cells ((ZC o x).getD i Emb.d))[j]:=Dz _ _ a _;rw [e5,e6]
  exact DVal.rep _ _ (List.all_eq_true.1 (hlit _) _ (List.getElem_mem a))
end
section
open Go.ChangeShapes Go.WideShapes Go.ChangeAt Go.RowKit
theorem Q1H{w:World}{a:Addr}{v:Value}(h:w.cell? a=some v):a.spot=none/\∃ c e fz,w.heap[a.block]?=some (.cells c e fz)/\a.off<c.size/\c.getD a.off undef=v:=by
 unfold World.cell? at h;split at h
 .rename_i c e fz g
  split at h
  .cases h
  .rename_i d
   obtain ⟨b,f⟩:=Array.getElem?_eq_some_iff.1 h;exact ⟨by simpa using d,c,e,fz,g,b,by simp [b,f]⟩
 .cases h
theorem Z3x(b o i:Nat):(⟨b,o,none⟩:Addr).add i=⟨b,o+i,none⟩:=add_lit b o i
theorem Z2w{w:World}{a:Addr}{len cap:Nat}{zs:List Int}(hl:len<=cap)(hz:len<=zs.length)(hc:∀ i,i<zs.length->w.cell? (a.add i)=some (.int .i64 (zs.getD i 0))):
  DRep w (fun _=>False) (.slice (some a) len cap) (DL (α:=Int) (zs.take len)):=by
 have q:(zs.take len).length=len:=by simp;omega
 unfold DL;rw [q]
 by_cases h0:len=0
 .subst h0;exact .nil _ _ _
 .have m:a.spot=none:=by
   have:=(Q1H (hc 0 (by omega))).1
   cases hsp:a.spot with
   | none=>rfl
   | some s=>simp [Addr.add,hsp] at this
  obtain ⟨b,d,r⟩:=a;simp only at m
  subst m;have g : ∀ i,i<zs.length->∃ c e l,w.heap[b]?=some (.cells c e l)/\d+i<c.size/\c.getD (d+i) undef=.int .i64 (zs.getD i 0):=by
   intro i k;have:=hc i k
   rw [Z3x] at this;exact (Q1H this).2
  obtain ⟨c,e,l,p,_,_⟩:=g 0 (by omega);have f:∀ i,i<zs.length->d+i<c.size/\c.getD (d+i) undef=.int .i64 (zs.getD i 0):=by
   grind
  refine .lst b d len cap c e l _ 1 (fun h=>h) p hl (by have:=(f (len-1) (by omega)).1;omega) (fun i _=>rfl) fun i j k t=>?_
  have:j=0:=by omega
  subst this;rw [Nat.mul_one,Nat.add_zero,(f i (by omega)).2]
  have o:((LF (zs.take len) i).getD 0 .any)=.int .i64 ((zs.take len).getD i 0):=rfl;rw [o]
  have n:(zs.take len).getD i 0=zs.getD i 0:=by simp [List.getD_eq_getElem?_getD,List.getElem?_take,k]
  rw [n];exact .int _ _
theorem Q9u{H:Type}{enc:TypeId×Value->H}{P:Program}{W:World}{t e:TypeId}{v:Value}{d:DataW H}{ps:List MemPlace}(ht:P.underlying t=some (.slice e))(he:P.underlying e=some (.int .i64))(hc:P.cellsOf e=1){r:Reach}{b0:Nat}(hv:Value.okWide P W r b0 t v)(hd:DataW.Trod enc P W 0 (fun _=>true) true t v d ps):∃ l:List Int,DRep W (fun _=>False) v (DL l)/\∀ n ∈ l,(Lit.int .i64 n).wf=true:=by
 obtain ⟨j,q⟩:=hd;obtain ⟨x,f,p,rfl⟩:=okWide_slice ht hv
 rcases open_ints ht he hc q with ⟨b,m⟩|⟨a,i,k,zs,b,w,s,u,o,m,c,h⟩
 .simp [Value.cells] at b
  obtain ⟨rfl,rfl,rfl⟩:=b;exact ⟨[],.nil _ _ _,fun n g=>by cases g⟩
 .simp [Value.cells] at b
  obtain ⟨rfl,rfl,rfl⟩:=b;simp only [if_true] at o
  exact ⟨zs.take f,Z2w s (by omega) c,fun n g=>h n (List.mem_of_mem_take g)⟩
theorem xg{H:Type}{enc:TypeId×Value->H}{P:Program}(hl:laidOutB P=true){W W' : World}(hb:Below W.heap.size W W'):∀ {ts:List TypeId} {vs:List Value} {ds:List (DataW H)} {ps:List MemPlace},
  ts.all (fun t=>P.readableRec t&&decide (t<P.types.size))=true->DataW.TrodAll enc P W 0 (fun _=>true) true ts vs ds ps->(∀ x ∈ ps,x.block<W.heap.size)->∀ sp:Nat->Bool,(∀ x ∈ ps,sp x.block=true)->DataW.TrodAll enc P W' 0 sp true ts vs ds ps
 | [],[],[],_,_,h,_,_,_=>h
 | t::ts,v::vs,d::ds,ps,hr,⟨p,q,h1,h2,e⟩,hlt,sp,hs=>by
  simp only [List.all_cons,Bool.and_eq_true,decide_eq_true_eq] at hr;subst e
  exact ⟨p,q,WideElems.Trod_stays hl hr.1.1 hr.1.2 h1 (fun x a=>hb.same (hlt x (List.mem_append_left _ a))) (fun x a=>hs x (List.mem_append_left _ a)),
   xg hl hb hr.2 h2 (fun x a=>hlt x (List.mem_append_right _ a)) sp (fun x a=>hs x (List.mem_append_right _ a)),rfl⟩
theorem Q8U{H:Type}{enc:TypeId×Value->H}{P:Program}(hl:laidOutB P=true){fn:Func}{s:ChangeSpec}{W W' : World}{args:Array Value}{ds gs:List (DataW H)}{before:List MemPlace}{apart fresh handsOn again:Bool}(hW:DataW.Whole enc P fn.params.toList s.vars apart W args.toList ds gs before)(hv:s.vars=[])(hs:s.fn H (ds++gs)={ results:=[.lit (.bool true)],args:=ds })(hr:fn.params.toList.all (fun t=>P.readableRec t&&decide (t<P.types.size))=true){t:TypeId}(hres:fn.resultTypes=#[t])(ht:P.underlying t=some .bool)(hb:Below W.heap.size W W'):s.post enc P fn apart fresh handsOn again W args (.bool true) W':=by
 have g:=hW.lt;have h:=hW
 obtain ⟨p,q,C,v,o,y,B⟩:=hW;rw [hv] at v
 obtain ⟨rfl,rfl⟩:=trodVars_none v;rw [List.append_nil] at o
 subst o;have n:∀ (j:Nat) (t' : TypeId) (r:Value),fn.resultTypes[j]?=some t' -> ((Value.bool true).resultList fn.resultTypes.size)[j]?=some r->Value.okWide P W' .any 0 t' r:=ok_one hres rfl (okWide_bool_mk ht _)
 have k:∀ x ∈ before,(fun b=>decide (b<W.heap.size)) x.block=true:=fun x c=>by simpa using g x c
 have e:∀ a:Nat->Bool,(∀ x ∈ before,a x.block=true)->DataW.TrodAll enc P W' 0 a true fn.params.toList args.toList (s.fn H (ds++[])).args before:=fun a m=>by
  rw [hs];exact xg hl hb hr C g a m
 have d:∀ (b:Nat) (a:Nat->Bool) (u:Bool),DataW.TrodAll enc P W' b a u fn.resultTypes.toList ((Value.bool true).resultList fn.resultTypes.size) (s.fn H (ds++[])).results []:=fun b a u=>by
  rw [hs,hres];exact trodAll_cons_mk (shut_bool ht _) trodAll_mk0
 have f:∀ a:Nat->Bool,DataW.TrodVars enc P W' a s.vars (s.fn H (ds++[])).vars []:=fun a=>by
  rw [hs,hv];exact rfl
 refine ⟨ds,_,before,[],before,[],h,d _ _ _,e _ k,f _,World.keptBut_mono (fun x c=>⟨c,by simpa using c⟩) (hb.frame (· ∈ before)),fun _=>⟨n,?_⟩⟩;obtain ⟨_,_,_,_,_,w,z⟩:=h
 refine ⟨_,_,([]++before)++[],⟨[]++before,[],trodAll_append (e _ fun _ _=>rfl) (d _ _ _),f _,rfl,fun b i c=>?_,fun A=>?_⟩,fun x c _=>?_⟩
 .have l:MemPlace.cell b i ∈ before:=by simpa using c
  rw [hb.frozen (g _ l)];exact w b i l
 .simpa using z A
 .simpa using c
theorem Q8V{H:Type}{enc:TypeId×Value->H}{P:Program}(hl:laidOutB P=true){fn:Func}{s:ChangeSpec}{W W' : World}{args:Array Value}{ds gs:List (DataW H)}{before:List MemPlace}{apart fresh handsOn again:Bool}(hW:DataW.Whole enc P fn.params.toList s.vars apart W args.toList ds gs before)(hv:s.vars=[])(hs:s.fn H (ds++gs)={ results:=[.lit (.bool true)],args:=ds })(hr:fn.params.toList.all (fun t=>P.readableRec t&&decide (t<P.types.size))=true){t:TypeId}(hres:fn.resultTypes=#[t])(ht:P.underlying t=some .bool)(hstp:Stp (fun _=>False) W W'):s.post enc P fn apart fresh handsOn again W args (.bool true) W' :=
 Q8U hl hW hv hs hr hres ht (hstp.below _ (Nat.le_refl _) fun _ _ h=>h)
end
section
section
variable {P:Program} {C:Ctx} {nt:Nat} {L:Lay} {ops:Array Oper} {ds:List Dir} {e:U3} {s:U5}
end
end
section
def ci(n:Int):CV:=.d (.int .i64 n)
def gC{α:Type}[Emb α](x:α):List CV:=(Emb.cells x).map .d
def gE{α:Type}[Emb α](x:α):AVal:=.v (.g (gC x))
section
variable {P:Program} {C:Ctx} {nt:Nat} {L:Lay} {pins:List Nat} {E:List (Nat×AVal)} {S:List (Nat×Obj)} {Q:Exit->Act->World->Prop}
variable {K:Act->World->Prop}
theorem Q2t(Fm:Fr P L C pins)(E' : List (Nat×AVal))(S' : List (Nat×Obj))(hq:(pins.all (fun i=>U9 [] i==i),E'.map (fun p=>lk E p.1),S'.map (fun p=>ls S (U9 [] p.1)),ZV (S'.map fun p=>U9 [] p.1))=(true,E'.map (fun p=>p.2.ren (U9 [])),S'.map (fun p=>some (p.2.ren (U9 []))),true))(h:Kn C nt E' S' K):Kn C nt E S K:=
 vw Fm [] E' S' (congrArg (·.1) hq) (congrArg (·.2.1) hq) (congrArg (·.2.2.1) hq) (congrArg (·.2.2.2) hq) h
theorem Zb(Fm:Fr P L C pins){fn:Func}{r:AVal}{S' : List (Nat×Obj)}(hq:(UA L (lk E) (ls S) fn.results.toList,S'.map (fun p=>ls S p.1))=(some r,S'.map (fun p=>some p.2))):Kn C nt E S (WL P fn C r S' .ret):=
 Z4k Fm (congrArg (·.1) hq) (congrArg (·.2) hq)
end
section
variable {P:Program} {C:Ctx} {nt:Nat} {L:Lay} {ops:Array Oper} {ds:List Dir} {e:U3} {s:U5}
theorem Z4u{k:Nat}{f:Nat}{args:List AVal}{Si:List (Nat×Obj)}{r:AVal}{So:List (Nat×Obj)}(hspec:G6 P f args Si r So)(hcall:∀ args w,(callFunc f args).run P w=.ok (.enter f args) w)(m:List (Nat×Nat))(hk:Qv ds k=cE m [] r Si So)(hq:(Go.Ab.callB ops nt (J0 L ops ops.toList ds e s k) (Y8 ops.toList k) f m r Si So,Si.map (fun p=>QM L ops ops.toList ds e s k (U9 m p.1)),
   (Go.Ab.callXs (Y8 ops.toList k)).toList.all (QA (QC (Y8 ops.toList k)++Qp ops (Y8 ops.toList k)))&&args.all AVal.noSem,(Go.Ab.callXs (Y8 ops.toList k)).toList.map (Y2 (J0 L ops ops.toList ds e s k)))
   = (true,Si.map (fun p=>some (p.2.ren (U9 m))),true,args.map (AVal.ren (U9 m)))):K3 P C nt L ops ds e s k:=
 Z4x hspec hcall m hk (congrArg (·.1) hq) (congrArg (·.2.1) hq) (congrArg (·.2.2.1) hq) (congrArg (·.2.2.2) hq)
end
end
section
open Go.Proofs Go.Shelf
theorem zU{α:Type}[Emb α]{P:Program}{L:Lay}(hL:Qa P L){ρ:Ren}(Ly:Lays8.n4 P ρ){te:TI}(hte:L (ρ.t 25)=some te)(hsz:te.size=Emb.es α)(hpos:0<te.size)(hby:te.bytes<=8192)(hzl:te.zero.length=te.size){n:Int}{r:List α}(h:Uf n=some r):G6 P (ρ.f 4) [.v (.c (.fl 0 fun _=>[])),vi n] [] (.v (.c (.own 100))) [(100,AO (α:=α) r)]:=by
 unfold Uf at h;split at h
 case isFalse=>cases h
 rename_i hn
 cases h
 obtain ⟨J,d0,I,k⟩:=hL _ _ hte;intro w X η B hX W Y Z p q
 have p:B.size=2:=p;have D:∃ A,B.getD 0 undef=.slice A 0 0:=by
  have:=q 0 (by simp)
  change ARep w X η _ (B.getD 0 undef) (.v (.c (.fl 0 fun _=>[]))) at this;generalize B.getD 0 undef=u at this
  cases this with|v _ _ l=>cases l with|c _ _ l=>cases l with|fl a _ _ _=>exact ⟨a,rfl⟩
 have M:B.getD 1 undef=.int .i64 n:=by
  have:=q 1 (by simp)
  change ARep w X η _ (B.getD 1 undef) (.v (.c (.d (.int .i64 n)))) at this;generalize B.getD 1 undef=u at this
  cases this with|v _ _ l=>cases l with|c _ _ l=>cases l with|d _ _ l=>cases l;rfl
 obtain ⟨A,D⟩:=D;rw [CX p,D,M]
 obtain ⟨m,rfl⟩:∃ m:Nat,n=m:=⟨n.toNat,by omega⟩;have R:m<=Y5:=by omega
 have g:∀ i o,ls [(100,AO (α:=α) [])] i=some o->i=100/\o=AO (α:=α) []:=by
  intro i o b;rw [Qk] at b
  by_cases h:i=100
  .grind
  .rw [if_neg h] at b;cases b
 rcases Nat.eq_zero_or_pos m with V|V
 .subst V
  refine (Any8.slices_Grow_room Ly A 0 0 0 w (Nat.le_refl _) (by omega) (by omega) (Nat.le_refl _)).mono fun e w' l=>?_
  obtain ⟨N,U⟩:=l;refine ⟨_,fun _=>.slice A 0 0,N,?_⟩
  rw [U];have z:∀ x,x ∉ Y9 (.slice A 0 0):=by intro x;cases A <;> simp [Y9]
  refine ⟨Stp.refl _ _,.v _ _ (.c _ _ (.own _ _ rfl rfl)),fun i o b=>?_,fun i j x b F y _=>absurd y (z x),fun i o x b y=>absurd y (z x),fun i v b=>?_⟩
  .obtain ⟨rfl,rfl⟩:=g i o b
   exact .nil _ _ _
  .change (if ((List.lookup i ([]:List (Nat×Obj))).isSome=true) then some (η i) else none)=some v at b
   cases b
 .have H:(0+m)*J.bytes<=140737488355328:=by
   have h1:(0+m)*J.bytes<=4294967296*8192:=Nat.mul_le_mul (by simp only [Y5] at R;omega) (by rw [k.bytes];exact hby);omega
  refine (Any8.slices_Grow_grow Ly J I k.info k.zero (by rw [k.size];exact hpos) A 0 0 m [] w (Nat.le_refl _) (by omega) H (by simp only [Y5] at R;omega) (by simp) (fun _=>rfl) (fun _ _ _ _ F=>by simp at F)).mono fun e w' l=>?_
  obtain ⟨N,U⟩:=l;have hG:m<=grownCap w (0+m) 0 (ρ.t 25):=by have:=grownCap_ge w (0+m) 0 (ρ.t 25);omega
  have T:=grownCap_le_maxLen w (0+m) 0 (ρ.t 25) (by simp only [Y5] at R;simp only [maxLen];omega);generalize grownCap w (0+m) 0 (ρ.t 25)=G at *
  refine ⟨_,fun _=>.slice (some ⟨w.heap.size,0,none⟩) 0 G,N,?_⟩;rw [U]
  have O:I.cells.size=J.size:=by rw [(k.zrep w (fun _=>False) η (Qr [] w X η)).1,hzl,k.size]
  refine ⟨(Stp.drew _ _).trans (Stp.alloc _ _ _),.v _ _ (.c _ _ (.own _ _ rfl rfl)),fun i o b=>?_,fun i j x b F _ _=>?_,fun i o x b y=>?_,fun i v b=>?_⟩
  .obtain ⟨rfl,rfl⟩:=g i o b
   refine .arr w.heap.size 0 G _ (([]:List Value).toArray++Builtin.zeroCells I.cells (0+m-0)++Builtin.zeroCells I.cells (G-(0+m))) (ρ.t 25) _ (heap_alloc_new w.drew _) ?_ (Nat.zero_le _) T (by omega) (fun i b=>absurd b (Nat.not_lt_zero i)) fun i j b=>absurd b (Nat.not_lt_zero i)
   rw [Array.size_append,Array.size_append,size_zeroCells,size_zeroCells,O,k.size, <-hsz];have e1:(([]:List Value).toArray).size=0:=rfl
   rw [e1,Nat.zero_add, <-Nat.add_mul];congr 1
   omega
  .obtain ⟨oi,b⟩:=Option.ne_none_iff_exists'.1 b
   obtain ⟨oj,F⟩:=Option.ne_none_iff_exists'.1 F;rw [(g i oi b).1,(g j oj F).1]
  .have:x=w.heap.size:=by
    have y:x ∈ Y9 (.slice (some ⟨w.heap.size,0,none⟩) 0 G):=y;simp [Y9] at y
    exact y.2
   subst this;exact .inr (.inr (Nat.le_refl _))
  .change (if ((List.lookup i ([]:List (Nat×Obj))).isSome=true) then some (η i) else none)=some v at b
   cases b
end
section
def Ph(P:Program)(x:CV):Prop:=x.closed=true\/∃ F,x=.sem (Qs P F)
section
variable {w:World} {X:Nat->Prop} {η η' : Nat->Value} {C C' : Ctx} {P:Program}
theorem y8.port{vs:Array Value}{cs:List CV}(h:y8 w X η C vs cs)(H:∀ F v,Qs P F C.w0 C.D C.X v->Qs P F C'.w0 C'.D C'.X v)(hx:∀ x ∈ cs,Ph P x):y8 w X η' C' vs cs:=by
 refine ⟨h.1,fun j f=>?_⟩;have c:=h.2 j f
 rcases hx _ (Yp (d:=.d .any) f) with a|⟨F,a⟩
 .simp only [CV.closed,Bool.and_eq_true,List.isEmpty_iff] at a
  exact (c.mono (fun b _ k=>⟨rfl,k⟩) (fun i g=>by rw [a.1] at g;cases g)).ctx a.2
 .rw [a] at c ⊢
  generalize vs.getD j undef=u at c ⊢
  cases c with|sem _ _ g1 g2=>exact .sem _ _ (H F _ g1) g2
end
section
variable {P:Program} {C:Ctx} {nt:Nat} {e:U3} {s:U5}
theorem Z4F{f:Nat}(hcall:∀ args w,(callFunc f args).run P w=.ok (.enter f args) w){F:List AVal->AVal->Prop}{cs:List (List CV)}(hspec:∀ args r,F args r->G6 P f (args++Wr cs) (Zt cs) r (Zt cs))(hres:∀ args r,F args r->r.closed=true){Si:List (Nat×Obj)}{m:Nat->Nat}{rd ids:List Nat}{x:Operand}(hx:QA rd x=true){cids:List Nat}(hv:Y2 e x=.v (.c (.clo f cids)))(hlen:cids.length=cs.length)(hnd:ZV cids=true)(hbox:∀ k,k<cs.length->∃ ro,s (cids.getD k 0)=some (.box ro (cs.getD k [])))(hcl:∀ c ∈ cs,∀ x ∈ c,Ph P x)(hsi:∀ p ∈ Si,∃ o1,s (m p.1)=some o1)(hin:∀ p ∈ Si,m p.1 ∈ ids)(hcin:∀ i ∈ cids,i ∈ ids)(hapart:∀ p ∈ Si,m p.1 ∉ cids):YG C nt e s Si m rd ids x (Yh P F):=by
 intro R η e0 s0 a w e4 J G;have b6:=(J4 G x).1
 rw [ZO e4 hx,hv] at b6;have b2:=DW b6
 refine .v _ _ (.c _ _ (.sem _ _ ⟨f,_,b2,hcall,?_⟩ (by rw [b2];rfl)));intro w1 X1 vs args r hF c0 U c1 a4 e3 d6
 have N : w.heap.size<=w1.heap.size:=c0;have Z:∀ k,k<cs.length->cids.getD k 0 ∈ cids:=fun k hk=>Yp (by omega)
 have A:∀ k,k<cs.length->∃ ro,s0 (cids.getD k 0)=some (.box ro (cs.getD k [])):=by
  grind
 have I:∀ k,k<cs.length->∃ b c' e',η (cids.getD k 0)=.pointer (some ⟨b,0,none⟩)/\w.heap[b]?=some (.cells c' e' (0,0))/\y8 w (XS C s0 η) η C c' (cs.getD k []):=by
  intro k hk;obtain ⟨ro,h⟩:=A k hk
  have:=G.st _ _ h
  generalize η (cids.getD k 0)=u at this
  cases this with
  | box b _ c' e' _ y hcs=>exact ⟨b,c',e',rfl,y,hcs⟩
 have V:∀ k,k<cs.length->∀ b,b ∈ Y9 (η (cids.getD k 0))->¬ Own (ls Si) (fun i=>η (m i)) b:=by
  rintro k hk b y ⟨i,B,l,n⟩;obtain ⟨ro,h⟩:=A k hk
  obtain ⟨o1,Y⟩:=hsi _ (y6 l);have c9 : s0 (m i)=some o1:=by rw [J _ (hin _ (y6 l))];exact Y
  have:=G.ds _ _ b (by rw [h];simp) (by rw [c9];simp) y n
  exact hapart _ (y6 l) (this ▸ Z k hk)
 have e7:∀ b,Own (ls Si) (fun i=>η (m i)) b->XS C s0 η b:=by
  rintro b ⟨i,B,l,n⟩;obtain ⟨o1,Y⟩:=hsi _ (y6 l)
  exact .inr ⟨m i,o1,by rw [J _ (hin _ (y6 l))];exact Y,n⟩
 have hk:QR w w1 (XS C s0 η) X1:=by
  intro b y hX;have b3:¬ Own (ls Si) (fun i=>η (m i)) b:=fun ho=>hX (e7 b ho)
  exact ⟨U b y b3,fun hx=>hX ((a4 b y b3).1 hx)⟩
 have z:∀ k o,ls (Zt cs) k=some o->k<cs.length/\o=.box true (cs.getD k []):=by
  intro k o hk;rw [Q1I] at hk
  grind
 have W:∀ b,Own (ls (Zt cs)) (fun k=>η (cids.getD k 0)) b->X1 b:=by
  rintro b ⟨k,B,O,T⟩;obtain ⟨t,_⟩:=z k B O
  obtain ⟨ro,h⟩:=A k t;have c3:b<w.heap.size:=(G.st _ _ h).lt T
  exact (a4 b c3 (V k t b T)).2 (.inr ⟨_,_,h,T⟩)
 have a5:∀ F' v,Qs P F' C.w0 C.D C.X v->Qs P F' w1 (Own (ls (Zt cs)) fun k=>η (cids.getD k 0)) X1 v:=by
  rintro F' v ⟨g,gc,g1,g2,g3⟩;refine ⟨g,gc,g1,g2,fun w2 X2 us c4 q hq s1 s2 s3 s4 s5 s6=>?_⟩
  have b4:∀ b,b<C.w0.heap.size->¬ C.D b->¬ Own (ls Si) (fun i=>η (m i)) b:=by
   rintro b y H ⟨i,B,l,n⟩;obtain ⟨o1,h⟩:=hsi _ (y6 l)
   rcases G.ow (m i) o1 b (by rw [J _ (hin _ (y6 l))];exact h) n with ⟨_,h⟩|h|h
   .exact H h
   .exact H (G.ok.md b h)
   .omega
  have b7:∀ b,b<C.w0.heap.size->¬ C.D b->¬ Own (ls (Zt cs)) (fun k=>η (cids.getD k 0)) b:=by
   rintro b y H ⟨k,B,O,T⟩;obtain ⟨t,_⟩:=z k B O
   obtain ⟨ro,h⟩:=A k t;rcases G.ow _ _ b h T with ⟨_,h⟩|h|h
   .exact H h
   .exact H (G.ok.md b h)
   .omega
  refine g3 w2 X2 us c4 q hq (Nat.le_trans G.fr.size (Nat.le_trans N s1)) (fun b y H=>?_) s3 (fun b y H=>?_) s5 s6
  .have M:b<w.heap.size:=Nat.lt_of_lt_of_le y G.fr.size
   exact ((s2 b (Nat.lt_of_lt_of_le M N) (b7 b y H)).trans (U b M (b4 b y H))).trans (G.fr.block b y fun hM=>H (G.ok.md b hM))
  .have M:b<w.heap.size:=Nat.lt_of_lt_of_le y G.fr.size
   rw [s4 b (Nat.lt_of_lt_of_le M N) (b7 b y H),a4 b M (b4 b y H)];constructor
   .rintro (⟨hx,_⟩|⟨i,B,l,n⟩)
    .exact hx
    .rcases G.ow i B b l n with ⟨_,h⟩|h|h
     .grind
     .exact absurd (G.ok.md b h) H
     .omega
   .exact fun hx=>.inl ⟨hx,H⟩
 have d2:=hspec args r hF w1 X1 (fun k=>η (cids.getD k 0)) (vs++(cids.map η).toArray) c1 W
  (fun k o O=>by
   obtain ⟨t,rfl⟩:=z k o O;obtain ⟨b,c',e',h,Y,h3⟩:=I k t
   have b9:=V k t b (by rw [h];simp [Y9]);show ORep w1 X1 _ _ (η (cids.getD k 0)) _
   rw [h];have d9:∀ x ∈ cs.getD k [],Ph P x:=hcl _ (Yp (d:=[]) t)
   exact .box b true c' e' _ ((U b (J5 Y) b9).trans Y) ((h3.mono (η':=η) hk (fun _ _=>rfl)).port a5 d9))
  (fun i j b l hj d5 c6=>by
   obtain ⟨oi,l⟩:=Option.ne_none_iff_exists'.1 l;obtain ⟨oj,hj⟩:=Option.ne_none_iff_exists'.1 hj
   obtain ⟨d7,_⟩:=z i oi l;obtain ⟨d8,_⟩:=z j oj hj
   obtain ⟨r1,h⟩:=A i d7;obtain ⟨r2,Y⟩:=A j d8
   have b0:=G.ds _ _ b (by rw [h];simp) (by rw [Y];simp) d5 c6;have hn:=Ub hnd
   have c5:i<cids.length:=by omega
   have d4:j<cids.length:=by omega
   rw [List.getD_eq_getElem?_getD,List.getD_eq_getElem?_getD,List.getElem?_eq_getElem c5,List.getElem?_eq_getElem d4] at b0;exact (List.getElem_inj hn).1 (by simpa using b0))
  (by simp [e3,Wr,hlen])
  (fun j hj=>by
   rw [List.length_append] at hj
   by_cases hja:j<args.length
   .have e1:(vs++(cids.map η).toArray).getD j undef=vs.getD j undef:=by
     have:j<vs.size:=by omega
     simp [Array.getD_eq_getD_getElem?,Array.getElem?_append,this]
    have e2:(args++Wr cs).getD j .any=args.getD j .any:=by simp [List.getD_eq_getElem?_getD,List.getElem?_append,hja]
    grind
   .have t:j-args.length<cs.length:=by simp [Wr] at hj;omega
    obtain ⟨b,c',e',h,Y,h3⟩:=I _ t;have e1:(vs++(cids.map η).toArray).getD j undef=η (cids.getD (j-args.length) 0):=by
     have g1:¬ j<vs.size:=by omega
     have g2:j-vs.size<cids.length:=by omega
     have g3:j-args.length<cids.length:=by omega
     have:j-vs.size=j-args.length:=by omega
     simp [Array.getD_eq_getD_getElem?,Array.getElem?_append,g1,List.getD_eq_getElem?_getD,this,g3]
    have e2:(args++Wr cs).getD j .any=.v (.c (.ptr (j-args.length) 0)):=by
     simp [List.getD_eq_getElem?_getD,List.getElem?_append,hja,Wr,t]
    rw [e1,e2,h];exact .v _ _ (.c _ _ (.ptr b _ 0 h)))
 refine d2.mono fun en w' hh=>?_
 obtain ⟨v,η',rfl,y⟩:=hh;refine ⟨v,rfl,y.stp.mono fun b _ hM=>?_,fun η2 C2=>?_⟩
 .obtain ⟨i,B,l,e6,_⟩:=hM
  obtain ⟨_,rfl⟩:=z i B l;cases e6
 .have hX:∀ b,XS (Qr (Zt cs) w1 X1 fun k=>η (cids.getD k 0)) (ls (Zt cs)) η' b↔X1 b:=by
   have a1:∀ i B,ls (Zt cs) i=some B -> η' i=η (cids.getD i 0):=by
    intro i B l;refine y.pn i _ ?_
    unfold ls at l;simp [Qr,l]
   intro b;constructor
   .rintro (⟨hx,_⟩|⟨i,B,l,n⟩)
    .exact hx
    .rw [a1 i B l] at n
     exact W b ⟨i,B,l,n⟩
   .intro hx
    rcases Classical.em (Own (ls (Zt cs)) (fun k=>η (cids.getD k 0)) b) with ho|ho
    .obtain ⟨i,B,l,n⟩:=ho
     exact .inr ⟨i,B,l,by rw [a1 i B l];exact n⟩
    .exact .inl ⟨hx,ho⟩
  exact (y.res.mono (η':=η') (fun b _ hx=>⟨rfl,fun c7=>hx ((hX b).2 c7)⟩) (fun _ _=>rfl)).free (hres args r hF)
def qS(P:Program):List CV->Prop
 | []=>True
 | c::cs=>Ph P c/\qS P cs
def qQ(P:Program):List (List CV)->Prop
 | []=>True
 | c::cs=>qS P c/\qQ P cs
theorem Q8W{cs:List CV}(h:qS P cs):∀ x ∈ cs,Ph P x:=by
 induction cs with
 | nil=>intro x a;cases a
 | cons c cs ih=>
  intro x a;rcases List.mem_cons.1 a with rfl|a
  .exact h.1
  .exact ih h.2 x a
theorem Q8X{cs:List (List CV)}(h:qQ P cs):∀ c ∈ cs,∀ x ∈ c,Ph P x:=by
 induction cs with
 | nil=>intro x a;cases a
 | cons c cs ih=>
  intro x a;rcases List.mem_cons.1 a with rfl|a
  .exact Q8W h.1
  .exact ih h.2 x a
theorem Z4D{f:Nat}(hcall:∀ args w,(callFunc f args).run P w=.ok (.enter f args) w){F:List AVal->AVal->Prop}(cs:List (List CV))(hspec:∀ args r,F args r->G6 P f (args++Wr cs) (Zt cs) r (Zt cs))(hres:∀ args r,F args r->r.closed=true){Si:List (Nat×Obj)}{m:Nat->Nat}{rd ids:List Nat}{x:Operand}(hx:QA rd x=true)(cids:List Nat)(hv:Y2 e x=.v (.c (.clo f cids)))(hnd:(ZV cids&&cids.all (fun i=>ids.contains i))=true)(hp:qQ P cs)(hbox:Ha s cids cs)(hsi:PX s Si m ids cids=true):YG C nt e s Si m rd ids x (Yh P F):=by
 simp only [Bool.and_eq_true] at hnd;obtain ⟨b,a⟩:=Q1S hbox
 exact Z4F hcall hspec hres hx hv b hnd.1 a (Q8X hp) (Jj hsi).1 (Jj hsi).2.1 (fun i d=>by simpa using List.all_eq_true.1 hnd.2 i d) (Jj hsi).2.2
end
end
section
section
variable {P:Program} {C:Ctx} {nt:Nat} {L:Lay} {pins:List Nat} {K:Act->World->Prop}
theorem Ur(Fm:Fr P L C pins){E:List (Nat×AVal)}{S0:List (Nat×Obj)}{i k es j:Nat}{cs:List CV}{f f' : Nat->List DVal}(hp:pins.contains k=false)(hfr:((E.flatMap fun p=>p.2.refs)++(((i,Obj.box false cs)::S0).flatMap fun p=>p.1::p.2.refs)).contains k=false)(hj:j<cs.length)(hc0:cs.getD j (.d .any)=.fl 0 f)(hk:Kn C nt E ((k,.arr es 0 f')::(i,.box false (cs.set j (.own k)))::S0) K):Kn C nt E ((i,.box false cs)::S0) K:=by
 intro R η a w r;have v:ls ((i,Obj.box false cs)::S0) i=some (.box false cs):=by rw [Qk,if_pos rfl]
 have U:=r.st i _ v;obtain ⟨b0,c',e',hη0,hb0,hcs⟩:∃ b c' e',η i=.pointer (some ⟨b,0,none⟩)/\w.heap[b]?=some (.cells c' e' (0,0))/\y8 w (XS C (ls ((i,Obj.box false cs)::S0)) η) η C c' cs:=by
  generalize η i=u at U
  cases U with|box b _ c' e' _ M h=>exact ⟨b,c',e',rfl,M,h⟩
 obtain ⟨ad,hv⟩:∃ ad,c'.getD j undef=.slice ad 0 0:=by
  have:=hcs.2 j hj
  rw [hc0] at this;generalize c'.getD j undef=u at this
  cases this with|fl ad _ _ _=>exact ⟨ad,rfl⟩
 have W:C.pin k=none:=by
  rcases hq:C.pin k with _|u
  .rfl
  .have:=Fm.pin k (by rw [hq];simp)
   grind
 have a7:∀ x ∈ (E.flatMap fun p=>p.2.refs)++(((i,Obj.box false cs)::S0).flatMap fun p=>p.1::p.2.refs),x≠k:=by
  grind
 have hS:∀ x o,ls ((i,Obj.box false cs)::S0) x=some o->x≠k/\∀ y ∈ o.refs,y≠k:=by
  intro x o c;have hm:=y6 c
  grind
 have Y:i≠k:=(hS i _ v).1;have hE:∀ u x,x ∈ (lk E u).refs->x≠k:=by
  intro u x c;rcases Xv (E:=E) (t:=u) with h0|h0
  .rw [h0] at c;cases c
  all_goals grind
 let η' : Nat->Value:=fun x=>if x=k then .slice ad 0 0 else η x
 have l : ∀ x,x≠k->η' x=η x:=fun x c=>by show (if x=k then Value.slice ad 0 0 else η x)=_;rw [if_neg c]
 have I:η' k=.slice ad 0 0:=by show (if k=k then Value.slice ad 0 0 else η k)=_;rw [if_pos rfl]
 have G:∀ b,b ∉ Y9 (η' k):=by intro b;rw [I];cases ad <;> simp [Y9]
 have D:∀ x o,ls ((k,Obj.arr es 0 f')::(i,.box false (cs.set j (.own k)))::S0) x=some o->(x=k/\o=.arr es 0 f')\/(x=i/\o=.box false (cs.set j (.own k)))\/(x≠k/\x≠i/\ls ((i,Obj.box false cs)::S0) x=some o):=by
  intro x o c;rw [Qk] at c
  by_cases m:x=k
  .grind
  .rw [if_neg m,Qk] at c
   by_cases F:x=i
   .grind
   .rw [if_neg F] at c
    exact .inr (.inr ⟨m,F,by rw [Qk,if_neg F];exact c⟩)
 have n:∀ x o,ls ((k,Obj.arr es 0 f')::(i,.box false (cs.set j (.own k)))::S0) x=some o->x≠k->∃ N,ls ((i,Obj.box false cs)::S0) x=some N /\ N.ro=o.ro:=by
  intro x o c g;rcases D x o c with ⟨m,_⟩|⟨m,F⟩|⟨_,_,T⟩
  .grind
  .subst m;subst F;exact ⟨_,v,rfl⟩
  all_goals grind
 have V:∀ b,Own (ls ((k,Obj.arr es 0 f')::(i,.box false (cs.set j (.own k)))::S0)) η' b->Own (ls ((i,Obj.box false cs)::S0)) η b:=by
  rintro b ⟨x,o,c,B⟩
  by_cases g:x=k
  .grind
  .obtain ⟨N,m,_⟩:=n x o c g
   exact ⟨x,N,m,by rw [<-l x g];exact B⟩
 have Z:QR w w (XS C (ls ((i,Obj.box false cs)::S0)) η) (XS C (ls ((k,Obj.arr es 0 f')::(i,.box false (cs.set j (.own k)))::S0)) η'):=by
  intro b M hn;refine ⟨rfl,fun c=>?_⟩
  rcases c with c|c
  .exact hn (.inl c)
  .exact hn (.inr (V b c))
 refine hk (fun x=>R x\/x=k) η' a w ⟨r.ok,r.df,r.sz,fun u=>(r.ev u).mono Z fun x c=>l x (hE u x c),fun u x c=>.inl (r.er u x c),fun x o c=>?_,fun x o c=>?_,fun x y b c A B J=>?_,fun x o b c M=>?_,r.fr,fun x u c=>?_⟩
 .rcases D x o c with ⟨rfl,rfl⟩|⟨rfl,rfl⟩|⟨m,F,T⟩
  .rw [I];exact .nil _ _ _
  .rw [l x Y,hη0]
   refine .box b0 false c' e' _ hb0 ⟨by rw [hcs.1];simp,fun q hq=>?_⟩;have H : q<cs.length:=by simpa using hq
   by_cases hqj:q=j
   .subst hqj
    have:(cs.set q (.own k)).getD q (.d .any)=.own k:=by simp [List.getD_eq_getElem?_getD,H]
    rw [this,hv];exact .own _ _ I.symm rfl
   .have:(cs.set j (.own k)).getD q (.d .any)=cs.getD q (.d .any):=by
     grind
    rw [this];refine (hcs.2 q H).mono Z fun y A=>l y ((hS x _ v).2 y ?_)
    exact List.mem_flatMap.2 ⟨_,Yp H,A⟩
  .rw [l x m]
   exact (r.st x o T).mono Z (fun y A=>l y ((hS x o T).2 y A)) fun _ _=>rfl
 .rcases D x o c with ⟨rfl,rfl⟩|⟨rfl,rfl⟩|⟨m,F,T⟩
  .exact ⟨.inr rfl,by simp [Obj.refs]⟩
  .have:=r.sr x _ v
   refine ⟨.inl this.1,fun y A=>?_⟩;obtain ⟨z,hz,O⟩:=List.mem_flatMap.1 A
   rcases List.mem_or_eq_of_mem_set hz with h4|h4
   .exact .inl (this.2 y (List.mem_flatMap.2 ⟨z,h4,O⟩))
   .subst h4
    exact .inr (by simpa [CV.refs] using O)
  .have:=r.sr x o T
   exact ⟨.inl this.1,fun y A=>.inl (this.2 y A)⟩
 .obtain ⟨ox,c⟩:=Option.ne_none_iff_exists'.1 c
  obtain ⟨oy,A⟩:=Option.ne_none_iff_exists'.1 A
  by_cases g:x=k
  .subst g;exact absurd B (G b)
  .by_cases hyk:y=k
   .subst hyk;exact absurd J (G b)
   .obtain ⟨o1,m,_⟩:=n x ox c g
    obtain ⟨o2,F,_⟩:=n y oy A hyk;rw [l x g] at B
    rw [l y hyk] at J;exact r.ds x y b (by rw [m];simp) (by rw [F];simp) B J
 .by_cases g:x=k
  .subst g;exact absurd M (G b)
  .obtain ⟨N,m,F⟩:=n x o c g
   rw [l x g] at M;rw [<-F]
   exact r.ow x N b m M
 .have g:x≠k:=by intro h;subst h;rw [W] at c;cases c
  have:=r.pn x u c
  exact ⟨by rw [l x g];exact this.1,.inl this.2⟩
end
end
theorem vC{α:Type}[Emb α]{P:Program}{f:Nat}{args:List AVal}{r:List α}(h:G6 P f args [] (.v (.c (.own 100))) [(100,AO r)]):G6 P f args [] (AL r) []:=by
 intro w X η N H y A F m k;refine (h w X η N H y A F m k).mono fun e R z=>?_
 obtain ⟨v,η',M,l⟩:=z;refine ⟨v,η',M,?_⟩
 have q:∀ i o,ls ([]:List (Nat×Obj)) i=some o->False:=fun i o a=>by cases a
 have B:=l.objs 100 (AO r) (by rw [Qk,if_pos rfl]);have O:v=η' 100:=by
  have:=l.res
  cases this with|v _ _ z=>cases z with|c _ _ z=>cases z with|own _ _ g _=>exact g
 have t:∀ b,b ∈ Y9 (η' 100)->¬ XS (Qr [] w X η) (ls []) η' b:=by
  intro b D I;have G:w.heap.size<=b:=by
   rcases l.ow 100 (AO r) b (by rw [Qk,if_pos rfl]) D with ⟨g,_⟩|⟨i,o,a,_⟩|g
   .cases g
   .grind
   .exact g
  rcases I with ⟨g,_⟩|⟨i,o,a,_⟩
  .have:=H b g
   omega
  all_goals grind
 have p:∀ b,¬ XS (Qr [] w X η) (ls [(100,AO r)]) η' b->¬ XS (Qr [] w X η) (ls []) η' b:=by
  intro b g x;rcases x with x|⟨i,o,a,_⟩
  .exact g (.inl x)
  all_goals grind
 refine ⟨l.stp,?_,fun i o a=>(q i o a).elim,fun i j b a=>?_,fun i o b a=>(q i o a).elim,l.pn⟩
 .rw [O]
  refine .v _ _ (.c _ _ (.d _ _ ?_));show DRep _ _ _ (.lst r.length (LF r))
  unfold AO at B;generalize η' 100=u at B t
  generalize hn:r.length=n at B
  cases B with
  | nil ad=>exact .nil _ _ _
  | arr b n cap es c e f g x h3 h4 h5 h6 h7=>
   refine .lst b 0 n cap c e _ _ _ (t b (by simp [Y9];omega)) g h3 ?_ h6 fun i j a J=>?_
   .rw [x,Nat.zero_add];exact Nat.mul_le_mul_right _ h3
   .rw [Nat.zero_add]
    exact (h7 i j a J).mono fun b _ l=>⟨rfl,p b (by unfold AO;rw [hn];exact l)⟩
 .exact absurd rfl a
section
def YT(es n:Nat)(f:Nat->List DVal)(w:World)(X:Nat->Prop)(u:Value):Prop:=
 (∃ ad,u=.tuple #[.slice ad n n]/\DRep w X (.slice ad n n) (.lst n f))\/∀ η C,ORep w X η C u (.arr es n f)
def AP{α:Type}[Emb α](l:List α):Obj:=.ext (YT (Emb.es α) l.length (LF l))
theorem Z3n{w:World}{X:Nat->Prop}{η:Nat->Value}{C:Ctx}{v:Value}{es n:Nat}{f:Nat->List DVal}(h:ORep w X η C v (.arr es n f))(η' : Nat->Value)(C' : Ctx):ORep w X η' C' v (.arr es n f):=by
 cases h with
 | nil ad=>exact .nil ad _ _
 | arr b _ cap _ c e _ h1 h2 h3 h4 h5 h6 h7=>exact .arr b _ cap _ c e _ h1 h2 h3 h4 h5 h6 h7
theorem Q2e(es n:Nat)(f:Nat->List DVal)(u:Value):Pi (YT es n f) u:=by
 intro w i X g a d h;rcases h with ⟨c,e,b⟩|h
 .exact .inl ⟨c,e,b.mono a⟩
 .exact .inr fun η C=>(h η C).mono (η':=η) a (fun _ _=>rfl) d
theorem K5.ap(k:Nat):K5 (.own k) (.ap k):=⟨fun w X η C v a=>by cases a with|own _ _ h h1=>exact .ap _ _ (.inl h.symm) h1,fun i b=>b⟩
theorem J1.ap(es n:Nat)(f:Nat->List DVal):J1 (.arr es n f) (.ext (YT es n f)):=
 ⟨fun w X η C v a=>.ext _ _ (.inr fun η' C'=>Z3n a η' C') (Q2e es n f v) fun b d=>a.lt d,rfl,fun i c=>by cases c⟩
def Jm(k:Nat)(y:CV):CV->CV
 | .ap i=>if i=k then y else .ap i
 | x=>x
def TV.sb(k:Nat)(y:CV):TV->TV
 | .c x=>.c (Jm k y x)
 | .g xs=>.g (xs.map (Jm k y))
def AVal.sb(k:Nat)(y:CV):AVal->AVal
 | .any=>.any
 | .v x=>.v (x.sb k y)
 | .t xs=>.t (xs.map (TV.sb k y))
def Obj.sb(k:Nat)(y:CV):Obj->Obj
 | .box ro cs=>.box ro (cs.map (Jm k y))
 | o=>o
section
variable {w:World} {X X' : Nat->Prop} {η:Nat->Value} {C:Ctx} {k:Nat} {y:CV}
theorem CRep.sb{v:Value}{x:CV}(h:CRep w X η C v x)(hX:∀ b,¬ X b->¬ X' b)(hk:∀ v,CRep w X η C v (.ap k)->CRep w X' η C v y):CRep w X' η C v (Jm k y x):=by
 have a:QR w w X X':=fun b _ c=>⟨rfl,hX b c⟩
 cases x with
 | ap i=>
  simp only [Jm];split
  .grind
  .exact h.mono a fun _ _=>rfl
 | _=>exact h.mono a fun _ _=>rfl
theorem y8.sb{vs:Array Value}{cs:List CV}(h:y8 w X η C vs cs)(hX:∀ b,¬ X b->¬ X' b)(hk:∀ v,CRep w X η C v (.ap k)->CRep w X' η C v y):y8 w X' η C vs (cs.map (Jm k y)):=by
 refine ⟨by simpa using h.1,fun j c=>?_⟩;have a : j<cs.length:=by simpa using c
 have:=(h.2 j a).sb hX hk
 grind
theorem TRep.sb{v:Value}{x:TV}(h:TRep w X η C v x)(hX:∀ b,¬ X b->¬ X' b)(hk:∀ v,CRep w X η C v (.ap k)->CRep w X' η C v y):TRep w X' η C v (x.sb k y):=by
 cases h with
 | c _ _ h=>exact .c _ _ (h.sb hX hk)
 | g _ _ h=>exact .g _ _ (h.sb hX hk)
theorem ARep.sb{v:Value}{x:AVal}(h:ARep w X η C v x)(hX:∀ b,¬ X b->¬ X' b)(hk:∀ v,CRep w X η C v (.ap k)->CRep w X' η C v y):ARep w X' η C v (x.sb k y):=by
 cases h with
 | any=>exact .any v
 | v _ _ h=>exact .v _ _ (h.sb hX hk)
 | t us xs h1 h2=>
  refine .t us _ (by simpa using h1) fun j c=>?_
  have a : j<xs.length:=by simpa using c
  have:=(h2 j a).sb hX hk
  grind
theorem ORep.sb{v:Value}{o:Obj}(h:ORep w X η C v o)(hX:∀ b,¬ X b->¬ X' b)(hk:∀ v,CRep w X η C v (.ap k)->CRep w X' η C v y):ORep w X' η C v (o.sb k y):=by
 cases o with
 | box ro cs=>cases h with|box b _ c e _ h1 h2=>exact .box b ro c e _ h1 (h2.sb hX hk)
 | arr es n f=>exact h.mono (fun b _ a=>⟨rfl,hX b a⟩) (fun _ _=>rfl) fun _ _=>rfl
 | ext p=>exact h.mono (fun b _ a=>⟨rfl,hX b a⟩) (fun _ _=>rfl) fun _ _=>rfl
 | exr refs p=>exact h.mono (fun b _ a=>⟨rfl,hX b a⟩) (fun _ _=>rfl) fun _ _=>rfl
theorem vJ(hy:∀ i ∈ y.refs,i=k)(x:CV):∀ j ∈ (Jm k y x).refs,j ∈ x.refs:=by
 cases x <;> simp only [Jm] <;> try exact fun j a=>a
 split
 .rename_i b;intro j a;rw [hy j a,b];simp [CV.refs]
 all_goals grind
theorem Q2j(hy:∀ i ∈ y.refs,i=k)(x:TV):∀ j ∈ (x.sb k y).refs,j ∈ x.refs:=by
 cases x with
 | c x=>exact vJ hy x
 | g xs=>exact Xe (vJ hy)
theorem Z4R(hy:∀ i ∈ y.refs,i=k)(x:AVal):∀ j ∈ (x.sb k y).refs,j ∈ x.refs:=by
 cases x with
 | any=>exact fun j a=>a
 | v x=>exact Q2j hy x
 | t xs=>exact Xe (Q2j hy)
theorem Z3T(hy:∀ i ∈ y.refs,i=k)(o:Obj):∀ j ∈ (o.sb k y).refs,j ∈ o.refs:=by
 cases o with
 | box ro cs=>exact Xe (vJ hy)
 | arr es n f=>exact fun j a=>a
 | ext p=>exact fun j a=>a
 | exr refs p=>exact fun j a=>a
theorem Z3S(o:Obj):(o.sb k y).ro=o.ro:=by cases o <;> rfl
end
section
variable {P:Program} {C:Ctx} {nt:Nat} {L:Lay} {pins:List Nat} {K:Act->World->Prop} {E:List (Nat×AVal)} {S:List (Nat×Obj)}
theorem Conc.sb{R:Nat->Prop}{η:Nat->Value}{a:Act}{w:World}{S0:List (Nat×Obj)}{k:Nat}{y:CV}(hc:Conc C nt R η (lk E) (ls S0) a w)(s' : U5)(hy:∀ i ∈ y.refs,i=k)(hs:∀ i o',s' i=some o' -> ∃ o,ls S0 i=some o/\(o'=o.sb k y\/(o'.refs=[]/\o'.ro=o.ro/\ORep w (XS C s' η) η C (η i) o')))(hrep:∀ v,CRep w (XS C (ls S0) η) η C v (.ap k)->CRep w (XS C s' η) η C v y):Conc C nt R η (lk (E.map fun p=>(p.1,p.2.sb k y))) s' a w:=by
 have r:∀ b,¬ XS C (ls S0) η b->¬ XS C s' η b:=by
  intro b m n;rcases n with n|⟨i,o',c,q⟩
  .exact m (.inl n)
  .obtain ⟨o,d,_⟩:=hs i o' c
   exact m (.inr ⟨i,o,d,q⟩)
 have l:∀ i,s' i≠none->ls S0 i≠none:=by
  intro i c;obtain ⟨o',c⟩:=Option.ne_none_iff_exists'.1 c
  grind
 refine ⟨hc.ok,hc.df,hc.sz,fun t=>?_,fun t i c=>?_,fun i o' c=>?_,fun i o' c=>?_,fun i j b c f=>hc.ds i j b (l i c) (l j f),fun i o' b c m=>?_,hc.fr,hc.pn⟩
 .rw [SG (g:=AVal.sb k y) rfl];exact (hc.ev t).sb r hrep
 .rw [SG (g:=AVal.sb k y) rfl] at c;exact hc.er t i (Z4R hy _ i c)
 .obtain ⟨o,d,h|⟨_,_,h⟩⟩:=hs i o' c
  .rw [h];exact (hc.st i o d).sb r hrep
  .exact h
 .obtain ⟨o,d,h|⟨h,_,_⟩⟩:=hs i o' c
  .have:=hc.sr i o d
   exact ⟨this.1,fun j f=>this.2 j (by rw [h] at f;exact Z3T hy o j f)⟩
  .exact ⟨(hc.sr i o d).1,fun j f=>by rw [h] at f;cases f⟩
 .obtain ⟨o,d,h|⟨_,h,_⟩⟩:=hs i o' c
  .have:=hc.ow i o b d m
   rw [h,Z3S];exact this
  .have:=hc.ow i o b d m
   rw [h];exact this
theorem CE{k es n:Nat}{f:Nat->List DVal}(hk:(S.map (·.1)).contains k=false)(h1:Kn C nt (E.map fun p=>(p.1,p.2.sb k (.own k))) ((k,.arr es n f)::S.map fun p=>(p.1,p.2.sb k (.own k))) K)(h2:Kn C nt (E.map fun p=>(p.1,p.2.sb k (.fl n f))) (S.map fun p=>(p.1,p.2.sb k (.fl n f))) K):Kn C nt E ((k,.ext (YT es n f))::S) K:=by
 intro R η a w B;have t:ls ((k,.ext (YT es n f))::S) k=some (.ext (YT es n f)):=by rw [Qk,if_pos rfl]
 have G:ls S k=none:=by
  cases j:ls S k with
  | none=>rfl
  | some o=>
   have:k ∈ S.map (·.1):=List.mem_map.2 ⟨_,y6 j,rfl⟩
   grind
 have g:∀ i o,ls S i=some o->ls ((k,.ext (YT es n f))::S) i=some o:=by
  intro i o c;have F:i≠k:=by intro h;rw [h,G] at c;cases c
  rw [Qk,if_neg F];exact c
 have z:=B.st k _ t;have D:YT es n f w (XS C (ls ((k,.ext (YT es n f))::S)) η) (η k):=by
  generalize η k=u at z
  cases z with|ext _ _ h _ _=>exact h
 rcases D with ⟨J,e,I⟩|j
 .refine h2 R η a w (B.sb _ (by simp [CV.refs]) (fun i A c=>?_) fun v d=>?_)
  .rw [UH] at c
   cases j:ls S i with
   | none=>rw [j] at c;cases c
   | some o=>rw [j] at c;cases c;exact ⟨o,g i o j,.inl rfl⟩
  .have H:∀ b,¬ XS C (ls ((k,.ext (YT es n f))::S)) η b->¬ XS C (ls (S.map fun p=>(p.1,p.2.sb k (.fl n f)))) η b:=by
    intro b m r;rcases r with r|⟨i,A,c,q⟩
    .exact m (.inl r)
    .rw [UH] at c
     cases j:ls S i with
     | none=>rw [j] at c;cases c
     | some o=>exact m (.inr ⟨i,o,g i o j,q⟩)
   cases d with|ap _ _ d h1=>
   rw [e] at d;rcases d with rfl|d|⟨l,d⟩
   .cases h1
   .cases d;exact .fl _ _ _ (I.mono fun b _ m=>⟨rfl,H b m⟩)
   .cases d
 .have H:∀ b,¬ XS C (ls ((k,.ext (YT es n f))::S)) η b->¬ XS C (ls ((k,.arr es n f)::S.map fun p=>(p.1,p.2.sb k (.own k)))) η b:=by
   intro b m r;rcases r with r|⟨i,A,c,q⟩
   .exact m (.inl r)
   .rw [Qk] at c
    split at c
    .rename_i x;subst x;exact m (.inr ⟨i,_,t,q⟩)
    .rw [UH] at c
     cases j:ls S i with
     | none=>rw [j] at c;cases c
     | some o=>exact m (.inr ⟨i,o,g i o j,q⟩)
  refine h1 R η a w (B.sb _ (by simp [CV.refs]) (fun i A c=>?_) fun v d=>?_)
  .rw [Qk] at c
   split at c
   .rename_i x
    cases c
    subst x;exact ⟨_,t,.inr ⟨rfl,rfl,(j η C).mono (fun b _ m=>⟨rfl,H b m⟩) (fun _ _=>rfl) fun _ _=>rfl⟩⟩
   .rw [UH] at c
    cases ho' : ls S i with
    | none=>rw [ho'] at c;cases c
    | some o=>rw [ho'] at c;cases c;exact ⟨o,g i o ho',.inl rfl⟩
  .cases d with|ap _ _ d h1=>
   have:=j η C
   rcases d with d|d|⟨l,d⟩
   .exact .own _ _ d.symm h1
   .rw [d] at this;cases this
   .rw [d] at this;cases this
theorem vx(Fm:Fr P L C pins){S0:List (Nat×Obj)}{ro:Bool}{i k es n j:Nat}{cs:List CV}{f:Nat->List DVal}(hp:pins.contains k=false)(hfr:((E.flatMap fun p=>p.2.refs)++(((i,Obj.box ro cs)::S0).flatMap fun p=>p.1::p.2.refs)).contains k=false)(hj:j<cs.length)(hc0:cs.getD j (.d .any)=.fl n f)(hk:Kn C nt E ((k,.ext (YT es n f))::(i,.box ro (cs.set j (.ap k)))::S0) K):Kn C nt E ((i,.box ro cs)::S0) K:=by
 intro R η a w A;have B:ls ((i,Obj.box ro cs)::S0) i=some (.box ro cs):=by rw [Qk,if_pos rfl]
 have V:=A.st i _ B;obtain ⟨b0,c',e',hη0,hb0,hcs⟩:∃ b c' e',η i=.pointer (some ⟨b,0,none⟩)/\w.heap[b]?=some (.cells c' e' (0,0))/\y8 w (XS C (ls ((i,Obj.box ro cs)::S0)) η) η C c' cs:=by
  generalize η i=u at V
  cases V with|box b _ c' e' _ I h=>exact ⟨b,c',e',rfl,I,h⟩
 obtain ⟨ad,hv,hdr⟩:∃ ad,c'.getD j undef=.slice ad n n/\DRep w (XS C (ls ((i,Obj.box ro cs)::S0)) η) (.slice ad n n) (.lst n f):=by
  have:=hcs.2 j hj
  rw [hc0] at this;generalize c'.getD j undef=u at this
  cases this with|fl ad _ _ h=>exact ⟨ad,rfl,h⟩
 have Y:C.pin k=none:=by
  rcases hq:C.pin k with _|u
  .rfl
  .have:=Fm.pin k (by rw [hq];simp)
   grind
 have a8:∀ x ∈ (E.flatMap fun p=>p.2.refs)++(((i,Obj.box ro cs)::S0).flatMap fun p=>p.1::p.2.refs),x≠k:=by
  grind
 have hS:∀ x o,ls ((i,Obj.box ro cs)::S0) x=some o->x≠k/\∀ y ∈ o.refs,y≠k:=by
  intro x o c;have hm:=y6 c
  grind
 have a0:i≠k:=(hS i _ B).1;have hE:∀ u x,x ∈ (lk E u).refs->x≠k:=by
  intro u x c;rcases Xv (E:=E) (t:=u) with h0|h0
  .rw [h0] at c;cases c
  all_goals grind
 let η' : Nat->Value:=fun x=>if x=k then .tuple #[.slice ad n n] else η x
 have l : ∀ x,x≠k->η' x=η x:=fun x c=>by show (if x=k then Value.tuple #[.slice ad n n] else η x)=_;rw [if_neg c]
 have M:η' k=.tuple #[.slice ad n n]:=by show (if k=k then Value.tuple #[.slice ad n n] else η k)=_;rw [if_pos rfl]
 have r:∀ b,b ∉ Y9 (η' k):=by intro b;rw [M];simp [Y9]
 have G:∀ x o,ls ((k,Obj.ext (YT es n f))::(i,.box ro (cs.set j (.ap k)))::S0) x=some o->(x=k/\o=.ext (YT es n f))\/(x=i/\o=.box ro (cs.set j (.ap k)))\/(x≠k/\x≠i/\ls ((i,Obj.box ro cs)::S0) x=some o):=by
  intro x o c;rw [Qk] at c
  by_cases m:x=k
  .grind
  .rw [if_neg m,Qk] at c
   by_cases H:x=i
   .grind
   .rw [if_neg H] at c
    exact .inr (.inr ⟨m,H,by rw [Qk,if_neg H];exact c⟩)
 have v:∀ x o,ls ((k,Obj.ext (YT es n f))::(i,.box ro (cs.set j (.ap k)))::S0) x=some o->x≠k->∃ O,ls ((i,Obj.box ro cs)::S0) x=some O /\ O.ro=o.ro:=by
  intro x o c g;rcases G x o c with ⟨m,_⟩|⟨m,H⟩|⟨_,_,U⟩
  .grind
  .subst m;subst H;exact ⟨_,B,rfl⟩
  all_goals grind
 have W:∀ b,Own (ls ((k,Obj.ext (YT es n f))::(i,.box ro (cs.set j (.ap k)))::S0)) η' b->Own (ls ((i,Obj.box ro cs)::S0)) η b:=by
  rintro b ⟨x,o,c,F⟩
  by_cases g:x=k
  .grind
  .obtain ⟨O,m,_⟩:=v x o c g
   exact ⟨x,O,m,by rw [<-l x g];exact F⟩
 have Z:QR w w (XS C (ls ((i,Obj.box ro cs)::S0)) η) (XS C (ls ((k,Obj.ext (YT es n f))::(i,.box ro (cs.set j (.ap k)))::S0)) η'):=by
  intro b I hn;refine ⟨rfl,fun c=>?_⟩
  rcases c with c|c
  .exact hn (.inl c)
  .exact hn (.inr (W b c))
 refine hk (fun x=>R x\/x=k) η' a w ⟨A.ok,A.df,A.sz,fun u=>(A.ev u).mono Z fun x c=>l x (hE u x c),fun u x c=>.inl (A.er u x c),fun x o c=>?_,fun x o c=>?_,fun x y b c D F N=>?_,fun x o b c I=>?_,A.fr,fun x u c=>?_⟩
 .rcases G x o c with ⟨rfl,rfl⟩|⟨rfl,rfl⟩|⟨m,H,U⟩
  .refine .ext _ _ ?_ (Q2e es n f _) (fun b I=>absurd I (r b))
   rw [M];exact .inl ⟨ad,rfl,hdr.mono Z⟩
  .rw [l x a0,hη0]
   refine .box b0 ro c' e' _ hb0 ⟨by rw [hcs.1];simp,fun q hq=>?_⟩;have J : q<cs.length:=by simpa using hq
   by_cases hqj:q=j
   .subst hqj
    have:(cs.set q (.ap k)).getD q (.d .any)=.ap k:=by simp [List.getD_eq_getElem?_getD,J]
    rw [this,hv];exact .ap _ _ (.inr (.inl M)) rfl
   .have:(cs.set j (.ap k)).getD q (.d .any)=cs.getD q (.d .any):=by
     grind
    rw [this];refine (hcs.2 q J).mono Z fun y D=>l y ((hS x _ B).2 y ?_)
    exact List.mem_flatMap.2 ⟨_,Yp J,D⟩
  .rw [l x m]
   exact (A.st x o U).mono Z (fun y D=>l y ((hS x o U).2 y D)) fun _ _=>rfl
 .rcases G x o c with ⟨rfl,rfl⟩|⟨rfl,rfl⟩|⟨m,H,U⟩
  .exact ⟨.inr rfl,by simp [Obj.refs]⟩
  .have:=A.sr x _ B
   refine ⟨.inl this.1,fun y D=>?_⟩;obtain ⟨z,hz,T⟩:=List.mem_flatMap.1 D
   rcases List.mem_or_eq_of_mem_set hz with h4|h4
   .exact .inl (this.2 y (List.mem_flatMap.2 ⟨z,h4,T⟩))
   .subst h4
    exact .inr (by simpa [CV.refs] using T)
  .have:=A.sr x o U
   exact ⟨.inl this.1,fun y D=>.inl (this.2 y D)⟩
 .obtain ⟨ox,c⟩:=Option.ne_none_iff_exists'.1 c
  obtain ⟨oy,D⟩:=Option.ne_none_iff_exists'.1 D
  by_cases g:x=k
  .subst g;exact absurd F (r b)
  .by_cases hyk:y=k
   .subst hyk;exact absurd N (r b)
   .obtain ⟨o1,m,_⟩:=v x ox c g
    obtain ⟨o2,H,_⟩:=v y oy D hyk;rw [l x g] at F
    rw [l y hyk] at N;exact A.ds x y b (by rw [m];simp) (by rw [H];simp) F N
 .by_cases g:x=k
  .subst g;exact absurd I (r b)
  .obtain ⟨O,m,H⟩:=v x o c g
   rw [l x g] at I;rw [<-H]
   exact A.ow x O b m I
 .have g:x≠k:=by intro h;subst h;rw [Y] at c;cases c
  have:=A.pn x u c
  exact ⟨by rw [l x g];exact this.1,.inl this.2⟩
end
end
section
section
variable {P:Program} {C:Ctx} {nt:Nat} {L:Lay} {ops:Array Oper} {ds:List Dir} {e:U3} {s:U5}
def Gr(caps:List Nat):List AVal:=caps.map fun c=>.v (.c (.ptr c 0))
theorem Q4f{f:Nat}(hcall:∀ args w,(callFunc f args).run P w=.ok (.enter f args) w){o:Oper}{fx:Operand}{xs:Array Operand}{tys:Array TypeId}(hop:o.op=.call { callee:=.value fx,args:=xs,argTypes:=tys }){args:List AVal}{Si:List (Nat×Obj)}{r:AVal}{So:List (Nat×Obj)}{m:Nat->Nat}{caps:List Nat}(hfx:Y2 e fx=.v (.c (.clo f (caps.map m))))(hrf:QA (QC o++Qp ops o) fx=true)(hspec:G6 P f (args++Gr caps) Si r So)(hbox:∀ c ∈ caps,∃ ro cs,ls Si c=some (.box ro cs))(hlen:xs.size=args.length)(extra:List Nat)(hargs:∀ j,j<args.length->YG C nt e s Si m (QC o++Qp ops o) (WA e o++(Si.map (fun p=>m p.1)++extra)) (xs.toList.getD j (.const undef)) (args.getD j .any))(hsi:∀ p ∈ Si,∃ o1,s (m p.1)=some o1/\J1 o1 (p.2.ren m))(hchk:Vq m r Si So=true)(hdo:QJ nt o=true)(hg:QY ops e o=some true):Ws P C nt ops o (yU ops o e m extra r Si So) e s:=by
 intro R η e0 G a w F q a1 n K Q hK;have hw:=Uv (e:=e) n (fun t ht=>F t (List.mem_append.2 (.inr ht))) hg
 rw [if_pos hw];have M:=(J4 n fx).1
 rw [ZO F hrf,hfx] at M;have I:=DW M
 have a2:=TN (w:=w) hop I hcall;have g:∀ p ∈ Si,∃ o1,G (m p.1)=some o1/\J1 o1 (p.2.ren m):=by
  intro p hp;rw [q (m p.1) (List.mem_append.2 (.inr (List.mem_append.2 (.inl (List.mem_map.2 ⟨p,hp,rfl⟩)))))]
  exact hsi p hp
 simp only [Vq,Bool.and_eq_true] at hchk;have z:=hchk
 obtain ⟨⟨⟨⟨⟨⟨⟨⟨⟨c1,c2⟩,c3⟩,c4⟩,c5⟩,c6⟩,c7⟩,c8⟩,c9⟩,b4⟩:=hchk;have O:∀ b,XS C G η b->b<w.heap.size:=by
  rintro b (⟨hx,_⟩|hx)
  .exact Nat.lt_of_lt_of_le (n.ok.lt b hx) n.fr.size
  .exact n.lt hx
 have N:∀ i l,ls Si i=some l -> l.noSem=true:=fun i l h=>List.all_eq_true.1 c7 _ (y6 h)
 have x:∀ i l,ls Si i=some l -> ORep w (XS C G η) (fun i=>η (m i)) (Qr Si w (XS C G η) fun i=>η (m i)) (η (m i)) l:=fun i l h=>by
  obtain ⟨o1,J,a0⟩:=g _ (y6 h);exact (ORep.unren (a0.1 _ _ _ _ _ (n.st _ o1 J))).ctx (N i l h)
 have a3:=hspec w (XS C G η) (fun i=>η (m i)) (xs.map a.eval++((caps.map m).map η).toArray) O
  (fun b ⟨i,l,h,hib⟩=>by obtain ⟨o1,J,_⟩:=g _ (y6 h);exact .inr ⟨m i,o1,J,hib⟩)
  x
  (fun i j b h B a4 Y=>by
   obtain ⟨oi,h⟩:=Option.ne_none_iff_exists'.1 h;obtain ⟨oj,B⟩:=Option.ne_none_iff_exists'.1 B
   obtain ⟨o1,J,_⟩:=g _ (y6 h);obtain ⟨o2,h2,_⟩:=g _ (y6 B)
   have H:m i=m j:=n.ds _ _ b (by rw [J];simp) (by rw [h2];simp) a4 Y;have n3:=Ub c3
   rw [List.nodup_append] at n3;exact zM (ρ:=m) n3.2.1 (by rw [h];simp) (by rw [B];simp) H)
  (by simp [hlen,Gr])
  (fun j B=>by
   rw [List.length_append] at B
   by_cases hja:j<args.length
   .have T : j<xs.size:=by omega
    have V:(xs.map a.eval++((caps.map m).map η).toArray).getD j undef=a.eval (xs.toList.getD j (.const undef)):=by
     simp [List.getD_eq_getElem?_getD,T,Array.getD_eq_getD_getElem?,Array.getElem?_append]
    have Z:(args++Gr caps).getD j .any=args.getD j .any:=by simp [List.getD_eq_getElem?_getD,List.getElem?_append,hja]
    rw [V,Z];exact hargs j hja R η e0 G a w F q n
   .have A:j-args.length<caps.length:=by simp [Gr] at B;omega
    have g1:¬ j<xs.size:=by omega
    have g2:j-xs.size=j-args.length:=by omega
    have V:(xs.map a.eval++((caps.map m).map η).toArray).getD j undef=η (m (caps.getD (j-args.length) 0)):=by
     simp [Array.getD_eq_getD_getElem?,Array.getElem?_append,g1,g2,A,List.getD_eq_getElem?_getD]
    have Z:(args++Gr caps).getD j .any=.v (.c (.ptr (caps.getD (j-args.length) 0) 0)):=by
     simp [List.getD_eq_getElem?_getD,List.getElem?_append,hja,Gr,A]
    rw [V,Z];obtain ⟨ro,cs,W⟩:=hbox _ (Yp (d:=0) A)
    have:=x _ _ W
    generalize hu:η (m (caps.getD (j-args.length) 0))=u at this
    cases this with|box b _ c e' _ _ _=>exact .v _ _ (.c _ _ (.ptr b _ 0 hu)))
 unfold Oper.wp;rw [a2]
 show Calls P f _ w _;refine a3.mono fun en w' hh=>?_
 obtain ⟨v,η',rfl,W⟩:=hh;have D:Vq m r Si So=true:=by simp only [Vq,Bool.and_eq_true];exact z
 obtain ⟨η1,U⟩:=n.call (YO hdo) D g a1 W;exact hK η1 _ w' U
def zL(f:Nat)(ids:List Nat):AVal->Bool
 | .v (.c (.clo g is))=>g==f&&is==ids
 | _=>false
theorem Z0J{f:Nat}{ids:List Nat}{x:AVal}(h:zL f ids x=true):x=.v (.c (.clo f ids)):=by
 unfold zL at h
 grind
def Q1P(Si:List (Nat×Obj))(caps:List Nat):Bool:=caps.all fun c=>match ls Si c with|some (.box _ _)=>true|_=>false
theorem Z3f{Si:List (Nat×Obj)}{caps:List Nat}(h:Q1P Si caps=true):∀ c ∈ caps,∃ ro cs,ls Si c=some (.box ro cs):=by
 intro c a;have:=List.all_eq_true.1 h c a
 grind
def Q1K(ops:Array Oper)(nt:Nat)(e:U3)(o:Oper)(f:Nat)(m:List (Nat×Nat))(caps:List Nat)(r:AVal)(Si So:List (Nat×Obj)):Bool:=
 XH o&&zL f (caps.map (U9 m)) (Y2 e (Un o))&&QA (QC o++Qp ops o) (Un o)&&Vq (U9 m) r Si So&&QJ nt o&&(QY ops e o==some true)&&Q1P Si caps
theorem Pl{k:Nat}{f:Nat}{args:List AVal}{Si:List (Nat×Obj)}{r:AVal}{So:List (Nat×Obj)}{caps:List Nat}(hspec:G6 P f (args++Gr caps) Si r So)(hcall:∀ args w,(callFunc f args).run P w=.ok (.enter f args) w)(m:List (Nat×Nat))(hk:Qv ds k=cE m [] r Si So)(hq:(Q1K ops nt (J0 L ops ops.toList ds e s k) (Y8 ops.toList k) f m caps r Si So,Si.map (fun p=>QM L ops ops.toList ds e s k (U9 m p.1)),
   (Go.Ab.callXs (Y8 ops.toList k)).toList.all (QA (QC (Y8 ops.toList k)++Qp ops (Y8 ops.toList k)))&&args.all AVal.noSem,(Go.Ab.callXs (Y8 ops.toList k)).toList.map (Y2 (J0 L ops ops.toList ds e s k)))
   = (true,Si.map (fun p=>some (p.2.ren (U9 m))),true,args.map (AVal.ren (U9 m)))):K3 P C nt L ops ds e s k:=by
 unfold K3;rw [hk]
 have g:=congrArg (·.1) hq;have c:=congrArg (·.2.1) hq
 have b:=congrArg (·.2.2.1) hq;have a:=congrArg (·.2.2.2) hq
 simp only at g c b a;simp only [Q1K,Bool.and_eq_true] at g
 obtain ⟨⟨⟨⟨⟨⟨x,n⟩,l⟩,A⟩,i⟩,o⟩,z⟩:=g;obtain ⟨t,d⟩:=Tf x
 rw [Bool.and_eq_true] at b;obtain ⟨v,h⟩:=(vP (C:=C) (nt:=nt) (s:=QM L ops ops.toList ds e s k) (Si:=Si) (ids:=WA (J0 L ops ops.toList ds e s k) (Y8 ops.toList k)++(Si.map (fun p=>U9 m p.1)++[])) b.1 b.2 a).spec
 exact Q4f hcall d (Z0J n) l hspec (Z3f z) (by simpa using v) [] (fun j q=>h j q) (fun p u=>⟨_,JN c p u,J1.refl _⟩) A i (by simpa using o)
end
end
section
open Go.Sort Go.Proofs Go.Shelf
theorem Q3Z{κ:Type}{lt:κ->κ->Bool}(pos:κ->Nat)(h:∀ i j,lt i j=true↔pos i<pos j):SWO lt:=by
 have c : ∀ i j,lt i j=false↔pos j<=pos i:=by
  intro i j;have:=h i j
  cases hh:lt i j with
  | true=>rw [hh] at this;simp at this ⊢;omega
  | false=>rw [hh] at this;simp at this ⊢;omega
 refine ⟨fun x=>(c x x).2 (Nat.le_refl _),fun x y z a b=>?_,fun x y z a b=>?_⟩
 .rw [h] at a b ⊢;omega
 .rw [c] at a b ⊢;omega
section
variable {α:Type} [Emb α]
end
end
section
section
variable {P:Program} {C:Ctx} {nt:Nat} {L:Lay} {R:Nat->Prop} {η:Nat->Value} {e:U3} {s:U5} {a:Act} {w:World}
theorem z8.upd_le{o:Oper}{x:AVal}{id:Nat}{ob ob' : Obj}{c:Prop}(h:z8 P C nt R η e s a w o { v:=x,upd:=some (id,ob),cond:=c })(hle:J1 ob ob'):z8 P C nt R η e s a w o { v:=x,upd:=some (id,ob'),cond:=c }:=by
 obtain ⟨v,u,p,g⟩:=h;refine ⟨v,u,p,?_⟩
 have b:∀ q i,SR.sto { v:=x,upd:=some (id,q),cond:=c } o.dst s i=if i=id then some q else s i:=by
  intro q i;unfold SR.sto
  simp
 have n:=g.conv (R':=SR.rng { v:=x,upd:=some (id,ob'),cond:=c } o.dst R) (e':=SR.env { v:=x,upd:=some (id,ob'),cond:=c } o.dst e) (s':=SR.sto { v:=x,upd:=some (id,ob'),cond:=c } o.dst s) (fun i=>i)
  (fun t=>by rw [Hq];exact Y3.refl _) (fun i l d=>by
   rw [Hj];rw [b] at d ⊢
   split at d
   .grind
   .rename_i f;exact ⟨l,by rw [if_neg f];exact d,J1.refl _⟩) (fun i j _ _ h=>h) (fun t i d=>g.er t i d) (fun i l d=>by
   rw [b] at d;split at d
   .rename_i f
    cases d
    have:=g.sr i ob (by rw [b,if_pos f])
    exact ⟨this.1,fun j r=>this.2 j (hle.2.2 j r)⟩
   .rename_i f
    exact g.sr i l (by rw [b,if_neg f];exact d)) (fun i d=>⟨rfl,by
   obtain ⟨v,m⟩:=Option.ne_none_iff_exists'.1 d;exact (g.pn i v m).2⟩)
 exact n
variable {ops:Array Oper} {ds:List Dir} {k:Nat}
theorem Q2x(hL:Qa P L){id:Nat}{ob ob' : Obj}{c:Prop}(hk:Qv ds k=rE { v:=.any,upd:=some (id,ob') })(hdo:(QJ nt (Y8 ops.toList k)&&(QY ops (J0 L ops ops.toList ds e s k) (Y8 ops.toList k)==some true))=true)(hr:Zk L false (J0 L ops ops.toList ds e s k) (QM L ops ops.toList ds e s k) (Y8 ops.toList k)=some { v:=.any,upd:=some (id,ob),cond:=c })(hc:c)(hle:J1 ob ob'):K3 P C nt L ops ds e s k:=by
 unfold K3;rw [hk]
 simp only [Bool.and_eq_true,beq_iff_eq] at hdo;have b:∀ t x y,(Y8 ops.toList k).op=.store t x y->(Y8 ops.toList k).dst=none:=by
  intro t x y f;have:=hdo.1
  simp only [QJ,f,Bool.and_eq_true] at this
  grind
 refine Ux hdo.1 hdo.2 fun R η p o a w m i j h=>?_
 have g:=(Q2g (L:=L) (e:=J0 L ops ops.toList ds e s k) (s:=QM L ops ops.toList ds e s k) false (Y8 ops.toList k) m i).trans hr;exact (Q2f hL h false _ (fun x l=>YO hdo.1 x l) g hc (fun d n j=>absurd rfl j) b).upd_le hle
theorem Z4s(hL:Qa P L){te:TI}{t:TypeId}(hT:VB L t te){x y:Operand}{d n m:Nat}{f g:Nat->List DVal}(hk:Qv ds k=rE { v:=.v (.c (.own d)),new:=some (.arr te.size (n+m) (QF n f g)) })(hop:(Y8 ops.toList k).op=.call { callee:=.builtin .append,args:= #[x,y],argTypes:= #[t,t] })(hdo:(QJ nt (Y8 ops.toList k)&&(QY ops (J0 L ops ops.toList ds e s k) (Y8 ops.toList k)==some true)&&(Y8 ops.toList k).dst==some d&&Nat.ble te.bytes 8192&&te.zero.length==te.size)=true)(hx:Y2 (J0 L ops ops.toList ds e s k) x=.v (.c (.fl n f)))(hy:Vt (QM L ops ops.toList ds e s k) (Y2 (J0 L ops ops.toList ds e s k) y)=some (m,g))(hm:0<m)(hlim:n+m<=Y5)(hgl:∀ j,j<m->(g j).length=te.size)(hfl:∀ j,j<n->(f j).length=te.size):K3 P C nt L ops ds e s k:=by
 unfold K3;rw [hk]
 simp only [Bool.and_eq_true,beq_iff_eq] at hdo;obtain ⟨⟨⟨⟨u,H⟩,i⟩,F⟩,I⟩:=hdo
 obtain ⟨M,N,D,h,l⟩:=hT;refine Ux u H fun R η B A a w z r G o=>?_
 have J:x ∈ (Y8 ops.toList k).op.operands.toList:=by rw [hop];simp [Op.operands,Call.operands]
 have b:y ∈ (Y8 ops.toList k).op.operands.toList:=by rw [hop];simp [Op.operands,Call.operands]
 have q:UR A te.size m (Y2 B x)=some ([],n,f,∀ j,j<n->(f j).length=te.size):=by
  rw [z x J,hx];simp only [UR]
  grind
 have p:Vt A (Y2 B y)=some (m,g):=by rw [z y b,vh (r y b)];exact hy
 exact FP hL o i (YO u d i) (G d i (by simp)) hop D h l p q hfl (Nat.le_of_ble_eq_true F) I hlim hgl
end
end
section
open Go.ChangeShapes Go.WideShapes Go.ChangeAt Go.RowKit
end
section
@[reducible] def ow (n:Nat):AVal:=.v (.c (.own n))
@[reducible] def pt (n:Nat):AVal:=.v (.c (.ptr n 0))
@[reducible] def bx (l:List CV):Obj:=.box false l
section
variable {P:Program} {C:Ctx} {nt:Nat} {L:Lay} {pins:List Nat} {E:List (Nat×AVal)} {S:List (Nat×Obj)} {Q:Exit->Act->World->Prop}
variable {K:Act->World->Prop}
theorem Z4l(Fm:Fr P L C pins){E' : List (Nat×AVal)}{S' : List (Nat×Obj)}(h:Kn C nt E' S' K)(hq:(pins.all (fun i=>U9 [] i==i),E'.map (fun p=>lk E p.1),S'.map (fun p=>ls S (U9 [] p.1)),ZV (S'.map fun p=>U9 [] p.1))=(true,E'.map (fun p=>p.2.ren (U9 [])),S'.map (fun p=>some (p.2.ren (U9 []))),true):=by kernel_rfl):Kn C nt E S K:=Q2t Fm E' S' hq h
theorem y3(Fm:Fr P L C pins)(ρ:List (Nat×Nat)){E' : List (Nat×AVal)}{S' : List (Nat×Obj)}(h:Kn C nt E' S' K)(hp:pins.all (fun i=>U9 ρ i==i)=true:=by kernel_rfl)(hE:E'.map (fun p=>lk E p.1)=E'.map (fun p=>p.2.ren (U9 ρ)):=by kernel_rfl)(hS:S'.map (fun p=>ls S (U9 ρ p.1))=S'.map (fun p=>some (p.2.ren (U9 ρ))):=by kernel_rfl)(hinj:ZV (S'.map fun p=>U9 ρ p.1)=true:=by kernel_rfl):Kn C nt E S K:=vw Fm ρ E' S' hp hE hS hinj h
theorem Q2v(Fm:Fr P L C pins){fn:Func}{r:AVal}{S' : List (Nat×Obj)}(hq:(UA L (lk E) (ls S) fn.results.toList,S'.map (fun p=>ls S p.1))=(some r,S'.map (fun p=>some p.2)):=by kernel_rfl):Kn C nt E S (WL P fn C r S' .ret):=Zb Fm hq
end
section
variable {P:Program} {C:Ctx} {nt:Nat} {L:Lay} {ops:Array Oper} {ds:List Dir} {e:U3} {s:U5}
theorem Q2A{k:Nat}{f:Nat}{args:List AVal}{Si:List (Nat×Obj)}{r:AVal}{So:List (Nat×Obj)}(hspec:G6 P f args Si r So)(hcall:∀ args w,(callFunc f args).run P w=.ok (.enter f args) w)(m:List (Nat×Nat))(hk:Qv ds k=cE m [] r Si So:=by rfl)(hq:(Go.Ab.callB ops nt (J0 L ops ops.toList ds e s k) (Y8 ops.toList k) f m r Si So,Si.map (fun p=>QM L ops ops.toList ds e s k (U9 m p.1)),
   (Go.Ab.callXs (Y8 ops.toList k)).toList.all (QA (QC (Y8 ops.toList k)++Qp ops (Y8 ops.toList k)))&&args.all AVal.noSem,(Go.Ab.callXs (Y8 ops.toList k)).toList.map (Y2 (J0 L ops ops.toList ds e s k)))
   = (true,Si.map (fun p=>some (p.2.ren (U9 m))),true,args.map (AVal.ren (U9 m))):=by kernel_rfl):K3 P C nt L ops ds e s k:=Z4u hspec hcall m hk hq
end
section
variable {C:Ctx} {nt:Nat} {e:U3} {s:U5}
theorem YG.p{Si:List (Nat×Obj)}{m:Nat->Nat}{rd ids:List Nat}{x:Operand}{y:AVal}(hx:QA rd x=true:=by kernel_rfl)(hle:Y2 e x=y.ren m:=by kernel_rfl)(hs:y.noSem=true:=by kernel_rfl):YG C nt e s Si m rd ids x y:=Ho hx (Y3.of_eq hle) hs
end
end
section
open Go.Maps (Keyed)
open Go.WideElems (Fit rd rg pl rd_val elemAt)
open Go.ChangeMaps Go.MapKept
def Q9S(ks:List Int):DataW Unit:=ks.foldl (fun D k=>D.put (.int .i64 k) (.lit (.bool true))) (.map [])
def JE(P:Program)(kT eT:TypeId)(ks:List Int)(w:World)(_:Nat->Prop)(v:Value):Prop:=∃ b,v=.map (some b)/\w.ownsMap P kT (plainElem P eT) b ks.length (Q9S ks)
theorem Q9R{P:Program}{kT eT:TypeId}{ks:List Int}(v:Value):Pi (JE P kT eT ks) v:=by
 intro w m X X' _ i l;obtain ⟨b,rfl,d,c,f,g,h,j⟩:=l
 exact ⟨b,rfl,d,c,(i b (by simp [Y9])).trans f,g,h,j⟩
end
section
section
variable {P:Program} {C:Ctx} {nt:Nat} {L:Lay} {R:Nat->Prop} {η:Nat->Value} {e:U3} {s:U5} {a:Act} {w:World}
theorem xd{X:Nat->Prop}{v:Value}{n:Int}(h:ARep w X η C v (vi n)):v=.int .i64 n:=by
 cases h with|v _ _ hh=>cases hh with|c _ _ hh=>cases hh with|d _ _ hh=>cases hh;rfl
theorem Q5m(h:Conc C nt R η e s a w){o:Oper}{d:Nat}(hd:o.dst=some d)(hdn:d<nt)(hR:¬ R d){p:World->(Nat->Prop)->Value->Prop}{v:Value}{w' : World}(hrun:(execOp a.eval o).run P w=.ok (.value v) w')(hstep:Stp (fun _=>False) w w')(hone:v.oneCell'=true)(hv:∀ b,b ∈ Y9 v->w.heap.size<=b)(hob:∀ X' η',ORep w' X' η' C v (.ext p)):
  z8 P C nt R η e s a w o { v:=.v (.c (.own d)),new:=some (.ext p) }:=by
 have r:=UI (C:=C) (s:=s) (η:=η) { v:=.v (.c (.own d)),new:=some (.ext p) } o.dst v (fun _=>False) hstep (fun b f=>f.elim) (fun _ _ _ _ b f=>.inl (hv b f)) (fun k o i=>by cases i);refine ⟨v,w',.inl hrun,h.step o.dst (fun x m=>by rw [hd] at m;cases m;exact hdn) _ _ _ (fun _=>False) hstep (fun b f=>f.elim) ?_ (fun k o i=>by cases i) ?_⟩
 .intro q dd l g
  cases l
  rw [hd] at g;cases g
  exact ⟨hR,rfl,by simp [Obj.refs],hob _ _,fun b f=>.inl (hv b f)⟩
 .intro _
  refine ⟨.v _ _ (.c _ _ (.own _ _ (by simp [SR.eta,hd]) hone)),fun j n=>?_⟩;simp [AVal.refs,TV.refs,CV.refs] at n
  exact .inr ⟨by simp,by rw [hd,n]⟩
variable {ops:Array Oper} {ds:List Dir} {k:Nat}
theorem Z4n{kT eT t:TypeId}{d:Nat}(hk:Qv ds k=rE { v:=.v (.c (.own d)),new:=some (.ext (JE P kT eT [])) })(hop:(Y8 ops.toList k).op=.makeMap t none)(hdo:(QJ nt (Y8 ops.toList k)&&(QY ops (J0 L ops ops.toList ds e s k) (Y8 ops.toList k)==some true)&&(Y8 ops.toList k).dst==some d)=true):K3 P C nt L ops ds e s k:=by
 unfold K3;rw [hk]
 simp only [Bool.and_eq_true,beq_iff_eq] at hdo;obtain ⟨⟨i,j⟩,g⟩:=hdo
 refine Ux i j fun R η p o a w n m l h=>?_
 refine Q5m h g (YO i d g) (l d g (by simp)) (v:=.map (some w.heap.size)) (w':=w.alloc (.map #[] 0)) ?_ (Stp.alloc _ w _) rfl (fun b f=>by simp [Y9] at f;omega) fun X' η'=>?_
 .simp [execOp,hop,Instr.makeMap]
 .refine .ext _ _ ⟨_,rfl,World.ownsMap_made w P kT _⟩ (Q9R _) fun b f=>?_
  simp only [Y9,List.mem_singleton] at f;subst f
  show w.heap.size<(w.heap.push _).size;rw [Array.size_push];omega
end
end
section
open Go.Sort Go.Proofs Go.Shelf Go.Maps
end
section
section
variable {P:Program} {L:Lay}
end
section
variable {P:Program} {C:Ctx} {nt:Nat} {L:Lay} {ops:Array Oper} {ds:List Dir} {e:U3} {s:U5}
end
end
section
open Go.Sort Go.Proofs Go.Shelf Go.Maps
end
section
def K2(s:ByteArray)(i:Int):Int:=(((s[i.toNat]?).getD 0).toNat:Nat)
def Zm(a b:ByteArray):Bool:=a.toList==b.toList
def VE(a b:ByteArray):Bool:=Op.bytesLess a.toList b.toList
def FH(op:BinOp)(a b:ByteArray):Option Bool:=
 match op with
 | .eql=>some (Zm a b)
 | .neq=>some (!Zm a b)
 | .lss=>some (VE a b)
 | .leq=>some (VE a b||Zm a b)
 | .gtr=>some (!(VE a b||Zm a b))
 | .geq=>some (!VE a b)
 | _=>none
section
variable {P:Program} {C:Ctx} {nt:Nat} {L:Lay} {ops:Array Oper} {ds:List Dir} {e:U3} {s:U5}
theorem gG(op:BinOp)(t:TypeId)(x y:Operand)(a b:ByteArray)(w:World):(eqGuard op t x y (.string a) (.string b)).run P w=.ok () w:=by
 unfold eqGuard;split <;> rfl
theorem Q6H(op:BinOp)(t:TypeId)(a b:ByteArray){c:Bool}(h:FH op a b=some c)(w:World):(binOp op t (.string a) (.string b)).run P w=.ok (.bool c) w:=by
 cases op <;> simp only [FH,Option.some.injEq,reduceCtorEq] at h <;> subst h <;> simp [binOp,Op.stringOp,Zm,VE]
def VI(ops:Array Oper)(nt:Nat)(e:U3)(o:Oper)(x y:Operand):Bool:=QA (QC o++Qp ops o) x&&QA (QC o++Qp ops o) y&&QJ nt o&&(QY ops e o==some true)
theorem Hk{k:Nat}{op:BinOp}{t t' : TypeId}{x y:Operand}{a b:ByteArray}{c:Bool}(hk:Qv ds k=sE (vb c))(hop:(Y8 ops.toList k).op=.binOp op t x y t')(hb:VI ops nt (J0 L ops ops.toList ds e s k) (Y8 ops.toList k) x y=true)(hx:Y2 (J0 L ops ops.toList ds e s k) x=.v (.c (.d (.str a))))(hy:Y2 (J0 L ops ops.toList ds e s k) y=.v (.c (.d (.str b))))(hc:FH op a b=some c):K3 P C nt L ops ds e s k:=by
 unfold K3;rw [hk]
 simp only [VI,Bool.and_eq_true,beq_iff_eq] at hb;obtain ⟨⟨⟨m,l⟩,j⟩,n⟩:=hb
 refine Kf rfl j n fun R η p o q w g f=>?_
 have h:=(J4 f x).1;rw [ZO g m,hx] at h
 have h:=Ke h;have i:=(J4 f y).1
 rw [ZO g l,hy] at i;have i:=Ke i
 exact ⟨_,by simp only [execOp,hop,Sem.run_bind,h,i,gG,Q6H op t a b hc,Result.andThen_ok,Sem.run_pure],Cv _ _⟩
theorem ZP{k:Nat}{t:TypeId}(ht:P.underlying t=some .string){x y:Operand}{a:ByteArray}{m:Int}(hk:Qv ds k=sE (.v (.c (.d (.int .u8 (K2 a m))))))(hop:(Y8 ops.toList k).op=.index t x y)(hb:VI ops nt (J0 L ops ops.toList ds e s k) (Y8 ops.toList k) x y=true)(hx:Y2 (J0 L ops ops.toList ds e s k) x=.v (.c (.d (.str a))))(hy:ZH (Y2 (J0 L ops ops.toList ds e s k) y)=some m)(hc:0<=m/\m<((a.size:Nat):Int)):K3 P C nt L ops ds e s k:=by
 unfold K3;rw [hk]
 simp only [VI,Bool.and_eq_true,beq_iff_eq] at hb;obtain ⟨⟨⟨p,l⟩,j⟩,n⟩:=hb
 refine Kf rfl j n fun R η u r A w f b=>?_
 have g:=(J4 b x).1;rw [ZO f p,hx] at g
 have g:=Ke g;rw [<-ZO f l] at hy
 obtain ⟨z,q⟩:=Pc b hy;have o:m.toNat<a.size:=by omega
 have h:a[m.toNat]?=some a[m.toNat]:=by
  grind
 have i:K2 a m=((a[m.toNat].toNat:Nat):Int):=by unfold K2;rw [h];rfl
 rw [i];refine ⟨.int .u8 (a[m.toNat].toNat:Nat),?_,Wz _ _ _⟩
 simp [execOp,hop,g,q,Instr.index,asIntOf,run_underlying ht,hc.1,h]
end
theorem CI{α:Type}[Emb α]{l:List α}{lo n:Nat}(h:lo+n<=l.length):Is n (fun j=>LF l (lo+j)) ((l.drop lo).take n):=by
 have c:((l.drop lo).take n).length=n:=by rw [List.length_take,List.length_drop];omega
 refine Q2B _ c fun i b=>?_
 have e:gl l (lo+i)=gl ((l.drop lo).take n) i:=by simp [gl,List.getD_eq_getElem?_getD,b]
 show Emb.cells (gl l (lo+i))=_;rw [e]
end
section
open Go.MapKept
def MP{α:Type}[Emb α](gs:List (Int×List α)):DVal:=.mp gs.length (fun i=>(gs.getD i (0,[])).1) fun i=>DL (gs.getD i (0,[])).2
def Pm{α:Type}[Emb α](w:World)(X:Nat->Prop)(x:MapEntry)(e:Int×List α):Prop:=x.key=.int .i64 e.1/\DRep w X x.val (DL e.2)
def Zc{α:Type}[Emb α](left:List (Int×List α))(cur:Option (Int×List α))(w:World)(X:Nat->Prop)(v:Value):Prop:=
 ∃ (r b:Nat) (es:Array MapEntry) (clock since:Nat) (seen:Array Nat) (c0:Nat),v=.pointer (some ⟨r,0,none⟩)/\w.heap[r]?=some (.mapIter (some b) since seen c0)/\¬ X b/\w.heap[b]?=some (.map es clock)/\Stamped es clock/\since<=c0/\since<=clock/\(∀ x ∈ es.toList,x.born<since) /\
  (leftOf es seen).size=left.length/\(∀ (i:Nat) (x:MapEntry) (e:Int×List α),(leftOf es seen)[i]?=some x->left[i]?=some e->Pm w X x e) /\
  ∀ e,cur=some e->∃ x ∈ es.toList,∃ seen' : Array Nat,seen=seen'.push x.born/\c0=clock/\Pm w X x e
theorem Pm.mono{α:Type}[Emb α]{w w' : World}{X X' : Nat->Prop}{x:MapEntry}{e:Int×List α}(h:Pm w X x e)(hk:QR w w' X X'):Pm w' X' x e:=⟨h.1,h.2.mono hk⟩
theorem zJ{α:Type}[Emb α]{left:List (Int×List α)}{cur:Option (Int×List α)}(v:Value):Pi (Zc left cur) v:=by
 intro w O X X' m J h;obtain ⟨r,b,B,d,c,f,I,rfl,t,D,n,A,F,G,M,p,N,j⟩:=h
 have o:=m b (J5 n) D;exact ⟨r,b,B,d,c,f,I,rfl,(J r (by simp [Y9])).trans t,o.2,o.1.trans n,A,F,G,M,p,fun i x e g l=>(N i x e g l).mono m,fun e l=>by
  obtain ⟨x,g,z,H,q,u⟩:=j e l;exact ⟨x,g,z,H,q,u.mono m⟩⟩
theorem Z0H{α:Type}[Emb α](left:List (Int×List α))(cur:Option (Int×List α)):J1 (.ext (Zc left cur)) (.ext (Zc left none)):=by
 refine ⟨fun w X η C v t=>?_,rfl,fun i A=>by cases A⟩
 cases t with
 | ext _ _ h1 h2 h3=>
  obtain ⟨r,b,q,d,c,f,x,e,u,g,h,m,p,n,z,l,j,_⟩:=h1;exact .ext _ _ ⟨r,b,q,d,c,f,x,e,u,g,h,m,p,n,z,l,j,fun e o=>by cases o⟩ (zJ _) h3
section
variable {P:Program} {C:Ctx} {nt:Nat} {L:Lay} {R:Nat->Prop} {η:Nat->Value} {e:U3} {s:U5} {a:Act} {w:World}
theorem Q5l(h:Conc C nt R η e s a w){o:Oper}{d:Nat}(hd:o.dst=some d)(hdn:d<nt)(hR:¬ R d){p:World->(Nat->Prop)->Value->Prop}{v:Value}{w' : World}(hrun:(execOp a.eval o).run P w=.ok (.value v) w')(hstep:Stp (fun _=>False) w w')(hone:v.oneCell'=true)(hv:∀ b,b ∈ Y9 v->w.heap.size<=b)(hob:∀ X' η',QR w w' (XS C s η) X' -> ORep w' X' η' C v (.ext p)):
  z8 P C nt R η e s a w o { v:=.v (.c (.own d)),new:=some (.ext p) }:=by
 have q:=UI (C:=C) (s:=s) (η:=η) { v:=.v (.c (.own d)),new:=some (.ext p) } o.dst v (fun _=>False) hstep (fun b f=>f.elim) (fun _ _ _ _ b f=>.inl (hv b f)) (fun k o i=>by cases i);refine ⟨v,w',.inl hrun,h.step o.dst (fun x m=>by rw [hd] at m;cases m;exact hdn) _ _ _ (fun _=>False) hstep (fun b f=>f.elim) ?_ (fun k o i=>by cases i) ?_⟩
 .intro r dd l g
  cases l
  rw [hd] at g;cases g
  exact ⟨hR,rfl,by simp [Obj.refs],hob _ _ q,fun b f=>.inl (hv b f)⟩
 .intro _
  refine ⟨.v _ _ (.c _ _ (.own _ _ (by simp [SR.eta,hd]) hone)),fun j n=>?_⟩;simp [AVal.refs,TV.refs,CV.refs] at n
  exact .inr ⟨by simp,by rw [hd,n]⟩
theorem Z3W{α:Type}[Emb α]{X:Nat->Prop}{v:Value}{gs:List (Int×List α)}(h:ARep w X η C v (.v (.c (.d (MP gs))))):
  ∃ (b:Nat) (es:Array MapEntry) (clock:Nat),v=.map (some b)/\¬ X b/\w.heap[b]?=some (.map es clock)/\Stamped es clock/\es.size=gs.length/\∀ (i:Nat) (x:MapEntry) (e:Int×List α),es[i]?=some x->gs[i]?=some e->Pm w X x e:=by
 cases h with|v _ _ h=>cases h with|c _ _ h=>cases h with|d _ _ h=>
 unfold MP at h
 cases h with|mp b es clock _ _ Ze _ h1 h2 h3 h4 h5 h6=>
 refine ⟨b,es,clock,rfl,h1,h2,h3,h4,fun i x e f l=>?_⟩;obtain ⟨g,o⟩:=List.getElem?_eq_some_iff.1 l
 obtain ⟨p,n⟩:=h5 i g;have m:gs.getD i (0,[])=e:=by rw [List.getD_eq_getElem?_getD,l];rfl
 have j:=h6 i g;rw [n] at f
 cases f
 simp only [m] at j ⊢;exact ⟨rfl,j⟩
variable {ops:Array Oper} {ds:List Dir} {k:Nat}
theorem Z4m{α:Type}[Emb α]{gs:List (Int×List α)}{t kT eT:TypeId}(ht:P.underlying t=some (.map kT eT)){d:Nat}{x:Operand}(hk:Qv ds k=rE { v:=.v (.c (.own d)),new:=some (.ext (Zc gs none)) })(hop:(Y8 ops.toList k).op=.range t x)(hdo:(QJ nt (Y8 ops.toList k)&&(QY ops (J0 L ops ops.toList ds e s k) (Y8 ops.toList k)==some true)&&(Y8 ops.toList k).dst==some d)=true)(hx:Y2 (J0 L ops ops.toList ds e s k) x=.v (.c (.d (MP gs)))):K3 P C nt L ops ds e s k:=by
 unfold K3;rw [hk]
 simp only [Bool.and_eq_true,beq_iff_eq] at hdo;obtain ⟨⟨u,I⟩,r⟩:=hdo
 refine Ux u I fun R η U T a w G O N l=>?_
 have D:x ∈ (Y8 ops.toList k).op.operands.toList:=by rw [hop];simp [Op.operands]
 have B:=(J4 l x).1;rw [G x D,hx] at B
 obtain ⟨b,n,f,ev,J,o,z,F,H⟩:=Z3W B;refine Q5l l r (YO u d r) (N d r (by simp)) (v:=.pointer (some ⟨w.heap.size,0,none⟩)) (w':=w.alloc (.mapIter (some b) f #[] f)) ?_ (Stp.alloc _ w _) rfl (fun b M=>by simp [Y9] at M;omega) fun X' η' j=>?_
 .simp [execOp,hop,ev,run_range_map w t kT eT b n f ht o]
 .have h:=j b (J5 o) J
  have g:leftOf n #[]=n:=by simp [leftOf]
  refine .ext _ _ ⟨w.heap.size,b,n,f,f, #[],f,rfl,by show (w.heap.push _)[w.heap.size]?=_;exact Array.getElem?_push_size,h.2,h.1.trans o,z,Nat.le_refl _,Nat.le_refl _,z.1,by rw [g,F],fun i y q A p=>?_,fun q p=>by cases p⟩ (zJ _) fun V m=>?_
  .rw [g] at A
   exact (H i y q A p).mono j
  .simp only [Y9,List.mem_singleton] at m
   subst m;show w.heap.size<(w.heap.push _).size
   rw [Array.size_push];omega
theorem Z4t{α:Type}[Emb α]{gs:List (Int×List α)}{q:Int×List α}{id:Nat}{x:Operand}(hk:Qv ds k=rE { v:=.t [.c (.d (.int .i64 q.1)),.c (.d (DL q.2))] })(hop:(Y8 ops.toList k).op=.entry x)(hdo:(QJ nt (Y8 ops.toList k)&&(QY ops (J0 L ops ops.toList ds e s k) (Y8 ops.toList k)==some true))=true)(hx:Y2 (J0 L ops ops.toList ds e s k) x=.v (.c (.own id)))(hs:QM L ops ops.toList ds e s k id=some (.ext (Zc gs (some q)))):K3 P C nt L ops ds e s k:=by
 unfold K3;rw [hk]
 simp only [Bool.and_eq_true,beq_iff_eq] at hdo;obtain ⟨F,U⟩:=hdo
 refine Ux F U fun R η Y I a w H n hn f=>?_
 have A:x ∈ (Y8 ops.toList k).op.operands.toList:=by rw [hop];simp [Op.operands]
 have i:=(J4 f x).1;rw [H x A,hx] at i
 have i:=WM i;have o:I id=some (.ext (Zc gs (some q))):=(n x A id (by rw [hx];simp [AVal.refs,TV.refs,CV.refs])).trans hs
 have h:=f.st id _ o;generalize hu:η id=u at h
 cases h with
 | ext _ _ hp _ _=>
  obtain ⟨r,b,B,m,g,D,G,rfl,V,Z,J,O,g5,g6,g7,g8,W,l⟩:=hp;obtain ⟨y,N,T,rfl,rfl,p,z⟩:=l q rfl
  refine QU f (YO F) (v:=.tuple #[y.key,y.val]) ?_ ?_ (by simp [AVal.refs,TV.refs,CV.refs])
  .simp [execOp,hop,i,hu,run_entry_at w r b g T B G y V J N ((stamped_iff B G).1 O).2.1]
  .refine .t _ _ rfl fun j M=>?_
   have:j=0\/j=1:=by simp at M;omega
   rcases this with rfl|rfl
   .exact .c _ _ (.d _ _ (by show DRep w _ y.key _;rw [p];exact .int _ _))
   .exact .c _ _ (.d _ _ z)
end
theorem Z0b{es:Array MapEntry}{clock:Nat}(hst:Stamped es clock){seen:Array Nat}{i:Nat}{x:MapEntry}(hx:(leftOf es seen)[i]?=some x):(leftOf es (seen.push x.born)).toList=(leftOf es seen).toList.eraseIdx i:=by
 have c:((leftOf es seen).toList.map (·.born)).Nodup:=by
  unfold leftOf;rw [Array.toList_filter]
  exact (List.filter_sublist.map _).nodup hst.2.1
 have d:(leftOf es (seen.push x.born)).toList=(leftOf es seen).toList.filter fun y=>y.born != x.born:=by
  unfold leftOf;rw [Array.toList_filter,Array.toList_filter,List.filter_filter]
  grind
 rw [d];have b : (leftOf es seen).toList[i]?=some x:=by simpa using hx
 generalize (leftOf es seen).toList=l at c b
 clear hx d
 induction l generalizing i with
 | nil=>simp at b
 | cons y l ih=>
  rw [List.map_cons,List.nodup_cons] at c
  cases i with
  | zero=>
   simp at b
   subst b;rw [List.eraseIdx_zero,List.filter_cons,if_neg (by simp)]
   rw [List.tail_cons];refine List.filter_eq_self.2 fun z f=>?_
   grind
  | succ i=>
   grind
noncomputable def KT{α R:Type}(gs:List α)(stop:Option R)(go:α->List α->Option R):Option R:=
 open Classical in
 match gs with
 | []=>stop
 | g::l=>if h:∃ r,∀ i (hi:i<(g::l).length),go (g::l)[i] ((g::l).eraseIdx i)=some r then some h.choose else none
theorem Q9B{α R:Type}{gs:List α}{stop:Option R}{go:α->List α->Option R}{r:R}(h:KT gs stop go=some r)(hg:gs=[]):stop=some r:=by subst hg;exact h
theorem Q9E{α R:Type}{gs:List α}{stop:Option R}{go:α->List α->Option R}{r:R}(h:KT gs stop go=some r){x:α}{l:List α}(hx:∃ i,∃ hi:i<gs.length,x=gs[i]/\l=gs.eraseIdx i):go x l=some r:=by
 obtain ⟨i,hi,rfl,rfl⟩:=hx
 cases gs with
 | nil=>exact absurd hi (Nat.not_lt_zero _)
 | cons g l=>
  unfold KT at h;simp only at h
  split at h
  all_goals grind
theorem Q9D{α R:Type}{stop:Option R}{go:α->List α->Option R}:KT [] stop go=stop:=rfl
theorem Q9C{α R:Type}{gs:List α}{stop:Option R}{go:α->List α->Option R}{r:R}(hne:gs≠[])(h:∀ i (hi:i<gs.length),go gs[i] (gs.eraseIdx i)=some r):KT gs stop go=some r:=by
 cases gs with
 | nil=>exact absurd rfl hne
 | cons g l=>
  unfold KT;simp only
  have b:∃ r,∀ i (hi:i<(g::l).length),go (g::l)[i] ((g::l).eraseIdx i)=some r:=⟨r,h⟩;rw [dif_pos b]
  have c:=b.choose_spec 0 (by simp)
  grind
section
variable {P:Program} {C:Ctx} {nt:Nat} {L:Lay} {pins:List Nat} {E:List (Nat×AVal)} {S:List (Nat×Obj)} {Q:Exit->Act->World->Prop}
theorem Z4J{α:Type}[Emb α]{gs:List (Int×List α)}{id it t5 t6 t7 ty6 ty7:Nat}{p6 p7:String}{af6 af7:Array Edge}(hE:lk E t5=.v (.c (.own it)))(h6:(E.map (·.1)).contains t6=false)(hn:(Nat.blt t6 nt&&Nat.blt t7 nt && !(t6==t7))=true)(stop:gs=[]->Kn C nt ((t7,vb false)::E) ((it,.ext (Zc gs none))::S) (Q .normal))(go:∀ q l,(∃ i,∃ hi:i<gs.length,q=gs[i]/\l=gs.eraseIdx i)->Kn C nt ((t7,vb true)::E) ((it,.ext (Zc l (some q)))::S) (Q .normal)):
  AW P C nt (.region id #[{ dst:=some t6,op:=.next (.tmp t5) false,type:=ty6,pos:=p6,after:=af6,guard:=none }, { dst:=some t7,op:=.extract (.tmp t6) 0,type:=ty7,pos:=p7,after:=af7,guard:=none }] false) E ((it,.ext (Zc gs none))::S) Q:=by
 simp only [Bool.and_eq_true,Nat.blt_eq,Bool.not_eq_true',beq_eq_false_iff_ne] at hn;obtain ⟨⟨n6,n7⟩,e9⟩:=hn
 intro R η a w hc;refine wp_region_list ?_
 have D:ls ((it,.ext (Zc gs none))::S) it=some (.ext (Zc gs none)):=by rw [Qk,if_pos rfl]
 have e5:a.tmps.getD t5 undef=η it:=by have:=hc.ev t5;rw [hE] at this;exact WM this
 have l6:lk E t6=.any:=by
  unfold lk
  grind
 have a3:=hc.st it _ D;have b3:∀ b,b ∈ Y9 (η it)->Own (ls ((it,.ext (Zc gs none))::S)) η b:=fun b hb=>⟨it,_,D,hb⟩
 have e1:∀ x,x ∈ Y9 (η it)->C.M x\/C.w0.heap.size<=x:=fun x m=>by
  rcases hc.ow it _ x D m with ⟨h1,_⟩|h1
  .cases h1
  .exact h1
 generalize hu:η it=u at a3
 cases a3 with
 | ext _ _ hp _ hlt=>
 obtain ⟨r,b,Z,g,f,d,c0,rfl,g1,g2,g3,g4,g5,g6,g7,g8,g9,_⟩:=hp;have e6:r≠b:=fun h=>by rw [h,g3] at g1;cases g1
 have a5:∀ (H:Bool) (Y : List (Int×List α)) (a0:Option (Int×List α)) (I:World) (G:Array Value) (R1:Nat->Prop) (η1:Nat->Value),G.getD 0 undef=.bool H->G.size≠0 ->
   Conc C nt R1 η1 (Zu (some t6) .any (lk E)) (ls ((it,.ext (Zc Y a0))::S)) (a.put (some t6) (.tuple G)) I ->
   Kn C nt ((t7,vb H)::E) ((it,.ext (Zc Y a0))::S) (Q .normal) ->
   wpList P #[{ dst:=some t6,op:=.next (.tmp t5) false,type:=ty6,pos:=p6,after:=af6,guard:=none }, { dst:=some t7,op:=.extract (.tmp t6) 0,type:=ty7,pos:=p7,after:=af7,guard:=none }] Q [{ dst:=some t7,op:=.extract (.tmp t6) 0,type:=ty7,pos:=p7,after:=af7,guard:=none }] (a.put (some t6) (.tuple G)) I:=by
  intro H Y a0 I G R1 η1 b9 b7 n kn;refine wpList_plain rfl fun K hK=>?_
  have hv:(a.put (some t6) (.tuple G)).tmps.getD t6 undef=.tuple G:=by rw [qM a _ _ _ (by rw [hc.sz];intro x m;cases m;exact n6),if_pos rfl]
  have h0:G[0]?=some (.bool H):=by
   have:0<G.size:=Nat.pos_of_ne_zero b7
   rw [Array.getD_eq_getD_getElem?,Array.getElem?_eq_getElem this] at b9
   grind
  have d0:(execOp (a.put (some t6) (.tuple G)).eval ({ dst:=some t7,op:=.extract (.tmp t6) 0,type:=ty7,pos:=p7,after:=af7,guard:=none }:Oper)).run P I=.ok (.value (.bool H)) I:=by
   simp [execOp,Act.eval,hv,Instr.extract,h0]
  refine Pq d0 (hK _ _ ?_);have a7:=n.val (some t7) (fun x m=>by cases m;exact n7) (vb H) (.bool H) fun _=>⟨Cv _ _,fun j hj=>by cases hj⟩
  have he:SR.env { v:=vb H } (some t7) (Zu (some t6) .any (lk E))=lk ((t7,vb H)::E):=by
   funext t
   simp only [SR.env,Zu];rw [Di]
   grind
  rw [he] at a7;exact kn _ _ _ _ a7
 refine wpList_plain rfl fun K hK=>?_
 have O:∀ {v:Value} {w' : World},(Instr.next (.pointer (some ⟨r,0,none⟩)) false ty6).run P w=.ok v w' ->
   (execOp a.eval ({ dst:=some t6,op:=.next (.tmp t5) false,type:=ty6,pos:=p6,after:=af6,guard:=none }:Oper)).run P w=.ok (.value v) w':=fun N=>by
  simp [execOp,Act.eval,e5,hu,N]
 rcases run_next_at (P:=P) w ty6 r b f c0 d Z g g1 g3 g7 g5 with ⟨h0,B⟩|⟨y,hy,I,F,B⟩
 .have c7:gs=[]:=List.eq_nil_of_length_eq_zero (by rw [<-g8,h0])
  refine Pq (O B) (hK _ _ ?_);have n:=hc.val (some t6) (fun x m=>by cases m;exact n6) .any (.tuple #[.bool false]) fun _=>⟨.any _,by simp [AVal.refs]⟩
  exact a5 false gs none w #[.bool false] R η rfl (by simp) n (stop c7)
 .obtain ⟨i,hi,b8⟩:=List.getElem_of_mem hy
  have c6 : i<(leftOf Z d).size:=by simpa using hi
  have U : (leftOf Z d)[i]?=some y:=by rw [Array.getElem?_eq_getElem c6];simpa using b8
  have a4:i<gs.length:=by omega
  have c9:=g9 i y gs[i] U (List.getElem?_eq_getElem a4);have b0:y ∈ Z.toList:=by
   have:y ∈ (leftOf Z d).toList:=hy
   unfold leftOf at this
   grind
  refine Pq (O B) (hK _ _ ?_);have W:I.heap=w.heap:=by rcases F with rfl|rfl <;> rfl
  have a8:I.heap[r]?=some (.mapIter (some b) f d c0):=by rw [W];exact g1
  have A:Stp (fun x=>x=r) w (ChangeMaps.setBlock I r (.mapIter (some b) f (d.push y.born) g)):=by
   refine ⟨?_,?_,?_,?_,fun x m hn=>?_,?_⟩
   .rcases F with rfl|rfl <;> rfl
   .rcases F with rfl|rfl <;> rfl
   .rcases F with rfl|rfl <;> rfl
   .simp [ChangeMaps.setBlock,W]
   .exact ((heap_set a8).2 x hn).trans (by rw [W])
   .rcases F with rfl|rfl
    .exact Nat.le_refl _
    .exact Nat.le_succ _
  have a2:r ∈ Y9 (η it):=by rw [hu];simp [Y9]
  have c4:∀ (p:World->(Nat->Prop)->Value->Prop),SR.sto { v:=.any,upd:=some (it,.ext p) } (some t6) (ls ((it,.ext (Zc gs none))::S))=ls ((it,.ext p)::S):=fun p=>by
   funext z
   simp only [SR.sto,List.contains_nil,Bool.false_eq_true,if_false];rw [Qk,Qk]
   grind
  have T:SR.eta { v:=.any,upd:=some (it,.ext (Zc (gs.eraseIdx i) (some gs[i]))) } (some t6) (.tuple #[.bool true,y.key,y.val]) η=η:=by funext z;simp [SR.eta]
  have hk:=UI (C:=C) (s:=ls ((it,.ext (Zc gs none))::S)) (η:=η) { v:=.any,upd:=some (it,.ext (Zc (gs.eraseIdx i) (some gs[i]))) } (some t6) (.tuple #[.bool true,y.key,y.val]) (fun x=>x=r) A (fun x m=>by subst m;exact b3 _ a2) (fun _ _ N=>by cases N)
   (fun k o N=>by cases N;rw [D];simp)
  have n:=hc.step (some t6) (fun x m=>by cases m;exact n6) { v:=.any,upd:=some (it,.ext (Zc (gs.eraseIdx i) (some gs[i]))) } (.tuple #[.bool true,y.key,y.val]) _ (fun x=>x=r) A
   (fun x m=>by
    grind)
   (fun _ _ N=>by cases N)
   (fun k o N=>by
    cases N
    refine ⟨⟨_,D,rfl⟩,rfl,by simp,by simp [Obj.refs],?_⟩;rw [T] at hk ⊢
    rw [hu];have b2:=hk b (J5 g3) g2
    have b4:=Z0b g4 U;refine .ext _ _ ⟨r,b,Z,g,f,d.push y.born,g,rfl,(heap_set a8).1,b2.2,b2.1.trans g3,g4,g6,g6,g7,?_,fun j x q m V=>?_,fun q V=>?_⟩ (zJ _) fun x m=>?_
    .have:=congrArg List.length b4
     grind
    .have J:(leftOf Z (d.push y.born)).toList[j]?=some x:=by simpa using m
     rw [b4,List.getElem?_eraseIdx] at J;rw [List.getElem?_eraseIdx] at V
     split at J
     .rename_i hj
      rw [if_pos hj] at V;exact (g9 j x q (by simpa using J) V).mono hk
     .rename_i hj
      rw [if_neg hj] at V;exact (g9 (j+1) x q (by simpa using J) V).mono hk
    .cases V
     exact ⟨y,b0,d,rfl,rfl,c9.mono hk⟩
    .simp only [Y9,List.mem_singleton] at m
     subst m;exact Nat.lt_of_lt_of_le (J5 g1) A.size)
   (fun _=>⟨.any _,by simp [AVal.refs]⟩)
  rw [c4,T] at n;have he:SR.env { v:=.any,upd:=some (it,.ext (Zc (gs.eraseIdx i) (some gs[i]))) } (some t6) (lk E)=Zu (some t6) .any (lk E):=rfl
  rw [he] at n;exact a5 true (gs.eraseIdx i) (some gs[i]) _ #[.bool true,y.key,y.val] _ _ rfl (by simp) n (go gs[i] (gs.eraseIdx i) ⟨i,a4,rfl,rfl⟩)
end
end
section
open Go.MapKept
section
variable {α:Type} [Emb α]
def G4(y:Int)(gs:List (Int×List α)):Nat:=gs.findIdx fun e=>e.1==y
def gApp(y:Int)(m:List α)(gs:List (Int×List α)):List (Int×List α):=
 match gs[G4 y gs]? with
 | some e=>gs.set (G4 y gs) (e.1,e.2++m)
 | none=>gs++[(y,m)]
theorem JM{β:Type}(y:Int)(gs:List (Int×List β)):(G4 y gs<gs.length/\∃ e,gs[G4 y gs]?=some e/\e.1=y)\/(G4 y gs=gs.length/\∀ e ∈ gs,e.1≠y):=by
 unfold G4;rcases Nat.lt_or_ge (gs.findIdx fun e=>e.1==y) gs.length with h|h
 .left
  refine ⟨h,_,List.getElem?_eq_getElem h,?_⟩
  grind
 all_goals grind
theorem zc{β:Type}{gs:List (Int×List β)}(hnd:(gs.map (·.1)).Nodup){i j:Nat}{a b:Int×List β}(ha:gs[i]?=some a)(hb:gs[j]?=some b)(h:a.1=b.1):i=j:=by
 obtain ⟨c,ha⟩:=List.getElem?_eq_some_iff.1 ha;obtain ⟨d,hb⟩:=List.getElem?_eq_some_iff.1 hb
 exact (List.getElem_inj (h₀:=by simpa using c) (h₁:=by simpa using d) hnd).1 (by simp [ha,hb,h])
def VP(w:World)(X:Nat->Prop)(v:Value)(l:List α):Prop:=∀ η C,ORep w X η C v (AO l)
def ZN(b:Nat)(rs:List Value):Array Value:=(Value.map (some b)::(rs++[.slice none 0 0])).toArray
structure GrpAt (gs:List (Int×List α)) (pend:Option Nat) (w:World) (X:Nat->Prop) (b:Nat) (rs:List Value) (ents:Array MapEntry) (clock:Nat):Prop where
 heap:w.heap[b]?=some (.map ents clock)
 st:Stamped ents clock
 len:rs.length=gs.length
 nd:(gs.map (·.1)).Nodup
 rows:∀ (i:Nat) (e:Int×List α) (v:Value),gs[i]?=some e->rs[i]?=some v->VP w X v e.2
 apart:∀ (i j:Nat) (u v:Value) (x:Nat),rs[i]?=some u->rs[j]?=some v->x ∈ Y9 u->x ∈ Y9 v->i=j
 off:∀ (i:Nat) (v:Value),rs[i]?=some v->b ∉ Y9 v
 ents:match pend with
  | none=>ents.size=gs.length/\∀ (i:Nat) (e:Int×List α) (v:Value),gs[i]?=some e->rs[i]?=some v->∃ bo,ents[i]?=some ⟨.int .i64 e.1,v,bo⟩
  | some j=>j<gs.length/\(ents.size=gs.length\/(ents.size+1=gs.length/\j=ents.size))/\∀ (i:Nat) (e:Int×List α) (v:Value),i<ents.size->gs[i]?=some e->rs[i]?=some v->∃ u bo,ents[i]?=some ⟨.int .i64 e.1,u,bo⟩/\(i≠j->u=v)
def Zj(gs:List (Int×List α))(pend:Option Nat)(w:World)(X:Nat->Prop)(us:List Value)(v:Value):Prop:=
 ∃ b rs ents clock,us=[.map (some b)]/\v=.agg (ZN b rs)/\GrpAt gs pend w X b rs ents clock
theorem VP.form{w:World}{X:Nat->Prop}{v:Value}{l:List α}(h:VP w X v l):∃ ad n cap,v=.slice ad n cap/\Pb v=Y9 v/\v.oneCell'=true:=by
 have:=h (fun _=>undef) (Qr [] w X fun _=>undef)
 unfold AO at this;generalize l.length=n at this
 cases this with
 | nil ad=>exact ⟨_,_,_,rfl,by cases ad <;> rfl,rfl⟩
 | arr=>exact ⟨_,_,_,rfl,rfl,rfl⟩
theorem VP.mono{w w' : World}{X X' : Nat->Prop}{v:Value}{l:List α}(h:VP w X v l)(hk:QR w w' X X')(hb:∀ b ∈ Y9 v,w'.heap[b]?=w.heap[b]?):VP w' X' v l:=
 fun η C=>(h η C).mono hk (fun _ _=>rfl) hb
theorem VP.lt{w:World}{X:Nat->Prop}{v:Value}{l:List α}(h:VP w X v l){b:Nat}(hb:b ∈ Y9 v):b<w.heap.size:=
 (h (fun _=>undef) (Qr [] w X fun _=>undef)).lt hb
theorem Wc{b x:Nat}{rs:List Value}(h1:∀ v ∈ rs,Pb v=Y9 v):x ∈ Y9 (.agg (ZN b rs))↔x=b\/∃ v ∈ rs,x ∈ Y9 v:=by
 show x ∈ (Value.map (some b)::(rs++[.slice none 0 0])).flatMap Pb↔_;rw [List.flatMap_cons,List.mem_append,List.flatMap_append,List.mem_append,List.mem_flatMap,List.mem_flatMap]
 constructor
 .rintro (h|⟨v,hv,h⟩|⟨v,hv,h⟩)
  .exact .inl (List.mem_singleton.1 h)
  .grind
  .rw [List.mem_singleton.1 hv] at h;cases h
 .rintro (h|⟨v,hv,h⟩)
  .exact .inl (List.mem_singleton.2 h)
  all_goals grind
theorem GrpAt.one{gs:List (Int×List α)}{pend:Option Nat}{w:World}{X:Nat->Prop}{b:Nat}{rs:List Value}{ents:Array MapEntry}{clock:Nat}(h:GrpAt gs pend w X b rs ents clock):∀ v ∈ rs,Pb v=Y9 v:=fun v f=>by
 obtain ⟨i,d,rfl⟩:=List.getElem_of_mem f;have c : i<gs.length:=by rw [<-h.len];exact d
 obtain ⟨_,_,_,_,g,_⟩:=(h.rows i gs[i] rs[i] (List.getElem?_eq_getElem c) (List.getElem?_eq_getElem d)).form;exact g
theorem GrpAt.mono{gs:List (Int×List α)}{pend:Option Nat}{w w' : World}{X X' : Nat->Prop}{b:Nat}{rs:List Value}{ents:Array MapEntry}{clock:Nat}(h:GrpAt gs pend w X b rs ents clock)(hk:QR w w' X X')(hb:∀ x ∈ Y9 (.agg (ZN b rs)),w'.heap[x]?=w.heap[x]?):GrpAt gs pend w' X' b rs ents clock:=
 ⟨(hb b ((Wc h.one).2 (.inl rfl))).trans h.heap,h.st,h.len,h.nd,fun i e v f c=>(h.rows i e v f c).mono hk fun x d=>hb x ((Wc h.one).2 (.inr ⟨v,List.mem_of_getElem? c,d⟩)),h.apart,h.off,h.ents⟩
theorem zT{gs:List (Int×List α)}{pend:Option Nat}{us:List Value}(v:Value):Pi (fun w X v=>Zj gs pend w X us v) v:=by
 intro w m X X' j l h;obtain ⟨b,i,d,c,f,rfl,g⟩:=h
 exact ⟨b,i,d,c,f,rfl,g.mono j l⟩
theorem GrpAt.lt{gs:List (Int×List α)}{pend:Option Nat}{w:World}{X:Nat->Prop}{b:Nat}{rs:List Value}{ents:Array MapEntry}{clock:Nat}(h:GrpAt gs pend w X b rs ents clock){x:Nat}(hx:x ∈ Y9 (.agg (ZN b rs))):x<w.heap.size:=by
 rcases (Wc h.one).1 hx with rfl|⟨v,f,hx⟩
 .exact J5 h.heap
 .obtain ⟨i,d,rfl⟩:=List.getElem_of_mem f
  have c : i<gs.length:=by rw [<-h.len];exact d
  exact (h.rows i gs[i] rs[i] (List.getElem?_eq_getElem c) (List.getElem?_eq_getElem d)).lt hx
end
def DR(extra:List Nat)(ops:Array Oper)(o:Oper)(e:U3)(r:SR):Eff:= { rd:=QC o++Qp ops o,ids:=WA e o++extra,v:=r.v,l:=r.l o.dst,news:=r.nw o.dst }
def xE(extra:List Nat)(r:SR):Array Oper->Oper->U3->Eff:=fun ops o e=>DR extra ops o e r
section
variable {P:Program} {C:Ctx} {nt:Nat} {L:Lay} {ops:Array Oper} {ds:List Dir} {e:U3} {s:U5}
def Q2o(P:Program)(C:Ctx)(nt:Nat)(R:Nat->Prop)(η:Nat->Value)(e:U3)(s:U5)(a:Act)(w:World)(o:Oper)(r:SR):Prop:=
 ∃ v u w',((execOp a.eval o).run P w=.ok (.value v) w' \/ ((execOp a.eval o).run P w=.ok .skip w' /\ v=undef)) /\
  Conc C nt (r.rng o.dst R) (r.eta o.dst u η) (r.env o.dst e) (r.sto o.dst s) (a.put o.dst v) w'
theorem z8.g{R:Nat->Prop}{η:Nat->Value}{a:Act}{w:World}{o:Oper}{r:SR}(h:z8 P C nt R η e s a w o r):Q2o P C nt R η e s a w o r:=by
 obtain ⟨v,d,b,c⟩:=h;exact ⟨v,v,d,b,c⟩
theorem FK(extra:List Nat){o:Oper}(hdo:QJ nt o=true){r:SR}(hg:QY ops e o=some true)(hsnd:∀ (R:Nat->Prop) (η:Nat->Value) (e0:U3) (s0:U5) (a:Act) (w:World),(∀ x ∈ o.op.operands.toList,Y2 e0 x=Y2 e x)->(∀ x ∈ o.op.operands.toList,∀ i ∈ (Y2 e x).refs,s0 i=s i)->(∀ i ∈ extra,s0 i=s i)->(∀ d,o.dst=some d->r.new≠none->¬ R d) ->
   Conc C nt R η e0 s0 a w->Q2o P C nt R η e0 s0 a w o r):Ws P C nt ops o (DR extra ops o e r) e s:=by
 intro R η e0 s0 a w q c G b K Q N;have h:∀ x ∈ o.op.operands.toList,Y2 e0 x=Y2 e x:=by
  intro x h
  cases x with
  | tmp t=>exact q t (List.mem_append.2 (.inl (List.mem_filterMap.2 ⟨_,h,rfl⟩)))
  | const v=>rfl
  | global g=>rfl
  | func f=>rfl
 have B:∀ x ∈ o.op.operands.toList,∀ i ∈ (Y2 e x).refs,s0 i=s i:=fun x h i I=>c i (List.mem_append_left _ (List.mem_flatMap.2 ⟨x,h,I⟩))
 have T:=Uv (e:=e) b (fun t O=>q t (List.mem_append.2 (.inr O))) hg;rw [if_pos T]
 have M:=hsnd R η e0 s0 a w h B (fun i I=>c i (List.mem_append_right _ I)) (fun d U V=>G d (by
  obtain ⟨W,H⟩:=Option.ne_none_iff_exists'.1 V;simp [DR,SR.nw,H,U])) b
 have p:∀ η' z n,Conc C nt (r.rng o.dst R) η' (r.env o.dst e0) (r.sto o.dst s0) z n -> K z n:=fun η' z n A=>by
  refine N η' z n ?_;have D:=A.wider (FN r o.dst R)
  have j:Zy (DR extra ops o e r).l s0=r.sto o.dst s0:=FM r o.dst s0;rw [j]
  have m:Zu o.dst (DR extra ops o e r).v e0=r.env o.dst e0:=rfl;rw [m]
  exact D
 obtain ⟨v,u,n,F|⟨F,rfl⟩,J⟩:=M
 .exact Pq F (p _ _ _ J)
 .exact xa F (p _ _ _ J)
end
section
variable {P:Program} {C:Ctx} {nt:Nat} {L:Lay} {R:Nat->Prop} {η:Nat->Value} {e:U3} {s:U5} {a:Act} {w:World}
variable {α:Type} [Emb α]
theorem Tt(h:Conc C nt R η e s a w){g base:Nat}{gs:List (Int×List α)}{pend:Option Nat}(hs:s g=some (.exr [base] (Zj gs pend))):
  ∃ b rs ents clock,η base=.map (some b)/\η g=.agg (ZN b rs)/\GrpAt gs pend w (XS C s η) b rs ents clock:=by
 have c:=h.st g _ hs;generalize hu:η g=u at c
 cases c with
 | exr _ _ _ hp _ _=>
  obtain ⟨b,rs,ents,clock,d,f,i⟩:=hp
  grind
theorem Q6S(hL:Qa P L)(h:Conc C nt R η e s a w){o:Oper}{d:Nat}(hd:o.dst=some d)(hdn:d<nt){t:TypeId}{tx ty:Nat}(hne:tx≠ty)(hop:o.op=.call { callee:=.builtin .append,args:= #[.tmp tx,.tmp ty],argTypes:= #[t,t] }){ti:TI}(ht:L t=some ti){el:Nat}(hk:ti.kind=.slice el){te:TI}(hte:L el=some te)(hes:te.size=Emb.es α){l m:List α}(hx:VP w (XS C s η) (a.tmps.getD tx undef) l)(hX:∀ b ∈ Y9 (a.tmps.getD tx undef),XS C s η b)(hy:e ty=AL m)(hby:te.bytes<=8192)(hzl:te.zero.length=te.size)(hlim:l.length+m.length<=Y5):
  ∃ v w',(execOp a.eval o).run P w=.ok (.value v) w' /\ Stp (fun b=>b ∈ Y9 (a.tmps.getD tx undef)) w w' /\ (∀ b ∈ Y9 v,b ∈ Y9 (a.tmps.getD tx undef)\/w.heap.size<=b) /\
   ∀ X',(∀ b,b<w'.heap.size->X' b->(XS C s η b/\b ∉ Y9 (a.tmps.getD tx undef))\/b ∈ Y9 v)->VP w' X' v (l++m):=by
 generalize hv1:a.tmps.getD tx undef=v1 at *;have J:∀ b,XS C s η b->b<w.heap.size:=by
  rintro b (⟨hx,_⟩|hx)
  .exact Nat.lt_of_lt_of_le (h.ok.lt b hx) h.fr.size
  .exact h.lt hx
 let C0:Ctx:= { w0:=w,D:=fun b=>b ∈ Y9 v1,M:=fun b=>b ∈ Y9 v1,X:=XS C s η,pin:=fun _=>none }
 let η0:Nat->Value:=fun _=>v1
 let s0:U5:=fun i=>if i=nt then some (AO l) else none
 let e0:U3:=fun t=>if t=tx then .v (.c (.own nt)) else if t=ty then AL m else .any
 have H:XS C0 s0 η0=XS C s η:=by
  funext b
  apply propext;constructor
  .rintro (⟨T,_⟩|⟨i,A,p,r⟩)
   all_goals grind
  .intro r
   rcases Classical.em (b ∈ Y9 v1) with U|U
   .exact .inr ⟨nt,AO l,by simp [s0],U⟩
   .exact .inl ⟨r,U⟩
 have I:∀ i A,s0 i=some A -> i=nt/\A=AO l:=fun i A p=>by
  grind
 have a1:Conc C0 nt (fun i=>i=nt) η0 e0 s0 a w:=by
  refine ⟨⟨fun b r=>r,fun b r=>hX b r,J⟩,h.df,h.sz,fun t=>?_,fun t i p=>?_,fun i A p=>?_,fun i A p=>?_,fun i j b p V _ _=>?_,fun i A b p r=>?_,Stp.refl _ _,fun i v p=>by cases p⟩
  .rw [H]
   simp only [e0];split
   .rename_i ht;subst ht
    rw [hv1];exact .v _ _ (.c _ _ (.own _ _ rfl hx.form.choose_spec.choose_spec.choose_spec.2.2))
   .split
    .rename_i _ ht;subst ht
     have:=h.ev t
     rw [hy] at this;unfold AL at this ⊢
     generalize a.tmps.getD t undef=q at this ⊢
     cases this with|v _ _ hh=>cases hh with|c _ _ hh=>cases hh with|d _ _ hh=>exact .v _ _ (.c _ _ (.d _ _ hh))
    .exact .any _
  .simp only [e0] at p
   split at p
   .simpa [AVal.refs,TV.refs,CV.refs] using p
   .split at p
    .simp [AL,AVal.refs,TV.refs,CV.refs] at p
    .simp [AVal.refs] at p
  .obtain ⟨_,rfl⟩:=I i A p
   rw [H];exact hx _ _
  .obtain ⟨rfl,rfl⟩:=I i A p
   exact ⟨rfl,fun j V=>by simp [AO,Obj.refs] at V⟩
  all_goals grind
 have hR:¬ (fun i=>i=nt) d:=by show ¬ d=nt;omega
 obtain ⟨v,w',Y,x⟩:=FP (c:=True) hL a1 hd hdn hR hop ht hk hte (k:=m.length) (g:=LF m) (by simp [Y2,e0,Ne.symm hne,AL,DL,Vt])
  (del:=[nt]) (n:=l.length) (f:=LF l) (c0:=True) (by simp [Y2,e0,UR,s0,AO,hes]) trivial hby hzl hlim (fun j V=>by rw [hes];exact Emb.len _)
 have F:(SR.sto { v:=.v (.c (.own d)),del:=[nt],new:=some (.arr te.size (l.length+m.length) (QF l.length (LF l) (LF m))),cond:=True } o.dst s0)=fun i=>if i=d then some (.arr te.size (l.length+m.length) (QF l.length (LF l) (LF m))) else none:=by
  funext i
  simp only [SR.sto,hd]
  grind
 rw [F] at x;have B:(fun i=>if i=d then some (Obj.arr te.size (l.length+m.length) (QF l.length (LF l) (LF m))) else none) d=some (.arr te.size (l.length+m.length) (QF l.length (LF l) (LF m))):=by simp
 have z:=x.st d _ B;have u:SR.eta { v:=.v (.c (.own d)),del:=[nt],new:=some (.arr te.size (l.length+m.length) (QF l.length (LF l) (LF m))),cond:=True } o.dst v η0 d=v:=by simp [SR.eta,hd]
 have N:∀ b,b ∈ Y9 v->b ∈ Y9 v1\/w.heap.size<=b:=fun b r=>by
  rcases x.ow d _ b B (by rw [u];exact r) with ⟨T,_⟩|T|T
  all_goals grind
 rw [u] at z;have G:(execOp a.eval o).run P w=.ok (.value v) w':=by
  rcases Y with Y|⟨_,rfl⟩
  .exact Y
  .have hu:(undef:Value)=.tuple #[]:=rfl
   rw [hu] at z;cases z
 refine ⟨v,w',G,x.fr,N,fun X' a3=>fun η2 C2=>?_⟩
 .have W:J1 (.arr te.size (l.length+m.length) (QF l.length (LF l) (LF m))) (AO (l++m)):=by rw [hes];exact J1.is (Is.app (Is.refl l) (Is.refl m))
  have h2:=W.1 _ _ _ _ _ z;have h3:ORep w' (XS C0 (fun i=>if i=d then some (Obj.arr te.size (l.length+m.length) (QF l.length (LF l) (LF m))) else none) (SR.eta { v:=.v (.c (.own d)),del:=[nt],new:=some (.arr te.size (l.length+m.length) (QF l.length (LF l) (LF m))),cond:=True } o.dst v η0)) η2 C2 v (AO (l++m)):=by
   unfold AO at h2 ⊢;generalize (l++m).length=nn at h2 ⊢
   cases h2 with
   | nil ad=>exact .nil ad _ _
   | arr b' _ cap' _ c' e' _ q1 q2 q3 q4 q5 q6 q7=>exact .arr b' _ cap' _ c' e' _ q1 q2 q3 q4 q5 q6 q7
  refine h3.mono (fun b r a0=>⟨rfl,fun O=>a0 ?_⟩) (fun _ _=>rfl) fun _ _=>rfl
  rcases a3 b r O with ⟨Z,h5⟩|Z
  .exact .inl ⟨Z,h5⟩
  .exact .inr ⟨d,_,B,by rw [u];exact Z⟩
theorem Dx(b:Nat)(rs:List Value)(i:Nat):(ZN b rs)[1+i]?=(rs++[.slice none 0 0])[i]?:=by
 simp [ZN,Nat.add_comm 1 i]
theorem GrpAt.find{gs:List (Int×List α)}{X:Nat->Prop}{b:Nat}{rs:List Value}{ents:Array MapEntry}{clock:Nat}(h:GrpAt gs none w X b rs ents clock)(y:Int):
  (Instr.findNow (.int .i64) (.int .i64 y) ents.toList 0=some none/\G4 y gs=gs.length) \/
  ∃ x:MapEntry,Instr.findNow (.int .i64) (.int .i64 y) ents.toList 0=some (some (G4 y gs,x.val))/\rs[G4 y gs]?=some x.val/\G4 y gs<gs.length:=by
 obtain ⟨G,c⟩:=h.ents;have g:∀ (j:Nat) (x:MapEntry),ents[j]?=some x->∃ e v,gs[j]?=some e/\rs[j]?=some v/\x.key=.int .i64 e.1/\x.val=v:=fun j x p=>by
  have u:j<ents.size:=(Array.getElem?_eq_some_iff.1 p).1;have D:j<gs.length:=by omega
  have z:j<rs.length:=by rw [h.len];exact D
  obtain ⟨I,F⟩:=c j gs[j] rs[j] (List.getElem?_eq_getElem D) (List.getElem?_eq_getElem z)
  grind
 have q:∀ x ∈ ents.toList,IsKey (.int .i64) x.key:=fun x p=>by
  obtain ⟨j,u,rfl⟩:=List.getElem_of_mem p;obtain ⟨e,v,_,_,l,_⟩:=g j _ (by simp at u ⊢;exact Array.getElem?_eq_getElem u)
  simp only [Array.getElem_toList] at l ⊢;rw [l];rfl
 rcases findNow_spec (d:=.int .i64) (k:=.int .i64 y) rfl ents.toList 0 q with ⟨n,A⟩|⟨j,x,n,A,N⟩
 .left
  refine ⟨n,?_⟩;rcases JM y gs with ⟨i,e,o,f⟩|⟨J,_⟩
  .exfalso
   have z:G4 y gs<rs.length:=by rw [h.len];exact i
   obtain ⟨I,F⟩:=c _ e _ o (List.getElem?_eq_getElem z);exact A _ (by have:=Array.mem_of_getElem? F;simpa using this) (by rw [f])
  .exact J
 .right
  obtain ⟨e,v,o,M,l,B⟩:=g j x (by simpa using A);rw [N] at l
  have f:e.1=y:=by cases l;rfl
  have r:G4 y gs=j:=by
   rcases JM y gs with ⟨i,O,t,m⟩|⟨_,H⟩
   .exact zc h.nd t o (by rw [f,m])
   all_goals grind
  rw [Nat.zero_add] at n;rw [r]
  exact ⟨x,n,by rw [B];exact M,(List.getElem?_eq_some_iff.1 o).1⟩
variable {ops:Array Oper} {ds:List Dir} {k:Nat}
def XM(ops:Array Oper)(nt:Nat)(e:U3)(o:Oper):Bool:=QJ nt o&&(QY ops e o==some true)
theorem Z4q{gs:List (Int×List α)}{base g:Nat}{t kT eT:TypeId}{m x:Operand}{y:Int}(ht:P.underlying t=some (.map kT eT))(hkT:P.underlying kT=some (.int .i64))(hz:∀ w,(zeroValue eT).run P w=.ok (.slice none 0 0) w)(hk:Qv ds k=xE [g] { v:=.v (.c (.cp g (1+G4 y gs))) })(hop:(Y8 ops.toList k).op=.lookup t m x false)(hdo:XM ops nt (J0 L ops ops.toList ds e s k) (Y8 ops.toList k)=true)(hm:Y2 (J0 L ops ops.toList ds e s k) m=.v (.c (.own base)))(hx:Y2 (J0 L ops ops.toList ds e s k) x=vi y)(hs:QM L ops ops.toList ds e s k g=some (.exr [base] (Zj gs none))):K3 P C nt L ops ds e s k:=by
 unfold K3;rw [hk]
 simp only [XM,Bool.and_eq_true,beq_iff_eq] at hdo;obtain ⟨z,O⟩:=hdo
 refine FK [g] z O fun R η Y T a w G W D Z f=>z8.g ?_
 have N:m ∈ (Y8 ops.toList k).op.operands.toList:=by rw [hop];simp [Op.operands]
 have M:x ∈ (Y8 ops.toList k).op.operands.toList:=by rw [hop];simp [Op.operands]
 have n:=(J4 f m).1;rw [G m N,hm] at n
 have n:=WM n;have r:=(J4 f x).1
 rw [G x M,hx] at r;have r:=xd r
 have u:T g=some (.exr [base] (Zj gs none)):=(D g (by simp)).trans hs;obtain ⟨b,U,i,A,V,I,o⟩:=Tt f u
 rw [V] at n;have h:∀ v,(v=.slice none 0 0/\G4 y gs=gs.length/\Instr.findNow (.int .i64) (.int .i64 y) i.toList 0=some none)\/(U[G4 y gs]?=some v/\Instr.findNow (.int .i64) (.int .i64 y) i.toList 0=some (some (G4 y gs,v))) ->
   (execOp a.eval (Y8 ops.toList k)).run P w=.ok (.value v) w:=by
  rintro v (⟨rfl,_,l⟩|⟨_,l⟩)
  .simp [execOp,hop,n,r,Instr.lookup,run_underlying ht,MapKept.run_getObj_map o.heap,MapKept.run_checkKey hkT (k:=.int .i64 y) (d:=.int .i64) rfl,MapKept.run_findKey hkT l,hz]
  .simp [execOp,hop,n,r,Instr.lookup,run_underlying ht,MapKept.run_getObj_map o.heap,MapKept.run_checkKey hkT (k:=.int .i64 y) (d:=.int .i64) rfl,MapKept.run_findKey hkT l]
 have J:∀ j ∈ (AVal.v (.c (.cp g (1+G4 y gs)))).refs,R j:=fun j F=>by
  simp [AVal.refs,TV.refs,CV.refs] at F
  subst F;exact (f.sr _ _ u).1
 rcases o.find y with ⟨l,H⟩|⟨q,l,B,p⟩
 .refine QU f (YO z) (h _ (.inl ⟨rfl,H,l⟩)) (.v _ _ (.c _ _ (.cp _ _ _ _ I ?_ rfl))) J
  rw [Dx,H, <-o.len];simp
 .obtain ⟨e',he'⟩:∃ e',gs[G4 y gs]?=some e':=⟨_,List.getElem?_eq_getElem p⟩
  refine QU f (YO z) (h _ (.inr ⟨B,l⟩)) (.v _ _ (.c _ _ (.cp _ _ _ _ I ?_ ((o.rows _ _ _ he' B).form.choose_spec.choose_spec.choose_spec.2.2)))) J;rw [Dx,List.getElem?_append_left (by rw [o.len];exact p)]
  exact B
end
end
section
open Go.MapKept
section
variable {P:Program} {C:Ctx} {nt:Nat} {L:Lay} {R:Nat->Prop} {η:Nat->Value} {e:U3} {s:U5} {a:Act} {w:World}
variable {α:Type} [Emb α] {ops:Array Oper} {ds:List Dir} {k:Nat}
def gRow(y:Int)(gs:List (Int×List α)):List α:=match gs[G4 y gs]? with|some e=>e.2|none=>[]
theorem Q0k{β:Type}{y:Int}{m:List β}{gs:List (Int×List β)}{q:Int×List β}(h:gs[G4 y gs]?=some q):gApp y m gs=gs.set (G4 y gs) (q.1,q.2++m):=by unfold gApp;rw [h]
theorem Q0i{β:Type}{y:Int}{m:List β}{gs:List (Int×List β)}(h:G4 y gs=gs.length):gApp y m gs=gs++[(y,m)]:=by
 unfold gApp
 grind
def UD{β:Type}(l:List β)(i:Nat)(x:β):List β:=if i<l.length then l.set i x else l++[x]
theorem Da{β:Type}{l:List β}{i:Nat}{x:β}(h:i<=l.length):(UD l i x).length=if i<l.length then l.length else l.length+1:=by
 unfold UD;split <;> simp
theorem Db{β:Type}{l:List β}{i:Nat}{x:β}(h:i<=l.length)(j:Nat):(UD l i x)[j]?=if j=i then some x else l[j]?:=by
 unfold UD
 grind
theorem Tx{β:Type}{y:Int}{m:List β}{gs:List (Int×List β)}:∃ q,q.1=y/\q.2=gRow y gs++m/\gApp y m gs=UD gs (G4 y gs) q/\G4 y gs<=gs.length:=by
 rcases JM y gs with ⟨b,q,d,f⟩|⟨c,_⟩
 .refine ⟨(q.1,q.2++m),f,by unfold gRow;rw [d],?_,by omega⟩
  rw [Q0k d];unfold UD;rw [if_pos b]
 .refine ⟨(y,m),rfl,?_,?_,by omega⟩
  .unfold gRow;rw [c,List.getElem?_eq_none (Nat.le_refl _)];simp
  .rw [Q0i c];unfold UD;rw [c,if_neg (Nat.lt_irrefl _)]
theorem Z1v{β:Type}{y:Int}{m:List β}{gs:List (Int×List β)}:∃ q,(gApp y m gs)[G4 y gs]?=some q/\q.1=y:=by
 obtain ⟨q,b,_,c,d⟩:=Tx (y:=y) (m:=m) (gs:=gs);refine ⟨q,?_,b⟩
 rw [c];unfold UD
 grind
theorem Q0j{β:Type}{y:Int}{m:List β}{gs:List (Int×List β)}(hnd:(gs.map (·.1)).Nodup):((gApp y m gs).map (·.1)).Nodup:=by
 rcases JM y gs with ⟨b,q,f,g⟩|⟨d,c⟩
 .rw [Q0k f,List.map_set]
  grind
 .rw [Q0i d,List.map_append]
  grind
theorem Z4r(hL:Qa P L){gs:List (Int×List α)}{m:List α}{base g d:Nat}{y:Int}{t tx ty:Nat}{te:TI}(hT:VB L t te)(hes:te.size=Emb.es α)(hk:Qv ds k=xE [g] { v:=.v (.c (.cp d (1+G4 y gs))),del:=[g],new:=some (.exr [base] (Zj (Go.Ab.gApp y m gs) (some (G4 y gs)))) })(hop:(Y8 ops.toList k).op=.call { callee:=.builtin .append,args:= #[.tmp tx,.tmp ty],argTypes:= #[t,t] })(hdo:(XM ops nt (J0 L ops ops.toList ds e s k) (Y8 ops.toList k)&&(Y8 ops.toList k).dst==some d && !(tx==ty))=true)(hx:J0 L ops ops.toList ds e s k tx=.v (.c (.cp g (1+G4 y gs))))(hy:J0 L ops ops.toList ds e s k ty=AL m)(hs:QM L ops ops.toList ds e s k g=some (.exr [base] (Zj gs none)))(hby:te.bytes<=8192)(hzl:te.zero.length=te.size)(hlim:(gRow y gs).length+m.length<=Y5):K3 P C nt L ops ds e s k:=by
 obtain ⟨ti,el,ht,e6,e3⟩:=hT;unfold K3
 rw [hk];simp only [XM,Bool.and_eq_true,beq_iff_eq,Bool.not_eq_true',beq_eq_false_iff_ne] at hdo
 obtain ⟨⟨⟨h1,h2⟩,h3⟩,h4⟩:=hdo;refine FK [g] h1 h2 fun R η e0 s0 a w he h8 f7 hn n=>?_
 have ox:Operand.tmp tx ∈ (Y8 ops.toList k).op.operands.toList:=by rw [hop];simp [Op.operands,Call.operands]
 have oy:Operand.tmp ty ∈ (Y8 ops.toList k).op.operands.toList:=by rw [hop];simp [Op.operands,Call.operands]
 have ex:e0 tx=.v (.c (.cp g (1+G4 y gs))):=(he _ ox).trans hx;have ey:e0 ty=AL m:=(he _ oy).trans hy
 have B:s0 g=some (.exr [base] (Zj gs none)):=(f7 g (by simp)).trans hs;have c6:=YO h1 d h3
 have a8:¬ R d:=hn d h3 (by simp);obtain ⟨b,H,a4,V,hb,hg,f⟩:=Tt n B
 have h0:g≠d:=fun h=>a8 (h ▸ (n.sr _ _ B).1)
 have b0:=n.ev tx;rw [ex] at b0
 generalize hv1e:a.tmps.getD tx undef=v1 at b0;have d4:(H++[.slice none 0 0])[G4 y gs]?=some v1:=by
  cases b0 with|v _ _ hh=>cases hh with|c _ _ hh=>cases hh with|cp _ _ _ vs q1 q2 _=>
  rw [hg] at q1;cases q1
  rwa [Dx] at q2
 obtain ⟨q,g9,h6,a0,G⟩:=Tx (y:=y) (m:=m) (gs:=gs);have W : G4 y gs<=H.length:=by rw [f.len];exact G
 have J:∀ x,x ∈ Y9 (.agg (ZN b H))->Own s0 η x:=fun x hx=>⟨g,_,B,by rw [hg];exact hx⟩
 have c1:VP w (XS C s0 η) v1 (gRow y gs)/\(∀ x ∈ Y9 v1,x ∈ Y9 (.agg (ZN b H)))/\b ∉ Y9 v1/\∀ j u,j≠G4 y gs->H[j]?=some u->∀ x ∈ Y9 u,x ∉ Y9 v1:=by
  rcases JM y gs with ⟨T,q',a7,f6⟩|⟨hl,_⟩
  .have D:H[G4 y gs]?=some v1:=by rwa [List.getElem?_append_left (by rw [f.len];exact T)] at d4
   refine ⟨?_,fun x hx=>(Wc f.one).2 (.inr ⟨v1,List.mem_of_getElem? D,hx⟩),f.off _ _ D,fun j u A hu x hx e5=>A (f.apart _ _ _ _ x hu D hx e5)⟩;unfold gRow;rw [a7]
   exact f.rows _ _ _ a7 D
  .have D:v1=.slice none 0 0:=by
    rw [hl, <-f.len,List.getElem?_append_right (Nat.le_refl _),Nat.sub_self] at d4
    grind
   subst D;refine ⟨?_,fun x hx=>by simp [Y9] at hx,by simp [Y9],fun j u _ _ x _ hx=>by simp [Y9] at hx⟩
   unfold gRow;rw [hl,List.getElem?_eq_none (Nat.le_refl _)]
   exact fun η C=>.nil _ _ _
 obtain ⟨e8,N,b5,d5⟩:=c1;obtain ⟨v',w',c8,F,Y,d2⟩:=Q6S hL n h3 c6 h4 hop ht e6 e3 hes (l:=gRow y gs) (m:=m) (by rw [hv1e];exact e8) (fun x hx=>by rw [hv1e] at hx;exact .inr (J x (N x hx))) ey hby hzl hlim
 rw [hv1e] at F Y d2;have b7:∀ x ∈ Y9 (.agg (ZN b H)),C.M x\/C.w0.heap.size<=x:=fun x hx=>by
  rcases n.ow g _ x B (by rw [hg];exact hx) with ⟨h,_⟩|h
  .cases h
  .exact h
 have T:∀ x ∈ Y9 (.agg (ZN b H)),x<w.heap.size:=fun x hx=>f.lt hx
 let rs':=UD H (G4 y gs) v'
 have p : ∀ j,rs'[j]?=if j=G4 y gs then some v' else H[j]?:=fun j=>Db W j
 have a5 : ∀ j,(Go.Ab.gApp y m gs)[j]?=if j=G4 y gs then some q else gs[j]?:=fun j=>by rw [a0];exact Db G j
 have Z:=(d2 (fun _=>False) fun _ _ h=>h.elim).form;have b6 : ∀ v ∈ rs',Pb v=Y9 v:=fun v D=>by
  obtain ⟨j,A⟩:=List.getElem?_of_mem D;have a9:=p j
  rw [A] at a9
  by_cases h:j=G4 y gs
  .grind
  .rw [if_neg h] at a9;exact f.one _ (List.mem_of_getElem? a9.symm)
 have hu:∀ x,x ∈ Y9 (.agg (ZN b rs'))->x=b\/x ∈ Y9 v' \/ ∃ j u,j≠G4 y gs/\H[j]?=some u/\x ∈ Y9 u:=fun x hx=>by
  rcases (Wc b6).1 hx with h|⟨v,D,hx⟩
  .exact .inl h
  .obtain ⟨j,A⟩:=List.getElem?_of_mem D
   grind
 have e7:∀ x,x ∈ Y9 (.agg (ZN b rs'))->w.heap.size<=x\/x ∈ Y9 (.agg (ZN b H)):=fun x hx=>by
  rcases hu x hx with rfl|h|⟨j,u,_,h,hx⟩
  .exact .inr ((Wc f.one).2 (.inl rfl))
  .grind
  .exact .inr ((Wc f.one).2 (.inr ⟨u,List.mem_of_getElem? h,hx⟩))
 let r:SR:= { v:=.v (.c (.cp d (1+G4 y gs))),del:=[g],new:=some (.exr [base] (Zj (Go.Ab.gApp y m gs) (some (G4 y gs)))) }
 have d6:=UI (C:=C) (s:=s0) (η:=η) r (Y8 ops.toList k).dst (.agg (ZN b rs')) (fun x=>x ∈ Y9 v1) F (fun x hx=>J x (N x hx)) (fun o' dd _ _ x hx=>by
  grind) (fun k o hh=>by cases hh)
 have I:∀ i,r.eta (Y8 ops.toList k).dst (.agg (ZN b rs')) η i=if i=d then .agg (ZN b rs') else η i:=fun i=>by simp only [SR.eta,h3,r]
 have e1:w'.heap[b]?=w.heap[b]?:=F.block b (J5 f.heap) b5;have g6:∀ x,x<w'.heap.size->XS C (r.sto (Y8 ops.toList k).dst s0) (r.eta (Y8 ops.toList k).dst (.agg (ZN b rs')) η) x->(XS C s0 η x/\x ∉ Y9 v1)\/x ∈ Y9 v':=by
  intro x hx hX;rcases hX with ⟨c2,c7⟩|⟨i,oi,z,U⟩
  .refine .inl ⟨.inl ⟨c2,c7⟩,fun b4=>?_⟩
   rcases b7 x (N x b4) with h|h
   .exact c7 (n.ok.md x h)
   .have:=n.ok.lt x c2;omega
  .rcases FJ r (Y8 ops.toList k).dst i oi z with ⟨_,b3⟩|⟨f4,_⟩|⟨ho,g1,_,b3⟩
   .rw [h3] at b3;cases b3
    rw [I,if_pos rfl] at U;rcases hu x U with rfl|h|⟨j,u,A,d8,O⟩
    .exact .inl ⟨.inr (J x ((Wc f.one).2 (.inl rfl))),b5⟩
    .exact .inr h
    .exact .inl ⟨.inr (J x ((Wc f.one).2 (.inr ⟨u,List.mem_of_getElem? d8,O⟩))),d5 j u A d8 x O⟩
   .cases f4
   .have f5:i≠d:=fun h=>by
     grind
    rw [I,if_neg f5] at U;refine .inl ⟨.inr ⟨i,oi,ho,U⟩,fun b4=>?_⟩
    have:i=g:=n.ds i g x (by rw [ho];simp) (by rw [B];simp) U (by rw [hg];exact N x b4)
    grind
 have d0:GrpAt (Go.Ab.gApp y m gs) (some (G4 y gs)) w' (XS C (r.sto (Y8 ops.toList k).dst s0) (r.eta (Y8 ops.toList k).dst (.agg (ZN b rs')) η)) b rs' a4 V:=by
  obtain ⟨g7,c5⟩:=f.ents;refine ⟨e1.trans f.heap,f.st,?_,Q0j f.nd,fun i e' v z D=>?_,fun i j u v x z A O b2=>?_,fun i v z c9=>?_,?_,?_,fun i e' v z a6 D=>?_⟩
  .rw [a0,Da G,Da W,f.len]
  .rw [a5] at z
   rw [p] at D
   by_cases h:i=G4 y gs
   .grind
   .rw [if_neg h] at z D
    exact (f.rows i e' v z D).mono d6 fun x hx=>F.block x (T x ((Wc f.one).2 (.inr ⟨v,List.mem_of_getElem? D,hx⟩))) (d5 i v h D x hx)
  .rw [p] at z A
   by_cases h:i=G4 y gs <;> by_cases h' : j=G4 y gs
   .rw [h,h']
   .rw [if_pos h] at z;rw [if_neg h'] at A
    cases z
    exfalso
    rcases Y x O with h5|h5
    .grind
    .have:=T x ((Wc f.one).2 (.inr ⟨v,List.mem_of_getElem? A,b2⟩));omega
   .rw [if_neg h] at z;rw [if_pos h'] at A
    cases A
    exfalso
    rcases Y x b2 with h5|h5
    .grind
    .have:=T x ((Wc f.one).2 (.inr ⟨u,List.mem_of_getElem? z,O⟩));omega
   .rw [if_neg h] at z;rw [if_neg h'] at A
    exact f.apart i j u v x z A O b2
  .rw [p] at z
   by_cases h:i=G4 y gs
   .rw [if_pos h] at z
    cases z
    rcases Y b c9 with h5|h5
    .exact b5 h5
    .have:=J5 f.heap;omega
   .rw [if_neg h] at z
    exact f.off i v z c9
  .rw [a0,Da G];split <;> omega
  .rw [a0,Da G]
   grind
  .rw [a5] at a6
   rw [p] at D;have c4:i<gs.length:=by omega
   have e4:i<H.length:=by rw [f.len];exact c4
   obtain ⟨bo,f3⟩:=c5 i gs[i] H[i] (List.getElem?_eq_getElem c4) (List.getElem?_eq_getElem e4)
   by_cases h:i=G4 y gs
   .rw [if_pos h] at a6
    cases a6
    refine ⟨H[i],bo,?_,fun hh=>absurd h hh⟩;rw [f3]
    have:gs[i].1=q.1:=by
     rcases JM y gs with ⟨a2,q',a7,f6⟩|⟨hl,_⟩
     all_goals grind
    rw [this]
   all_goals grind
 refine ⟨v',.agg (ZN b rs'),w',.inl c8,n.stepG (Y8 ops.toList k).dst (fun x hx=>by rw [h3] at hx;cases hx;exact c6) r v' (.agg (ZN b rs')) w' (fun x=>x ∈ Y9 v1) F ?_ ?_ (fun k o hh=>by cases hh) ?_⟩
 .intro x hx
  exact ⟨⟨g,.inl (by simp [r]),by rw [B];simp,by rw [hg];exact N x hx⟩,b7 x (N x hx)⟩
 .intro o' dd e9 d7
  rw [h3] at d7;cases d7
  have f2:o'=.exr [base] (Zj (Go.Ab.gApp y m gs) (some (G4 y gs))):=by simpa [r] using e9.symm
  subst f2;refine ⟨a8,rfl,fun j A=>?_,?_,fun x hx=>?_⟩
  .exact (n.sr g _ B).2 j A
  .have f1:base≠d:=fun h=>a8 (h ▸ (n.sr g _ B).2 base (by simp [Obj.refs]))
   refine .exr _ _ _ ⟨b,rs',a4,V,?_,rfl,d0⟩ (zT _) fun x hx=>d0.lt hx
   simp [I,f1,hb]
  .rcases e7 x hx with h|h
   .exact .inl h
   .exact .inr ⟨⟨g,by simp [r],by rw [B];simp,by rw [hg];exact h⟩,b7 x h⟩
 .intro _
  refine ⟨.v _ _ (.c _ _ (.cp _ _ _ (ZN b rs') (by rw [I,if_pos rfl]) ?_ Z.choose_spec.choose_spec.choose_spec.2.2)),fun j A=>?_⟩
  .rw [Dx]
   have a2 : G4 y gs<rs'.length:=by
    grind
   rw [List.getElem?_append_left a2,p,if_pos rfl]
  .simp [r,AVal.refs,TV.refs,CV.refs] at A
   subst A;exact .inr ⟨by simp [r],h3⟩
theorem Z4p{gs:List (Int×List α)}{base g j:Nat}{t kT eT:TypeId}{m x v:Operand}{y:Int}{q:Int×List α}(ht:P.underlying t=some (.map kT eT))(hkT:P.underlying kT=some (.int .i64))(hk:Qv ds k=xE [] { upd:=some (g,.exr [base] (Zj gs none)) })(hop:(Y8 ops.toList k).op=.mapUpdate t m x v)(hdo:(XM ops nt (J0 L ops ops.toList ds e s k) (Y8 ops.toList k)&&(Y8 ops.toList k).dst.isNone)=true)(hm:Y2 (J0 L ops ops.toList ds e s k) m=.v (.c (.own base)))(hx:Y2 (J0 L ops ops.toList ds e s k) x=vi y)(hv:Y2 (J0 L ops ops.toList ds e s k) v=.v (.c (.cp g (1+j))))(hs:QM L ops ops.toList ds e s k g=some (.exr [base] (Zj gs (some j))))(hq:gs[j]?=some q)(hqy:q.1=y):K3 P C nt L ops ds e s k:=by
 unfold K3;rw [hk]
 simp only [XM,Bool.and_eq_true,beq_iff_eq] at hdo;obtain ⟨⟨h1,h2⟩,h3⟩:=hdo
 refine FK [] h1 h2 fun R η e0 s0 a w he b8 e6 hn B=>z8.g ?_
 have om:m ∈ (Y8 ops.toList k).op.operands.toList:=by rw [hop];simp [Op.operands]
 have ox:x ∈ (Y8 ops.toList k).op.operands.toList:=by rw [hop];simp [Op.operands]
 have ov:v ∈ (Y8 ops.toList k).op.operands.toList:=by rw [hop];simp [Op.operands]
 have Y:=(J4 B m).1;rw [he m om,hm] at Y
 have Y:=WM Y;have ex:=(J4 B x).1
 rw [he x ox,hx] at ex;have ex:=xd ex
 have A:s0 g=some (.exr [base] (Zj gs (some j))):=(b8 v ov g (by rw [hv];simp [AVal.refs,TV.refs,CV.refs])).trans hs;obtain ⟨b,T,l,c5,hb,hg,n⟩:=Tt B A
 rw [hb] at Y;have ev:=(J4 B v).1
 rw [he v ov,hv] at ev;have b7:j<T.length:=by rw [n.len];exact (List.getElem?_eq_some_iff.1 hq).1
 have I:T[j]?=some (a.eval v):=by
  generalize a.eval v=v1 at ev
  cases ev with|v _ _ F=>cases F with|c _ _ F=>cases F with|cp _ _ _ vs q1 q2 _=>
  rw [hg] at q1;cases q1
  rw [Dx,List.getElem?_append_left b7] at q2;exact q2
 generalize hve:a.eval v=v1 at I;obtain ⟨d8,a1,M⟩:=n.ents
 have b3:∀ (i:Nat) (z:MapEntry),l[i]?=some z->∃ J u,gs[i]?=some J /\ T[i]?=some u/\z.key=.int .i64 J.1/\(i≠j->z.val=u):=fun i z U=>by
  have hi:i<l.size:=(Array.getElem?_eq_some_iff.1 U).1;have b9:i<gs.length:=by omega
  have e1:i<T.length:=by rw [n.len];exact b9
  grind
 have c0:∀ z ∈ l.toList,IsKey (.int .i64) z.key:=fun z U=>by
  obtain ⟨i,hi,rfl⟩:=List.getElem_of_mem U;obtain ⟨J,_,_,_,c1,_⟩:=b3 i l[i] (Array.getElem?_eq_getElem (by simpa using hi))
  simp only [Array.getElem_toList];rw [c1];rfl
 have e2:b<w.heap.size:=J5 n.heap;have a7:∃ (p : Array MapEntry) (f : Nat),(execOp a.eval (Y8 ops.toList k)).run P w=.ok .skip { w with heap:=w.heap.setIfInBounds b (.map p f) } /\ Stamped p f /\ p.size=gs.length/\∀ (i:Nat) (J : Int×List α) (u:Value),gs[i]?=some J -> T[i]?=some u->∃ bo,p[i]?=some ⟨.int .i64 J.1,u,bo⟩:=by
  rcases findNow_spec (d:=.int .i64) (k:=.int .i64 y) rfl l.toList 0 c0 with ⟨f1,f2⟩|⟨i,z,f1,f2,f3⟩
  .refine ⟨_,_,?_,stamped_push (val:=v1) n.st f2,?_,fun i J u D Z=>?_⟩
   .simp [execOp,hop,Y,ex,hve,Instr.mapUpdate,run_underlying ht,MapKept.run_getObj_map n.heap,MapKept.run_checkKey hkT (k:=.int .i64 y) (d:=.int .i64) rfl,MapKept.run_findKey hkT f1,MapKept.run_setObj_map _ n.heap]
   .rw [Array.size_push]
    rcases a1 with h|⟨h,_⟩
    .exfalso
     obtain ⟨u,bo,V,_⟩:=M j q v1 (by omega) hq I;exact f2 _ (by have:=Array.mem_of_getElem? V;simpa using this) (by rw [hqy])
    .exact h
   .rcases a1 with h|⟨h,hj⟩
    .exfalso
     obtain ⟨u,bo,V,_⟩:=M j q v1 (by omega) hq I;exact f2 _ (by have:=Array.mem_of_getElem? V;simpa using this) (by rw [hqy])
    .rw [Array.getElem?_push]
     by_cases hi:i=l.size
     .rw [if_pos hi]
      have O:i=j:=by omega
      subst O;rw [hq] at D;rw [I] at Z
      cases D;cases Z
      exact ⟨_,by rw [hqy]⟩
     all_goals grind
  .have fz:l[i]?=some z:=by simpa using f2
   obtain ⟨J,u,D,Z,a2,e5⟩:=b3 i z fz;have c4:J.1=y:=by rw [f3] at a2;cases a2;rfl
   have O:i=j:=zc n.nd D hq (by rw [c4,hqy]);subst O
   refine ⟨_,_,?_,stamped_modify n.st i (fun e=> { e with key:=.int .i64 y,val:=v1 }) (fun _ _=>rfl) (fun b4 _ H=>?_),?_,fun i' b4 u' H b1=>?_⟩
   .simp [execOp,hop,Y,ex,hve,Instr.mapUpdate,run_underlying ht,MapKept.run_getObj_map n.heap,MapKept.run_checkKey hkT (k:=.int .i64 y) (d:=.int .i64) rfl,MapKept.run_findKey hkT f1,fz,f3,MapKept.run_keyThatStays (d:=.int .i64) (k:=.int .i64 y) rfl,MapKept.run_setObj_map _ n.heap]
   .grind
   .grind
   .rw [Array.getElem?_modify]
    by_cases hi:i=i'
    .subst hi
     rw [if_pos rfl,fz];rw [hq] at H;rw [I] at b1
     cases H;cases b1
     exact ⟨z.born,by rw [hqy];rfl⟩
    all_goals grind
 obtain ⟨p,f,b0,a6,a4,W⟩:=a7;have N:Stp (fun x=>x=b) w { w with heap:=w.heap.setIfInBounds b (.map p f) } :=
  ⟨rfl,rfl,rfl,by simp,fun x _ hx=>(heap_set n.heap).2 x hx,Nat.le_refl _⟩
 have G:b ∈ Y9 (η g):=by rw [hg];exact (Wc n.one).2 (.inl rfl)
 have hd:(Y8 ops.toList k).dst=none:=by simpa using h3
 let r:SR:= { upd:=some (g,.exr [base] (Zj gs none)) }
 have a3:=UI (C:=C) (s:=s0) (η:=η) r (Y8 ops.toList k).dst undef (fun x=>x=b) N (fun x hx=>by subst hx;exact ⟨g,_,A,G⟩) (fun _ _ F=>by cases F) (fun k o F=>by cases F;rw [A];simp);have a5:r.eta (Y8 ops.toList k).dst undef η=η:=by funext i;simp [SR.eta,r]
 refine ⟨undef,_,.inr ⟨b0,rfl⟩,B.step (Y8 ops.toList k).dst (fun x hx=>by rw [hd] at hx;cases hx) r undef _ (fun x=>x=b) N (fun x hx=>?_) (fun _ _ F=>by cases F) (fun k' o' F=>?_) (fun F=>absurd hd F)⟩
 .subst hx
  refine ⟨⟨g,.inr ⟨_,rfl⟩,by rw [A];simp,G⟩,?_⟩;rcases B.ow g _ x A G with ⟨h,_⟩|h
  .cases h
  .exact h
 .cases F
  refine ⟨⟨_,A,rfl⟩,rfl,by simp [r],fun j hj=>(B.sr g _ A).2 j hj,?_⟩;rw [a5] at a3 ⊢
  rw [hg];have b2:GrpAt gs none { w with heap:=w.heap.setIfInBounds b (.map p f) } (XS C (r.sto (Y8 ops.toList k).dst s0) η) b T p f :=
   ⟨(heap_set n.heap).1,a6,n.len,n.nd,fun i J u D Z=>(n.rows i J u D Z).mono a3 fun z U=>(heap_set n.heap).2 z (fun h=>by subst h;exact n.off i u Z U),n.apart,n.off,a4,W⟩
  exact .exr _ _ _ ⟨b,T,p,f,by simp [hb],rfl,b2⟩ (zT _) fun z U=>b2.lt U
end
section
variable {P:Program} {C:Ctx} {nt:Nat} {L:Lay} {pins:List Nat} {K:Act->World->Prop} {α:Type} [Emb α]
theorem Z4b(Fm:Fr P L C pins){E:List (Nat×AVal)}{S0:List (Nat×Obj)}{id k:Nat}{o o' : Obj}(hp:pins.contains k=false)(hfr:((E.flatMap fun p=>p.2.refs)++(((id,o)::S0).flatMap fun p=>p.1::p.2.refs)).contains k=false)(hid:(S0.map (·.1)).contains id=false)(hro:o.ro=false)(hro' : o'.ro=false)(hrf:∀ j ∈ o'.refs,j=id\/j ∈ o.refs)(hu:∀ R η a w,Conc C nt R η (lk E) (ls ((id,o)::S0)) a w->∃ u,(∀ b ∈ Y9 u,b ∈ Y9 (η id))/\∀ X' η',QR w w (XS C (ls ((id,o)::S0)) η) X' -> (∀ i,i≠k->η' i=η i)->ORep w X' η' C u o')(hk:Kn C nt E ((k,o')::S0) K):Kn C nt E ((id,o)::S0) K:=by
 intro R η a w l;have g:ls ((id,o)::S0) id=some o:=by rw [Qk,if_pos rfl]
 obtain ⟨u,r,G⟩:=hu R η a w l;have U:C.pin k=none:=by
  rcases hq:C.pin k with _|u
  .rfl
  .have:=Fm.pin k (by rw [hq];simp)
   grind
 have B:∀ i ∈ (E.flatMap fun p=>p.2.refs)++(((id,o)::S0).flatMap fun p=>p.1::p.2.refs),i≠k:=by
  grind
 have a1:id≠k:=B id (by simp);have a6:∀ j ∈ o.refs,j≠k:=fun j n=>B j (by simp [n])
 have m:∀ i o',ls S0 i=some o' -> i≠k/\i≠id/\(∀ j ∈ o'.refs,j≠k)/\ls ((id,o)::S0) i=some o':=by
  intro i o' d;have hm:=y6 d
  have N:i≠id:=by
   grind
  refine ⟨B i (List.mem_append.2 (.inr (List.mem_flatMap.2 ⟨_,List.mem_cons_of_mem _ hm,by simp⟩))),N,fun j n=>B j (List.mem_append.2 (.inr (List.mem_flatMap.2 ⟨_,List.mem_cons_of_mem _ hm,by simp [n]⟩))),?_⟩;rw [Qk,if_neg N];exact d
 have W:∀ u i,i ∈ (lk E u).refs->i≠k:=by
  intro u i d;rcases Xv (E:=E) (t:=u) with h0|h0
  .rw [h0] at d;cases d
  all_goals grind
 let η' : Nat->Value:=fun i=>if i=k then u else η i
 have f : ∀ i,i≠k->η' i=η i:=fun i d=>by show (if i=k then u else η i)=_;rw [if_neg d]
 have A:η' k=u:=by show (if k=k then u else η k)=_;rw [if_pos rfl]
 have T:∀ b,Own (ls ((k,o')::S0)) η' b->Own (ls ((id,o)::S0)) η b:=by
  rintro b ⟨i,q,d,D⟩;rw [Qk] at d
  by_cases c:i=k
  .subst c
   rw [A] at D;exact ⟨id,_,g,r b D⟩
  .rw [if_neg c] at d
   rw [f i c] at D;exact ⟨i,q,(m i q d).2.2.2,D⟩
 have Y:QR w w (XS C (ls ((id,o)::S0)) η) (XS C (ls ((k,o')::S0)) η'):=by
  intro b M hn;refine ⟨rfl,fun I=>?_⟩
  rcases I with I|I
  .exact hn (.inl I)
  .exact hn (.inr (T b I))
 refine hk (fun i=>R i\/i=k) η' a w ⟨l.ok,l.df,l.sz,fun t=>?_,fun t i d=>.inl (l.er t i d),fun i q d=>?_,fun i q d=>?_,fun i j b d n z x=>?_,fun i q b d M=>?_,l.fr,fun i v d=>?_⟩
 .exact (l.ev t).mono Y fun i d=>f i (W t i d)
 .rw [Qk] at d
  by_cases c:i=k
  .subst c
   rw [if_pos rfl] at d;cases d
   rw [A];exact G _ _ Y f
  .rw [if_neg c] at d
   obtain ⟨F,O,V,H⟩:=m i q d;rw [f i c]
   exact (l.st i q H).mono Y (fun j n=>f j (V j n)) fun _ _=>rfl
 .rw [Qk] at d
  by_cases c:i=k
  .subst c
   rw [if_pos rfl] at d;cases d
   refine ⟨.inr rfl,fun j n=>.inl ?_⟩;rcases hrf j n with rfl|h
   .exact (l.sr j _ g).1
   .exact (l.sr id _ g).2 j h
  .rw [if_neg c] at d
   obtain ⟨F,O,V,H⟩:=m i q d;have:=l.sr i q H
   exact ⟨.inl this.1,fun j n=>.inl (this.2 j n)⟩
 .rw [Qk] at d n
  by_cases c:i=k <;> by_cases hjk:j=k
  .rw [c,hjk]
  .exfalso
   rw [if_neg hjk] at n;obtain ⟨Z,J⟩:=Option.ne_none_iff_exists'.1 n
   obtain ⟨F,O,V,H⟩:=m j Z J;rw [c,A] at z
   rw [f j hjk] at x;exact O (l.ds j id b (by rw [H];simp) (by rw [g];simp) x (r b z))
  .exfalso
   rw [if_neg c] at d;obtain ⟨q,J⟩:=Option.ne_none_iff_exists'.1 d
   obtain ⟨F,O,V,H⟩:=m i q J;rw [hjk,A] at x
   rw [f i c] at z;exact O (l.ds i id b (by rw [H];simp) (by rw [g];simp) z (r b x))
  .rw [if_neg c] at d
   rw [if_neg hjk] at n;obtain ⟨q,J⟩:=Option.ne_none_iff_exists'.1 d
   obtain ⟨Z,a0⟩:=Option.ne_none_iff_exists'.1 n;rw [f i c] at z
   rw [f j hjk] at x;exact l.ds i j b (by rw [(m i q J).2.2.2];simp) (by rw [(m j Z a0).2.2.2];simp) z x
 .rw [Qk] at d
  by_cases c:i=k
  .subst c
   rw [if_pos rfl] at d;cases d
   rw [A] at M;rcases l.ow id _ b g (r b M) with ⟨F,_⟩|F
   .rw [hro] at F;cases F
   .exact .inr F
  .rw [if_neg c] at d
   rw [f i c] at M;exact l.ow i q b (m i q d).2.2.2 M
 .have c:i≠k:=by intro he;subst he;rw [U] at d;cases d
  have:=l.pn i v d
  exact ⟨(f i c).trans this.1,.inl this.2⟩
theorem Z4f(Fm:Fr P L C pins)(α:Type)[Emb α]{E:List (Nat×AVal)}{S0:List (Nat×Obj)}{d g:Nat}{kT eT:TypeId}(hp:pins.contains g=false)(hfr:((E.flatMap fun p=>p.2.refs)++(((d,Obj.ext (JE P kT eT []))::S0).flatMap fun p=>p.1::p.2.refs)).contains g=false)(hd:(S0.map (·.1)).contains d=false)(hk:Kn C nt E ((g,.exr [d] (Zj ([]:List (Int×List α)) none))::S0) K):Kn C nt E ((d,.ext (JE P kT eT []))::S0) K:=by
 refine Z4b Fm hp hfr hd rfl rfl (fun j D=>.inl (by simpa [Obj.refs] using D)) (fun R η a w B=>?_) hk;have f:=B.st d _ (show ls ((d,.ext (JE P kT eT []))::S0) d=some (.ext (JE P kT eT [])) by rw [Qk,if_pos rfl])
 generalize hη:η d=u at f
 cases f with
 | ext _ _ hp' _ hlt=>
  obtain ⟨b,rfl,F,c,A,H,G,_⟩:=hp';have n:F=#[]:=Array.eq_empty_of_size_eq_zero (by simpa using G)
  subst n;refine ⟨.agg (ZN b []),fun x l=>?_,fun X' η' I t=>?_⟩
  .have:=(Wc (rs:=[]) (fun v o=>by cases o)).1 l
   rcases this with rfl|⟨v,o,_⟩
   .simp [Y9]
   .cases o
  .have q:d≠g:=fun h=>by
    grind
   have z:GrpAt ([]:List (Int×List α)) none w X' b [] #[] c:=⟨A,⟨by simp,by simp,by simp⟩,rfl,by simp,fun i e v m=>by simp at m,fun i j u v x r=>by simp at r,fun i v r=>by simp at r,rfl,fun i e v m=>by simp at m⟩;exact .exr _ _ _ ⟨b,[], #[],c,by simp [t d q,hη],rfl,z⟩ (zT _) fun x l=>z.lt l
theorem Z4d{E0:List (Nat×AVal)}{S0:List (Nat×Obj)}{t d g:Nat}{gs:List (Int×List α)}(hid:(S0.map (·.1)).contains g=false)(hk:Kn C nt ((t,.v (.c (.d (MP gs))))::E0) S0 K):Kn C nt ((t,.v (.c (.own d)))::E0) ((g,.exr [d] (Zj gs none))::S0) K:=by
 intro R η a w m;have H:ls ((g,.exr [d] (Zj gs none))::S0) g=some (.exr [d] (Zj gs none)):=by rw [Qk,if_pos rfl]
 have p:∀ i o,ls S0 i=some o->i≠g/\ls ((g,.exr [d] (Zj gs none))::S0) i=some o:=by
  intro i o h;have r:i≠g:=by
   intro he;subst he
   have:i ∈ S0.map (·.1):=List.mem_map.2 ⟨_,y6 h,rfl⟩
   grind
  exact ⟨r,by rw [Qk,if_neg r];exact h⟩
 obtain ⟨b,A,N,D,hb,hg,B⟩:=Tt m H;have J:∀ x,XS C (ls S0) η x->XS C (ls ((g,.exr [d] (Zj gs none))::S0)) η x:=fun x z=>by
  rcases z with z|⟨i,o,h,G⟩
  .exact .inl z
  .exact .inr ⟨i,o,(p i o h).2,G⟩
 have W:QR w w (XS C (ls ((g,.exr [d] (Zj gs none))::S0)) η) (XS C (ls S0) η):=fun x _ hn=>⟨rfl,fun z=>hn (J x z)⟩
 have O:∀ x ∈ Y9 (η g),¬ XS C (ls S0) η x:=fun x z a0=>by
  rcases a0 with ⟨Y,V⟩|⟨i,o,h,G⟩
  .rcases m.ow g _ x H z with ⟨I,_⟩|I|I
   .cases I
   .exact V (m.ok.md x I)
   .have:=m.ok.lt x Y;omega
  .exact (p i o h).1 (m.ds i g x (by rw [(p i o h).2];simp) (by rw [H];simp) G z)
 obtain ⟨U,a2⟩:=B.ents;have hD:DRep w (XS C (ls S0) η) (.map (some b)) (MP gs):=by
  refine .mp b N D gs.length _ (fun i=>A.getD i undef) _ (O b (by rw [hg];exact (Wc B.one).2 (.inl rfl))) B.heap B.st U (fun i h=>?_) fun i h=>?_
  .have T:i<A.length:=by rw [B.len];exact h
   grind
  .have T:i<A.length:=by rw [B.len];exact h
   have e1:A.getD i undef=A[i]:=by simp [List.getD_eq_getElem?_getD,T]
   have e2:gs.getD i (0,[])=gs[i]:=by simp [List.getD_eq_getElem?_getD,h]
   simp only [e1,e2];have l:=B.rows i gs[i] A[i] (List.getElem?_eq_getElem h) (List.getElem?_eq_getElem T) η C
   have M:∀ x ∈ Y9 A[i],¬ XS C (ls S0) η x:=fun x z=>O x (by rw [hg];exact (Wc B.one).2 (.inr ⟨A[i],List.getElem_mem T,z⟩))
   unfold AO at l;unfold DL
   generalize gs[i].2.length=n at l ⊢;generalize LF gs[i].2=f at l ⊢
   generalize A[i]=v at l M ⊢
   cases l with
   | nil ad es f=>exact .nil ad 0 f
   | arr b n cap es c e f I h2 h3 h4 h5 h6 h7=>
    refine .lst b 0 n cap c e _ f _ (M b (by simp [Y9];omega)) I h3 (by rw [h2,Nat.zero_add];exact Nat.mul_le_mul_right _ h3) h6 fun i j h Z=>?_
    rw [Nat.zero_add];exact (h7 i j h Z).mono W
 have r:∀ i,ls S0 i≠none->ls ((g,.exr [d] (Zj gs none))::S0) i≠none:=fun i h hn=>by
  obtain ⟨o,ho⟩:=Option.ne_none_iff_exists'.1 h
  grind
 refine hk R η a w ⟨m.ok,m.df,m.sz,fun u=>?_,fun u i h=>?_,fun i o h=>(m.st i o (p i o h).2).mono W (fun _ _=>rfl) fun _ _=>rfl,fun i o h=>m.sr i o (p i o h).2,fun i j b h Z=>m.ds i j b (r i h) (r j Z),fun i o b h=>m.ow i o b (p i o h).2,m.fr,m.pn⟩
 .rw [Di]
  have q:=m.ev u;rw [Di] at q
  by_cases hu:u=t
  .rw [if_pos hu] at q ⊢
   rw [WM q,hb];exact .v _ _ (.c _ _ (.d _ _ hD))
  .rw [if_neg hu] at q ⊢
   exact q.mono W fun _ _=>rfl
 .rw [Di] at h
  have F:=m.er u i;rw [Di] at F
  by_cases hu:u=t
  .rw [if_pos hu] at h;cases h
  .rw [if_neg hu] at h F
   exact F h
end
end
section
section
variable {P:Program} {C:Ctx} {nt:Nat} {L:Lay} {pins:List Nat} {E:List (Nat×AVal)} {S:List (Nat×Obj)} {Q:Exit->Act->World->Prop}
theorem cT{p:Prop}(h:p):p/\True:=⟨h,True.intro⟩
theorem cA{p q:Prop}(h:p)(k:q):p/\q:=⟨h,k⟩
@[reducible] def lI {α:Type} (l:List α):Int:=((l.length:Nat):Int)
theorem Q2{t:Nat}{x y:Code}{b:Bool}{R:Type}{u v:Option R}{r:R}(h:br b u v=some r)(ht:b=true->u=some r->AW P C nt x E S Q)(hf:b=false->v=some r->AW P C nt y E S Q)(hb:lk E t=vb b:=by kernel_rfl):AW P C nt (.cond (.tmp t) x y) E S Q:=
 VR hb (fun q=>ht q (Z3b h q)) (fun q=>hf q (Z3d h q))
theorem Z3c{b:Bool}{R:Type}{u v:Option R}{r:R}(h:br b u v=some r):(b=true/\u=some r)\/(b=false/\v=some r):=by
 cases b
 .exact .inr ⟨rfl,h⟩
 .exact .inl ⟨rfl,h⟩
theorem gS{R:Type}{p:Prop}[Decidable p]{x:Option R}{r:R}(h:gd p x=some r):p/\x=some r:=Q0h h
theorem bS{α R:Type}{x:Option α}{f:α->Option R}{r:R}(h:x.bind f=some r):∃ z,x=some z/\f z=some r:=Z3g h
theorem FI{f:Nat}{fn:Func}{c:Code}(hf:P.funcs[f]?=some fn)(hm:P.follows .mixedOrders=true)(hL:Qa P L){args:List AVal}{S:List (Nat×Obj)}{r:AVal}{S' : List (Nat×Obj)}(h:∀ C,Fr P L C (S.map (·.1))->AW P C fn.ntmps c (Pd args) S (WL P fn C r S'))(hb:fn.body=some c:=by rfl)(hn0:Nat.ble args.length fn.ntmps=true:=by kernel_rfl):G6 P f args S r S':=Z4z hm hL hf hb hn0 h
end
end
section
section
variable {P:Program} {C:Ctx} {nt:Nat} {L:Lay} {ops:Array Oper} {ds:List Dir} {e:U3} {s:U5} {k:Nat}
end
end
section
open Go.MapKept
section
variable {P:Program} {C:Ctx} {nt:Nat} {L:Lay} {R:Nat->Prop} {η:Nat->Value} {e:U3} {s:U5} {a:Act} {w:World}
variable {ops:Array Oper} {ds:List Dir} {k:Nat}
end
section
variable {P:Program} {C:Ctx} {nt:Nat} {L:Lay} {pins:List Nat} {E:List (Nat×AVal)} {S:List (Nat×Obj)} {Q:Exit->Act->World->Prop}
end
end
section
open Go.MapKept
section
variable {P:Program} {C:Ctx} {nt:Nat} {L:Lay} {ops:Array Oper} {ds:List Dir} {e:U3} {s:U5} {k:Nat}
end
section
variable {P:Program} {C:Ctx} {nt:Nat} {K:Act->World->Prop}
end
end
section
section
variable {P:Program} {C:Ctx} {nt:Nat} {L:Lay} {ops:Array Oper} {ds:List Dir} {e:U3} {s:U5} {k:Nat}
end
end
section
section
variable {P:Program} {C:Ctx} {nt:Nat} {L:Lay} {ops:Array Oper} {ds:List Dir} {e:U3} {s:U5}
end
end
section
def ZU(m:Int):ByteArray:=ByteArray.empty.push (UInt8.ofNat m.toNat)
section
variable {P:Program} {C:Ctx} {nt:Nat} {L:Lay} {ops:Array Oper} {ds:List Dir} {e:U3} {s:U5}
theorem CF{k:Nat}{t t' : TypeId}{x y:Operand}{a b:ByteArray}(hk:Qv ds k=sE (.v (.c (.d (.str (a++b))))))(hop:(Y8 ops.toList k).op=.binOp .add t x y t')(hb:VI ops nt (J0 L ops ops.toList ds e s k) (Y8 ops.toList k) x y=true)(hx:Y2 (J0 L ops ops.toList ds e s k) x=.v (.c (.d (.str a))))(hy:Y2 (J0 L ops ops.toList ds e s k) y=.v (.c (.d (.str b))))(hc:a.size+b.size<=Y5):K3 P C nt L ops ds e s k:=by
 unfold K3;rw [hk]
 simp only [VI,Bool.and_eq_true,beq_iff_eq] at hb;obtain ⟨⟨⟨q,n⟩,m⟩,o⟩:=hb
 refine Kf rfl m o fun R η u r z w g f=>?_
 have h:=(J4 f x).1;rw [ZO g q,hx] at h
 have h:=Ke h;have i:=(J4 f y).1
 rw [ZO g n,hy] at i;have i:=Ke i
 have j:¬ (((a.size+b.size:Nat):Int) > IntKind.i64.max):=by
  have:IntKind.i64.max=9223372036854775807:=rfl
  rw [this];unfold Y5 at hc;omega
 refine ⟨.string (a++b),?_,.v _ _ (.c _ _ (.d _ _ (.str _)))⟩;have l:(eqGuard .add t x y (.string a) (.string b)).run P w=.ok () w:=gG _ _ _ _ _ _ _
 have p:(binOp .add t (.string a) (.string b)).run P w=.ok (.string (a++b)) w:=by
  show (Op.stringOp .add a b).run P w=_;simp only [Op.stringOp]
  rw [if_neg j];rfl
 simp only [execOp,hop,Sem.run_bind,h,i,l,p,Result.andThen_ok,Sem.run_pure]
theorem CH{k:Nat}{src dst el:TypeId}(hs:P.underlying src=some (.slice el))(he:P.underlying el=some (.int .u8))(hd:P.underlying dst=some .string){x:Operand}{m:Int}(hk:Qv ds k=sE (.v (.c (.d (.str (ZU m))))))(hop:(Y8 ops.toList k).op=.convert src dst x)(hb:VI ops nt (J0 L ops ops.toList ds e s k) (Y8 ops.toList k) x x=true)(hx:Y2 (J0 L ops ops.toList ds e s k) x=.v (.c (.d (.lst 1 (QI 1 [.int .u8 m]))))):K3 P C nt L ops ds e s k:=by
 unfold K3;rw [hk]
 simp only [VI,Bool.and_eq_true,beq_iff_eq] at hb;obtain ⟨⟨⟨D,H⟩,r⟩,F⟩:=hb
 refine Kf rfl r F fun R η p J G w i o=>?_
 have g:=(J4 o x).1;rw [ZO i D,hx] at g
 generalize hu:G.eval x=u at g
 cases g with|v _ _ g=>cases g with|c _ _ g=>cases g with|d _ _ g=>
 cases g with|lst b off n cap c e' fz f es hX hheap hn ho hf hd' =>
 have q:=hf 0 (by omega);have l:es=1:=by rw [<-q];rfl
 subst l;have h:=hd' 0 0 (by omega) (by omega)
 have B:c.getD off undef=.int .u8 m:=by
  have p:off+(0*1+0)=off:=by omega
  rw [p] at h;have z:(QI 1 [DVal.int .u8 m] 0).getD 0 .any=.int .u8 m:=rfl
  rw [z] at h;generalize c.getD off undef=u at h ⊢
  cases h;rfl
 have A:=run_loadCells (P:=P) w ⟨b,off,none⟩ 1 (fun j=>c.getD (off+j) undef) (fun j I=>by rw [add_lit];exact DZ hheap _ (by omega));refine ⟨.string (ZU m),?_,.v _ _ (.c _ _ (.d _ _ (.str _)))⟩
 have t:c[off]?.getD undef=.int .u8 m:=by rw [<-B];simp
 simp [execOp,hop,hu,convert,run_underlying hs,run_underlying hd,run_underlying he,Conv.bytesToString,A,t,ZU]
end
end
section
def sK(ks:List Nat)(S:List (Nat×Obj))(n:List (Nat×Obj)):List (Nat×Obj):=ks.map (fun i=>(i,(ls S i).getD (.box false [])))++n
section
variable {P:Program} {C:Ctx} {nt:Nat} {L:Lay} {pins:List Nat} {E:List (Nat×AVal)} {S:List (Nat×Obj)} {Q:Exit->Act->World->Prop}
variable {id:Nat} {ops:Array Oper} {draw:Bool} {y:Code}
theorem Z4P{x y:Code}(k:AW P C nt y E S Q):AW P C nt (.cond (.const (.bool false)) x y) E S Q:=fun R η a w b=>wp_cond_false rfl (k R η a w b)
end
theorem eI{k:IntKind}{e v:Int}(h:some e=some v):Y3 (.v (.c (.d (.int k e)))) (.v (.c (.d (.int k v)))):=by cases h;exact Y3.refl _
section
variable {α:Type} [Emb α]
def Wp(l:List α)(i off:Nat)(ds:List DVal):Obj:=.arr (Emb.es α) l.length fun j=>if j=i then Yj (LF l i) off ds else LF l j
def Qg(l m:List α):Obj:=.arr (Emb.es α) (l.length+m.length) (QF l.length (LF l) (LF m))
def qK(m:List α):Obj:=.arr (Emb.es α) (0+m.length) (QF 0 (fun _=>[]) (LF m))
theorem Wv{l:List α}{i off:Nat}{ds:List DVal}{y:α}(hi:i<l.length)(hy:Yj (LF l i) off ds=Emb.cells y:=by kernel_rfl):J1 (Wp l i off ds) (AO (l.set i y)):=J1.is (Is.set (Is.refl l) hi y hy)
theorem Qi{l m:List α}:J1 (Qg l m) (AO (l++m)):=J1.is (Is.app (Is.refl l) (Is.refl m))
theorem cR{m:List α}:J1 (qK m) (AO ([]++m)):=J1.is (Is.app Is.nil (Is.refl m))
theorem y9(l:List α):∀ j,j<l.length->(LF l j).length=Emb.es α:=(Is.refl l).len
theorem QH(x:α):Y3 (.v (.c (.d (.lst 1 (QI (Emb.es α) (Emb.cells x)))))) (AL [x]):=Y3.lst (.lit [x] (by
 show [QI (Emb.es α) (Emb.cells x) 0]=[Emb.cells x];unfold QI
 have:=Emb.len x
 rw [Nat.zero_mul,List.drop_zero,List.take_of_length_le (by omega)]))
end
end
section
section
variable {P:Program} {C:Ctx} {nt:Nat} {L:Lay} {ops:Array Oper} {ds:List Dir} {e:U3} {s:U5}
theorem Z4o{k:Nat}{x y z:Operand}{tys:Array TypeId}{a b c:Int}(hk:Qv ds k=sE (vi (G7 (G7 a b) c)))(hop:(Y8 ops.toList k).op=.call { callee:=.builtin .max,args:= #[x,y,z],argTypes:=tys })(hb:VI ops nt (J0 L ops ops.toList ds e s k) (Y8 ops.toList k) x y=true)(hb2:VI ops nt (J0 L ops ops.toList ds e s k) (Y8 ops.toList k) z z=true)(hx:Y2 (J0 L ops ops.toList ds e s k) x=vi a)(hy:Y2 (J0 L ops ops.toList ds e s k) y=vi b)(hz:Y2 (J0 L ops ops.toList ds e s k) z=vi c):K3 P C nt L ops ds e s k:=by
 unfold K3;rw [hk]
 simp only [VI,Bool.and_eq_true,beq_iff_eq] at hb hb2;obtain ⟨⟨⟨n,m⟩,l⟩,o⟩:=hb
 obtain ⟨⟨⟨j,_⟩,_⟩,_⟩:=hb2;refine Kf rfl l o fun R η q p r w f d=>?_
 have h:=(J4 d x).1;rw [ZO f n,hx] at h
 have h:=WP h;have i:=(J4 d y).1
 rw [ZO f m,hy] at i;have i:=WP i
 have g:=(J4 d z).1;rw [ZO f j,hz] at g
 have g:=WP g;refine ⟨.int .i64 (G7 (G7 a b) c),?_,Wz _ _ _⟩
 simp [execOp,hop,resolve,invoke,builtin,Builtin.max_,Builtin.max2,h,i,g,G7]
 rfl
end
section
variable {P:Program} {C:Ctx} {nt:Nat} {E:List (Nat×AVal)} {S:List (Nat×Obj)} {Q:Exit->Act->World->Prop}
theorem Z4G{c:Code}(n:Nat)(h:AW P C nt c E S (Exit.then (fun a w=>Code.rounds P c Q n a w) Q)):AW P C nt (.loop c) E S Q:=fun R η a w b=>wp_loop_rounds (n+1) (h R η a w b)
theorem Z4a{c:Code}{n:Nat}(h:AW P C nt c E S (Exit.then (fun a w=>Code.rounds P c Q n a w) Q)):Kn C nt E S (fun a w=>Code.rounds P c Q (n+1) a w):=fun R η a w b=>h R η a w b
end
end
section
@[reducible] def gn {α:Type} [Emb α] (l:List α) (i:Int):α:=gl l i.toNat
@[reducible] def jb (t:Nat) (z:Bool):List (Nat×AVal):=[(t,vb z)]
@[reducible] def nn {σ β:Type}:σ->List β:=fun _=>[]
@[reducible] def f0:CV:=.fl 0 fun _=>[]
def oD(a b:Nat)(e:Array Oper->Oper->U3->Eff):List Dir:=List.replicate a .s++.k e::List.replicate b .s
@[reducible] def k1 (i:Nat) (K:Nat->Prop):Prop:=K i/\True
@[reducible] def k2 (i j:Nat) (K:Nat->Prop):Prop:=K i/\K j/\True
theorem gO{p q:Prop}[Decidable p]{R:Type}{x:Option R}{r:R}(h:gd p x=some r)(k:p->x=some r->q):q:=k (gS h).1 (gS h).2
theorem bO{α R:Type}{x:Option α}{f:α->Option R}{r:R}{q:Prop}(h:x.bind f=some r)(k:∀ z,x=some z->f z=some r->q):q:=(bS h).elim fun z e=>k z e.1 e.2
theorem V7{b:Bool}{R:Type}{u v:Option R}{r:R}{q:Prop}(h:br b u v=some r)(ht:b=true->u=some r->q)(hf:b=false->v=some r->q):q:=(Z3c h).elim (fun e=>ht e.1 e.2) fun e=>hf e.1 e.2
section
variable {P:Program} {C:Ctx} {nt:Nat} {L:Lay} {pins:List Nat} {E:List (Nat×AVal)} {S:List (Nat×Obj)} {Q:Exit->Act->World->Prop}
theorem Q2K(Fm:Fr P L C pins){fn:Func}{R:Type}{a r:R}(h:some a=some r){g:R->AVal}{G:R->List (Nat×Obj)}(hQ:Q .ret=WL P fn C (g r) (G r) .ret:=by rfl)(hq:(UA L (lk E) (ls S) fn.results.toList,(G a).map (fun p=>ls S p.1))=(some (g a),(G a).map (fun p=>some p.2)):=by kernel_rfl):AW P C nt .ret E S Q:=by
 cases h
 exact UU (hQ ▸ Zb Fm hq)
theorem Z4N{σ R:Type}{r:R}{c:Code}{body:(σ->Option R)->σ->Option R}{n:Nat}{z0:σ}(h:Z9 body n z0=some r)(E' : σ->List (Nat×AVal))(S' : σ->List (Nat×Obj))(round:∀ (again:σ->Option R) (z:σ) (J:Act->World->Prop),(∀ z',again z'=some r->Kn C nt (E' z') (S' z') J)->body again z=some r->AW P C nt c (E' z) (S' z) (Exit.then J Q)):AW P C nt (.loop c) (E' z0) (S' z0) Q:=Z4K E' S' round h
variable {K:Act->World->Prop}
theorem G5(Fm:Fr P L C pins)(E' : List (Nat×AVal))(S' : List (Nat×Obj))(h:Kn C nt E' S' K)(hq:(pins.all (fun i=>U9 [] i==i),E'.map (fun p=>lk E p.1),S'.map (fun p=>ls S (U9 [] p.1)),ZV (S'.map fun p=>U9 [] p.1))=(true,E'.map (fun p=>p.2.ren (U9 [])),S'.map (fun p=>some (p.2.ren (U9 []))),true):=by kernel_rfl):Kn C nt E S K:=Q2t Fm E' S' hq h
theorem Q2u{k es n:Nat}{f:Nat->List DVal}(E' : List (Nat×AVal))(S' : List (Nat×Obj))(h:Kn C nt E' S' K)(hq:(E.map (fun p=>(p.1,p.2.frz k n f)),S.map (fun p=>(p.1,p.2.frz k n f)),(S.map (·.1)).contains k)=(E',S',false):=by kernel_rfl):Kn C nt E ((k,.arr es n f)::S) K:=Z4h E' S' (congrArg (·.1) hq) (congrArg (·.2.1) hq) (congrArg (·.2.2) hq) h
theorem QK(Fm:Fr P L C pins)(ρ:List (Nat×Nat))(E' : List (Nat×AVal))(S' : List (Nat×Obj))(h:Kn C nt E' S' K)(hq:(pins.all (fun i=>U9 ρ i==i),E'.map (fun p=>lk E p.1),S'.map (fun p=>ls S (U9 ρ p.1)),ZV (S'.map fun p=>U9 ρ p.1))=(true,E'.map (fun p=>p.2.ren (U9 ρ)),S'.map (fun p=>some (p.2.ren (U9 ρ))),true):=by kernel_rfl):Kn C nt E S K:=
 vw Fm ρ E' S' (congrArg (·.1) hq) (congrArg (·.2.1) hq) (congrArg (·.2.2.1) hq) (congrArg (·.2.2.2) hq) h
abbrev Yl(pins:List Nat)(E:List (Nat×AVal))(S:List (Nat×Obj))(E' : List (Nat×AVal))(S' : List (Nat×Obj)):Bool×List AVal×List (Option Obj)×Bool:=(pins.all (fun i=>U9 [] i==i),E'.map (fun p=>lk E p.1),S'.map (fun p=>ls S (U9 [] p.1)),ZV (S'.map fun p=>U9 [] p.1))
abbrev Yk(E' : List (Nat×AVal))(S' : List (Nat×Obj)):Bool×List AVal×List (Option Obj)×Bool:=(true,E'.map (fun p=>p.2.ren (U9 [])),S'.map (fun p=>some (p.2.ren (U9 []))),true)
section
variable {id:Nat} {ops:Array Oper} {draw:Bool} {y:Code}
variable {E2:List (Nat×AVal)} {S2:List (Nat×Obj)}
end
end
section
variable {P:Program} {C:Ctx} {nt:Nat} {L:Lay} {ops:Array Oper} {ds:List Dir} {e:U3} {s:U5}
theorem G3{k:Nat}{f:Nat}{args:List AVal}{Si:List (Nat×Obj)}{r:AVal}{So:List (Nat×Obj)}(hspec:G6 P f args Si r So)(hcall:∀ args w,(callFunc f args).run P w=.ok (.enter f args) w)(m:List (Nat×Nat))(extra:List Nat)(xs:List Operand)(hargs:GC C nt (J0 L ops ops.toList ds e s k) (QM L ops ops.toList ds e s k) Si (U9 m) (QC (Y8 ops.toList k)++Qp ops (Y8 ops.toList k)) (WA (J0 L ops ops.toList ds e s k) (Y8 ops.toList k)++(Si.map (fun p=>U9 m p.1)++extra)) xs args)(hk:Qv ds k=cE m extra r Si So:=by rfl)(hq:(Go.Ab.callB ops nt (J0 L ops ops.toList ds e s k) (Y8 ops.toList k) f m r Si So,Si.map (fun p=>QM L ops ops.toList ds e s k (U9 m p.1)),(Go.Ab.callXs (Y8 ops.toList k)).toList)=(true,Si.map (fun p=>some (p.2.ren (U9 m))),xs):=by kernel_rfl):K3 P C nt L ops ds e s k:=
 Z4v hspec hcall m extra xs hk (congrArg (·.1) hq) (congrArg (·.2.1) hq) (congrArg (·.2.2) hq) hargs
theorem Qj{f:Nat}(hcall:∀ args w,(callFunc f args).run P w=.ok (.enter f args) w){F:List AVal->AVal->Prop}(cs:List (List CV))(hspec:∀ args r,F args r->G6 P f (args++Wr cs) (Zt cs) r (Zt cs)/\r.closed=true){Si:List (Nat×Obj)}{m:Nat->Nat}{rd ids:List Nat}{x:Operand}(cids:List Nat)(hbox:Ha s cids cs)(hx:QA rd x=true:=by kernel_rfl)(hv:Y2 e x=.v (.c (.clo f cids)):=by kernel_rfl)(hnd:(ZV cids&&cs.all (fun c=>c.all CV.closed)&&cids.all (fun i=>ids.contains i))=true:=by kernel_rfl)(hsi:PX s Si m ids cids=true:=by kernel_rfl):YG C nt e s Si m rd ids x (Yh P F):=Z4E hcall cs (fun a r h=>(hspec a r h).1) (fun a r h=>(hspec a r h).2) hx cids hv hnd hbox hsi
end
end
section
section
variable {P:Program} {C:Ctx} {nt:Nat} {L:Lay} {R:Nat->Prop} {η:Nat->Value} {e:U3} {s:U5} {a:Act} {w:World}
variable {ops:Array Oper} {ds:List Dir} {k:Nat}
end
end
section
open Go.Sort Go.Proofs Go.Shelf
theorem Q4R{P:Program}{ρ:Ren}(Ly:SlLaysF.n6 P ρ)(F:(Int->Int->Option Int)->List AVal->AVal->Prop)(hF:∀ q x y z,q x y=some z->F q [vi x,vi y] (vi z)){x r:List Int}{q:Int->Int->Option Int}(h:Vz x q=some r):
  G6 P (ρ.f 6) [.v (.c (.own 0)),Yh P (F q)] [(0,AO (α:=Int) x)] .any [(0,AO (α:=Int) r)]:=by
 obtain ⟨hl,B⟩:=Q4V h;have b7:SlLaysF0.n6 P ρ:= { Ly with }
 have O:r.length=x.length:=B.perm.length_eq;intro w X η vs hX a1 c8 i3 I M
 have I:vs.size=2:=I;have f8:vs.getD 0 undef=η 0:=WM (C:=Qr [(0,AO (α:=Int) x)] w X η) (s:=ls [(0,AO (α:=Int) x)]) (by have:=M 0 (by simp);rw [De a1];exact this)
 have d4:Qs P (F q) w (Own (ls [(0,AO (α:=Int) x)]) η) X (vs.getD 1 undef):=by
  have:=M 1 (by simp)
  change ARep w X η _ (vs.getD 1 undef) (Yh P (F q)) at this;generalize vs.getD 1 undef=u at this
  cases this with|v _ _ g=>cases g with|c _ _ g=>cases g with|sem _ _ g _=>exact g
 rw [CX I,f8];have ho:=c8 0 (AO x) (by rw [Qk,if_pos rfl])
 have b2:∀ b,b ∈ Y9 (η 0)->X b:=fun b hb=>a1 b ⟨0,_,by rw [Qk,if_pos rfl],hb⟩
 generalize hu:η 0=u at ho;unfold AO at ho
 generalize hn:x.length=n at ho
 cases ho with
 | nil ad=>
  have hx:x=[]:=List.eq_nil_of_length_eq_zero hn;refine (AnyF.slices_SortFunc_none b7 ad 0 _ w).mono fun e w' g=>?_
  obtain ⟨he,hw⟩:=g;refine ⟨_,η,he,?_⟩
  rw [hw];have hb:=yY (w:=w) (X:=X) (l:=x) hu hX
  have hp:r=[]:=List.eq_nil_of_length_eq_zero (by rw [O,hn]);rw [hp];exact hb
 | arr b _ cap _ c e _ g1 g2 g3 g4 g5 g6 g7=>
  rename_i n
  have H:b ∈ Y9 (η 0):=by rw [hu];simp [Y9];omega
  rcases Nat.eq_zero_or_pos n with a3|a3
  .subst a3
   refine (AnyF.slices_SortFunc_none b7 (some ⟨b,0,none⟩) cap _ w).mono fun e' w' g=>?_
   obtain ⟨he,hw⟩:=g;refine ⟨_,η,he,?_⟩
   rw [hw];exact Cx (c':=c) (e:=e) (b:=b) (n:=0) (cap:=cap) hu g5 (Stp.refl _ _) g1 g2 (by rw [O,hn]) g3 g4 (fun i j D=>absurd D (Nat.not_lt_zero i)) hX (b2 b H)
  obtain ⟨c2,a2,g9,a8,b3⟩:=d4;rw [g9]
  letI inst:Inhabited (_root_.Fin n):=⟨⟨0,a3⟩⟩
  let at_:_root_.Fin n->Int:=fun i=>x[i.val]'(by omega)
  have c4:∀ i,at_ i ∈ r:=fun i=>B.perm.mem_iff.2 (List.getElem_mem _)
  have T:∀ i,∃ s,∃ hs:s<r.length,r[s]=at_ i:=fun i=>by
   obtain ⟨s,hs,e⟩:=List.getElem_of_mem (c4 i);exact ⟨s,hs,e⟩
  let pos:_root_.Fin n->Nat:=fun i=>(T i).choose
  have a4:∀ i,pos i<r.length:=fun i=>(T i).choose_spec.choose
  have W:∀ i,r[pos i]'(a4 i)=at_ i:=fun i=>(T i).choose_spec.choose_spec
  have o:∀ i j,(pos i<pos j->Gx q (at_ i) (at_ j))/\(pos j<=pos i->Gz q (at_ i) (at_ j)):=fun i j=>by
   have:=B.at (pos i) (pos j) (a4 i) (a4 j)
   rw [W,W] at this;exact this
  let cf:_root_.Fin n->_root_.Fin n->Int:=fun i j=>(q (at_ i) (at_ j)).getD 0
  have hq:∀ i j,q (at_ i) (at_ j)=some (cf i j):=by
   intro i j;rcases Nat.lt_or_ge (pos i) (pos j) with V|V
   .obtain ⟨z,e,_⟩:=(o i j).1 V;show _=some ((q (at_ i) (at_ j)).getD 0);rw [e];rfl
   .obtain ⟨z,e,_⟩:=(o i j).2 V;show _=some ((q (at_ i) (at_ j)).getD 0);rw [e];rfl
  have b4:∀ i j,ZL cf i j=true↔pos i<pos j:=by
   intro i j;unfold ZL
   rw [decide_eq_true_eq];rcases Nat.lt_or_ge (pos i) (pos j) with V|V
   .obtain ⟨z,e,hz⟩:=(o i j).1 V
    have:=(hq i j).symm.trans e
    have:cf i j=z:=Option.some.inj this
    omega
   .obtain ⟨z,e,hz⟩:=(o i j).2 V
    have:=(hq i j).symm.trans e
    have:cf i j=z:=Option.some.inj this
    omega
  have hO:SWO (ZL cf):=Q3Z pos b4;have c6:r.Nodup:=B.asc.imp_of_mem fun {a b} ha _ g e=>by subst e;exact g.1.not (B.self a ha)
  have b5:x.Nodup:=B.perm.nodup_iff.1 c6;have Z:∀ i j,at_ i=at_ j->i=j:=fun i j e=>by
   have:i.val=j.val:=(List.getElem_inj b5).1 e
   exact _root_.Fin.ext this
  have J:∀ i j,pos i=pos j->i=j:=fun i j e=>by
   apply Z;rw [<-W i, <-W j]
   simp only [e]
  let d:Array (_root_.Fin n):=(List.finRange n).toArray
  have hd:d.size=n:=by simp [d]
  have b6:∀ i (D:i<n),d[i]! = ⟨i,D⟩:=fun i D=>by
   rw [getElem!_pos d i (by rw [hd];exact D)];simp [d]
  obtain ⟨⟨A,_,c0⟩,c5⟩:=pdq_sorts (ZL cf) hO d 0 d.size (Lib.bitLen d.size) true true (Nat.zero_le _) (Nat.le_refl _) (.inl rfl);generalize hpd:pdq (ZL cf) d 0 d.size (Lib.bitLen d.size) true true=p at A c0 c5
  have A:p.size=n:=A.trans hd;have U:p.toList.Perm (List.finRange n):=by
   have:(p.extract 0 d.size).toList.Perm (d.extract 0 d.size).toList:=c0
   have e1:p.extract 0 d.size=p:=by rw [hd.trans A.symm];exact Array.extract_size
   rw [e1,Array.extract_size] at this;exact this
  have a6:(List.finRange n).map at_=x:=by
   apply List.ext_getElem
   .simp [hn]
   .intro i V h2;simp [at_]
  have f1:r=p.toList.map at_:=by
   refine B.uniq ⟨a6 ▸ U.map at_,?_,fun a ha=>?_⟩
   .rw [List.pairwise_map,List.pairwise_iff_getElem]
    intro i j D hj d5;have Y : i<p.size:=by simpa using D
    have b1 : j<p.size:=by simpa using hj
    have h5:ZL cf p[j]! p[i]! = false:=c5 i j (Nat.zero_le _) d5 (by rw [hd, <-A];exact b1);rw [getElem!_pos p i Y,getElem!_pos p j b1] at h5
    have h6:¬ pos p[j]<pos p[i]:=fun g=>by rw [(b4 _ _).2 g] at h5;cases h5
    have f9:p.toList.Nodup:=U.nodup_iff.2 (List.nodup_finRange n);have h7:pos p[i]≠pos p[j]:=fun g=>by
     have h8:=J _ _ g;have:=(List.getElem_inj (i:=i) (j:=j) (h₀:=D) (h₁:=hj) f9).1 (by simpa using h8)
     omega
    have h8:pos p[i]<pos p[j]:=by omega
    simp only [Array.getElem_toList];exact ⟨(o _ _).1 h8,(o _ _).2 (by omega)⟩
   .obtain ⟨i,_,rfl⟩:=List.mem_map.1 ha
    exact (o i i).2 (Nat.le_refl _)
  have h3:∀ i:_root_.Fin n,(LF x i.val)=[.int .i64 (at_ i)]:=fun i=>by
   show Emb.cells (x.getD i.val Emb.d)=_;rw [Dz x i.val (by omega)];rfl
  have g0:∀ i:_root_.Fin n,c.getD i.val undef=.int .i64 (at_ i):=fun i=>by
   have h0:=g7 i.val 0 i.isLt (by show 0<1;omega);rw [h3] at h0
   have e0:i.val*Emb.es Int+0=i.val:=by show i.val*1+0=_;omega
   rw [e0] at h0;exact h0.lit rfl
  let enc:_root_.Fin n->Value:=fun i=>.int .i64 (at_ i)
  have g2:c.size=cap:=by rw [g2];show cap*1=cap;omega
  have hH:Holds enc w b 0 d:=by
   intro t ht;have a5 : t<n:=by rw [hd] at ht;exact ht
   have c7:t<c.size:=by omega
   refine ⟨?_,by simp [World.frozen?,g1]⟩;rw [b6 t a5]
   have h2:=g0 ⟨t,a5⟩;simp only at h2
   simp only [Nat.zero_add,World.cell?,g1,Option.isSome_none,Bool.false_eq_true,if_false,id];rw [Array.getElem?_eq_getElem c7]
   congr 1
   show _=Value.int .i64 (at_ ⟨t,a5⟩);rw [<-h2];simp [c7]
  have V:OneCell enc:=fun i=>rfl
  have b9:CmpLays1 P c2 a2 enc cf b 0 d.size w:=by
   intro m os dk i7 u v;have G:=BZ enc w b 0 m dk os
   refine (b3 (grow (putRow enc (Go.Sort.ahead w m) b 0 dk) os) X #[enc u,enc v] _ _ (hF q (at_ u) (at_ v) (cf u v) (hq u v)) G.size (fun y hy hD=>G.block y hy fun e=>hD ?_)
    (fun y hy=>Nat.lt_of_lt_of_le (hX y hy) G.size) (fun y _ _=>Iff.rfl) rfl (fun j hj η C=>?_)).mono fun e2 w2 g=>?_
   .rw [e];exact ⟨0,_,by rw [Qk,if_pos rfl],H⟩
   .have:j=0\/j=1:=by simp at hj;omega
    rcases this with rfl|rfl
    .exact .v _ _ (.c _ _ (.d _ _ (.int _ _)))
    .exact .v _ _ (.c _ _ (.d _ _ (.int _ _)))
   .obtain ⟨v',he,f7,hr⟩:=g
    have d7:=hr η (Qr [] w X η);have e3:v'=.int .i64 (cf u v):=by
     cases d7 with|v _ _ g=>cases g with|c _ _ g=>cases g with|d _ _ g=>cases g;rfl
    obtain ⟨qq,g8,f6⟩:=xI f7;exact ⟨by rw [he,e3],qq,g8,f6⟩
  have N:=Any.slices_SortFunc_eq Ly enc V cf hO c2 a2 b 0 cap d w a8 b9 hH (J5 g1) (by rw [hd];simp only [Y5] at hl;omega);rw [hd] at N
  refine N.mono fun e' w' g=>?_
  obtain ⟨he,nn,os,hw⟩:=g;refine ⟨_,η,he,?_⟩
  have f5:pdq (ltOf cf) d 0 n (Lib.bitLen n) true true=p:=by rw [<-hpd,hd];rfl
  rw [f5] at hw;have d2:w'=grow (putRow enc (Go.Sort.ahead w nn) b 0 p) os:=hw
  rw [d2];have G:=BZ enc w b 0 nn p os
  refine Cx (c':=putCells enc 0 p c) (e:=e) (b:=b) (n:=n) (cap:=cap) hu g5 G (qN _ _ _ _ _ _ _ g1) (by rw [Le,g2];show cap=cap*1;omega) (by rw [O,hn]) g3 g4 (fun i j D hj=>?_) hX (b2 b H);have f4:j=0:=by have:j<1:=hj;omega
  subst f4;have e0:i*Emb.es Int+0=i:=by show i*1+0=_;omega
  rw [e0,yd _ _ _ _ (by rw [A];exact D) (by rw [A,g2];exact g3)];have e6:LF r i=[.int .i64 (at_ p[i]!)]:=by
   show Emb.cells (r.getD i Emb.d)=_;rw [Dz r i (by rw [O,hn];exact D)]
   have Y : i<p.size:=by rw [A];exact D
   rw [getElem!_pos p i Y];have:r[i]'(by rw [O,hn];exact D)=(p.toList.map at_)[i]'(by simpa using Y):=by simp only [f1]
   rw [this];simp [Emb.cells]
  rw [e6];exact .int _ _
end
section
def cj(ops:Array Oper):List Oper->List Nat->List Nat
 | [],_=>[]
 | o::os,d=>((QC o++Qp ops o).filter fun t=> !d.contains t)++cj ops os (match o.guard,o.dst with|none,some x=>x::d|_,_=>d)
def rkK(o:Oper):Option Nat:=match o.guard with|none=>o.dst|some _=>none
def MX:List ResultVar->List Nat
 | []=>[]
 | .tmp t::r=>t::MX r
 | .cell t _::r=>t::MX r
def GY:List Nat->List Nat
 | []=>[]
 | x::l=>match (GY l).contains x with|true=>GY l|false=>x::GY l
structure LV where
 out:List Nat
 ex:List (Nat×List Nat)
 rt:List Nat
def J6:Code->LV->List Nat
 | .skip,v=>v.out
 | .region _ ops _,v=>GY (cj ops ops.toList []++v.out.filter fun t=> !(ops.toList.filterMap rkK).contains t)
 | .seq a b,v=>J6 a ⟨J6 b v,v.ex,v.rt⟩
 | .cond x a b,v=>GY ((match x with | .tmp t=>[t] | _=>[])++(J6 a v++J6 b v))
 | .block i c,v=>J6 c ⟨v.out,(i,v.out)::v.ex,v.rt⟩
 | .loop c,v=>J6 c ⟨[],v.ex,v.rt⟩
 | .exit i,v=>(v.ex.lookup i).getD []
 | .ret,v=>v.rt
 | _,_=>[]
def Ky:Code->List Nat
 | .region _ ops _=>ops.toList.filterMap (·.dst)
 | .seq a b=>Ky a++Ky b
 | .cond _ a b=>Ky a++Ky b
 | .block _ c=>Ky c
 | .loop c=>Ky c
 | _=>[]
def Lv(v:LV)(Q:Exit->Act->World->Prop):Exit->Act->World->Prop:=Q
class Fz (P:outParam Program) (L:outParam Lay) (C:Ctx) (pins:outParam (List Nat)):Prop where
 b:Fr P L C pins
abbrev sN(n:Nat)(l:List Dir):List Dir:=List.replicate n .s++l
def pd(ops:Array Oper)(ds:List Dir):List Dir:=ds++List.replicate (ops.size-ds.length) .s
def gJ(S:List (Nat×Obj)):Nat->List Nat->List Nat
 | 0,l=>l
 | n+1,l=>gJ S n (GY (l++l.flatMap fun i=>match ls S i with|some o=>o.refs|none=>[]))
def Lr:List (Nat×Obj)->List Nat
 | []=>[]
 | (i,.exr _ _)::S=>i::Lr S
 | _::S=>Lr S
def rkB(o:Oper):Bool:=match o.op with | .alloc _=>true | .call _=>true|_=>false
def Yw(pins:List Nat)(ops:Array Oper)(ds:List Dir)(E:List (Nat×AVal))(S:List (Nat×Obj)):List (Nat×Obj):=
 match ds.isEmpty && !(ops.toList.any rkB) with
 | true=>S
 | false=>S.filter fun p=>(gJ S 3 (pins++(E.flatMap fun p=>p.2.refs)++Lr S)).contains p.1
def ZB(pins:List Nat)(L:Lay)(ops:Array Oper)(ds:List Dir)(E:List (Nat×AVal))(S:List (Nat×Obj))(ts:List Nat):List (Nat×AVal):=
 ts.map fun t=>(t,UM ops.toList (Vu L ops ops.toList (pd ops ds) (lk E) (ls (Yw pins ops ds E S))) (lk E) t)
def gH(L:Lay)(ops:Array Oper)(ds:List Dir)(E:List (Nat×AVal))(S:List (Nat×Obj)):List (Nat×Obj):=
 (S.map (·.1)++YA (Vu L ops ops.toList (pd ops ds) (lk E) (ls S))).filterMap fun i=>(UL (Vu L ops ops.toList (pd ops ds) (lk E) (ls S)) (ls S) i).map fun o=>(i,o)
def Qz(pins:List Nat)(L:Lay)(ops:Array Oper)(ds:List Dir)(E:List (Nat×AVal))(S:List (Nat×Obj)):List (Nat×Obj):=gH L ops ds E (Yw pins ops ds E S)
theorem gK:U9 []=fun i=>i:=by funext i;rfl
section
variable {P:Program} {C:Ctx} {nt:Nat} {L:Lay} {pins:List Nat} {v:LV} {E:List (Nat×AVal)} {S:List (Nat×Obj)} {Q:Exit->Act->World->Prop}
variable {id:Nat} {ops:Array Oper} {draw:Bool} {y:Code}
abbrev ZS(P:Program)(C:Ctx)(nt:Nat)(L:Lay)(pins:List Nat)(E:List (Nat×AVal))(S:List (Nat×Obj))(ops:Array Oper)(draw:Bool)(ds:List Dir):Bool×Prop:=
 (Cr L pins nt ops draw (pd ops ds) E (Yw pins ops ds E S) [] (Qz pins L ops ds E S),JT P C nt L ops ops.toList (pd ops ds) (lk E) (ls (Yw pins ops ds E S)))
theorem SF{l:List Nat}{i:Nat}{o:Obj}:∀ {S:List (Nat×Obj)},ls (S.filter fun p=>l.contains p.1) i=some o->ls S i=some o
 | [],h=>h
 | (j,x)::S,h=>by
  rw [Qk];rw [List.filter_cons] at h
  by_cases hj:l.contains j=true
  .rw [if_pos hj,Qk] at h
   by_cases hij:i=j
   .rw [if_pos hij] at h ⊢;exact h
   .rw [if_neg hij] at h ⊢;exact SF h
  .rw [if_neg hj] at h
   by_cases hij:i=j
   .exfalso
    subst hij;have:=y6 h
    exact hj (by simpa using (List.mem_filter.1 this).2)
   .rw [if_neg hij];exact SF h
theorem Z3Y{K:Act->World->Prop}{l:List Nat}(h:Kn C nt E (S.filter fun p=>l.contains p.1) K):Kn C nt E S K:=by
 intro R η a w c;refine h R (fun i=>η i) a w (c.conv (fun i=>i) (fun t=>by rw [Hq];exact Y3.refl _) (fun i x b=>⟨x,SF b,by rw [Hj];exact J1.refl _⟩) (fun i j b g d=>d) c.er (fun i x b=>c.sr i x (SF b)) (fun i b=>?_))
 obtain ⟨v,f⟩:=Option.ne_none_iff_exists'.1 b;exact ⟨rfl,(c.pn i v f).2⟩
theorem Z4g{K:Act->World->Prop}{ds:List Dir}(h:Kn C nt E (Yw pins ops ds E S) K):Kn C nt E S K:=by
 unfold Yw at h;split at h
 .exact h
 .exact Z3Y h
theorem Z8[Fm:Fz P L C pins](ds:List Dir)(c:(Nat->Prop)->Prop)(hc:c (K3 P C nt L ops (pd ops ds) (lk E) (ls (Yw pins ops ds E S))))(k:Kn C nt (ZB pins L ops ds E S v.out) (Qz pins L ops ds E S) (Q .normal))(h:ZS P C nt L pins E S ops draw ds=(true,c (K3 P C nt L ops (pd ops ds) (lk E) (ls (Yw pins ops ds E S)))):=by kernel_rfl):AW P C nt (.region id ops draw) E S (Lv v Q):=by
 refine Z4g (pins:=pins) (ops:=ops) (ds:=ds) (Z4I Fm.b (pd ops ds) [] c (ZB pins L ops ds E S v.out) (Qz pins L ops ds E S) hc (congrArg (·.1) h) (congrArg (·.2) h) ?_ ?_ k)
 .rw [gK]
  unfold ZB;rw [List.map_map,List.map_map]
  exact List.map_congr_left fun t _=>(Hq _).symm
 .rw [gK]
  refine List.map_congr_left fun p d=>?_
  unfold Qz gH at d;obtain ⟨i,_,f⟩:=List.mem_filterMap.1 d
  obtain ⟨o,g,e⟩:=Option.map_eq_some_iff.1 f;rw [<-e]
  simp only [g,Hj]
theorem Q1{x:Code}(h:AW P C nt x E S (Lv ⟨J6 y v,v.ex,v.rt⟩ (Exit.then (y.wp P (Lv v Q)) (Lv v Q)))):AW P C nt (.seq x y) E S (Lv v Q):=Q2I h
theorem Z4{i:Nat}{c:Code}(h:AW P C nt c E S (Lv ⟨v.out,(i,v.out)::v.ex,v.rt⟩ (Exit.inBlock i (Lv v Q)))):AW P C nt (.block i c) E S (Lv v Q):=Z4Q h
theorem Wh[Fm:Fz P L C pins](ds:List Dir)(c:(Nat->Prop)->Prop)(hc:c (K3 P C nt L ops (pd ops ds) (lk E) (ls (Yw pins ops ds E S))))(k:AW P C nt y (ZB pins L ops ds E S (J6 y v)) (Qz pins L ops ds E S) (Lv v Q))(h:ZS P C nt L pins E S ops draw ds=(true,c (K3 P C nt L ops (pd ops ds) (lk E) (ls (Yw pins ops ds E S)))):=by kernel_rfl):AW P C nt (.seq (.region id ops draw) y) E S (Lv v Q):=Q1 (Z8 ds c hc k h)
theorem UX[Fm:Fz P L C pins](ds:List Dir){q:Prop}(hc:q)(k:Kn C nt (ZB pins L ops ds E S v.out) (Qz pins L ops ds E S) (Q .normal))(h:ZS P C nt L pins E S ops draw ds=(true,q):=by kernel_rfl):AW P C nt (.region id ops draw) E S (Lv v Q):=Z8 ds (fun _=>q) hc k h
theorem G9[Fm:Fz P L C pins](ds:List Dir){q:Prop}(hc:q)(k:AW P C nt y (ZB pins L ops ds E S (J6 y v)) (Qz pins L ops ds E S) (Lv v Q))(h:ZS P C nt L pins E S ops draw ds=(true,q):=by kernel_rfl):AW P C nt (.seq (.region id ops draw) y) E S (Lv v Q):=Wh ds (fun _=>q) hc k h
theorem Qc[Fm:Fz P L C pins]{q:Prop}(hc:q)(k:Kn C nt (ZB pins L ops [] E S v.out) (Qz pins L ops [] E S) (Q .normal))(h:ZS P C nt L pins E S ops draw []=(true,q):=by kernel_rfl):AW P C nt (.region id ops draw) E S (Lv v Q):=UX [] hc k h
theorem U6[Fm:Fz P L C pins]{q:Prop}(hc:q)(k:AW P C nt y (ZB pins L ops [] E S (J6 y v)) (Qz pins L ops [] E S) (Lv v Q))(h:ZS P C nt L pins E S ops draw []=(true,q):=by kernel_rfl):AW P C nt (.seq (.region id ops draw) y) E S (Lv v Q):=G9 [] hc k h
theorem YW[Fm:Fz P L C pins](k:Kn C nt (ZB pins L ops [] E S v.out) (Qz pins L ops [] E S) (Q .normal))(h:ZS P C nt L pins E S ops draw []=(true,True):=by kernel_rfl):AW P C nt (.region id ops draw) E S (Lv v Q):=UX [] True.intro k h
theorem Q0[Fm:Fz P L C pins](k:AW P C nt y (ZB pins L ops [] E S (J6 y v)) (Qz pins L ops [] E S) (Lv v Q))(h:ZS P C nt L pins E S ops draw []=(true,True):=by kernel_rfl):AW P C nt (.seq (.region id ops draw) y) E S (Lv v Q):=G9 [] True.intro k h
theorem Y4[Fm:Fz P L C pins]{fn:Func}{R:Type}{a r:R}(h:some a=some r){g:R->AVal}{G:R->List (Nat×Obj)}(hQ:Q .ret=WL P fn C (g r) (G r) .ret:=by rfl)(h1:ZS P C nt L pins E S ops draw []=(true,True):=by kernel_rfl)(hq:(UA L (lk (ZB pins L ops [] E S (J6 .ret v))) (ls (Qz pins L ops [] E S)) fn.results.toList,(G a).map (fun p=>ls (Qz pins L ops [] E S) p.1))=(some (g a),(G a).map (fun p=>some p.2)):=by kernel_rfl):AW P C nt (.seq (.region id ops draw) .ret) E S (Lv v Q):=Q0 (Q2K Fm.b h hQ hq) h1
def rp(N:List (Nat×Obj))(S:List (Nat×Obj)):List (Nat×Obj):=S.map fun p=>(p.1,(N.lookup p.1).getD p.2)
def FX:List (Nat×Obj)->List (Nat×Obj)->Prop
 | (_,o)::W,(_,x)::N=>J1 o x/\FX W N
 | _,_=>True
theorem Q0l:∀ {W N:List (Nat×Obj)},FX W N->W.map (·.1)=N.map (·.1)->∀ {i:Nat} {x:Obj},N.lookup i=some x->∃ o,W.lookup i=some o/\J1 o x
 | [],[],_,_,_,_,h=>by cases h
 | [],_::_,_,h,_,_,_=>by cases h
 | _::_,[],_,h,_,_,_=>by cases h
 | (k,o)::W,(j,z)::N,hf,b,i,x,h=>by
  simp only [List.map_cons,List.cons.injEq] at b;obtain ⟨rfl,b⟩:=b
  rw [List.lookup_cons] at h ⊢
  cases hik:i==k with
  | true=>rw [hik] at h;cases h;exact ⟨o,rfl,hf.1⟩
  | false=>rw [hik] at h;exact Q0l hf.2 b h
theorem Q0m{W N:List (Nat×Obj)}(hf:FX W N)(hk:W.map (·.1)=N.map (·.1)):∀ {S:List (Nat×Obj)},S.map (fun p=>(W.lookup p.1).getD p.2)=S.map (·.2)->Hl S (rp N S)
 | [],_=>True.intro
 | (i,o)::S,h=>by
  simp only [List.map_cons,List.cons.injEq] at h;refine ⟨rfl,?_,Q0m hf hk h.2⟩
  cases hl:N.lookup i with
  | none=>exact J1.refl _
  | some x=>
   obtain ⟨d,c,f⟩:=Q0l hf hk hl;have b:=h.1
   rw [c] at b;have b:d=o:=b
   rw [<-b];exact f
theorem Z3Z{K:Act->World->Prop}{W N:List (Nat×Obj)}(hf:FX W N)(k:Kn C nt E (rp N S) K)(h:(W.map (·.1),S.map (fun p=>(W.lookup p.1).getD p.2))=(N.map (·.1),S.map (·.2))):Kn C nt E S K:=
 JW E _ (FE.refl _) (Q0m hf (congrArg (·.1) h) (congrArg (·.2) h)) k
theorem Wi[Fm:Fz P L C pins](ds:List Dir)(c:(Nat->Prop)->Prop)(hc:c (K3 P C nt L ops (pd ops ds) (lk E) (ls (Yw pins ops ds E S))))(W N:List (Nat×Obj))(hW:FX W N)(k:Kn C nt (ZB pins L ops ds E S v.out) (rp N (Qz pins L ops ds E S)) (Q .normal))(h:ZS P C nt L pins E S ops draw ds=(true,c (K3 P C nt L ops (pd ops ds) (lk E) (ls (Yw pins ops ds E S)))):=by kernel_rfl)(h2:(W.map (·.1),(Qz pins L ops ds E S).map (fun p=>(W.lookup p.1).getD p.2))=(N.map (·.1),(Qz pins L ops ds E S).map (·.2)):=by kernel_rfl):AW P C nt (.region id ops draw) E S (Lv v Q):=
 Z8 ds c hc (Z3Z hW k h2) h
theorem UV[Fm:Fz P L C pins](ds:List Dir)(c:(Nat->Prop)->Prop)(hc:c (K3 P C nt L ops (pd ops ds) (lk E) (ls (Yw pins ops ds E S))))(W N:List (Nat×Obj))(hW:FX W N)(k:AW P C nt y (ZB pins L ops ds E S (J6 y v)) (rp N (Qz pins L ops ds E S)) (Lv v Q))(h:ZS P C nt L pins E S ops draw ds=(true,c (K3 P C nt L ops (pd ops ds) (lk E) (ls (Yw pins ops ds E S)))):=by kernel_rfl)(h2:(W.map (·.1),(Qz pins L ops ds E S).map (fun p=>(W.lookup p.1).getD p.2))=(N.map (·.1),(Qz pins L ops ds E S).map (·.2)):=by kernel_rfl):AW P C nt (.seq (.region id ops draw) y) E S (Lv v Q):=
 Q1 (Wi ds c hc W N hW k h h2)
theorem Qw[Fm:Fz P L C pins](ds:List Dir){q:Prop}(hc:q)(W N:List (Nat×Obj))(hW:FX W N)(k:Kn C nt (ZB pins L ops ds E S v.out) (rp N (Qz pins L ops ds E S)) (Q .normal))(h:ZS P C nt L pins E S ops draw ds=(true,q):=by kernel_rfl)(h2:(W.map (·.1),(Qz pins L ops ds E S).map (fun p=>(W.lookup p.1).getD p.2))=(N.map (·.1),(Qz pins L ops ds E S).map (·.2)):=by kernel_rfl):AW P C nt (.region id ops draw) E S (Lv v Q):=Wi ds (fun _=>q) hc W N hW k h h2
theorem YH[Fm:Fz P L C pins](ds:List Dir){q:Prop}(hc:q)(W N:List (Nat×Obj))(hW:FX W N)(k:AW P C nt y (ZB pins L ops ds E S (J6 y v)) (rp N (Qz pins L ops ds E S)) (Lv v Q))(h:ZS P C nt L pins E S ops draw ds=(true,q):=by kernel_rfl)(h2:(W.map (·.1),(Qz pins L ops ds E S).map (fun p=>(W.lookup p.1).getD p.2))=(N.map (·.1),(Qz pins L ops ds E S).map (·.2)):=by kernel_rfl):AW P C nt (.seq (.region id ops draw) y) E S (Lv v Q):=UV ds (fun _=>q) hc W N hW k h h2
theorem V8[Fm:Fz P L C pins](a:Nat){f:Nat}{args:List AVal}{Si:List (Nat×Obj)}{r:AVal}{So:List (Nat×Obj)}(hs:G6 P f args Si r So)(hc:∀ args w,(callFunc f args).run P w=.ok (.enter f args) w)(m:List (Nat×Nat))(k:Kn C nt (ZB pins L ops (oD a 0 (cE m [] r Si So)) E S v.out) (Qz pins L ops (oD a 0 (cE m [] r Si So)) E S) (Q .normal))(hk:Qv (pd ops (oD a 0 (cE m [] r Si So))) a=cE m [] r Si So:=by kernel_rfl)(hq:(Go.Ab.callB ops nt (J0 L ops ops.toList (pd ops (oD a 0 (cE m [] r Si So))) (lk E) (ls (Yw pins ops (oD a 0 (cE m [] r Si So)) E S)) a) (Y8 ops.toList a) f m r Si So,Si.map (fun p=>QM L ops ops.toList (pd ops (oD a 0 (cE m [] r Si So))) (lk E) (ls (Yw pins ops (oD a 0 (cE m [] r Si So)) E S)) a (U9 m p.1)),
   (Go.Ab.callXs (Y8 ops.toList a)).toList.all (QA (QC (Y8 ops.toList a)++Qp ops (Y8 ops.toList a)))&&args.all AVal.noSem,(Go.Ab.callXs (Y8 ops.toList a)).toList.map (Y2 (J0 L ops ops.toList (pd ops (oD a 0 (cE m [] r Si So))) (lk E) (ls (Yw pins ops (oD a 0 (cE m [] r Si So)) E S)) a)))=(true,Si.map (fun p=>some (p.2.ren (U9 m))),true,args.map (AVal.ren (U9 m))):=by kernel_rfl)(h:ZS P C nt L pins E S ops draw (oD a 0 (cE m [] r Si So))=(true,K3 P C nt L ops (pd ops (oD a 0 (cE m [] r Si So))) (lk E) (ls (Yw pins ops (oD a 0 (cE m [] r Si So)) E S)) a/\True):=by kernel_rfl):AW P C nt (.region id ops draw) E S (Lv v Q):=Z8 _ (k1 a) ⟨Q2A hs hc m hk hq,True.intro⟩ k h
variable {E2:List (Nat×AVal)} {S2:List (Nat×Obj)}
theorem U2{K:Act->World->Prop}[Fm:Fz P L C pins](k:Kn C nt E2 S2 K)(hq:Yl pins E S E2 S2=Yk E2 S2:=by kernel_rfl):Kn C nt E S K:=Z4l Fm.b k hq
theorem U7[Fm:Fz P L C pins](ds:List Dir){q:Prop}(hc:q)(k:Kn C nt E2 S2 (Q .normal))(h:ZS P C nt L pins E S ops draw ds=(true,q):=by kernel_rfl)(hq:Yl pins (ZB pins L ops ds E S v.out) (Qz pins L ops ds E S) E2 S2=Yk E2 S2:=by kernel_rfl):AW P C nt (.region id ops draw) E S (Lv v Q):=UX ds hc (U2 k hq) h
theorem ZQ[Fm:Fz P L C pins]{q:Prop}(hc:q)(k:Kn C nt E2 S2 (Q .normal))(h:ZS P C nt L pins E S ops draw []=(true,q):=by kernel_rfl)(hq:Yl pins (ZB pins L ops [] E S v.out) (Qz pins L ops [] E S) E2 S2=Yk E2 S2:=by kernel_rfl):AW P C nt (.region id ops draw) E S (Lv v Q):=U7 [] hc k h hq
theorem vQ[Fm:Fz P L C pins](ds:List Dir){b c:Bool}(e:b=c)(k:Kn C nt E2 S2 (Q .normal))(h:ZS P C nt L pins E S ops draw ds=(true,Y3 (vb b) (vb c)/\True):=by kernel_rfl)(hq:Yl pins (ZB pins L ops ds E S v.out) (Qz pins L ops ds E S) E2 S2=Yk E2 S2:=by kernel_rfl):AW P C nt (.region id ops draw) E S (Lv v Q):=U7 ds (Go.Ab.cT (Y3.bool e)) k h hq
theorem J8[Fm:Fz P L C pins]{e:Int}{R:Type}{x:Option R}{r:R}(g:gd (Q6 (e+1)) x=some r)(k:x=some r->Kn C nt E2 S2 (Q .normal))(h:ZS P C nt L pins E S ops draw []=(true,(Q6 (e+1)/\True)/\True):=by kernel_rfl)(hq:Yl pins (ZB pins L ops [] E S v.out) (Qz pins L ops [] E S) E2 S2=Yk E2 S2:=by kernel_rfl):AW P C nt (.region id ops draw) E S (Lv v Q):=
 ZQ (Go.Ab.cT (Go.Ab.cT (gS g).1)) (k (gS g).2) h hq
def Qt(x:Code)(l:List Nat)(E n:List (Nat×AVal)):List (Nat×AVal):=n++E.filter fun p=>l.contains p.1 && !(Ky x).contains p.1
theorem Pn{σ R:Type}(r:R){x:Code}(f:σ->Option R)(nE:σ->List (Nat×AVal))(kS:List Nat)(nS:σ->List (Nat×Obj))(hy:∀ z,f z=some r->AW P C nt y (Qt x (J6 y v) E (nE z)) (sK kS S (nS z)) (Lv v Q))(hx:∀ J:Act->World->Prop,(∀ z,f z=some r->Kn C nt (Qt x (J6 y v) E (nE z)) (sK kS S (nS z)) J)->AW P C nt x E S (Lv ⟨J6 y v,v.ex,v.rt⟩ (Exit.then J (Lv v Q)))):AW P C nt (.seq x y) E S (Lv v Q):=Z4O f _ _ hy hx
theorem Z4M[Fm:Fz P L C pins]{σ R:Type}{r:R}{c:Code}{body:(σ->Option R)->σ->Option R}{n:Nat}{z0:σ}(h:Z9 body n z0=some r)(E' : σ->List (Nat×AVal))(S' : σ->List (Nat×Obj))(round:∀ (again:σ->Option R) (z:σ) (J:Act->World->Prop),(∀ z',again z'=some r->Kn C nt (Qt c (J6 (.loop c) v) E (E' z')) (S' z') J)->body again z=some r->AW P C nt c (Qt c (J6 (.loop c) v) E (E' z)) (S' z) (Lv ⟨J6 (.loop c) v,v.ex,v.rt⟩ (Exit.then J (Lv v Q))))(hq:Yl pins E S (Qt c (J6 (.loop c) v) E (E' z0)) (S' z0)=Yk (Qt c (J6 (.loop c) v) E (E' z0)) (S' z0):=by kernel_rfl):AW P C nt (.loop c) E S (Lv v Q):=U2 (Z4N h (fun z=>Qt c (J6 (.loop c) v) E (E' z)) S' round) hq
def gI(S:List (Nat×Obj))(k:Nat):Nat:=match ls S k with|some (.arr e _ _)=>e|_=>0
def MY(S:List (Nat×Obj))(k:Nat):Nat:=match ls S k with|some (.arr _ n _)=>n|_=>0
def MZ(S:List (Nat×Obj))(k:Nat):Nat->List DVal:=match ls S k with|some (.arr _ _ f)=>f|_=>fun _=>[]
def MW(S:List (Nat×Obj))(k:Nat):List (Nat×Obj):=S.filter fun p=>p.1 != k
theorem y7{K:Act->World->Prop}[Fm:Fz P L C pins](k:Nat)(h:Kn C nt (E.map fun p=>(p.1,p.2.frz k (MY S k) (MZ S k))) ((MW S k).map fun p=>(p.1,p.2.frz k (MY S k) (MZ S k))) K)(h1:Yl pins E S E ((k,.arr (gI S k) (MY S k) (MZ S k))::MW S k)=Yk E ((k,.arr (gI S k) (MY S k) (MZ S k))::MW S k):=by kernel_rfl)(h2:((MW S k).map (·.1)).contains k=false:=by kernel_rfl):Kn C nt E S K:=
 U2 (Q2u _ _ h (by rw [h2])) h1
theorem Z4c{K:Act->World->Prop}{α:Type}[Emb α][Fm:Fz P L C pins](t:Nat)(k:Kn C nt ((t,AL ([]:List α))::E) S K)(h:Yl pins E S ((t,.v (.c f0))::E) S=Yk ((t,.v (.c f0))::E) S:=by kernel_rfl):Kn C nt E S K:=
 U2 (Z4j (Y3.c (K5.fl .nil)) k) h
theorem K4{fn:Func}{R:Type}{a r:R}(h:some a=some r){g:R->AVal}{G:R->List (Nat×Obj)}(k:Kn C nt E S (WL P fn C (g a) (G a) .ret))(hQ:Q .ret=WL P fn C (g r) (G r) .ret:=by rfl):AW P C nt .ret E S Q:=by
 cases h
 exact UU (hQ ▸ k)
theorem Qh[Fm:Fz P L C pins]{fn:Func}{r:AVal}{S' : List (Nat×Obj)}(hq:(UA L (lk E) (ls S) fn.results.toList,S'.map (fun p=>ls S p.1))=(some r,S'.map (fun p=>some p.2)):=by kernel_rfl):Kn C nt E S (WL P fn C r S' .ret):=Q2v Fm.b hq
end
section
variable {P:Program} {L:Lay}
theorem GI{f:Nat}{fn:Func}{c:Code}(hf:P.funcs[f]?=some fn)(hm:P.follows .mixedOrders=true)(hL:Qa P L){args:List AVal}{S:List (Nat×Obj)}{r:AVal}{S' : List (Nat×Obj)}(h:∀ C,Fz P L C (S.map (·.1))->AW P C fn.ntmps c (Pd args) S (Lv ⟨[],[],MX fn.results.toList⟩ (WL P fn C r S')))(hb:fn.body=some c:=by rfl)(hn0:Nat.ble args.length fn.ntmps=true:=by kernel_rfl):G6 P f args S r S':=FI hf hm hL (fun C b=>h C ⟨b⟩) hb hn0
end
theorem Q1c{ops:Array Oper}:∀ {ds:List Dir} {k:Nat} {l:List Dir},Nat.blt k ds.length=true->Qv (ds++l) k=Qv ds k
 | [],k,_,h=>by simp [Nat.blt] at h
 | d::ds,0,l,_=>by cases d <;> rfl
 | d::ds,k+1,l,h=>by
  have b:Nat.blt k ds.length=true:=by simp [Nat.blt] at h ⊢;omega
  have:Qv ((d::ds)++l) (k+1)=Qv (ds++l) k:=by cases d <;> rfl
  rw [this,Q1c (ops:=ops) b]
  cases d <;> rfl
section
variable {P:Program} {C:Ctx} {nt:Nat} {L:Lay} {ops:Array Oper} {ds:List Dir} {e:U3} {s:U5}
theorem Z7{k:Nat}{f:Nat}{args:List AVal}{Si:List (Nat×Obj)}{r:AVal}{So:List (Nat×Obj)}(hspec:G6 P f args Si r So)(hcall:∀ args w,(callFunc f args).run P w=.ok (.enter f args) w)(m:List (Nat×Nat))(hk:Qv ds k=cE m [] r Si So:=by rfl)(hl:Nat.blt k ds.length=true:=by kernel_rfl)(hq:(Go.Ab.callB ops nt (J0 L ops ops.toList (pd ops ds) e s k) (Y8 ops.toList k) f m r Si So,Si.map (fun p=>QM L ops ops.toList (pd ops ds) e s k (U9 m p.1)),
   (Go.Ab.callXs (Y8 ops.toList k)).toList.all (QA (QC (Y8 ops.toList k)++Qp ops (Y8 ops.toList k)))&&args.all AVal.noSem,(Go.Ab.callXs (Y8 ops.toList k)).toList.map (Y2 (J0 L ops ops.toList (pd ops ds) e s k)))
   = (true,Si.map (fun p=>some (p.2.ren (U9 m))),true,args.map (AVal.ren (U9 m))):=by kernel_rfl):K3 P C nt L ops (pd ops ds) e s k:=Q2A hspec hcall m ((Q1c (ops:=ops) hl).trans hk) hq
end
end
section
section
variable {P:Program} {C:Ctx} {nt:Nat} {L:Lay} {pins:List Nat} {v:LV} {E:List (Nat×AVal)} {S:List (Nat×Obj)} {Q:Exit->Act->World->Prop}
variable {id:Nat} {ops:Array Oper} {draw:Bool} {y x c:Code} {R A B D G H:Type}
@[reducible] def n2 {σ τ β:Type}:σ->τ->List β:=fun _ _=>[]
@[reducible] def n3 {σ τ ρ β:Type}:σ->τ->ρ->List β:=fun _ _ _=>[]
theorem y4(r:R)(f:Option R)(nE:List (Nat×AVal))(kS:List Nat)(nS:List (Nat×Obj))(hy:f=some r->AW P C nt y (Qt x (J6 y v) E nE) (sK kS S nS) (Lv v Q))(hx:∀ J:Act->World->Prop,(f=some r->Kn C nt (Qt x (J6 y v) E nE) (sK kS S nS) J)->AW P C nt x E S (Lv ⟨J6 y v,v.ex,v.rt⟩ (Exit.then J (Lv v Q)))):AW P C nt (.seq x y) E S (Lv v Q):=
 Pn r (fun _:Unit=>f) (fun _=>nE) kS (fun _=>nS) (fun _ h=>hy h) (fun J h=>hx J (h ()))
theorem Y6(r:R)(f:A->Option R)(nE:A->List (Nat×AVal))(kS:List Nat)(nS:A->List (Nat×Obj))(hy:∀ a,f a=some r->AW P C nt y (Qt x (J6 y v) E (nE a)) (sK kS S (nS a)) (Lv v Q))(hx:∀ J:Act->World->Prop,(∀ {a},f a=some r->Kn C nt (Qt x (J6 y v) E (nE a)) (sK kS S (nS a)) J)->AW P C nt x E S (Lv ⟨J6 y v,v.ex,v.rt⟩ (Exit.then J (Lv v Q)))):AW P C nt (.seq x y) E S (Lv v Q):=
 Pn r f nE kS nS hy (fun J h=>hx J (h _))
theorem WG(r:R)(f:A->B->Option R)(nE:A->B->List (Nat×AVal))(kS:List Nat)(nS:A->B->List (Nat×Obj))(hy:∀ a b,f a b=some r->AW P C nt y (Qt x (J6 y v) E (nE a b)) (sK kS S (nS a b)) (Lv v Q))(hx:∀ J:Act->World->Prop,(∀ {a b},f a b=some r->Kn C nt (Qt x (J6 y v) E (nE a b)) (sK kS S (nS a b)) J)->AW P C nt x E S (Lv ⟨J6 y v,v.ex,v.rt⟩ (Exit.then J (Lv v Q)))):AW P C nt (.seq x y) E S (Lv v Q):=
 Pn r (fun z:A×B=>f z.1 z.2) (fun z=>nE z.1 z.2) kS (fun z=>nS z.1 z.2) (fun z=>hy z.1 z.2) (fun J h=>hx J (h (_,_)))
theorem ZR(r:R)(f:A->B->D->Option R)(nE:A->B->D->List (Nat×AVal))(kS:List Nat)(nS:A->B->D->List (Nat×Obj))(hy:∀ a b c,f a b c=some r->AW P C nt y (Qt x (J6 y v) E (nE a b c)) (sK kS S (nS a b c)) (Lv v Q))(hx:∀ J:Act->World->Prop,(∀ {a b c},f a b c=some r->Kn C nt (Qt x (J6 y v) E (nE a b c)) (sK kS S (nS a b c)) J)->AW P C nt x E S (Lv ⟨J6 y v,v.ex,v.rt⟩ (Exit.then J (Lv v Q)))):AW P C nt (.seq x y) E S (Lv v Q):=
 WG r (fun a (b:B×D)=>f a b.1 b.2) (fun a b=>nE a b.1 b.2) kS (fun a b=>nS a b.1 b.2) (fun a b=>hy a b.1 b.2) (fun J h=>hx J (fun {_ b c}=>h (b:=(b,c))))
theorem vR(r:R)(f:A->B->D->G->Option R)(nE:A->B->D->G->List (Nat×AVal))(kS:List Nat)(nS:A->B->D->G->List (Nat×Obj))(hy:∀ a b c d,f a b c d=some r->AW P C nt y (Qt x (J6 y v) E (nE a b c d)) (sK kS S (nS a b c d)) (Lv v Q))(hx:∀ J:Act->World->Prop,(∀ {a b c d},f a b c d=some r->Kn C nt (Qt x (J6 y v) E (nE a b c d)) (sK kS S (nS a b c d)) J)->AW P C nt x E S (Lv ⟨J6 y v,v.ex,v.rt⟩ (Exit.then J (Lv v Q)))):AW P C nt (.seq x y) E S (Lv v Q):=
 ZR r (fun a b (c:D×G)=>f a b c.1 c.2) (fun a b c=>nE a b c.1 c.2) kS (fun a b c=>nS a b c.1 c.2) (fun a b c=>hy a b c.1 c.2) (fun J h=>hx J (fun {_ _ b c}=>h (c:=(b,c))))
theorem y5{r:R}{n:Nat}{z0:A}{body:(A->Option R)->A->Option R}(h:Z9 body n z0=some r)(E' : A->List (Nat×AVal))(S' : A->List (Nat×Obj))(round:∀ (again:A->Option R) (z:A) (J:Act->World->Prop),(∀ {z'},again z'=some r->Kn C nt (Qt c (J6 (.loop c) v) E (E' z')) (S' z') J)->body again z=some r->AW P C nt c (Qt c (J6 (.loop c) v) E (E' z)) (S' z) (Lv ⟨J6 (.loop c) v,v.ex,v.rt⟩ (Exit.then J (Lv v Q))))(hq:Yl pins E S (Qt c (J6 (.loop c) v) E (E' z0)) (S' z0)=Yk (Qt c (J6 (.loop c) v) E (E' z0)) (S' z0):=by kernel_rfl)[Fm:Fz P L C pins]:AW P C nt (.loop c) E S (Lv v Q):=Z4M h E' S' (fun g z J b=>round g z J (b _)) hq
theorem Qb{r:R}{n:Nat}{z0:A×B}{body:(A×B->Option R)->A×B->Option R}(h:Z9 body n z0=some r)(E' : A->B->List (Nat×AVal))(S' : A->B->List (Nat×Obj))(round:∀ (again:A×B->Option R) (a:A) (b:B) (J:Act->World->Prop),(∀ {a b},again (a,b)=some r->Kn C nt (Qt c (J6 (.loop c) v) E (E' a b)) (S' a b) J)->body again (a,b)=some r->AW P C nt c (Qt c (J6 (.loop c) v) E (E' a b)) (S' a b) (Lv ⟨J6 (.loop c) v,v.ex,v.rt⟩ (Exit.then J (Lv v Q))))(hq:Yl pins E S (Qt c (J6 (.loop c) v) E (E' z0.1 z0.2)) (S' z0.1 z0.2)=Yk (Qt c (J6 (.loop c) v) E (E' z0.1 z0.2)) (S' z0.1 z0.2):=by kernel_rfl)[Fm:Fz P L C pins]:AW P C nt (.loop c) E S (Lv v Q):=
 y5 h (fun z=>E' z.1 z.2) (fun z=>S' z.1 z.2) (fun g z J d=>round g z.1 z.2 J d) hq
theorem VQ{r:R}{n:Nat}{z0:A×B×D}{body:(A×B×D->Option R)->A×B×D->Option R}(h:Z9 body n z0=some r)(E' : A->B->D->List (Nat×AVal))(S' : A->B->D->List (Nat×Obj))(round:∀ (again:A×B×D->Option R) (a:A) (b:B) (d:D) (J:Act->World->Prop),(∀ {a b d},again (a,b,d)=some r->Kn C nt (Qt c (J6 (.loop c) v) E (E' a b d)) (S' a b d) J)->body again (a,b,d)=some r->AW P C nt c (Qt c (J6 (.loop c) v) E (E' a b d)) (S' a b d) (Lv ⟨J6 (.loop c) v,v.ex,v.rt⟩ (Exit.then J (Lv v Q))))(hq:Yl pins E S (Qt c (J6 (.loop c) v) E (E' z0.1 z0.2.1 z0.2.2)) (S' z0.1 z0.2.1 z0.2.2)=Yk (Qt c (J6 (.loop c) v) E (E' z0.1 z0.2.1 z0.2.2)) (S' z0.1 z0.2.1 z0.2.2):=by kernel_rfl)[Fm:Fz P L C pins]:AW P C nt (.loop c) E S (Lv v Q):=
 Qb h (fun a z=>E' a z.1 z.2) (fun a z=>S' a z.1 z.2) (fun g a z J f=>round g a z.1 z.2 J f) hq
theorem Vw{r:R}{n:Nat}{z0:A×B×D×G}{body:(A×B×D×G->Option R)->A×B×D×G->Option R}(h:Z9 body n z0=some r)(E' : A->B->D->G->List (Nat×AVal))(S' : A->B->D->G->List (Nat×Obj))(round:∀ (again:A×B×D×G->Option R) (a:A) (b:B) (d:D) (g:G) (J:Act->World->Prop),(∀ {a b d g},again (a,b,d,g)=some r->Kn C nt (Qt c (J6 (.loop c) v) E (E' a b d g)) (S' a b d g) J)->body again (a,b,d,g)=some r->AW P C nt c (Qt c (J6 (.loop c) v) E (E' a b d g)) (S' a b d g) (Lv ⟨J6 (.loop c) v,v.ex,v.rt⟩ (Exit.then J (Lv v Q))))(hq:Yl pins E S (Qt c (J6 (.loop c) v) E (E' z0.1 z0.2.1 z0.2.2.1 z0.2.2.2)) (S' z0.1 z0.2.1 z0.2.2.1 z0.2.2.2)=Yk (Qt c (J6 (.loop c) v) E (E' z0.1 z0.2.1 z0.2.2.1 z0.2.2.2)) (S' z0.1 z0.2.1 z0.2.2.1 z0.2.2.2):=by kernel_rfl)[Fm:Fz P L C pins]:AW P C nt (.loop c) E S (Lv v Q):=
 VQ h (fun a b z=>E' a b z.1 z.2) (fun a b z=>S' a b z.1 z.2) (fun g a b z J f=>round g a b z.1 z.2 J f) hq
theorem CL{r:R}{n:Nat}{z0:A×B×D×G×H}{body:(A×B×D×G×H->Option R)->A×B×D×G×H->Option R}(h:Z9 body n z0=some r)(E' : A->B->D->G->H->List (Nat×AVal))(S' : A->B->D->G->H->List (Nat×Obj))(round:∀ (again:A×B×D×G×H->Option R) (a:A) (b:B) (d:D) (g:G) (k:H) (J:Act->World->Prop),(∀ {a b d g k},again (a,b,d,g,k)=some r->Kn C nt (Qt c (J6 (.loop c) v) E (E' a b d g k)) (S' a b d g k) J)->body again (a,b,d,g,k)=some r->AW P C nt c (Qt c (J6 (.loop c) v) E (E' a b d g k)) (S' a b d g k) (Lv ⟨J6 (.loop c) v,v.ex,v.rt⟩ (Exit.then J (Lv v Q))))(hq:Yl pins E S (Qt c (J6 (.loop c) v) E (E' z0.1 z0.2.1 z0.2.2.1 z0.2.2.2.1 z0.2.2.2.2)) (S' z0.1 z0.2.1 z0.2.2.1 z0.2.2.2.1 z0.2.2.2.2)=Yk (Qt c (J6 (.loop c) v) E (E' z0.1 z0.2.1 z0.2.2.1 z0.2.2.2.1 z0.2.2.2.2)) (S' z0.1 z0.2.1 z0.2.2.1 z0.2.2.2.1 z0.2.2.2.2):=by kernel_rfl)[Fm:Fz P L C pins]:AW P C nt (.loop c) E S (Lv v Q):=
 Vw h (fun a b d z=>E' a b d z.1 z.2) (fun a b d z=>S' a b d z.1 z.2) (fun g a b d z J f=>round g a b d z.1 z.2 J f) hq
theorem Q2J(n:Nat)(h:AW P C nt c E S (Lv ⟨J6 (.loop c) v,v.ex,v.rt⟩ (Exit.then (fun a w=>Code.rounds P c (Lv v Q) n a w) (Lv v Q)))):AW P C nt (.loop c) E S (Lv v Q):=Z4G n h
theorem Pk{n:Nat}(h:AW P C nt c E S (Lv ⟨J6 (.loop c) v,v.ex,v.rt⟩ (Exit.then (fun a w=>Code.rounds P c (Lv v Q) n a w) (Lv v Q)))):Kn C nt E S (fun a w=>Code.rounds P c (Lv v Q) (n+1) a w):=Z4a h
theorem K6{p q:Prop}[Decidable p][Decidable q]{R:Type}{x:Option R}{r:R}{G:Prop}(h:gd p (gd q x)=some r)(k:p->q->x=some r->G):G:=gO h fun a h=>gO h (k a)
theorem WR{p q s:Prop}[Decidable p][Decidable q][Decidable s]{R:Type}{x:Option R}{r:R}{G:Prop}(h:gd p (gd q (gd s x))=some r)(k:p->q->s->x=some r->G):G:=gO h fun a h=>K6 h (k a)
theorem JL{p q s t:Prop}[Decidable p][Decidable q][Decidable s][Decidable t]{R:Type}{x:Option R}{r:R}{G:Prop}(h:gd p (gd q (gd s (gd t x)))=some r)(k:p->q->s->t->x=some r->G):G:=gO h fun a h=>WR h (k a)
theorem JK{p q s t u:Prop}[Decidable p][Decidable q][Decidable s][Decidable t][Decidable u]{R:Type}{x:Option R}{r:R}{G:Prop}(h:gd p (gd q (gd s (gd t (gd u x))))=some r)(k:p->q->s->t->u->x=some r->G):G:=gO h fun a h=>JL h (k a)
end
end
section
section
variable {P:Program} {C:Ctx} {nt:Nat} {L:Lay} {pins:List Nat} {v:LV} {E:List (Nat×AVal)} {S:List (Nat×Obj)} {Q:Exit->Act->World->Prop}
variable {id:Nat} {ops:Array Oper} {draw:Bool} {y x c:Code} {R:Type} {r:R} {B:Prop} {a:Option R} {E1 E2:List (Nat×AVal)} {S1 S2:List (Nat×Obj)}
theorem U4[Fm:Fz P L C pins]{i:Nat}(k:a=some r->Kn C nt E2 S2 (Q (.exit i)))(hq:Yl pins E S E2 S2=Yk E2 S2:=by kernel_rfl):B->a=some r->AW P C nt (.exit i) E S Q:=fun _ h=>UW (U2 (k h) hq)
theorem Qy[Fm:Fz P L C pins](k:a=some r->Kn C nt E2 S2 (Q .normal))(hq:Yl pins E S E2 S2=Yk E2 S2:=by kernel_rfl):B->a=some r->AW P C nt .skip E S Q:=fun _ h=>Q5 (U2 (k h) hq)
theorem Qf[Fm:Fz P L C pins](n:Nat){b:Bool}{u w:Option R}(h:br b u w=some r)(k1:u=some r->Kn C nt E1 S1 (Q .normal))(k2:w=some r->Kn C nt E2 S2 (Q .normal))(h1:ZS P C nt L pins E S ops draw (sN n [.w (vb true)])=(true,Y3 (vb b) (vb true)/\True):=by kernel_rfl)(h2:ZS P C nt L pins E S ops draw (sN n [.w (vb false)])=(true,Y3 (vb b) (vb false)/\True):=by kernel_rfl)(q1:Yl pins (ZB pins L ops (sN n [.w (vb true)]) E S v.out) (Qz pins L ops (sN n [.w (vb true)]) E S) E1 S1=Yk E1 S1:=by kernel_rfl)(q2:Yl pins (ZB pins L ops (sN n [.w (vb false)]) E S v.out) (Qz pins L ops (sN n [.w (vb false)]) E S) E2 S2=Yk E2 S2:=by kernel_rfl):AW P C nt (.region id ops draw) E S (Lv v Q):=
 V7 h (fun e g=>vQ _ e (k1 g) h1 q1) (fun e g=>vQ _ e (k2 g) h2 q2)
theorem bJ[Fm:Fz P L C pins](n:Nat){b:Bool}(c:Bool)(k:a=some r->Kn C nt E2 S2 (Q .normal))(h:ZS P C nt L pins E S ops draw (sN n [.w (vb c)])=(true,Y3 (vb b) (vb c)/\True):=by kernel_rfl)(hq:Yl pins (ZB pins L ops (sN n [.w (vb c)]) E S v.out) (Qz pins L ops (sN n [.w (vb c)]) E S) E2 S2=Yk E2 S2:=by kernel_rfl):b=c->a=some r->AW P C nt (.region id ops draw) E S (Lv v Q):=fun e g=>vQ _ e (k g) h hq
theorem qR[Fm:Fz P L C pins]{fn:Func}{a r:R}(h:some a=some r){g:R->AVal}{G:R->List (Nat×Obj)}(hQ:Q .ret=WL P fn C (g r) (G r) .ret:=by rfl)(hq:(UA L (lk E) (ls S) fn.results.toList,(G a).map (fun p=>ls S p.1))=(some (g a),(G a).map (fun p=>some p.2)):=by kernel_rfl):AW P C nt .ret E S Q:=Q2K Fm.b h hQ hq
theorem bT{b c:Bool}(h:b=c):Y3 (vb b) (vb c):=Y3.bool h
theorem bA{b c:Bool}{q:Prop}(h:b=c)(k:q):Y3 (vb b) (vb c)/\q:=⟨Y3.bool h,k⟩
theorem bU{b c:Bool}(h:b=c):Y3 (vb b) (vb c)/\True:=⟨Y3.bool h,True.intro⟩
theorem YL{K:Act->World->Prop}(α:Type)[Emb α][Fm:Fz P L C pins](t:Nat)(k:Kn C nt ((t,AL ([]:List α))::E) S K)(h:Yl pins E S ((t,.v (.c f0))::E) S=Yk ((t,.v (.c f0))::E) S:=by kernel_rfl):Kn C nt E S K:=Z4c t k h
theorem nA[Fm:Fz P L C pins](α:Type)[Emb α](i:Nat)(k:AW P C nt y (ZB pins L ops [.m] E S (J6 y v)) (rp [(i,AO ([]:List α))] (Qz pins L ops [.m] E S)) (Lv v Q))(h:ZS P C nt L pins E S ops draw [.m]=(true,True):=by kernel_rfl)(h2:([i],(Qz pins L ops [.m] E S).map (fun p=>(([(i,.arr (Emb.es α) 0 nn)]:List (Nat×Obj)).lookup p.1).getD p.2))=([i],(Qz pins L ops [.m] E S).map (·.2)):=by kernel_rfl):AW P C nt (.seq (.region id ops draw) y) E S (Lv v Q):=
 YH [.m] True.intro [(i,.arr (Emb.es α) 0 nn)] [(i,AO ([]:List α))] ⟨J1.is Is.nil,True.intro⟩ k h h2
end
end
end
end Go.Ab
