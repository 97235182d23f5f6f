/- Abstract states over the model. -/
import Derived.Test.YtdmkoclpbbcapaaGreatDoorAbB
import Derived.Test.YtdmkoclpbbcapaaGreatDoorPuA
import Derived.Sort.AssemblyPlain
import Derived.Lib.BitFns
import Derived.Shelf.SortM.Plain
import Derived.Shelf.SortM.SortNone
import Derived.Shelf.SlSortCmp.WholeK
import Derived.Shelf.SlSortCmp.NoneTotal
import Derived.WalkKit
import Derived.ProofKit
import Derived.OpenShut
import Derived.Carry
import Derived.ChangeSame
import Derived.ChangeSlices
import Derived.Laws.Small
import Derived.Laws.Entries
import Derived.Shelf.Spec.SlicesGrow
import Derived.Deep.Slices
import Derived.ChangeArms
import Derived.Maps.Own
import Derived.Lib.SlKeysI
import Derived.Shelf.SlIterI.Nil
import Derived.Maps.RangeRun
import Derived.Laws.IdiomRangeMap
import Derived.ChangeKeysEq
import Derived.LoopN
import Derived.Shelf.SlSortCmp.Whole1
set_option linter.unusedVariables false
set_option linter.unusedSimpArgs false
namespace Go.Ab
noncomputable section
variable {f n d k i es j id clock base:Nat}{r:AVal}{c:Code}{e t kT eT:TypeId}{w w' W:World}{η:Nat->Value}{b:Bool}{vs:Array Value}{P:Program}{x:Operand}{v:Value}{a:ByteArray}{fn:Func}{args:List AVal}{S' Si So S0:List (Nat×Obj)}{te:TI}{cs:List CV}{m:Nat->Nat}{rd ids caps:List Nat}{E:List (Nat×AVal)}{o:Oper}{y:Int}{rs:List Value}{pend:Option Nat}{ents:Array MapEntry}
section
section
variable {α:Type} [Emb α]
def clr(l:List α)(lo n:Nat):List α:=(List.range l.length).map λi=>if lo<=i/\i<lo+n then Emb.d else gl l i
theorem Q4o{f:Nat->List DVal}{N:Nat}(l:List α)(h:l.length=N)(hf:∀i,i<N->f i=Emb.cells (gl l i)):Is N f l:=by
 subst h;refine⟨rfl,λi a=>?_⟩
 rw[hf i a];rfl
theorem Z3c(N:Nat)(f:Nat->α)(i:Nat)(h:i<N):gl ((List.range N).map f) i=f i:=by simp[gl,Qa0,h]
theorem Is.clr{l:List α}(lo n:Nat){zd:List DVal}(hz:zd=Emb.cells (Emb.d:α)):Is l.length (λi=>if lo<=i/\i<lo+n then(λ_=>zd) (i-lo)else LF l i) (clr l lo n):=by
 refine Q4o _ (by simp[Go.Ab.clr]) λi a=>?_
 rw[Go.Ab.clr,Z3c _ _ _ a]
 by_cases h:lo<=i/\i<lo+n
 .grind
 .rw [Qa1 h,Qa1 h];rfl
end
end
section
open Go.Sort
def Ui(l:List Int):Option (List Int):=if l.length<=Z9 then some (l.mergeSort λx y=>decide (x<=y))else none
theorem Q6G{l r:List Int}(h:Ui l=some r):l.length<=Z9/\r=l.mergeSort λx y=>decide (x<=y):=by
 unfold Ui at h
 grind
def Za{α:Type}(cf:α->α->Int)(x y:α):Bool:=decide (cf x y<0)
section
variable {α:Type} [Emb α]
def ZH(cf:α->α->Int)(l:List α):List α:=(@pdq α ⟨Emb.d⟩ (Za cf) l.toArray 0 l.length (Lib.bitLen l.length) true true).toList
open Classical in
noncomputable def JF(l:List α)(q:α->α->Option Int):Option (List α):=
 if h:l.length<=Z9/\∃cf:α->α->Int,SWO (Za cf)/\∀x y,q x y=some (cf x y)then some (ZH h.2.choose l)else none
theorem Q6O{l:List α}{q:α->α->Option Int}(cf:α->α->Int)(hl:l.length<=Z9)(hO:SWO (Za cf))(hq:∀x y,q x y=some (cf x y)):JF l q=some (ZH cf l):=by
 have h:l.length<=Z9/\∃cf:α->α->Int,SWO (Za cf)/\∀x y,q x y=some (cf x y):=⟨hl,cf,hO,hq⟩;unfold JF
 rw[Qu4 h];have e:h.2.choose=cf:=by
  grind
 rw[e]
theorem Q6N{l r:List α}{q:α->α->Option Int}(h:JF l q=some r):l.length<=Z9/\∃cf:α->α->Int,SWO (Za cf)/\(∀x y,q x y=some (cf x y))/\r=ZH cf l:=by
 unfold JF at h;split at h
 all_goals grind
end
section
variable {α:Type}
def Kw(q:α->α->Option Int)(a b:α):Prop:=∃z,q a b=some z/\z<0
def Kz(q:α->α->Option Int)(a b:α):Prop:=∃z,q a b=some z/\0<=z
structure SortedQ (q:α->α->Option Int) (x r:List α):Prop where
 perm:r.Perm x
 asc:r.Pairwise λa b=>Kw q a b/\Kz q b a
 self:∀a∈r,Kz q a a
theorem Kw.not{q:α->α->Option Int}{a b:α}(h:Kw q a b)(k:Kz q a b):False:=by
 obtain⟨z,e,h⟩:=h;obtain⟨d,c,f⟩:=k
 rw[e]at c;cases c;omega
theorem Z5x{q:α->α->Option Int}:∀{r r' : List α},r.Perm r' -> (r.Pairwise λa b=>Kw q a b/\Kz q b a)->(r'.Pairwise λa b=>Kw q a b/\Kz q b a)->r=r':=by
 intro r
 induction r with
 |nil=>intro r' c _ _;exact(List.Perm.nil_eq c)
 |cons a t ih=>
  intro r' c e h
  cases r' with
  |nil=>exact absurd c.length_eq (by simp)
  |cons b t' =>
   rw[Qd2]at e h;have g:a=b:=by
    rcases Qf0.1 (c.mem_iff.1 Qh9)with f|f
    .exact f
    .rcases Qf0.1 (c.mem_iff.2 Qh9)with d|d
     .exact d.symm
     .exact ((e.1 b d).1.not (h.1 a f).2).elim
   subst g;rw[ih ((List.perm_cons a).1 c) e.2 h.2]
theorem SortedQ.uniq{q:α->α->Option Int}{x r r' : List α}(h:SortedQ q x r)(h' : SortedQ q x r'):r=r':=Z5x (h.perm.trans h'.perm.symm) h.asc h'.asc
open Classical in
noncomputable def Vi(x:List α)(q:α->α->Option Int):Option (List α):=if h:x.length<=Z9/\∃r,SortedQ q x r then some h.2.choose else none
theorem gQ{x r:List α}{q:α->α->Option Int}(hl:x.length<=Z9)(h:SortedQ q x r):Vi x q=some r:=by
 have a:x.length<=Z9/\∃r,SortedQ q x r:=⟨hl,r,h⟩;unfold Vi
 rw[Qu4 a,a.2.choose_spec.uniq h]
theorem gP{x r:List α}{q:α->α->Option Int}(h:Vi x q=some r):x.length<=Z9/\SortedQ q x r:=by
 unfold Vi at h;split at h
 .rename_i a;cases h;exact⟨a.1,a.2.choose_spec⟩
 .cases h
theorem SortedQ.at{q:α->α->Option Int}{x r:List α}(h:SortedQ q x r)(i j:Nat)(hi:i<r.length)(hj:j<r.length):(i<j->Kw q r[i] r[j])/\(j<=i->Kz q r[i] r[j]):=by
 have c:=Qc8.1 h.asc;refine⟨λa=>(c i j hi hj a).1,λa=>?_⟩
 rcases Qd3 j i with b|b
 .exact (c j i hj hi b).2
 .have:i=j:=by omega
  subst this;exact h.self _ (Qd8 hi)
end
def GE{α:Type}(n:Int):Option (List α):=if 0<=n/\n<=Z9 then some []else none
end
section
open Go.Sort Go.Proofs Go.Shelf
theorem Tp{α:Type}[Inhabited α](enc:α->Value)(w:World)(b off n:Nat)(d:Array α)(os:Array Go.Obj){c:Array Value}{fz:Nat×Nat}(hb:w.heap[b]?=some (.cells c e fz)):
  (grow (putRow enc (Go.Sort.ahead w n) b off d) os).heap[b]?=some (.cells (putCells enc off d c) e fz):=by
 have a:b<w.heap.size:=J2 hb;unfold grow
 rw[Qf3];rw[Qa2 (by simpa using a)]
 unfold putRow mapBlock;simp only[Qe2,Qh8]
 show Option.map _ (w.heap[b]?)=_;rw[hb]
 rfl
theorem Gn{α:Type}[Inhabited α](enc:α->Value)(w:World)(b off n:Nat)(d:Array α)(os:Array Go.Obj):Stp (λx=>x=b) w (grow (putRow enc (Go.Sort.ahead w n) b off d) os):=by
 refine⟨rfl,rfl,rfl,by simp[Go.Sort.ahead],λx c a=>?_,Nat.le_add_right _ _⟩;unfold grow
 rw[Qf3];rw[Qa2 (by simpa[Go.Sort.ahead]using c)]
 unfold putRow mapBlock;simp only[Qe2]
 rw[Qa1 (Ne.symm a)];rfl
theorem Rz{α:Type}[Inhabited α](enc:α->Value)(off:Nat)(d:Array α)(c:Array Value):(putCells enc off d c).size=c.size:=by simp[putCells]
theorem Cv{α:Type}[Inhabited α](enc:α->Value)(d:Array α)(c:Array Value)(j:Nat)(hj:j<d.size)(hs:d.size<=c.size):(putCells enc 0 d c).getD j undef=enc d[j]! := by
 have a:j<c.size:=by omega
 simp[putCells,a,hj]
theorem Q4h(l:List Int)(i:Nat):LF l i=[.int .i64 (l.getD i 0)]:=rfl
theorem PN{X:Nat->Prop}{α:Type}[Emb α]{l r:List α}{b cap:Nat}{c' : Array Value}(hη:η 0=.slice (some ⟨b,0,none⟩) n cap)(h0:0<cap)(hstp:Stp (fun x=>x=b) w w')(hh:w'.heap[b]?=some (.cells c' e (0,0)))(hs:c'.size=cap*Emb.es α)(hr:r.length=n)(hn:n<=cap)(hm:cap<=maxLen)(hd:∀ i j,i<n->j<Emb.es α->DRep w' X (c'.getD (i*Emb.es α+j) undef) ((LF r i).getD j .any))(hX:∀ x,X x->x<w.heap.size)(hXb:X b):
  Behind (Qd [(0,AO l)] w X η) .any [(0,AO r)] (.tuple #[]) η w':=by
 subst hr;have d:∀x,x∈Y7 (η 0)↔x=b:=by intro x;rw[hη];simp[Y7];omega
 have c:∀i o,ls [(0,AO (α:=α) r)] i=some o->i=0/\o=AO r:=by
  intro i o a;rw[Qf]at a
  by_cases h:i=0
  .grind
  .rw [Qa1 h]at a;cases a
 have p:∀x,x=b->(Qd [(0,AO (α:=α) l)] w X η).M x:=by
  rintro x rfl;exact⟨0,AO l,by rw[Qf,Qa2 rfl],rfl,(d _).2 rfl⟩
 have k:∀x,XS (Qd [(0,AO (α:=α) l)] w X η) (ls [(0,AO (α:=α) r)]) η x->X x:=by
  rintro x (⟨f,_⟩|⟨i,o,a,hib⟩)
  .exact f
  all_goals grind
 refine⟨hstp.mono λx _ f=>p x f,.any _,λi o a=>?_,λi j x a g _ _=>?_,λi o x a s=>?_,λi v a=>?_⟩
 .obtain ⟨rfl,rfl⟩:=c i o a
  rw[hη];refine .arr b _ cap _ c' e _ hh hs hn hm h0 (Is.refl r).len λi j a g=>?_
  exact(hd i j a g).mono λx _ f=>⟨rfl,λm=>f (k x m)⟩
 .obtain ⟨q,a⟩:=Qa7.1 a
  obtain⟨t,g⟩:=Qa7.1 g;rw[(c i q a).1,(c j t g).1]
 .obtain ⟨rfl,rfl⟩:=c i o a
  exact .inr (.inl (p x ((d x).1 s)))
 .change (if((List.lookup i [(0,AO (α:=α) l)]).isSome=true)then some (η i)else none)=some v at a
  split at a
  .cases a;rfl
  .cases a
theorem FG{X:Nat->Prop}{α:Type}[Emb α]{l:List α}{ad:Option Addr}(hη:η 0=.slice ad 0 0)(hX:∀ x,X x->x<w.heap.size):
  Behind (Qd [(0,AO l)] w X η) .any [(0,AO ([]:List α))] (.tuple #[]) η w:=by
 have c:∀x,x∉Y7 (η 0):=by intro x;rw[hη];cases ad<;>simp[Y7]
 have b:∀i o,ls [(0,AO ([]:List α))] i=some o->i=0/\o=AO ([]:List α):=by
  intro i o a;rw[Qf]at a
  by_cases h:i=0
  .grind
  .rw [Qa1 h]at a;cases a
 refine⟨Stp.refl _ _,.any _,λi o a=>?_,λi j x a d _ _=>?_,λi o x a g=>?_,λi v a=>?_⟩
 .obtain ⟨rfl,rfl⟩:=b i o a
  rw[hη];exact .nil _ _ _
 .obtain ⟨f,a⟩:=Qa7.1 a
  obtain⟨e,d⟩:=Qa7.1 d;rw[(b i f a).1,(b j e d).1]
 .obtain ⟨rfl,rfl⟩:=b i o a
  exact absurd g (c x)
 .change (if((List.lookup i [(0,AO (α:=α) l)]).isSome=true)then some (η i)else none)=some v at a
  split at a
  .cases a;rfl
  .cases a
theorem Q4W(h:vs.size=1):vs=#[vs.getD 0 undef]:=by
 apply Qt4
 .simpa using h
 .intro i a b
  have:i=0:=by omega
  subst this;simp[a]
theorem Mt(h:vs.size=2):vs=#[vs.getD 0 undef,vs.getD 1 undef]:=by
 apply Qt4
 .simpa using h
 .intro i a b
  have:i=0\/i=1:=by omega
  rcases this with rfl|rfl<;>simp[a]
theorem Q6I{ρ:Ren}(Ly:SlLaysM.n5 P ρ){x r:List Int}(h:Ui x=some r):G3 P (ρ.f 5) [.v (.c (.own 0))] [(0,AO (α:=Int) x)] .any [(0,AO (α:=Int) r)]:=by
 obtain⟨W,rfl⟩:=Q6G h;intro w X η K M k z Q g o
 have g:K.size=1:=g;have F:K.getD 0 undef=η 0:=WA (C:=Qd [(0,AO (α:=Int) x)] w X η) (s:=ls [(0,AO (α:=Int) x)]) (by have:=o 0 (by simp);rw[XZ k];exact this)
 rw[Q4W g,F];have A:=z 0 (AO x) (by rw[Qf,Qa2 rfl])
 have B:∀b,b∈Y7 (η 0)->X b:=λb E=>k b ⟨0,_,by rw[Qf,Qa2 rfl],E⟩
 generalize hu:η 0=u at A;unfold AO at A
 generalize hn:x.length=n at A
 cases A with
 |nil ad=>
  have S:x=[]:=Qe0 hn;refine(AnyM.slices_Sort_int_none Ly ad 0 w).mono λe N I=>?_
  obtain⟨U,D⟩:=I;refine⟨_,η,U,?_⟩
  rw[D];have E:=FG (w:=w) (X:=X) (l:=x) hu M
  subst S;simpa using E
 |arr b _ cap _ c e _ h1 h2 h3 h4 h5 h6 h7=>
  have d:Emb.es Int=1:=rfl
  rename_i n
  have m:∀j,j<n->c.getD j undef=.int .i64 (x.getD j 0):=by
   intro j t;have:=h7 j 0 t (by rw[d];omega)
   rw[d,Qw3,Qh3,Q4h]at this;have L:DRep w X (c.getD j undef) (.int .i64 (x.getD j 0)):=this
   generalize c.getD j undef=u at L
   cases L;rfl
  have T:c.size=cap:=by rw[h2,d,Qw3]
  have R:Holds (Value.int .i64) w b 0 x.toArray:=by
   intro j t;have H : j<n:=by simpa[hn]using t
   have G:j<x.length:=by omega
   have p:j<c.size:=by omega
   refine⟨?_,by simp[World.frozen?,h1]⟩;have:=m j H
   simp only[Qd1,World.cell?,h1,Qp6,Qh1,Qh2];simp only[p,Array.getD,dite_true]at this
   rw[Qe3 p];congr 1
   refine Eq.trans this ?_;simp[G]
  rw[<-hn];refine((AnyM.slices_Sort_int Ly b 0 cap x w R (J2 h1) (by simp only[Z9]at W;omega)).mono λZ N I=>?_)
  .obtain ⟨rfl,q,Y,D⟩:=I
   subst D;refine⟨_,η,rfl,?_⟩
   have a:(x.mergeSort λx y=>decide (x<=y)).length=n:=by rw[Qn9];exact hn
   refine PN (c':=putCells (Value.int .i64) 0 (x.mergeSort λx y=>decide (x<=y)).toArray c) (e:=e) (b:=b) (n:=n) (cap:=cap) hu h5 (Gn _ _ _ _ _ _ _) (Tp _ _ _ _ _ _ _ h1) (by rw[Rz];exact h2) a h3 h4 (λi j O t=>?_) M (B b (by rw[hu];simp[Y7];omega));have J:j=0:=by rw[d]at t;omega
   subst J;rw[d,Qw3,Qh3,Cv _ _ _ _ (by simpa[a]using O) (by simp only[Qm1,a];omega),Q4h]
   have:i<(x.mergeSort λx y=>decide (x<=y)).length:=by omega
   have V:(x.mergeSort λx y=>decide (x<=y)).toArray[i]! = (x.mergeSort λx y=>decide (x<=y)).getD i 0:=by
    simp[Qa0,this]
   rw[V];exact .int _ _
end
section
open Go.Sort Go.Proofs Go.Shelf
def DVal.lit:DVal->Bool
 |.int _ _=>true
 |.bool _=>true
 |.str _=>true
 |_=>false
def DVal.val:DVal->Value
 |.int k n=>.int k n
 |.bool b=>.bool b
 |.str s=>.string s
 |_=>undef
theorem DRep.lit{X:Nat->Prop}{d:DVal}(h:DRep w X v d)(hd:d.lit=true):v=d.val:=by
 cases h<;>first|rfl|cases hd
theorem DVal.rep(w:World)(X:Nat->Prop){d:DVal}(hd:d.lit=true):DRep w X d.val d:=by
 cases d with
 |int k n=>exact .int k n
 |bool b=>exact .bool b
 |str s=>exact .str s
 |_=>cases hd
theorem Z6R{d:DVal}(hd:d.lit=true):d.val.oneCell'=true:=by
 cases d<;>first|rfl|cases hd
theorem LX(h:Stp (λ_=>False) w w'):∃q os,w'=grow (w.drewN q) os:=by
 refine⟨w'.drawn-w.drawn,w'.heap.extract w.heap.size w'.heap.size,?_⟩;have e:w'.heap=w.heap++w'.heap.extract w.heap.size w'.heap.size:=by
  apply Array.ext_getElem?;intro k
  rw[Qf3];split
  .rename_i a;exact h.block k a λc=>c
  all_goals grind
 have d:=h.dr;have b:w'=⟨w'.heap,w'.tape,w'.drawn,w'.os,w'.output⟩:=rfl
 rw[b,h.tape,h.os,h.output];unfold grow World.drewN
 congr 1
 simp only
 omega
theorem Jl{β:Type}(l:List β)(j:Nat)(h:j<l.length)(d:β):l.getD j d=l[j]:=by
 grind
theorem Q6P{α:Type}[Emb α]{P:Program}{L:Lay}(hL:y4 P L){ρ:Ren}(Ly:SlLaysF0.n6 P ρ)(hlit:∀ x:α,(Emb.cells x).all DVal.lit=true){te:TI}(hte:L (ρ.t 24)=some te)(hagg:te.kind.agg=true)(hsz:te.size=Emb.es α)(F:(α->α->Option Int)->List AVal->AVal->Prop)(hF:∀ q x y z,q x y=some z->F q [.v (.g ((Emb.cells x).map .d)),.v (.g ((Emb.cells y).map .d))] (vi z)){x r:List α}{q:α->α->Option Int}(h:JF x q=some r):
  G3 P (ρ.f 6) [.v (.c (.own 0)),ZX P (F q)] [(0,AO (α:=α) x)] .any [(0,AO (α:=α) r)]:=by
 obtain⟨hl,o,hO,hq,rfl⟩:=Q6N h;obtain⟨ti,td,tz,S⟩:=hL _ _ hte
 letI inst:Inhabited α:=⟨Emb.d⟩
 let enc:α->List Value:=λx=>(Emb.cells x).map DVal.val
 have hk:∀x,(enc x).length=Emb.es α:=λx=>by simp[enc,Emb.len]
 have h1:∀x,∀v∈enc x,v.oneCell'=true:=by
  intro x v hv;obtain⟨d,hd,rfl⟩:=Qc5.1 hv
  exact Z6R (Qc0.1 (hlit x) d hd)
 intro w X η T hX J a0 e9 A B;have A:T.size=2:=A
 have a7:T.getD 0 undef=η 0:=WA (C:=Qd [(0,AO (α:=α) x)] w X η) (s:=ls [(0,AO (α:=α) x)]) (by have:=B 0 (by simp);rw[XZ J];exact this);have a9:Qg P (F q) w (Own (ls [(0,AO (α:=α) x)]) η) X (T.getD 1 undef):=by
  have:=B 1 (by simp)
  change ARep w X η _ (T.getD 1 undef) (ZX P (F q))at this;generalize T.getD 1 undef=u at this
  cases this with|v _ _ k=>cases k with|c _ _ k=>cases k with|sem _ _ k _=>exact k
 rw[Mt A,a7];have ho:=a0 0 (AO x) (by rw[Qf,Qa2 rfl])
 have b3:∀b,b∈Y7 (η 0)->X b:=λb hb=>J b ⟨0,_,by rw[Qf,Qa2 rfl],hb⟩
 generalize hu:η 0=u at ho;have p:(ZH o x).length=x.length:=by
  have:=(pdq_sorts (Za o) hO x.toArray 0 x.length (Lib.bitLen x.length) true true (Qc3 _) (by simp) (.inl rfl)).1.1
  unfold ZH
  grind
 unfold AO at ho;generalize hn:x.length=n at ho
 cases ho with
 |nil ad=>
  have hx:x=[]:=Qe0 hn;refine(AnyF.slices_SortFunc_none Ly ad 0 _ w).mono λe w' k=>?_
  obtain⟨he,hw⟩:=k;refine⟨_,η,he,?_⟩
  rw[hw];have hb:=FG (w:=w) (X:=X) (l:=x) hu hX
  grind
 |arr b _ cap _ c e _ g1 g2 g3 g4 g5 g6 g7=>
  rename_i n
  obtain⟨V,G,b2,K,W⟩:=a9;rw[b2]
  have c3:∀i,i<n->(LF x i)=Emb.cells (x.getD i Emb.d):=λi _=>rfl
  have O:∀i j,i<n->j<Emb.es α->c.getD (i*Emb.es α+j) undef=(enc (x.getD i Emb.d)).getD j undef:=by
   intro i j hi D;have h0:=g7 i j hi D
   have a : j<(Emb.cells (x.getD i Emb.d)).length:=by rw[Emb.len];exact D
   have e1:(LF x i).getD j .any=(Emb.cells (x.getD i Emb.d))[j]:=Jl _ _ a _;rw[e1]at h0
   have h2:=h0.lit (Qc0.1 (hlit _) _ (Qd8 a))
   grind
  have N:∀t,t<n*Emb.es α->c.getD t undef=(flatK enc (Emb.es α) x.toArray)[t]! := by
   intro t ht;have Z:0<Emb.es α:=by
    grind
   have p1:t / Emb.es α<n:=Qr4 (by rw[Qp3];exact ht);have p2:t % Emb.es α<Emb.es α:=Qr5 _ Z
   have:=O _ _ p1 p2
   rw[show t / Emb.es α*Emb.es α+t % Emb.es α=t from by rw[Qp3];exact Qv7 t _]at this;rw[this,get_flatK _ _ _ _ (by simpa[hn]using ht)]
   grind
  have hH:HoldsK enc (Emb.es α) w b 0 x.toArray:=by
   intro t ht;have b8 : t<n*Emb.es α:=by simpa[hn]using ht
   have Y:t<c.size:=by
    have:n*Emb.es α<=cap*Emb.es α:=Qb3 _ g3
    omega
   refine⟨?_,by simp[World.frozen?,g1]⟩;have:=N t b8
   simp only[Qd1,World.cell?,g1,Qp6,Qh1,Qh2,id];rw[Qe3 Y]
   congr 1
   rw[<-this];simp[Y]
  have H:b∈Y7 (η 0):=by rw[hu];simp[Y7];omega
  have R:CmpLays P V G enc (Emb.es α) o b 0 x.toArray.size w:=by
   intro m os dk f4 u v;have Q:=Gn id w b 0 m (flatK enc (Emb.es α) dk) os
   have I:∀(w1:World) (z:α) η C,ARep w1 X η C (.agg (enc z).toArray) (.v (.g ((Emb.cells z).map .d))):=by
    intro w1 z η' C';refine .v _ _ (.g _ _ ⟨by simp[enc],λj D=>?_⟩)
    have a : j<(Emb.cells z).length:=by simpa using D
    have e1:(enc z).toArray.getD j undef=((Emb.cells z)[j]).val:=by
     have:(enc z).toArray.getD j undef=(enc z).getD j undef:=by simp[Qa0]
     grind
    have e2:((Emb.cells z).map CV.d).getD j (.d .any)=.d ((Emb.cells z)[j]):=by rw[Jl _ j (by simpa using a)];simp
    rw[e1,e2];exact .d _ _ (DVal.rep _ _ (Qc0.1 (hlit z) _ (Qd8 a)))
   refine(W (grow (putRow id (Go.Sort.ahead w m) b 0 (flatK enc (Emb.es α) dk)) os) X #[.agg (enc u).toArray,.agg (enc v).toArray] _ _ (hF q u v (o u v) (hq u v)) Q.size (λy hy hD=>Q.block y hy λe=>hD ?_)
    (λy hy=>Qb6 (hX y hy) Q.size) (λy _ _=>Iff.rfl) rfl (λj D η C=>?_)).mono λe2 w2 k=>?_
   .rw [e];exact⟨0,_,by rw[Qf,Qa2 rfl],H⟩
   .have:j=0\/j=1:=by simp at D;omega
    rcases this with rfl|rfl
    .exact I _ _ _ _
    .exact I _ _ _ _
   .obtain ⟨v',he,b9,hr⟩:=k
    have b7:=hr η (Qd [] w X η);have e3:v'=.int .i64 (o u v):=by
     cases b7 with|v _ _ k=>cases k with|c _ _ k=>cases k with|d _ _ k=>cases k;rfl
    obtain⟨qq,b5,a8⟩:=LX b9;exact⟨by rw[he,e3],qq,b5,a8⟩
  rw[<-hn];have M:=AnyQ.slices_SortFunc_eq Ly (Emb.es α) (λw=>by rw[BP S w,hagg]) (λw=>by rw[Yq S,hsz]) enc hk h1 o hO V G b 0 cap x.toArray w K R hH (J2 g1) (by simp only[Qm1];simp only[Z9]at hl;omega)
  refine M.mono λe' w' k=>?_
  obtain⟨he,nn,os,hw⟩:=k;refine⟨_,η,he,?_⟩
  have a5:w'=grow (putRow id (Go.Sort.ahead w nn) b 0 (flatK enc (Emb.es α) (ZH o x).toArray)) os:=hw;rw[a5]
  refine PN (c':=putCells id 0 (flatK enc (Emb.es α) (ZH o x).toArray) c) (e:=e) (b:=b) (n:=n) (cap:=cap) hu g5 (Gn _ _ _ _ _ _ _) (Tp _ _ _ _ _ _ _ g1) (by rw[Rz];exact g2) (by rw[p,hn]) g3 g4 (λi j hi D=>?_) hX (b3 b H);have U:i*Emb.es α+j<n*Emb.es α:=by
   have:(i+1)*Emb.es α<=n*Emb.es α:=Qb3 _ hi
   grind
  have E:(flatK enc (Emb.es α) (ZH o x).toArray).size=n*Emb.es α:=by simp[p,hn]
  rw[Cv _ _ _ _ (by rw[E];exact U) (by rw[E,g2];exact Qb3 _ g3)];rw[get_flatK _ _ _ _ (by simpa[p,hn]using U)]
  have d1:(i*Emb.es α+j) / Emb.es α=i:=by
   rw[Ql7,Qw6 _ _ (by omega),Nat.div_eq_of_lt D,Qd1]
  have d2:(i*Emb.es α+j) % Emb.es α=j:=by rw[Ql7,Qm0,Qo2 D]
  rw[d1,d2];have e4:(ZH o x).toArray[i]! = (ZH o x).getD i Emb.d:=by
   grind
  rw[e4];have a : j<(Emb.cells ((ZH o x).getD i Emb.d)).length:=by rw[Emb.len];exact D
  have e5:(enc ((ZH o x).getD i Emb.d))[j]! = ((Emb.cells ((ZH o x).getD i Emb.d))[j]).val:=by
   grind
  have e6:(LF (ZH o x) i).getD j .any=(Emb.cells ((ZH o x).getD i Emb.d))[j]:=Jl _ _ a _;rw[e5,e6]
  exact DVal.rep _ _ (Qc0.1 (hlit _) _ (Qd8 a))
end
section
open Go.ChangeShapes Go.WideShapes Go.ChangeAt Go.RowKit
theorem Q3p{a:Addr}(h:w.cell? a=some v):a.spot=none/\∃c e fz,w.heap[a.block]?=some (.cells c e fz)/\a.off<c.size/\c.getD a.off undef=v:=by
 unfold World.cell? at h;split at h
 .rename_i c e fz g
  split at h
  .cases h
  .rename_i f
   obtain⟨b,d⟩:=Qg9.1 h;exact⟨by simpa using f,c,e,fz,g,b,by simp[b,d]⟩
 .cases h
theorem Z5L(b o i:Nat):(⟨b,o,none⟩:Addr).add i=⟨b,o+i,none⟩:=add_lit b o i
theorem Z4m{a:Addr}{len cap:Nat}{zs:List Int}(hl:len<=cap)(hz:len<=zs.length)(hc:∀ i,i<zs.length->w.cell? (a.add i)=some (.int .i64 (zs.getD i 0))):
  DRep w (λ_=>False) (.slice (some a) len cap) (DL (α:=Int) (zs.take len)):=by
 have n:(zs.take len).length=len:=by simp;omega
 unfold DL;rw[n]
 by_cases h0:len=0
 .subst h0;exact .nil _ _ _
 .have l:a.spot=none:=by
   have:=(Q3p (hc 0 (by omega))).1
   cases hsp:a.spot with
   |none=>rfl
   |some s=>simp[Addr.add,hsp]at this
  obtain⟨b,d,q⟩:=a;simp only at l
  subst l;have g : ∀i,i<zs.length->∃c e fz,w.heap[b]?=some (.cells c e fz)/\d+i<c.size/\c.getD (d+i) undef=.int .i64 (zs.getD i 0):=by
   intro i k;have:=hc i k
   rw[Z5L]at this;exact(Q3p this).2
  obtain⟨c,e,fz,m,_,_⟩:=g 0 (by omega);have f:∀i,i<zs.length->d+i<c.size/\c.getD (d+i) undef=.int .i64 (zs.getD i 0):=by
   grind
  refine .lst b d len cap c e fz _ 1 (λh=>h) m hl (by have:=(f (len-1) (by omega)).1;omega) (λi _=>rfl) λi j k r=>?_
  have:j=0:=by omega
  subst this;rw[Qw3,Qh3,(f i (by omega)).2]
  have o:((LF (zs.take len) i).getD 0 .any)=.int .i64 ((zs.take len).getD i 0):=rfl;rw[o]
  have p:(zs.take len).getD i 0=zs.getD i 0:=by simp[Qa0,Qk2,k]
  rw[p];exact .int _ _
theorem Z0Z{H:Type}{enc:TypeId×Value->H}{d:DataW H}{ps:List MemPlace}(ht:P.underlying t=some (.slice e))(he:P.underlying e=some (.int .i64))(hc:P.cellsOf e=1){r:Reach}{b0:Nat}(hv:Value.okWide P W r b0 t v)(hd:DataW.Trod enc P W 0 (λ_=>true) true t v d ps):∃l:List Int,DRep W (λ_=>False) v (DL l)/\∀n∈l,(Lit.int .i64 n).wf=true:=by
 obtain⟨j,m⟩:=hd;obtain⟨u,f,o,rfl⟩:=okWide_slice ht hv
 rcases open_ints ht he hc m with ⟨b,s⟩|⟨a,k,i,zs,b,w,q,x,p,s,c,h⟩
 .simp [Value.cells]at b
  obtain⟨rfl,rfl,rfl⟩:=b;exact⟨[],.nil _ _ _,λn g=>by cases g⟩
 .simp [Value.cells]at b
  obtain⟨rfl,rfl,rfl⟩:=b;simp only[Qh8]at p
  exact⟨zs.take f,Z4m q (by omega) c,λn g=>h n (Qi1 g)⟩
theorem kP{H:Type}{enc:TypeId×Value->H}{P:Program}(hl:laidOutB P=true){W W' : World}(hb:Below W.heap.size W W'):∀ {ts:List TypeId} {vs:List Value} {ds:List (DataW H)} {ps:List MemPlace},
  ts.all (λt=>P.readableRec t&&decide (t<P.types.size))=true->DataW.TrodAll enc P W 0 (λ_=>true) true ts vs ds ps->(∀x∈ps,x.block<W.heap.size)->∀sp:Nat->Bool,(∀x∈ps,sp x.block=true)->DataW.TrodAll enc P W' 0 sp true ts vs ds ps
 |[],[],[],_,_,h,_,_,_=>h
 |t::ts,v::vs,d::ds,ps,hr,⟨p,q,h1,h2,e⟩,hlt,sp,hs=>by
  simp only[Qx1,Qa4,Qb5]at hr;subst e
  exact⟨p,q,WideElems.Trod_stays hl hr.1.1 hr.1.2 h1 (λx a=>hb.same (hlt x (Qk8 _ a))) (λx a=>hs x (Qk8 _ a)),
   kP hl hb hr.2 h2 (λx a=>hlt x (Qk4 _ a)) sp (λx a=>hs x (Qk4 _ a)),rfl⟩
theorem Z0u{H:Type}{enc:TypeId×Value->H}(hl:laidOutB P=true){s:ChangeSpec}{W': World}{args:Array Value}{ds gs:List (DataW H)}{before:List MemPlace}{apart fresh handsOn again:Bool}(hW:DataW.Whole enc P fn.params.toList s.vars apart W args.toList ds gs before)(hv:s.vars=[])(hs:s.fn H (ds++gs)={results:=[.lit (.bool true)],args:=ds})(hr:fn.params.toList.all (λt=>P.readableRec t&&decide (t<P.types.size))=true)(hres:fn.resultTypes=#[t])(ht:P.underlying t=some .bool)(hb:Below W.heap.size W W'):s.post enc P fn apart fresh handsOn again W args (.bool true) W':=by
 have g:=hW.lt;have i:=hW
 obtain⟨p,q,C,o,v,A,y⟩:=hW;rw[hv]at o
 obtain⟨rfl,rfl⟩:=trodVars_none o;rw[Qj2]at v
 subst v;have m:∀(j:Nat) (t' : TypeId) (r:Value),fn.resultTypes[j]?=some t' -> ((Value.bool true).resultList fn.resultTypes.size)[j]?=some r->Value.okWide P W' .any 0 t' r:=ok_one hres rfl (okWide_bool_mk ht _)
 have h:∀x∈before,(λb=>decide (b<W.heap.size)) x.block=true:=λx c=>by simpa using g x c
 have d:∀a:Nat->Bool,(∀x∈before,a x.block=true)->DataW.TrodAll enc P W' 0 a true fn.params.toList args.toList (s.fn H (ds++[])).args before:=λa n=>by
  rw[hs];exact kP hl hb hr C g a n
 have e:∀(b:Nat) (a:Nat->Bool) (u:Bool),DataW.TrodAll enc P W' b a u fn.resultTypes.toList ((Value.bool true).resultList fn.resultTypes.size) (s.fn H (ds++[])).results []:=λb a u=>by
  rw[hs,hres];exact trodAll_cons_mk (shut_bool ht _) trodAll_mk0
 have f:∀a:Nat->Bool,DataW.TrodVars enc P W' a s.vars (s.fn H (ds++[])).vars []:=λa=>by
  rw[hs,hv];exact rfl
 refine⟨ds,_,before,[],before,[],i,e _ _ _,d _ h,f _,World.keptBut_mono (λx c=>⟨c,by simpa using c⟩) (hb.frame (·∈before)),λ_=>⟨m,?_⟩⟩;obtain⟨_,_,_,_,_,B,z⟩:=i
 refine⟨_,_,([]++before)++[],⟨[]++before,[],trodAll_append (d _ λ_ _=>rfl) (e _ _ _),f _,rfl,λb k c=>?_,λw=>?_⟩,λx c _=>?_⟩
 .have l:MemPlace.cell b k∈before:=by simpa using c
  rw[hb.frozen (g _ l)];exact B b k l
 .simpa using z w
 .simpa using c
theorem Z0v{H:Type}{enc:TypeId×Value->H}(hl:laidOutB P=true){s:ChangeSpec}{W': World}{args:Array Value}{ds gs:List (DataW H)}{before:List MemPlace}{apart fresh handsOn again:Bool}(hW:DataW.Whole enc P fn.params.toList s.vars apart W args.toList ds gs before)(hv:s.vars=[])(hs:s.fn H (ds++gs)={results:=[.lit (.bool true)],args:=ds})(hr:fn.params.toList.all (λt=>P.readableRec t&&decide (t<P.types.size))=true)(hres:fn.resultTypes=#[t])(ht:P.underlying t=some .bool)(hstp:Stp (λ_=>False) W W'):s.post enc P fn apart fresh handsOn again W args (.bool true) W' :=
 Z0u hl hW hv hs hr hres ht (hstp.below _ (Qb4 _) λ_ _ h=>h)
end
section
section
variable {P:Program} {C:Ctx} {nt:Nat} {L:Lay} {ops:Array Oper} {ds:List Dir} {e:U4} {s:U6}
end
end
section
def ci(n:Int):CV:=.d (.int .i64 n)
def gC{α:Type}[Emb α](x:α):List CV:=(Emb.cells x).map .d
def gE{α:Type}[Emb α](x:α):AVal:=.v (.g (gC x))
section
variable {P:Program} {C:Ctx} {nt:Nat} {L:Lay} {pins:List Nat} {E:List (Nat×AVal)} {S:List (Nat×Obj)} {Q:Exit->Act->World->Prop}
variable {K:Act->World->Prop}
theorem Q4i(Fm:Fr P L C pins)(E' : List (Nat×AVal))(S' : List (Nat×Obj))(hq:(pins.all (λi=>J0 [] i==i),E'.map (λp=>lk E p.1),S'.map (λp=>ls S (J0 [] p.1)),Yc (S'.map λp=>J0 [] p.1))=(true,E'.map (λp=>p.2.ren (J0 [])),S'.map (λp=>some (p.2.ren (J0 []))),true))(h:Kn C nt E' S' K):Kn C nt E S K:=
 ka Fm [] E' S' (congrArg (·.1) hq) (congrArg (·.2.1) hq) (congrArg (·.2.2.1) hq) (congrArg (·.2.2.2) hq) h
theorem QI(Fm:Fr P L C pins)(hq:(Jb L (lk E) (ls S) fn.results.toList,S'.map (λp=>ls S p.1))=(some r,S'.map (λp=>some p.2))):Kn C nt E S (WS P fn C r S' .ret):=
 Z6A Fm (congrArg (·.1) hq) (congrArg (·.2) hq)
end
section
variable {P:Program} {C:Ctx} {nt:Nat} {L:Lay} {ops:Array Oper} {ds:List Dir} {e:U4} {s:U6}
theorem Z6K(hspec:G3 P f args Si r So)(hcall:∀ args w,(callFunc f args).run P w=.ok (.enter f args) w)(m:List (Nat×Nat))(hk:Qu ds k=cE m [] r Si So)(hq:(Go.Ab.callB ops nt (U9 L ops ops.toList ds e s k) (Y8 ops.toList k) f m r Si So,Si.map (fun p=>QH L ops ops.toList ds e s k (J0 m p.1)),
   (Go.Ab.callXs (Y8 ops.toList k)).toList.all (QB (QD (Y8 ops.toList k)++Qo ops (Y8 ops.toList k)))&&args.all AVal.noSem,(Go.Ab.callXs (Y8 ops.toList k)).toList.map (Y2 (U9 L ops ops.toList ds e s k)))
   = (true,Si.map (λp=>some (p.2.ren (J0 m))),true,args.map (AVal.ren (J0 m)))):K2 P C nt L ops ds e s k:=
 Z6N hspec hcall m hk (congrArg (·.1) hq) (congrArg (·.2.1) hq) (congrArg (·.2.2.1) hq) (congrArg (·.2.2.2) hq)
end
end
section
open Go.Proofs Go.Shelf
theorem ve{α:Type}[Emb α]{L:Lay}(hL:y4 P L){ρ:Ren}(Ly:Lays8.n4 P ρ)(hte:L (ρ.t 25)=some te)(hsz:te.size=Emb.es α)(hpos:0<te.size)(hby:te.bytes<=8192)(hzl:te.zero.length=te.size){n:Int}{r:List α}(h:GE n=some r):G3 P (ρ.f 4) [.v (.c (.fl 0 λ_=>[])),vi n] [] (.v (.c (.own 100))) [(100,AO (α:=α) r)]:=by
 unfold GE at h;split at h
 case isFalse=>cases h
 rename_i hn
 cases h
 obtain⟨J,d0,I,k⟩:=hL _ _ hte;intro w X η A hX W Y a2 q p
 have q:A.size=2:=q;have B:∃D,A.getD 0 undef=.slice D 0 0:=by
  have:=p 0 (by simp)
  change ARep w X η _ (A.getD 0 undef) (.v (.c (.fl 0 λ_=>[])))at this;generalize A.getD 0 undef=u at this
  cases this with|v _ _ l=>cases l with|c _ _ l=>cases l with|fl a _ _ _=>exact⟨a,rfl⟩
 have R:A.getD 1 undef=.int .i64 n:=by
  have:=p 1 (by simp)
  change ARep w X η _ (A.getD 1 undef) (.v (.c (.d (.int .i64 n))))at this;generalize A.getD 1 undef=u at this
  cases this with|v _ _ l=>cases l with|c _ _ l=>cases l with|d _ _ l=>cases l;rfl
 obtain⟨D,B⟩:=B;rw[Mt q,B,R]
 obtain⟨m,rfl⟩:∃m:Nat,n=m:=⟨n.toNat,by omega⟩;have O:m<=Z9:=by omega
 have g:∀i o,ls [(100,AO (α:=α) [])] i=some o->i=100/\o=AO (α:=α) []:=by
  intro i o b;rw[Qf]at b
  by_cases h:i=100
  .grind
  .rw [Qa1 h]at b;cases b
 rcases Qi6 m with V|V
 .subst V
  refine(Any8.slices_Grow_room Ly D 0 0 0 w (Qb4 _) (by omega) (by omega) (Qb4 _)).mono λe w' l=>?_
  obtain⟨U,N⟩:=l;refine⟨_,λ_=>.slice D 0 0,U,?_⟩
  rw[N];have y:∀x,x∉Y7 (.slice D 0 0):=by intro x;cases D<;>simp[Y7]
  refine⟨Stp.refl _ _,.v _ _ (.c _ _ (.own _ _ rfl rfl)),λi o b=>?_,λi j x b F z _=>absurd z (y x),λi o x b z=>absurd z (y x),λi v b=>?_⟩
  .obtain ⟨rfl,rfl⟩:=g i o b
   exact .nil _ _ _
  .change (if((List.lookup i ([]:List (Nat×Obj))).isSome=true)then some (η i)else none)=some v at b
   cases b
 .have H:(0+m)*J.bytes<=140737488355328:=by
   have h1:(0+m)*J.bytes<=4294967296*8192:=Qk3 (by simp only[Z9]at O;omega) (by rw[k.bytes];exact hby);omega
  refine(Any8.slices_Grow_grow Ly J I k.info k.zero (by rw[k.size];exact hpos) D 0 0 m [] w (Qb4 _) (by omega) H (by simp only[Z9]at O;omega) (by simp) (λ_=>rfl) (λ_ _ _ _ F=>by simp at F)).mono λe w' l=>?_
  obtain⟨U,N⟩:=l;have hG:m<=grownCap w (0+m) 0 (ρ.t 25):=by have:=Qt1 w (0+m) 0 (ρ.t 25);omega
  have M:=Qp4 w (0+m) 0 (ρ.t 25) (by simp only[Z9]at O;simp only[maxLen];omega);generalize grownCap w (0+m) 0 (ρ.t 25)=G at *
  refine⟨_,λ_=>.slice (some ⟨w.heap.size,0,none⟩) 0 G,U,?_⟩;rw[N]
  have T:I.cells.size=J.size:=by rw[(k.zrep w (λ_=>False) η (Qd [] w X η)).1,hzl,k.size]
  refine⟨(Stp.drew _ _).trans (Stp.alloc _ _ _),.v _ _ (.c _ _ (.own _ _ rfl rfl)),λi o b=>?_,λi j x b F _ _=>?_,λi o x b z=>?_,λi v b=>?_⟩
  .obtain ⟨rfl,rfl⟩:=g i o b
   refine .arr w.heap.size 0 G _ (([]:List Value).toArray++Builtin.zeroCells I.cells (0+m-0)++Builtin.zeroCells I.cells (G-(0+m))) (ρ.t 25) _ (heap_alloc_new w.drew _) ?_ (Qc3 _) M (by omega) (λi b=>absurd b (Qc9 i)) λi j b=>absurd b (Qc9 i)
   rw[Qt7,Qt7,Qs9,Qs9,T,k.size, <-hsz];have e1:(([]:List Value).toArray).size=0:=rfl
   rw[e1,Qd1, <-Qf8];congr 1
   omega
  .obtain ⟨Z,b⟩:=Qa7.1 b
   obtain⟨oj,F⟩:=Qa7.1 F;rw[(g i Z b).1,(g j oj F).1]
  .have:x=w.heap.size:=by
    have z:x∈Y7 (.slice (some ⟨w.heap.size,0,none⟩) 0 G):=z;simp[Y7]at z
    exact z.2
   subst this;exact .inr (.inr (Qb4 _))
  .change (if((List.lookup i ([]:List (Nat×Obj))).isSome=true)then some (η i)else none)=some v at b
   cases b
end
section
def PX(P:Program)(x:CV):Prop:=x.closed=true\/∃F,x=.sem (Qg P F)
section
variable {w:World} {X:Nat->Prop} {η η' : Nat->Value} {C C' : Ctx} {P:Program}
theorem y9.port(h:y9 w X η C vs cs)(H:∀F v,Qg P F C.w0 C.D C.X v->Qg P F C'.w0 C'.D C'.X v)(hx:∀x∈cs,PX P x):y9 w X η' C' vs cs:=by
 refine⟨h.1,λj g=>?_⟩;have c:=h.2 j g
 rcases hx _ (Yv (d:=.d .any) g)with a|⟨F,a⟩
 .simp only[CV.closed,Qa4,Qq6]at a
  exact(c.mono (λb _ k=>⟨rfl,k⟩) (λi f=>by rw[a.1]at f;cases f)).ctx a.2
 .rw [a]at c⊢
  generalize vs.getD j undef=u at c⊢
  cases c with|sem _ _ g1 g2=>exact .sem _ _ (H F _ g1) g2
end
section
variable {P:Program} {C:Ctx} {nt:Nat} {e:U4} {s:U6}
theorem Z6W(hcall:∀args w,(callFunc f args).run P w=.ok (.enter f args) w){F:List AVal->AVal->Prop}{cs:List (List CV)}(hspec:∀args r,F args r->G3 P f (args++Ws cs) (Zs cs) r (Zs cs))(hres:∀args r,F args r->r.closed=true)(hx:QB rd x=true){cids:List Nat}(hv:Y2 e x=.v (.c (.clo f cids)))(hlen:cids.length=cs.length)(hnd:Yc cids=true)(hbox:∀k,k<cs.length->∃ro,s (cids.getD k 0)=some (.box ro (cs.getD k [])))(hcl:∀c∈cs,∀x∈c,PX P x)(hsi:∀p∈Si,∃o1,s (m p.1)=some o1)(hin:∀p∈Si,m p.1∈ids)(hcin:∀i∈cids,i∈ids)(hapart:∀p∈Si,m p.1∉cids):YJ C nt e s Si m rd ids x (ZX P F):=by
 intro R η e0 s0 a w c1 O G;have b3:=(J9 G x).1
 rw[ZS c1 hx,hv]at b3;have b4:=HJ b3
 refine .v _ _ (.c _ _ (.sem _ _ ⟨f,_,b4,hcall,?_⟩ (by rw[b4];rfl)));intro w1 X1 vs args r hF e6 U b9 a4 d4 e3
 have V : w.heap.size<=w1.heap.size:=e6;have Y:∀k,k<cs.length->cids.getD k 0∈cids:=λk Z=>Yv (by omega)
 have A:∀k,k<cs.length->∃ro,s0 (cids.getD k 0)=some (.box ro (cs.getD k [])):=by
  grind
 have H:∀k,k<cs.length->∃b c' e',η (cids.getD k 0)=.pointer (some ⟨b,0,none⟩)/\w.heap[b]?=some (.cells c' e' (0,0))/\y9 w (XS C s0 η) η C c' (cs.getD k []):=by
  intro k Z;obtain⟨ro,h⟩:=A k Z
  have:=G.st _ _ h
  generalize η (cids.getD k 0)=u at this
  cases this with
  |box b _ c' e' _ y hcs=>exact⟨b,c',e',rfl,y,hcs⟩
 have W:∀k,k<cs.length->∀b,b∈Y7 (η (cids.getD k 0))->¬Own (ls Si) (λi=>η (m i)) b:=by
  rintro k Z b y ⟨i,B,l,n⟩;obtain⟨ro,h⟩:=A k Z
  obtain⟨o1,h2⟩:=hsi _ (y8 l);have d7 : s0 (m i)=some o1:=by rw[O _ (hin _ (y8 l))];exact h2
  have:=G.ds _ _ b (by rw[h];simp) (by rw[d7];simp) y n
  exact hapart _ (y8 l) (this ▸ Y k Z)
 have d9:∀b,Own (ls Si) (λi=>η (m i)) b->XS C s0 η b:=by
  rintro b ⟨i,B,l,n⟩;obtain⟨o1,h2⟩:=hsi _ (y8 l)
  exact .inr ⟨m i,o1,by rw[O _ (hin _ (y8 l))];exact h2,n⟩
 have Z:QS w w1 (XS C s0 η) X1:=by
  intro b y hX;have b5:¬Own (ls Si) (λi=>η (m i)) b:=λho=>hX (d9 b ho)
  exact⟨U b y b5,λhx=>hX ((a4 b y b5).1 hx)⟩
 have z:∀k o,ls (Zs cs) k=some o->k<cs.length/\o=.box true (cs.getD k []):=by
  intro k o Z;rw[Q3A]at Z
  grind
 have T:∀b,Own (ls (Zs cs)) (λk=>η (cids.getD k 0)) b->X1 b:=by
  rintro b ⟨k,B,N,J⟩;obtain⟨t,_⟩:=z k B N
  obtain⟨ro,h⟩:=A k t;have c3:b<w.heap.size:=(G.st _ _ h).lt J
  exact(a4 b c3 (W k t b J)).2 (.inr ⟨_,_,h,J⟩)
 have a6:∀F' v,Qg P F' C.w0 C.D C.X v->Qg P F' w1 (Own (ls (Zs cs)) λk=>η (cids.getD k 0)) X1 v:=by
  rintro F' v ⟨g,gc,g1,g2,g3⟩;refine⟨g,gc,g1,g2,λw2 X2 us c4 q hq s1 s2 s3 s4 s5 s6=>?_⟩
  have b7:∀b,b<C.w0.heap.size->¬C.D b->¬Own (ls Si) (λi=>η (m i)) b:=by
   rintro b y I ⟨i,B,l,n⟩;obtain⟨o1,h⟩:=hsi _ (y8 l)
   rcases G.ow (m i) o1 b (by rw[O _ (hin _ (y8 l))];exact h) n with ⟨_,h⟩|h|h
   .exact I h
   .exact I (G.ok.md b h)
   .omega
  have b2:∀b,b<C.w0.heap.size->¬C.D b->¬Own (ls (Zs cs)) (λk=>η (cids.getD k 0)) b:=by
   rintro b y I ⟨k,B,N,J⟩;obtain⟨t,_⟩:=z k B N
   obtain⟨ro,h⟩:=A k t;rcases G.ow _ _ b h J with ⟨_,h⟩|h|h
   .exact I h
   .exact I (G.ok.md b h)
   .omega
  refine g3 w2 X2 us c4 q hq (Qc4 G.fr.size (Qc4 V s1)) (λb y I=>?_) s3 (λb y I=>?_) s5 s6
  .have M:b<w.heap.size:=Qb6 y G.fr.size
   exact((s2 b (Qb6 M V) (b2 b y I)).trans (U b M (b7 b y I))).trans (G.fr.block b y λhM=>I (G.ok.md b hM))
  .have M:b<w.heap.size:=Qb6 y G.fr.size
   rw[s4 b (Qb6 M V) (b2 b y I),a4 b M (b7 b y I)];constructor
   .rintro (⟨hx,_⟩|⟨i,B,l,n⟩)
    .exact hx
    .rcases G.ow i B b l n with ⟨_,h⟩|h|h
     .grind
     .exact absurd (G.ok.md b h) I
     .omega
   .exact λhx=>.inl ⟨hx,I⟩
 have e7:=hspec args r hF w1 X1 (λk=>η (cids.getD k 0)) (vs++(cids.map η).toArray) b9 T
  (λk o N=>by
   obtain⟨t,rfl⟩:=z k o N;obtain⟨b,c',e',h,h2,h3⟩:=H k t
   have d0:=W k t b (by rw[h];simp[Y7]);show ORep w1 X1 _ _ (η (cids.getD k 0)) _
   rw[h];have c2:∀x∈cs.getD k [],PX P x:=hcl _ (Yv (d:=[]) t)
   exact .box b true c' e' _ ((U b (J2 h2) d0).trans h2) ((h3.mono (η':=η) Z (λ_ _=>rfl)).port a6 c2))
  (λi j b l hj c9 e4=>by
   obtain⟨oi,l⟩:=Qa7.1 l;obtain⟨oj,hj⟩:=Qa7.1 hj
   obtain⟨c5,_⟩:=z i oi l;obtain⟨d6,_⟩:=z j oj hj
   obtain⟨r1,h⟩:=A i c5;obtain⟨r2,h2⟩:=A j d6
   have b0:=G.ds _ _ b (by rw[h];simp) (by rw[h2];simp) c9 e4;have hn:=Ut hnd
   have c6:i<cids.length:=by omega
   have c0:j<cids.length:=by omega
   rw[Qa0,Qa0,Qb9 c6,Qb9 c0]at b0;exact(Ql4 hn).1 (by simpa using b0))
  (by simp[d4,Ws,hlen])
  (λj hj=>by
   rw[Qb7]at hj
   by_cases hja:j<args.length
   .have e1:(vs++(cids.map η).toArray).getD j undef=vs.getD j undef:=by
     have:j<vs.size:=by omega
     simp[Qd4,Qf3,this]
    have e2:(args++Ws cs).getD j .any=args.getD j .any:=by simp[Qa0,Qf1,hja]
    grind
   .have t:j-args.length<cs.length:=by simp[Ws]at hj;omega
    obtain⟨b,c',e',h,h2,h3⟩:=H _ t;have e1:(vs++(cids.map η).toArray).getD j undef=η (cids.getD (j-args.length) 0):=by
     have g1:¬j<vs.size:=by omega
     have g2:j-vs.size<cids.length:=by omega
     have g3:j-args.length<cids.length:=by omega
     have:j-vs.size=j-args.length:=by omega
     simp[Qd4,Qf3,g1,Qa0,this,g3]
    have e2:(args++Ws cs).getD j .any=.v (.c (.ptr (j-args.length) 0)):=by
     simp[Qa0,Qf1,hja,Ws,t]
    rw[e1,e2,h];exact .v _ _ (.c _ _ (.ptr b _ 0 h)))
 refine e7.mono λen w' hh=>?_
 obtain⟨v,η',rfl,y⟩:=hh;refine⟨v,rfl,y.stp.mono λb _ hM=>?_,λη2 C2=>?_⟩
 .obtain ⟨i,B,l,e5,_⟩:=hM
  obtain⟨_,rfl⟩:=z i B l;cases e5
 .have hX:∀ b,XS (Qd (Zs cs) w1 X1 fun k=>η (cids.getD k 0)) (ls (Zs cs)) η' b↔X1 b:=by
   have a2:∀i B,ls (Zs cs) i=some B -> η' i=η (cids.getD i 0):=by
    intro i B l;refine y.pn i _ ?_
    unfold ls at l;simp[Qd,l]
   intro b;constructor
   .rintro (⟨hx,_⟩|⟨i,B,l,n⟩)
    .exact hx
    .rw [a2 i B l]at n
     exact T b ⟨i,B,l,n⟩
   .intro hx
    rcases Qk7 (Own (ls (Zs cs)) (λk=>η (cids.getD k 0)) b)with ho|ho
    .obtain ⟨i,B,l,n⟩:=ho
     exact .inr ⟨i,B,l,by rw[a2 i B l];exact n⟩
    .exact .inl ⟨hx,ho⟩
  exact(y.res.mono (η':=η') (λb _ hx=>⟨rfl,λd2=>hx ((hX b).2 d2)⟩) (λ_ _=>rfl)).free (hres args r hF)
def zS(P:Program):List CV->Prop
 |[]=>True
 |c::cs=>PX P c/\zS P cs
def zR(P:Program):List (List CV)->Prop
 |[]=>True
 |c::cs=>zS P c/\zR P cs
theorem Z0w(h:zS P cs):∀x∈cs,PX P x:=by
 induction cs with
 |nil=>intro x a;cases a
 |cons c cs ih=>
  intro x a;rcases Qf0.1 a with rfl|a
  .exact h.1
  .exact ih h.2 x a
theorem Z0x{cs:List (List CV)}(h:zR P cs):∀c∈cs,∀x∈c,PX P x:=by
 induction cs with
 |nil=>intro x a;cases a
 |cons c cs ih=>
  intro x a;rcases Qf0.1 a with rfl|a
  .exact Z0w h.1
  .exact ih h.2 x a
theorem Z6U(hcall:∀args w,(callFunc f args).run P w=.ok (.enter f args) w){F:List AVal->AVal->Prop}(cs:List (List CV))(hspec:∀args r,F args r->G3 P f (args++Ws cs) (Zs cs) r (Zs cs))(hres:∀args r,F args r->r.closed=true)(hx:QB rd x=true)(cids:List Nat)(hv:Y2 e x=.v (.c (.clo f cids)))(hnd:(Yc cids&&cids.all (λi=>ids.contains i))=true)(hp:zR P cs)(hbox:HV s cids cs)(hsi:BI s Si m ids cids=true):YJ C nt e s Si m rd ids x (ZX P F):=by
 simp only[Qa4]at hnd;obtain⟨d,b⟩:=Q3I hbox
 exact Z6W hcall hspec hres hx hv d hnd.1 b (Z0x hp) (JH hsi).1 (JH hsi).2.1 (λi a=>by simpa using Qc0.1 hnd.2 i a) (JH hsi).2.2
end
end
section
section
variable {P:Program} {C:Ctx} {nt:Nat} {L:Lay} {pins:List Nat} {K:Act->World->Prop}
theorem UM(Fm:Fr P L C pins){f f' : Nat->List DVal}(hp:pins.contains k=false)(hfr:((E.flatMap λp=>p.2.refs)++(((i,Obj.box false cs)::S0).flatMap λp=>p.1::p.2.refs)).contains k=false)(hj:j<cs.length)(hc0:cs.getD j (.d .any)=.fl 0 f)(hk:Kn C nt E ((k,.arr es 0 f')::(i,.box false (cs.set j (.own k)))::S0) K):Kn C nt E ((i,.box false cs)::S0) K:=by
 intro R η a w r;have F:ls ((i,Obj.box false cs)::S0) i=some (.box false cs):=by rw[Qf,Qa2 rfl]
 have V:=r.st i _ F;obtain⟨b0,c',e',hη0,hb0,hcs⟩:∃b c' e',η i=.pointer (some ⟨b,0,none⟩)/\w.heap[b]?=some (.cells c' e' (0,0))/\y9 w (XS C (ls ((i,Obj.box false cs)::S0)) η) η C c' cs:=by
  generalize η i=u at V
  cases V with|box b _ c' e' _ M h=>exact⟨b,c',e',rfl,M,h⟩
 obtain⟨ad,hv⟩:∃ad,c'.getD j undef=.slice ad 0 0:=by
  have:=hcs.2 j hj
  rw[hc0]at this;generalize c'.getD j undef=u at this
  cases this with|fl ad _ _ _=>exact⟨ad,rfl⟩
 have W:C.pin k=none:=by
  rcases Z:C.pin k with _|u
  .rfl
  .have:=Fm.pin k (by rw[Z];simp)
   grind
 have a6:∀x∈(E.flatMap λp=>p.2.refs)++(((i,Obj.box false cs)::S0).flatMap λp=>p.1::p.2.refs),x≠k:=by
  grind
 have hS:∀x o,ls ((i,Obj.box false cs)::S0) x=some o->x≠k/\∀y∈o.refs,y≠k:=by
  intro x o c;have hm:=y8 c
  grind
 have a1:i≠k:=(hS i _ F).1;have hE:∀u x,x∈(lk E u).refs->x≠k:=by
  intro u x c;rcases Pf (E:=E) (t:=u)with h0|h0
  .rw [h0]at c;cases c
  all_goals grind
 let η' : Nat->Value:=λx=>if x=k then .slice ad 0 0 else η x
 have l : ∀x,x≠k->η' x=η x:=λx c=>by show(if x=k then Value.slice ad 0 0 else η x)=_;rw[Qa1 c]
 have H:η' k=.slice ad 0 0:=by show(if k=k then Value.slice ad 0 0 else η k)=_;rw[Qa2 rfl]
 have v:∀b,b∉Y7 (η' k):=by intro b;rw[H];cases ad<;>simp[Y7]
 have D:∀x o,ls ((k,Obj.arr es 0 f')::(i,.box false (cs.set j (.own k)))::S0) x=some o->(x=k/\o=.arr es 0 f')\/(x=i/\o=.box false (cs.set j (.own k)))\/(x≠k/\x≠i/\ls ((i,Obj.box false cs)::S0) x=some o):=by
  intro x o c;rw[Qf]at c
  by_cases n:x=k
  .grind
  .rw [Qa1 n,Qf]at c
   by_cases G:x=i
   .grind
   .rw [Qa1 G]at c
    exact .inr (.inr ⟨n,G,by rw[Qf,Qa1 G];exact c⟩)
 have m:∀x o,ls ((k,Obj.arr es 0 f')::(i,.box false (cs.set j (.own k)))::S0) x=some o->x≠k->∃N,ls ((i,Obj.box false cs)::S0) x=some N /\ N.ro=o.ro:=by
  intro x o c g;rcases D x o c with ⟨n,_⟩|⟨n,G⟩|⟨_,_,U⟩
  .grind
  .subst n;subst G;exact⟨_,F,rfl⟩
  all_goals grind
 have T:∀b,Own (ls ((k,Obj.arr es 0 f')::(i,.box false (cs.set j (.own k)))::S0)) η' b->Own (ls ((i,Obj.box false cs)::S0)) η b:=by
  rintro b ⟨x,o,c,A⟩
  by_cases g:x=k
  .grind
  .obtain ⟨N,n,_⟩:=m x o c g
   exact⟨x,N,n,by rw[<-l x g];exact A⟩
 have Y:QS w w (XS C (ls ((i,Obj.box false cs)::S0)) η) (XS C (ls ((k,Obj.arr es 0 f')::(i,.box false (cs.set j (.own k)))::S0)) η'):=by
  intro b M hn;refine⟨rfl,λc=>?_⟩
  rcases c with c|c
  .exact hn (.inl c)
  .exact hn (.inr (T b c))
 refine hk (λx=>R x\/x=k) η' a w ⟨r.ok,r.df,r.sz,λu=>(r.ev u).mono Y λx c=>l x (hE u x c),λu x c=>.inl (r.er u x c),λx o c=>?_,λx o c=>?_,λx y b c B A I=>?_,λx o b c M=>?_,r.fr,λx u c=>?_⟩
 .rcases D x o c with ⟨rfl,rfl⟩|⟨rfl,rfl⟩|⟨n,G,U⟩
  .rw [H];exact .nil _ _ _
  .rw [l x a1,hη0]
   refine .box b0 false c' e' _ hb0 ⟨by rw[hcs.1];simp,λq Z=>?_⟩;have J : q<cs.length:=by simpa using Z
   by_cases hqj:q=j
   .subst hqj
    have:(cs.set q (.own k)).getD q (.d .any)=.own k:=by simp[Qa0,J]
    rw[this,hv];exact .own _ _ H.symm rfl
   .have:(cs.set j (.own k)).getD q (.d .any)=cs.getD q (.d .any):=by
     grind
    rw[this];refine(hcs.2 q J).mono Y λy B=>l y ((hS x _ F).2 y ?_)
    exact Qb8.2 ⟨_,Yv J,B⟩
  .rw [l x n]
   exact(r.st x o U).mono Y (λy B=>l y ((hS x o U).2 y B)) λ_ _=>rfl
 .rcases D x o c with ⟨rfl,rfl⟩|⟨rfl,rfl⟩|⟨n,G,U⟩
  .exact ⟨.inr rfl,by simp[Obj.refs]⟩
  .have:=r.sr x _ F
   refine⟨.inl this.1,λy B=>?_⟩;obtain⟨z,hz,O⟩:=Qb8.1 B
   rcases Qu1 hz with h4|h4
   .exact .inl (this.2 y (Qb8.2 ⟨z,h4,O⟩))
   .subst h4
    exact .inr (by simpa[CV.refs]using O)
  .have:=r.sr x o U
   exact⟨.inl this.1,λy B=>.inl (this.2 y B)⟩
 .obtain ⟨ox,c⟩:=Qa7.1 c
  obtain⟨oy,B⟩:=Qa7.1 B
  by_cases g:x=k
  .subst g;exact absurd A (v b)
  .by_cases hyk:y=k
   .subst hyk;exact absurd I (v b)
   .obtain ⟨o1,n,_⟩:=m x ox c g
    obtain⟨o2,G,_⟩:=m y oy B hyk;rw[l x g]at A
    rw[l y hyk]at I;exact r.ds x y b (by rw[n];simp) (by rw[G];simp) A I
 .by_cases g:x=k
  .subst g;exact absurd M (v b)
  .obtain ⟨N,n,G⟩:=m x o c g
   rw[l x g]at M;rw[<-G]
   exact r.ow x N b n M
 .have g:x≠k:=by intro h;subst h;rw[W]at c;cases c
  have:=r.pn x u c
  exact⟨by rw[l x g];exact this.1,.inl this.2⟩
end
end
theorem kh{α:Type}[Emb α]{r:List α}(h:G3 P f args [] (.v (.c (.own 100))) [(100,AO r)]):G3 P f args [] (AL r) []:=by
 intro w X η J H t y F z k;refine(h w X η J H t y F z k).mono λe R q=>?_
 obtain⟨v,η',M,l⟩:=q;refine⟨v,η',M,?_⟩
 have x:∀i o,ls ([]:List (Nat×Obj)) i=some o->False:=λi o a=>by cases a
 have B:=l.objs 100 (AO r) (by rw[Qf,Qa2 rfl]);have I:v=η' 100:=by
  have:=l.res
  cases this with|v _ _ q=>cases q with|c _ _ q=>cases q with|own _ _ g _=>exact g
 have p:∀b,b∈Y7 (η' 100)->¬XS (Qd [] w X η) (ls []) η' b:=by
  intro b D N;have G:w.heap.size<=b:=by
   rcases l.ow 100 (AO r) b (by rw[Qf,Qa2 rfl]) D with ⟨g,_⟩|⟨i,o,a,_⟩|g
   .cases g
   .grind
   .exact g
  rcases N with ⟨g,_⟩|⟨i,o,a,_⟩
  .have:=H b g
   omega
  all_goals grind
 have m:∀b,¬XS (Qd [] w X η) (ls [(100,AO r)]) η' b->¬XS (Qd [] w X η) (ls []) η' b:=by
  intro b g A;rcases A with A|⟨i,o,a,_⟩
  .exact g (.inl A)
  all_goals grind
 refine⟨l.stp,?_,λi o a=>(x i o a).elim,λi j b a=>?_,λi o b a=>(x i o a).elim,l.pn⟩
 .rw [I]
  refine .v _ _ (.c _ _ (.d _ _ ?_));show DRep _ _ _ (.lst r.length (LF r))
  unfold AO at B;generalize η' 100=u at B p
  generalize hn:r.length=n at B
  cases B with
  |nil ad=>exact .nil _ _ _
  |arr b n cap es c e f g A h3 h4 h5 h6 h7=>
   refine .lst b 0 n cap c e _ _ _ (p b (by simp[Y7];omega)) g h3 ?_ h6 λi j a O=>?_
   .rw [A,Qd1];exact Qb3 _ h3
   .rw [Qd1]
    exact(h7 i j a O).mono λb _ l=>⟨rfl,m b (by unfold AO;rw[hn];exact l)⟩
 .exact absurd rfl a
section
def YT(es n:Nat)(f:Nat->List DVal)(w:World)(X:Nat->Prop)(u:Value):Prop:=
 (∃ad,u=.tuple #[.slice ad n n]/\DRep w X (.slice ad n n) (.lst n f))\/∀η C,ORep w X η C u (.arr es n f)
def AP{α:Type}[Emb α](l:List α):Obj:=.ext (YT (Emb.es α) l.length (LF l))
theorem Z5B{X:Nat->Prop}{C:Ctx}{f:Nat->List DVal}(h:ORep w X η C v (.arr es n f))(η' : Nat->Value)(C' : Ctx):ORep w X η' C' v (.arr es n f):=by
 cases h with
 |nil ad=>exact .nil ad _ _
 |arr b _ cap _ c e _ h1 h2 h3 h4 h5 h6 h7=>exact .arr b _ cap _ c e _ h1 h2 h3 h4 h5 h6 h7
theorem Q3T(es n:Nat)(f:Nat->List DVal)(u:Value):Ba (YT es n f) u:=by
 intro w g X i a d h;rcases h with ⟨b,e,c⟩|h
 .exact .inl ⟨b,e,c.mono a⟩
 .exact .inr λη C=>(h η C).mono (η':=η) a (λ_ _=>rfl) d
theorem G2.ap(k:Nat):G2 (.own k) (.ap k):=⟨λw X η C v b=>by cases b with|own _ _ h h1=>exact .ap _ _ (.inl h.symm) h1,λi a=>a⟩
theorem J3.ap(es n:Nat)(f:Nat->List DVal):J3 (.arr es n f) (.ext (YT es n f)):=
 ⟨λw X η C v a=>.ext _ _ (.inr λη' C'=>Z5B a η' C') (Q3T es n f v) λb d=>a.lt d,rfl,λi c=>by cases c⟩
def JK(k:Nat)(y:CV):CV->CV
 |.ap i=>if i=k then y else .ap i
 |x=>x
def TV.sb(k:Nat)(y:CV):TV->TV
 |.c x=>.c (JK k y x)
 |.g xs=>.g (xs.map (JK k y))
def AVal.sb(k:Nat)(y:CV):AVal->AVal
 |.any=>.any
 |.v x=>.v (x.sb k y)
 |.t xs=>.t (xs.map (TV.sb k y))
def Obj.sb(k:Nat)(y:CV):Obj->Obj
 |.box ro cs=>.box ro (cs.map (JK k y))
 |o=>o
section
variable {w:World} {X X' : Nat->Prop} {η:Nat->Value} {C:Ctx} {k:Nat} {y:CV}
theorem CRep.sb{x:CV}(h:CRep w X η C v x)(hX:∀b,¬X b->¬X' b)(hk:∀v,CRep w X η C v (.ap k)->CRep w X' η C v y):CRep w X' η C v (JK k y x):=by
 have a:QS w w X X':=λb _ c=>⟨rfl,hX b c⟩
 cases x with
 |ap i=>
  simp only[JK];split
  .grind
  .exact h.mono a λ_ _=>rfl
 |_=>exact h.mono a λ_ _=>rfl
theorem y9.sb(h:y9 w X η C vs cs)(hX:∀b,¬X b->¬X' b)(hk:∀v,CRep w X η C v (.ap k)->CRep w X' η C v y):y9 w X' η C vs (cs.map (JK k y)):=by
 refine⟨by simpa using h.1,λj c=>?_⟩;have a : j<cs.length:=by simpa using c
 have:=(h.2 j a).sb hX hk
 grind
theorem TRep.sb{x:TV}(h:TRep w X η C v x)(hX:∀b,¬X b->¬X' b)(hk:∀v,CRep w X η C v (.ap k)->CRep w X' η C v y):TRep w X' η C v (x.sb k y):=by
 cases h with
 |c _ _ h=>exact .c _ _ (h.sb hX hk)
 |g _ _ h=>exact .g _ _ (h.sb hX hk)
theorem ARep.sb{x:AVal}(h:ARep w X η C v x)(hX:∀b,¬X b->¬X' b)(hk:∀v,CRep w X η C v (.ap k)->CRep w X' η C v y):ARep w X' η C v (x.sb k y):=by
 cases h with
 |any=>exact .any v
 |v _ _ h=>exact .v _ _ (h.sb hX hk)
 |t us xs h1 h2=>
  refine .t us _ (by simpa using h1) λj c=>?_
  have a : j<xs.length:=by simpa using c
  have:=(h2 j a).sb hX hk
  grind
theorem ORep.sb{o:Obj}(h:ORep w X η C v o)(hX:∀b,¬X b->¬X' b)(hk:∀v,CRep w X η C v (.ap k)->CRep w X' η C v y):ORep w X' η C v (o.sb k y):=by
 cases o with
 |box ro cs=>cases h with|box b _ c e _ h1 h2=>exact .box b ro c e _ h1 (h2.sb hX hk)
 |arr es n f=>exact h.mono (λb _ a=>⟨rfl,hX b a⟩) (λ_ _=>rfl) λ_ _=>rfl
 |ext p=>exact h.mono (λb _ a=>⟨rfl,hX b a⟩) (λ_ _=>rfl) λ_ _=>rfl
 |exr refs p=>exact h.mono (λb _ a=>⟨rfl,hX b a⟩) (λ_ _=>rfl) λ_ _=>rfl
theorem kt(hy:∀i∈y.refs,i=k)(x:CV):∀j∈(JK k y x).refs,j∈x.refs:=by
 cases x<;>simp only[JK]<;>try exact λj a=>a
 split
 .rename_i b;intro j a;rw[hy j a,b];simp[CV.refs]
 all_goals grind
theorem Q3Z(hy:∀i∈y.refs,i=k)(x:TV):∀j∈(x.sb k y).refs,j∈x.refs:=by
 cases x with
 |c x=>exact kt hy x
 |g xs=>exact XL (kt hy)
theorem Z7j(hy:∀i∈y.refs,i=k)(x:AVal):∀j∈(x.sb k y).refs,j∈x.refs:=by
 cases x with
 |any=>exact λj a=>a
 |v x=>exact Q3Z hy x
 |t xs=>exact XL (Q3Z hy)
theorem Z6j(hy:∀i∈y.refs,i=k)(o:Obj):∀j∈(o.sb k y).refs,j∈o.refs:=by
 cases o with
 |box ro cs=>exact XL (kt hy)
 |arr es n f=>exact λj a=>a
 |ext p=>exact λj a=>a
 |exr refs p=>exact λj a=>a
theorem Z6i(o:Obj):(o.sb k y).ro=o.ro:=by cases o<;>rfl
end
section
variable {P:Program} {C:Ctx} {nt:Nat} {L:Lay} {pins:List Nat} {K:Act->World->Prop} {E:List (Nat×AVal)} {S:List (Nat×Obj)}
theorem Conc.sb{R:Nat->Prop}{a:Act}{y:CV}(hc:Conc C nt R η (lk E) (ls S0) a w)(s' : U6)(hy:∀i∈y.refs,i=k)(hs:∀i o',s' i=some o' -> ∃o,ls S0 i=some o/\(o'=o.sb k y\/(o'.refs=[]/\o'.ro=o.ro/\ORep w (XS C s' η) η C (η i) o')))(hrep:∀v,CRep w (XS C (ls S0) η) η C v (.ap k)->CRep w (XS C s' η) η C v y):Conc C nt R η (lk (E.map λp=>(p.1,p.2.sb k y))) s' a w:=by
 have r:∀b,¬XS C (ls S0) η b->¬XS C s' η b:=by
  intro b l q;rcases q with q|⟨i,o',c,n⟩
  .exact l (.inl q)
  .obtain ⟨o,d,_⟩:=hs i o' c
   exact l (.inr ⟨i,o,d,n⟩)
 have m:∀i,s' i≠none->ls S0 i≠none:=by
  intro i c;obtain⟨o',c⟩:=Qa7.1 c
  grind
 refine⟨hc.ok,hc.df,hc.sz,λt=>?_,λt i c=>?_,λi o' c=>?_,λi o' c=>?_,λi j b c f=>hc.ds i j b (m i c) (m j f),λi o' b c l=>?_,hc.fr,hc.pn⟩
 .rw [TG (g:=AVal.sb k y) rfl];exact(hc.ev t).sb r hrep
 .rw [TG (g:=AVal.sb k y) rfl]at c;exact hc.er t i (Z7j hy _ i c)
 .obtain ⟨o,d,h|⟨_,_,h⟩⟩:=hs i o' c
  .rw [h];exact(hc.st i o d).sb r hrep
  .exact h
 .obtain ⟨o,d,h|⟨h,_,_⟩⟩:=hs i o' c
  .have:=hc.sr i o d
   exact⟨this.1,λj f=>this.2 j (by rw[h]at f;exact Z6j hy o j f)⟩
  .exact ⟨(hc.sr i o d).1,λj f=>by rw[h]at f;cases f⟩
 .obtain ⟨o,d,h|⟨_,h,_⟩⟩:=hs i o' c
  .have:=hc.ow i o b d l
   rw[h,Z6i];exact this
  .have:=hc.ow i o b d l
   rw[h];exact this
theorem FV{f:Nat->List DVal}(hk:(S.map (·.1)).contains k=false)(h1:Kn C nt (E.map λp=>(p.1,p.2.sb k (.own k))) ((k,.arr es n f)::S.map λp=>(p.1,p.2.sb k (.own k))) K)(h2:Kn C nt (E.map λp=>(p.1,p.2.sb k (.fl n f))) (S.map λp=>(p.1,p.2.sb k (.fl n f))) K):Kn C nt E ((k,.ext (YT es n f))::S) K:=by
 intro R η a w A;have r:ls ((k,.ext (YT es n f))::S) k=some (.ext (YT es n f)):=by rw[Qf,Qa2 rfl]
 have B:ls S k=none:=by
  cases j:ls S k with
  |none=>rfl
  |some o=>
   have:k∈S.map (·.1):=Qc5.2 ⟨_,y8 j,rfl⟩
   grind
 have g:∀i o,ls S i=some o->ls ((k,.ext (YT es n f))::S) i=some o:=by
  intro i o c;have G:i≠k:=by intro h;rw[h,B]at c;cases c
  rw[Qf,Qa1 G];exact c
 have z:=A.st k _ r;have D:YT es n f w (XS C (ls ((k,.ext (YT es n f))::S)) η) (η k):=by
  generalize η k=u at z
  cases z with|ext _ _ h _ _=>exact h
 rcases D with ⟨J,e,I⟩|j
 .refine h2 R η a w (A.sb _ (by simp[CV.refs]) (λi F c=>?_) λv d=>?_)
  .rw [Jh]at c
   cases j:ls S i with
   |none=>rw[j]at c;cases c
   |some o=>rw[j]at c;cases c;exact⟨o,g i o j,.inl rfl⟩
  .have H:∀ b,¬ XS C (ls ((k,.ext (YT es n f))::S)) η b->¬ XS C (ls (S.map fun p=>(p.1,p.2.sb k (.fl n f)))) η b:=by
    intro b m x;rcases x with x|⟨i,F,c,q⟩
    .exact m (.inl x)
    .rw [Jh]at c
     cases j:ls S i with
     |none=>rw[j]at c;cases c
     |some o=>exact m (.inr ⟨i,o,g i o j,q⟩)
   cases d with|ap _ _ d h1=>
   rw[e]at d;rcases d with rfl|d|⟨l,d⟩
   .cases h1
   .cases d;exact .fl _ _ _ (I.mono λb _ m=>⟨rfl,H b m⟩)
   .cases d
 .have H:∀ b,¬ XS C (ls ((k,.ext (YT es n f))::S)) η b->¬ XS C (ls ((k,.arr es n f)::S.map fun p=>(p.1,p.2.sb k (.own k)))) η b:=by
   intro b m x;rcases x with x|⟨i,F,c,q⟩
   .exact m (.inl x)
   .rw [Qf]at c
    split at c
    .rename_i t;subst t;exact m (.inr ⟨i,_,r,q⟩)
    .rw [Jh]at c
     cases j:ls S i with
     |none=>rw[j]at c;cases c
     |some o=>exact m (.inr ⟨i,o,g i o j,q⟩)
  refine h1 R η a w (A.sb _ (by simp[CV.refs]) (λi F c=>?_) λv d=>?_)
  .rw [Qf]at c
   split at c
   .rename_i t
    cases c
    subst t;exact⟨_,r,.inr ⟨rfl,rfl,(j η C).mono (λb _ m=>⟨rfl,H b m⟩) (λ_ _=>rfl) λ_ _=>rfl⟩⟩
   .rw [Jh]at c
    cases ho' : ls S i with
    |none=>rw[ho']at c;cases c
    |some o=>rw[ho']at c;cases c;exact⟨o,g i o ho',.inl rfl⟩
  .cases d with|ap _ _ d h1=>
   have:=j η C
   rcases d with d|d|⟨l,d⟩
   .exact .own _ _ d.symm h1
   .rw [d]at this;cases this
   .rw [d]at this;cases this
theorem kc(Fm:Fr P L C pins){ro:Bool}{f:Nat->List DVal}(hp:pins.contains k=false)(hfr:((E.flatMap λp=>p.2.refs)++(((i,Obj.box ro cs)::S0).flatMap λp=>p.1::p.2.refs)).contains k=false)(hj:j<cs.length)(hc0:cs.getD j (.d .any)=.fl n f)(hk:Kn C nt E ((k,.ext (YT es n f))::(i,.box ro (cs.set j (.ap k)))::S0) K):Kn C nt E ((i,.box ro cs)::S0) K:=by
 intro R η a w A;have G:ls ((i,Obj.box ro cs)::S0) i=some (.box ro cs):=by rw[Qf,Qa2 rfl]
 have W:=A.st i _ G;obtain⟨b0,c',e',hη0,hb0,hcs⟩:∃b c' e',η i=.pointer (some ⟨b,0,none⟩)/\w.heap[b]?=some (.cells c' e' (0,0))/\y9 w (XS C (ls ((i,Obj.box ro cs)::S0)) η) η C c' cs:=by
  generalize η i=u at W
  cases W with|box b _ c' e' _ I h=>exact⟨b,c',e',rfl,I,h⟩
 obtain⟨ad,hv,hdr⟩:∃ad,c'.getD j undef=.slice ad n n/\DRep w (XS C (ls ((i,Obj.box ro cs)::S0)) η) (.slice ad n n) (.lst n f):=by
  have:=hcs.2 j hj
  rw[hc0]at this;generalize c'.getD j undef=u at this
  cases this with|fl ad _ _ h=>exact⟨ad,rfl,h⟩
 have Y:C.pin k=none:=by
  rcases hq:C.pin k with _|u
  .rfl
  .have:=Fm.pin k (by rw[hq];simp)
   grind
 have a7:∀x∈(E.flatMap λp=>p.2.refs)++(((i,Obj.box ro cs)::S0).flatMap λp=>p.1::p.2.refs),x≠k:=by
  grind
 have hS:∀x o,ls ((i,Obj.box ro cs)::S0) x=some o->x≠k/\∀y∈o.refs,y≠k:=by
  intro x o c;have hm:=y8 c
  grind
 have a2:i≠k:=(hS i _ G).1;have hE:∀u x,x∈(lk E u).refs->x≠k:=by
  intro u x c;rcases Pf (E:=E) (t:=u)with h0|h0
  .rw [h0]at c;cases c
  all_goals grind
 let η' : Nat->Value:=λx=>if x=k then .tuple #[.slice ad n n]else η x
 have l : ∀x,x≠k->η' x=η x:=λx c=>by show(if x=k then Value.tuple #[.slice ad n n]else η x)=_;rw[Qa1 c]
 have J:η' k=.tuple #[.slice ad n n]:=by show(if k=k then Value.tuple #[.slice ad n n]else η k)=_;rw[Qa2 rfl]
 have m:∀b,b∉Y7 (η' k):=by intro b;rw[J];simp[Y7]
 have F:∀x o,ls ((k,Obj.ext (YT es n f))::(i,.box ro (cs.set j (.ap k)))::S0) x=some o->(x=k/\o=.ext (YT es n f))\/(x=i/\o=.box ro (cs.set j (.ap k)))\/(x≠k/\x≠i/\ls ((i,Obj.box ro cs)::S0) x=some o):=by
  intro x o c;rw[Qf]at c
  by_cases v:x=k
  .grind
  .rw [Qa1 v,Qf]at c
   by_cases H:x=i
   .grind
   .rw [Qa1 H]at c
    exact .inr (.inr ⟨v,H,by rw[Qf,Qa1 H];exact c⟩)
 have r:∀x o,ls ((k,Obj.ext (YT es n f))::(i,.box ro (cs.set j (.ap k)))::S0) x=some o->x≠k->∃O,ls ((i,Obj.box ro cs)::S0) x=some O /\ O.ro=o.ro:=by
  intro x o c g;rcases F x o c with ⟨v,_⟩|⟨v,H⟩|⟨_,_,V⟩
  .grind
  .subst v;subst H;exact⟨_,G,rfl⟩
  all_goals grind
 have U:∀b,Own (ls ((k,Obj.ext (YT es n f))::(i,.box ro (cs.set j (.ap k)))::S0)) η' b->Own (ls ((i,Obj.box ro cs)::S0)) η b:=by
  rintro b ⟨x,o,c,B⟩
  by_cases g:x=k
  .grind
  .obtain ⟨O,v,_⟩:=r x o c g
   exact⟨x,O,v,by rw[<-l x g];exact B⟩
 have Z:QS w w (XS C (ls ((i,Obj.box ro cs)::S0)) η) (XS C (ls ((k,Obj.ext (YT es n f))::(i,.box ro (cs.set j (.ap k)))::S0)) η'):=by
  intro b I hn;refine⟨rfl,λc=>?_⟩
  rcases c with c|c
  .exact hn (.inl c)
  .exact hn (.inr (U b c))
 refine hk (λx=>R x\/x=k) η' a w ⟨A.ok,A.df,A.sz,λu=>(A.ev u).mono Z λx c=>l x (hE u x c),λu x c=>.inl (A.er u x c),λx o c=>?_,λx o c=>?_,λx y b c D B M=>?_,λx o b c I=>?_,A.fr,λx u c=>?_⟩
 .rcases F x o c with ⟨rfl,rfl⟩|⟨rfl,rfl⟩|⟨v,H,V⟩
  .refine .ext _ _ ?_ (Q3T es n f _) (λb I=>absurd I (m b))
   rw[J];exact .inl ⟨ad,rfl,hdr.mono Z⟩
  .rw [l x a2,hη0]
   refine .box b0 ro c' e' _ hb0 ⟨by rw[hcs.1];simp,λq hq=>?_⟩;have N : q<cs.length:=by simpa using hq
   by_cases hqj:q=j
   .subst hqj
    have:(cs.set q (.ap k)).getD q (.d .any)=.ap k:=by simp[Qa0,N]
    rw[this,hv];exact .ap _ _ (.inr (.inl J)) rfl
   .have:(cs.set j (.ap k)).getD q (.d .any)=cs.getD q (.d .any):=by
     grind
    rw[this];refine(hcs.2 q N).mono Z λy D=>l y ((hS x _ G).2 y ?_)
    exact Qb8.2 ⟨_,Yv N,D⟩
  .rw [l x v]
   exact(A.st x o V).mono Z (λy D=>l y ((hS x o V).2 y D)) λ_ _=>rfl
 .rcases F x o c with ⟨rfl,rfl⟩|⟨rfl,rfl⟩|⟨v,H,V⟩
  .exact ⟨.inr rfl,by simp[Obj.refs]⟩
  .have:=A.sr x _ G
   refine⟨.inl this.1,λy D=>?_⟩;obtain⟨z,hz,T⟩:=Qb8.1 D
   rcases Qu1 hz with h4|h4
   .exact .inl (this.2 y (Qb8.2 ⟨z,h4,T⟩))
   .subst h4
    exact .inr (by simpa[CV.refs]using T)
  .have:=A.sr x o V
   exact⟨.inl this.1,λy D=>.inl (this.2 y D)⟩
 .obtain ⟨ox,c⟩:=Qa7.1 c
  obtain⟨oy,D⟩:=Qa7.1 D
  by_cases g:x=k
  .subst g;exact absurd B (m b)
  .by_cases hyk:y=k
   .subst hyk;exact absurd M (m b)
   .obtain ⟨o1,v,_⟩:=r x ox c g
    obtain⟨o2,H,_⟩:=r y oy D hyk;rw[l x g]at B
    rw[l y hyk]at M;exact A.ds x y b (by rw[v];simp) (by rw[H];simp) B M
 .by_cases g:x=k
  .subst g;exact absurd I (m b)
  .obtain ⟨O,v,H⟩:=r x o c g
   rw[l x g]at I;rw[<-H]
   exact A.ow x O b v I
 .have g:x≠k:=by intro h;subst h;rw[Y]at c;cases c
  have:=A.pn x u c
  exact⟨by rw[l x g];exact this.1,.inl this.2⟩
end
end
section
section
variable {P:Program} {C:Ctx} {nt:Nat} {L:Lay} {ops:Array Oper} {ds:List Dir} {e:U4} {s:U6}
def GZ(caps:List Nat):List AVal:=caps.map λc=>.v (.c (.ptr c 0))
theorem Q5S(hcall:∀args w,(callFunc f args).run P w=.ok (.enter f args) w){fx:Operand}{xs:Array Operand}{tys:Array TypeId}(hop:o.op=.call {callee:=.value fx,args:=xs,argTypes:=tys})(hfx:Y2 e fx=.v (.c (.clo f (caps.map m))))(hrf:QB (QD o++Qo ops o) fx=true)(hspec:G3 P f (args++GZ caps) Si r So)(hbox:∀c∈caps,∃ro cs,ls Si c=some (.box ro cs))(hlen:xs.size=args.length)(extra:List Nat)(hargs:∀j,j<args.length->YJ C nt e s Si m (QD o++Qo ops o) (WG e o++(Si.map (λp=>m p.1)++extra)) (xs.toList.getD j (.const undef)) (args.getD j .any))(hsi:∀p∈Si,∃o1,s (m p.1)=some o1/\J3 o1 (p.2.ren m))(hchk:Vx m r Si So=true)(hdo:QL nt o=true)(hg:QX ops e o=some true):Wu P C nt ops o (xI ops o e m extra r Si So) e s:=by
 intro R η e0 G a w A x Y l K Q hK;have hw:=UR (e:=e) l (λt ht=>A t (Qa9.2 (.inr ht))) hg
 rw[Qa2 hw];have O:=(J9 l fx).1
 rw[ZS A hrf,hfx]at O;have I:=HJ O
 have V:=CM (w:=w) hop I hcall;have g:∀p∈Si,∃o1,G (m p.1)=some o1/\J3 o1 (p.2.ren m):=by
  intro p hp;rw[x (m p.1) (Qa9.2 (.inr (Qa9.2 (.inl (Qc5.2 ⟨p,hp,rfl⟩)))))]
  exact hsi p hp
 simp only[Vx,Qa4]at hchk;have D:=hchk
 obtain⟨⟨⟨⟨⟨⟨⟨⟨⟨c1,c2⟩,c3⟩,c4⟩,c5⟩,c6⟩,c7⟩,c8⟩,c9⟩,a6⟩:=hchk;have J:∀b,XS C G η b->b<w.heap.size:=by
  rintro b (⟨hx,_⟩|hx)
  .exact Qb6 (l.ok.lt b hx) l.fr.size
  .exact l.lt hx
 have N:∀i n,ls Si i=some n -> n.noSem=true:=λi n h=>Qc0.1 c7 _ (y8 h)
 have q:∀i n,ls Si i=some n -> ORep w (XS C G η) (λi=>η (m i)) (Qd Si w (XS C G η) λi=>η (m i)) (η (m i)) n:=λi n h=>by
  obtain⟨o1,M,a1⟩:=g _ (y8 h);exact(ORep.unren (a1.1 _ _ _ _ _ (l.st _ o1 M))).ctx (N i n h)
 have a4:=hspec w (XS C G η) (λi=>η (m i)) (xs.map a.eval++((caps.map m).map η).toArray) J
  (λb ⟨i,n,h,hib⟩=>by obtain⟨o1,M,_⟩:=g _ (y8 h);exact .inr ⟨m i,o1,M,hib⟩)
  q
  (λi j b h B T a0=>by
   obtain⟨oi,h⟩:=Qa7.1 h;obtain⟨oj,B⟩:=Qa7.1 B
   obtain⟨o1,M,_⟩:=g _ (y8 h);obtain⟨o2,h2,_⟩:=g _ (y8 B)
   have H:m i=m j:=l.ds _ _ b (by rw[M];simp) (by rw[h2];simp) T a0;have n3:=Ut c3
   rw[Qn4]at n3;exact yS (ρ:=m) n3.2.1 (by rw[h];simp) (by rw[B];simp) H)
  (by simp[hlen,GZ])
  (λj B=>by
   rw[Qb7]at B
   by_cases hja:j<args.length
   .have Z : j<xs.size:=by omega
    have e1:(xs.map a.eval++((caps.map m).map η).toArray).getD j undef=a.eval (xs.toList.getD j (.const undef)):=by
     simp[Qa0,Z,Qd4,Qf3]
    have e2:(args++GZ caps).getD j .any=args.getD j .any:=by simp[Qa0,Qf1,hja]
    rw[e1,e2];exact hargs j hja R η e0 G a w A x l
   .have F:j-args.length<caps.length:=by simp[GZ]at B;omega
    have g1:¬j<xs.size:=by omega
    have g2:j-xs.size=j-args.length:=by omega
    have e1:(xs.map a.eval++((caps.map m).map η).toArray).getD j undef=η (m (caps.getD (j-args.length) 0)):=by
     simp[Qd4,Qf3,g1,g2,F,Qa0]
    have e2:(args++GZ caps).getD j .any=.v (.c (.ptr (caps.getD (j-args.length) 0) 0)):=by
     simp[Qa0,Qf1,hja,GZ,F]
    rw[e1,e2];obtain⟨ro,cs,U⟩:=hbox _ (Yv (d:=0) F)
    have:=q _ _ U
    generalize hu:η (m (caps.getD (j-args.length) 0))=u at this
    cases this with|box b _ c e' _ _ _=>exact .v _ _ (.c _ _ (.ptr b _ 0 hu)))
 unfold Oper.wp;rw[V]
 show Calls P f _ w _;refine a4.mono λen w' hh=>?_
 obtain⟨v,η',rfl,U⟩:=hh;have z:Vx m r Si So=true:=by simp only[Vx,Qa4];exact D
 obtain⟨η1,W⟩:=l.call (YH hdo) z g Y U;exact hK η1 _ w' W
def yR(f:Nat)(ids:List Nat):AVal->Bool
 |.v (.c (.clo g is))=>g==f&&is==ids
 |_=>false
theorem Z2v{x:AVal}(h:yR f ids x=true):x=.v (.c (.clo f ids)):=by
 unfold yR at h
 grind
def Q3F(Si:List (Nat×Obj))(caps:List Nat):Bool:=caps.all λc=>match ls Si c with|some (.box _ _)=>true|_=>false
theorem Z5t(h:Q3F Si caps=true):∀c∈caps,∃ro cs,ls Si c=some (.box ro cs):=by
 intro c a;have:=Qc0.1 h c a
 grind
def Q3C(ops:Array Oper)(nt:Nat)(e:U4)(o:Oper)(f:Nat)(m:List (Nat×Nat))(caps:List Nat)(r:AVal)(Si So:List (Nat×Obj)):Bool:=
 Pp o&&yR f (caps.map (J0 m)) (Y2 e (UJ o))&&QB (QD o++Qo ops o) (UJ o)&&Vx (J0 m) r Si So&&QL nt o&&(QX ops e o==some true)&&Q3F Si caps
theorem Bd(hspec:G3 P f (args++GZ caps) Si r So)(hcall:∀ args w,(callFunc f args).run P w=.ok (.enter f args) w)(m:List (Nat×Nat))(hk:Qu ds k=cE m [] r Si So)(hq:(Q3C ops nt (U9 L ops ops.toList ds e s k) (Y8 ops.toList k) f m caps r Si So,Si.map (fun p=>QH L ops ops.toList ds e s k (J0 m p.1)),
   (Go.Ab.callXs (Y8 ops.toList k)).toList.all (QB (QD (Y8 ops.toList k)++Qo ops (Y8 ops.toList k)))&&args.all AVal.noSem,(Go.Ab.callXs (Y8 ops.toList k)).toList.map (Y2 (U9 L ops ops.toList ds e s k)))
   = (true,Si.map (λp=>some (p.2.ren (J0 m))),true,args.map (AVal.ren (J0 m)))):K2 P C nt L ops ds e s k:=by
 unfold K2;rw[hk]
 have d:=congrArg (·.1) hq;have c:=congrArg (·.2.1) hq
 have b:=congrArg (·.2.2.1) hq;have a:=congrArg (·.2.2.2) hq
 simp only at d c b a;simp only[Q3C,Qa4]at d
 obtain⟨⟨⟨⟨⟨⟨h,l⟩,o⟩,n⟩,z⟩,q⟩,i⟩:=d;obtain⟨x,g⟩:=Ci h
 rw[Qa4]at b;obtain⟨v,t⟩:=(kx (C:=C) (nt:=nt) (s:=QH L ops ops.toList ds e s k) (Si:=Si) (ids:=WG (U9 L ops ops.toList ds e s k) (Y8 ops.toList k)++(Si.map (λp=>J0 m p.1)++[])) b.1 b.2 a).spec
 exact Q5S hcall g (Z2v l) o hspec (Z5t i) (by simpa using v) [] (λj A=>t j A) (λp u=>⟨_,Km c p u,J3.refl _⟩) n z (by simpa using q)
end
end
section
open Go.Sort Go.Proofs Go.Shelf
theorem gu{κ:Type}{lt:κ->κ->Bool}(pos:κ->Nat)(h:∀i j,lt i j=true↔pos i<pos j):SWO lt:=by
 have c : ∀i j,lt i j=false↔pos j<=pos i:=by
  intro i j;have:=h i j
  cases hh:lt i j with
  |true=>rw[hh]at this;simp at this⊢;omega
  |false=>rw[hh]at this;simp at this⊢;omega
 refine⟨λx=>(c x x).2 (Qb4 _),λx y z a b=>?_,λx y z a b=>?_⟩
 .rw [h]at a b⊢;omega
 .rw [c]at a b⊢;omega
section
variable {α:Type} [Emb α]
theorem Q6K{P:Program}{L:Lay}(hL:y4 P L){ρ:Ren}(Ly:SlLaysF0.n6 P ρ){te:TI}(hte:L (ρ.t 24)=some te)(hagg:te.kind.agg=true)(hsz:te.size=Emb.es α)(F:(α->α->Option Int)->List AVal->AVal->Prop)(hF:∀ q x y z,q x y=some z->F q [.v (.g ((Emb.cells x).map .d)),.v (.g ((Emb.cells y).map .d))] (vi z)){x r:List α}{q:α->α->Option Int}(h:Vi x q=some r):
  G3 P (ρ.f 6) [.v (.c (.own 0)),ZX P (F q)] [(0,AO (α:=α) x)] .any [(0,AO (α:=α) r)]:=by
 obtain⟨hl,N⟩:=gP h;obtain⟨ti,td,tz,c3⟩:=hL _ _ hte
 have V:r.length=x.length:=N.perm.length_eq;intro w X η vs hX b2 e0 j6 U Z
 have U:vs.size=2:=U;have f5:vs.getD 0 undef=η 0:=WA (C:=Qd [(0,AO (α:=α) x)] w X η) (s:=ls [(0,AO (α:=α) x)]) (by have:=Z 0 (by simp);rw[XZ b2];exact this)
 have f7:Qg P (F q) w (Own (ls [(0,AO (α:=α) x)]) η) X (vs.getD 1 undef):=by
  have:=Z 1 (by simp)
  change ARep w X η _ (vs.getD 1 undef) (ZX P (F q))at this;generalize vs.getD 1 undef=u at this
  cases this with|v _ _ o=>cases o with|c _ _ o=>cases o with|sem _ _ o _=>exact o
 rw[Mt U,f5];have ho:=e0 0 (AO x) (by rw[Qf,Qa2 rfl])
 have a5:∀b,b∈Y7 (η 0)->X b:=λb hb=>b2 b ⟨0,_,by rw[Qf,Qa2 rfl],hb⟩
 generalize hu:η 0=u at ho;unfold AO at ho
 generalize R:x.length=n at ho
 cases ho with
 |nil ad=>
  have hx:x=[]:=Qe0 R;refine(AnyF.slices_SortFunc_none Ly ad 0 _ w).mono λe w' o=>?_
  obtain⟨he,hw⟩:=o;refine⟨_,η,he,?_⟩
  rw[hw];have hb:=FG (w:=w) (X:=X) (l:=x) hu hX
  have hp:r=[]:=Qe0 (by rw[V,R]);rw[hp];exact hb
 |arr b _ cap _ c e _ g1 g2 g3 g4 g5 g6 g7=>
  rename_i n
  have H:b∈Y7 (η 0):=by rw[hu];simp[Y7];omega
  rcases Qi6 n with b8|b8
  .subst b8
   refine(AnyF.slices_SortFunc_none Ly (some ⟨b,0,none⟩) cap _ w).mono λe' w' o=>?_
   obtain⟨he,hw⟩:=o;refine⟨_,η,he,?_⟩
   rw[hw];exact PN (c':=c) (e:=e) (b:=b) (n:=0) (cap:=cap) hu g5 (Stp.refl _ _) g1 g2 (by rw[V,R]) g3 g4 (λi j O=>absurd O (Qc9 i)) hX (a5 b H)
  obtain⟨c8,a9,g8,b4,d0⟩:=f7;rw[g8]
  letI inst:Inhabited (_root_.Fin n):=⟨⟨0,b8⟩⟩
  let at_:_root_.Fin n->α:=λi=>x[i.val]'(by omega)
  have e4:∀i,at_ i∈r:=λi=>N.perm.mem_iff.2 (Qd8 _)
  have D:∀i,∃s,∃hs:s<r.length,r[s]=at_ i:=λi=>by
   obtain⟨s,hs,e⟩:=Qc7 (e4 i);exact⟨s,hs,e⟩
  let pos:_root_.Fin n->Nat:=λi=>(D i).choose
  have b5:∀i,pos i<r.length:=λi=>(D i).choose_spec.choose
  have a2:∀i,r[pos i]'(b5 i)=at_ i:=λi=>(D i).choose_spec.choose_spec
  have A:∀i j,(pos i<pos j->Kw q (at_ i) (at_ j))/\(pos j<=pos i->Kz q (at_ i) (at_ j)):=λi j=>by
   have:=N.at (pos i) (pos j) (b5 i) (b5 j)
   rw[a2,a2]at this;exact this
  let cf:_root_.Fin n->_root_.Fin n->Int:=λi j=>(q (at_ i) (at_ j)).getD 0
  have hq:∀i j,q (at_ i) (at_ j)=some (cf i j):=by
   intro i j;rcases Qd3 (pos i) (pos j)with h1|h1
   .obtain ⟨z,e,_⟩:=(A i j).1 h1;show _=some ((q (at_ i) (at_ j)).getD 0);rw[e];rfl
   .obtain ⟨z,e,_⟩:=(A i j).2 h1;show _=some ((q (at_ i) (at_ j)).getD 0);rw[e];rfl
  have c7:∀i j,Za cf i j=true↔pos i<pos j:=by
   intro i j;unfold Za
   rw[Qb5];rcases Qd3 (pos i) (pos j)with h1|h1
   .obtain ⟨z,e,hz⟩:=(A i j).1 h1
    have:=(hq i j).symm.trans e
    have:cf i j=z:=Qf5 this
    omega
   .obtain ⟨z,e,hz⟩:=(A i j).2 h1
    have:=(hq i j).symm.trans e
    have:cf i j=z:=Qf5 this
    omega
  have hO:SWO (Za cf):=gu pos c7;have d9:r.Nodup:=N.asc.imp_of_mem λ{a b} ha _ o e=>by subst e;exact o.1.not (N.self a ha)
  have c9:x.Nodup:=N.perm.nodup_iff.1 d9;have a4:∀i j,at_ i=at_ j->i=j:=λi j e=>by
   have:i.val=j.val:=(Ql4 c9).1 e
   exact _root_.Fin.ext this
  have Y:∀i j,pos i=pos j->i=j:=λi j e=>by
   apply a4;rw[<-a2 i, <-a2 j]
   simp only[e]
  let d:Array (_root_.Fin n):=(List.finRange n).toArray
  have hd:d.size=n:=by simp[d]
  have c5:∀i (O:i<n),d[i]! = ⟨i,O⟩:=λi O=>by
   rw[Qj9 d i (by rw[hd];exact O)];simp[d]
  obtain⟨⟨G,_,d8⟩,d6⟩:=pdq_sorts (Za cf) hO d 0 d.size (Lib.bitLen d.size) true true (Qc3 _) (Qb4 _) (.inl rfl);generalize hpd:pdq (Za cf) d 0 d.size (Lib.bitLen d.size) true true=p at G d8 d6
  have G:p.size=n:=G.trans hd;have a0:p.toList.Perm (List.finRange n):=by
   have:(p.extract 0 d.size).toList.Perm (d.extract 0 d.size).toList:=d8
   have e1:p.extract 0 d.size=p:=by rw[hd.trans G.symm];exact Qp7
   rw[e1,Qp7]at this;exact this
  have b3:(List.finRange n).map at_=x:=by
   apply Qu6
   .simp [R]
   .intro i h1 h2;simp[at_]
  have f8:r=p.toList.map at_:=by
   refine N.uniq ⟨b3 ▸ a0.map at_,?_,λa ha=>?_⟩
   .rw [Qi4,Qc8]
    intro i j O B f1;have a7 : i<p.size:=by simpa using O
    have J : j<p.size:=by simpa using B
    have h5:Za cf p[j]! p[i]! = false:=d6 i j (Qc3 _) f1 (by rw[hd, <-G];exact J);rw[Qj9 p i a7,Qj9 p j J]at h5
    have h6:¬pos p[j]<pos p[i]:=λo=>by rw[(c7 _ _).2 o]at h5;cases h5
    have h0:p.toList.Nodup:=a0.nodup_iff.2 (Qx5 n);have h7:pos p[i]≠pos p[j]:=λo=>by
     have h8:=Y _ _ o;have:=(Ql4 (i:=i) (j:=j) (h₀:=O) (h₁:=B) h0).1 (by simpa using h8)
     omega
    have h8:pos p[i]<pos p[j]:=by omega
    simp only[Qo5];exact⟨(A _ _).1 h8,(A _ _).2 (by omega)⟩
   .obtain ⟨i,_,rfl⟩:=Qc5.1 ha
    exact(A i i).2 (Qb4 _)
  let es:=Emb.es α
  let enc:_root_.Fin n->List Value:=λi=>(List.range es).map λj=>c.getD (i.val*es+j) undef
  have hk:∀i,(enc i).length=es:=λi=>by simp[enc]
  have i0:∀i:_root_.Fin n,(LF x i.val)=Emb.cells (at_ i):=λi=>by
   show Emb.cells (x.getD i.val Emb.d)=_;rw[Jl x i.val (by omega)]
  have M:∀i:_root_.Fin n,∀j,j<es->DRep w X (c.getD (i.val*es+j) undef) ((Emb.cells (at_ i)).getD j .any):=λi j B=>by
   have:=g7 i.val j i.isLt B
   rw[i0]at this;exact this
  have h1:∀i,∀v∈enc i,v.oneCell'=true:=by
   intro i v hv;obtain⟨j,B,rfl⟩:=Qc5.1 hv
   exact(M i j (Qf2.1 B)).one
  have T:∀i j,j<es->(enc i)[j]! = c.getD (i.val*es+j) undef:=by
   intro i j B;rw[Qj9 (enc i) j (by rw[hk];exact B)]
   simp[enc]
  have hH:HoldsK enc es w b 0 d:=by
   intro t ht;have a6 : t<n*es:=by have h5:=ht;simp only[size_flatK,hd]at h5;exact h5
   have d4:t<c.size:=by rw[g2];exact Qb6 a6 (Qb3 _ g3)
   refine⟨?_,by simp[World.frozen?,g1]⟩;have D:0<es:=by
    rcases Qi6 es with hz|hz
    .rw [hz,Nat.mul_zero]at a6;omega
    .exact hz
   have p1:t / es<n:=Qr4 (by rw[Qp3];exact a6);have p2:t % es<es:=Qr5 _ D
   have b7:(flatK enc es d)[t]! = c.getD t undef:=by
    rw[get_flatK _ _ _ _ (by rw[hd];exact a6),c5 _ p1,T _ _ p2];show c.getD (t / es*es+t % es) undef=_
    rw[show t / es*es+t % es=t from by rw[Qp3];exact Qv7 t _]
   simp only[Qd1,World.cell?,g1,Qp6,Qh1,Qh2,id];rw[Qe3 d4]
   congr 1
   rw[b7];simp[d4]
  have c2:CmpLays P c8 a9 enc es cf b 0 d.size w:=by
   intro m os dk k3 u v;have I:=Gn id w b 0 m (flatK enc es dk) os
   have b1:∀(w1:World) (hs:Stp (λy=>y=b) w w1) (z:_root_.Fin n) η C,ARep w1 X η C (.agg (enc z).toArray) (.v (.g ((Emb.cells (at_ z)).map .d))):=by
    intro w1 hs z η' C';refine .v _ _ (.g _ _ ⟨by simp[enc,Emb.len,es],λj B=>?_⟩)
    have J : j<(Emb.cells (at_ z)).length:=by simpa using B
    have c6:j<es:=by rw[Emb.len]at J;exact J
    have e1:(enc z).toArray.getD j undef=c.getD (z.val*es+j) undef:=by simp[enc,c6]
    have e2:((Emb.cells (at_ z)).map CV.d).getD j (.d .any)=.d ((Emb.cells (at_ z)).getD j .any):=by rw[Jl _ j (by simpa using J),Jl _ j J];simp
    rw[e1,e2];exact .d _ _ ((M z j c6).mono λy hy R=>⟨hs.block y hy λe=>R (by rw[e];exact a5 b H),R⟩)
   refine(d0 (grow (putRow id (Go.Sort.ahead w m) b 0 (flatK enc es dk)) os) X #[.agg (enc u).toArray,.agg (enc v).toArray] _ _ (hF q (at_ u) (at_ v) (cf u v) (hq u v)) I.size (λy hy hD=>I.block y hy λe=>hD ?_)
    (λy hy=>Qb6 (hX y hy) I.size) (λy _ _=>Iff.rfl) rfl (λj B η C=>?_)).mono λe2 w2 o=>?_
   .rw [e];exact⟨0,_,by rw[Qf,Qa2 rfl],H⟩
   .have:j=0\/j=1:=by simp at B;omega
    rcases this with rfl|rfl
    .exact b1 _ I _ _ _
    .exact b1 _ I _ _ _
   .obtain ⟨v',he,i1,hr⟩:=o
    have h9:=hr η (Qd [] w X η);have e3:v'=.int .i64 (cf u v):=by
     cases h9 with|v _ _ o=>cases o with|c _ _ o=>cases o with|d _ _ o=>cases o;rfl
    obtain⟨qq,h3,f6⟩:=LX i1;exact⟨by rw[he,e3],qq,h3,f6⟩
  have W:=AnyQ.slices_SortFunc_eq Ly es (λw=>by rw[BP c3 w,hagg]) (λw=>by rw[Yq c3,hsz]) enc hk h1 cf hO c8 a9 b 0 cap d w b4 c2 hH (J2 g1) (by rw[hd];simp only[Z9]at hl;omega);rw[hd]at W
  refine W.mono λe' w' o=>?_
  obtain⟨he,nn,os,hw⟩:=o;refine⟨_,η,he,?_⟩
  have g9:pdq (ltOf cf) d 0 n (Lib.bitLen n) true true=p:=by rw[<-hpd,hd];rfl
  rw[g9]at hw;have e9:w'=grow (putRow id (Go.Sort.ahead w nn) b 0 (flatK enc es p)) os:=hw
  rw[e9];have I:=Gn id w b 0 nn (flatK enc es p) os
  refine PN (c':=putCells id 0 (flatK enc es p) c) (e:=e) (b:=b) (n:=n) (cap:=cap) hu g5 I (Tp _ _ _ _ _ _ _ g1) (by rw[Rz];exact g2) (by rw[V,R]) g3 g4 (λi j O B=>?_) hX (a5 b H);have b0:i*es+j<n*es:=by
   have:(i+1)*es<=n*es:=Qb3 _ O
   rw[Qf8,Nat.one_mul]at this;have:j<es:=B;omega
  have a8:(flatK enc es p).size=n*es:=by simp[G]
  rw[Cv _ _ _ _ (by rw[a8];exact b0) (by rw[a8,g2];exact Qb3 _ g3)];rw[get_flatK _ _ _ _ (by rw[G];exact b0)]
  have d1:(i*es+j) / es=i:=by
   rw[Ql7,Qw6 _ _ (by have:j<es:=B;omega),Nat.div_eq_of_lt B,Qd1]
  have d2:(i*es+j) % es=j:=by rw[Ql7,Qm0,Qo2 B]
  rw[d1,d2,T _ _ B];have e6:LF r i=Emb.cells (at_ p[i]!):=by
   show Emb.cells (r.getD i Emb.d)=_;rw[Jl r i (by rw[V,R];exact O)]
   congr 1
   have a7 : i<p.size:=by rw[G];exact O
   rw[Qj9 p i a7];have:r[i]'(by rw[V,R];exact O)=(p.toList.map at_)[i]'(by simpa using a7):=by simp only[f8]
   rw[this];simp
  show DRep _ X (c.getD _ undef) _;rw[e6]
  exact(M _ j B).mono λy hy R=>⟨I.block y hy λe=>R (by rw[e];exact a5 b H),R⟩
end
end
section
section
variable {P:Program} {C:Ctx} {nt:Nat} {L:Lay} {R:Nat->Prop} {η:Nat->Value} {e:U4} {s:U6} {a:Act} {w:World}
theorem y3.upd_le{x:AVal}{ob ob' : Obj}{c:Prop}(h:y3 P C nt R η e s a w o {v:=x,upd:=some (id,ob),cond:=c})(hle:J3 ob ob'):y3 P C nt R η e s a w o {v:=x,upd:=some (id,ob'),cond:=c}:=by
 obtain⟨v,r,m,g⟩:=h;refine⟨v,r,m,?_⟩
 have b:∀q i,SR.sto {v:=x,upd:=some (id,q),cond:=c} o.dst s i=if i=id then some q else s i:=by
  intro q i;unfold SR.sto
  simp
 have p:=g.conv (R':=SR.rng {v:=x,upd:=some (id,ob'),cond:=c} o.dst R) (e':=SR.env {v:=x,upd:=some (id,ob'),cond:=c} o.dst e) (s':=SR.sto {v:=x,upd:=some (id,ob'),cond:=c} o.dst s) (λi=>i)
  (λt=>by rw[Mn];exact Y5.refl _) (λi l d=>by
   rw[Mc];rw[b]at d⊢
   split at d
   .grind
   .rename_i f;exact⟨l,by rw[Qa1 f];exact d,J3.refl _⟩) (λi j _ _ h=>h) (λt i d=>g.er t i d) (λi l d=>by
   rw[b]at d;split at d
   .rename_i f
    cases d
    have:=g.sr i ob (by rw[b,Qa2 f])
    exact⟨this.1,λj u=>this.2 j (hle.2.2 j u)⟩
   .rename_i f
    exact g.sr i l (by rw[b,Qa1 f];exact d)) (λi d=>⟨rfl,by
   obtain⟨v,n⟩:=Qa7.1 d;exact(g.pn i v n).2⟩)
 exact p
variable {ops:Array Oper} {ds:List Dir} {k:Nat}
theorem Q4l(hL:y4 P L){ob ob' : Obj}{c:Prop}(hk:Qu ds k=rE {v:=.any,upd:=some (id,ob')})(hdo:(QL nt (Y8 ops.toList k)&&(QX ops (U9 L ops ops.toList ds e s k) (Y8 ops.toList k)==some true))=true)(hr:Zj L false (U9 L ops ops.toList ds e s k) (QH L ops ops.toList ds e s k) (Y8 ops.toList k)=some {v:=.any,upd:=some (id,ob),cond:=c})(hc:c)(hle:J3 ob ob'):K2 P C nt L ops ds e s k:=by
 unfold K2;rw[hk]
 simp only[Qa4,Qg4]at hdo;have b:∀t x y,(Y8 ops.toList k).op=.store t x y->(Y8 ops.toList k).dst=none:=by
  intro t x y g;have:=hdo.1
  simp only[QL,g,Qa4]at this
  grind
 refine UV hdo.1 hdo.2 λR η o p a w l f j h=>?_
 have i:=(Q3V (L:=L) (e:=U9 L ops ops.toList ds e s k) (s:=QH L ops ops.toList ds e s k) false (Y8 ops.toList k) l f).trans hr;exact(Q3U hL h false _ (λx m=>YH hdo.1 x m) i hc (λd n j=>absurd rfl j) b).upd_le hle
theorem Z6I(hL:y4 P L)(hT:WP L t te){y:Operand}{m:Nat}{f g:Nat->List DVal}(hk:Qu ds k=rE {v:=.v (.c (.own d)),new:=some (.arr te.size (n+m) (Qv n f g))})(hop:(Y8 ops.toList k).op=.call {callee:=.builtin .append,args:= #[x,y],argTypes:= #[t,t]})(hdo:(QL nt (Y8 ops.toList k)&&(QX ops (U9 L ops ops.toList ds e s k) (Y8 ops.toList k)==some true)&&(Y8 ops.toList k).dst==some d&&Nat.ble te.bytes 8192&&te.zero.length==te.size)=true)(hx:Y2 (U9 L ops ops.toList ds e s k) x=.v (.c (.fl n f)))(hy:Wt (QH L ops ops.toList ds e s k) (Y2 (U9 L ops ops.toList ds e s k) y)=some (m,g))(hm:0<m)(hlim:n+m<=Z9)(hgl:∀j,j<m->(g j).length=te.size)(hfl:∀j,j<n->(f j).length=te.size):K2 P C nt L ops ds e s k:=by
 unfold K2;rw[hk]
 simp only[Qa4,Qg4]at hdo;obtain⟨⟨⟨⟨A,J⟩,h⟩,D⟩,G⟩:=hdo
 obtain⟨N,M,H,p,r⟩:=hT;refine UV A J λR η z B a w u l I o=>?_
 have F:x∈(Y8 ops.toList k).op.operands.toList:=by rw[hop];simp[Op.operands,Call.operands]
 have b:y∈(Y8 ops.toList k).op.operands.toList:=by rw[hop];simp[Op.operands,Call.operands]
 have q:VA B te.size m (Y2 z x)=some ([],n,f,∀j,j<n->(f j).length=te.size):=by
  rw[u x F,hx];simp only[VA]
  grind
 have i:Wt B (Y2 z y)=some (m,g):=by rw[u y b,FN (l y b)];exact hy
 exact Rg hL o h (YH A d h) (I d h (by simp)) hop H p r i q hfl (Qq9 D) G hlim hgl
end
end
section
open Go.ChangeShapes Go.WideShapes Go.ChangeAt Go.RowKit
end
section
@[reducible] def ow (n:Nat):AVal:=.v (.c (.own n))
@[reducible] def pt (n:Nat):AVal:=.v (.c (.ptr n 0))
@[reducible] def bx (l:List CV):Obj:=.box false l
section
variable {P:Program} {C:Ctx} {nt:Nat} {L:Lay} {pins:List Nat} {E:List (Nat×AVal)} {S:List (Nat×Obj)} {Q:Exit->Act->World->Prop}
variable {K:Act->World->Prop}
theorem Z6B(Fm:Fr P L C pins){E' : List (Nat×AVal)}(h:Kn C nt E' S' K)(hq:(pins.all (λi=>J0 [] i==i),E'.map (λp=>lk E p.1),S'.map (λp=>ls S (J0 [] p.1)),Yc (S'.map λp=>J0 [] p.1))=(true,E'.map (λp=>p.2.ren (J0 [])),S'.map (λp=>some (p.2.ren (J0 []))),true):=by kernel_rfl):Kn C nt E S K:=Q4i Fm E' S' hq h
theorem G7(Fm:Fr P L C pins)(ρ:List (Nat×Nat)){E' : List (Nat×AVal)}(h:Kn C nt E' S' K)(hp:pins.all (λi=>J0 ρ i==i)=true:=by kernel_rfl)(hE:E'.map (λp=>lk E p.1)=E'.map (λp=>p.2.ren (J0 ρ)):=by kernel_rfl)(hS:S'.map (λp=>ls S (J0 ρ p.1))=S'.map (λp=>some (p.2.ren (J0 ρ))):=by kernel_rfl)(hinj:Yc (S'.map λp=>J0 ρ p.1)=true:=by kernel_rfl):Kn C nt E S K:=ka Fm ρ E' S' hp hE hS hinj h
theorem Q4j(Fm:Fr P L C pins)(hq:(Jb L (lk E) (ls S) fn.results.toList,S'.map (λp=>ls S p.1))=(some r,S'.map (λp=>some p.2)):=by kernel_rfl):Kn C nt E S (WS P fn C r S' .ret):=QI Fm hq
end
section
variable {P:Program} {C:Ctx} {nt:Nat} {L:Lay} {ops:Array Oper} {ds:List Dir} {e:U4} {s:U6}
theorem Q4n(hspec:G3 P f args Si r So)(hcall:∀ args w,(callFunc f args).run P w=.ok (.enter f args) w)(m:List (Nat×Nat))(hk:Qu ds k=cE m [] r Si So:=by rfl)(hq:(Go.Ab.callB ops nt (U9 L ops ops.toList ds e s k) (Y8 ops.toList k) f m r Si So,Si.map (fun p=>QH L ops ops.toList ds e s k (J0 m p.1)),
   (Go.Ab.callXs (Y8 ops.toList k)).toList.all (QB (QD (Y8 ops.toList k)++Qo ops (Y8 ops.toList k)))&&args.all AVal.noSem,(Go.Ab.callXs (Y8 ops.toList k)).toList.map (Y2 (U9 L ops ops.toList ds e s k)))
   = (true,Si.map (λp=>some (p.2.ren (J0 m))),true,args.map (AVal.ren (J0 m))):=by kernel_rfl):K2 P C nt L ops ds e s k:=Z6K hspec hcall m hk hq
end
section
variable {C:Ctx} {nt:Nat} {e:U4} {s:U6}
theorem YJ.p{y:AVal}(hx:QB rd x=true:=by kernel_rfl)(hle:Y2 e x=y.ren m:=by kernel_rfl)(hs:y.noSem=true:=by kernel_rfl):YJ C nt e s Si m rd ids x y:=Mk hx (Y5.of_eq hle) hs
end
end
section
open Go.Maps (Keyed)
open Go.WideElems (Fit rd rg pl rd_val elemAt)
open Go.ChangeMaps Go.MapKept
def Z1x(ks:List Int):DataW Unit:=ks.foldl (λD k=>D.put (.int .i64 k) (.lit (.bool true))) (.map [])
def Kg(P:Program)(kT eT:TypeId)(ks:List Int)(w:World)(_:Nat->Prop)(v:Value):Prop:=∃b,v=.map (some b)/\w.ownsMap P kT (plainElem P eT) b ks.length (Z1x ks)
theorem Z1w{ks:List Int}(v:Value):Ba (Kg P kT eT ks) v:=by
 intro w m X X' _ l j;obtain⟨b,rfl,g,c,f,i,h,d⟩:=j
 exact⟨b,rfl,g,c,(l b (by simp[Y7])).trans f,i,h,d⟩
end
section
section
variable {P:Program} {C:Ctx} {nt:Nat} {L:Lay} {R:Nat->Prop} {η:Nat->Value} {e:U4} {s:U6} {a:Act} {w:World}
theorem kL{X:Nat->Prop}{n:Int}(h:ARep w X η C v (vi n)):v=.int .i64 n:=by
 cases h with|v _ _ hh=>cases hh with|c _ _ hh=>cases hh with|d _ _ hh=>cases hh;rfl
theorem Q7a(h:Conc C nt R η e s a w)(hd:o.dst=some d)(hdn:d<nt)(hR:¬ R d){p:World->(Nat->Prop)->Value->Prop}(hrun:(execOp a.eval o).run P w=.ok (.value v) w')(hstep:Stp (fun _=>False) w w')(hone:v.oneCell'=true)(hv:∀ b,b ∈ Y7 v->w.heap.size<=b)(hob:∀ X' η',ORep w' X' η' C v (.ext p)):
  y3 P C nt R η e s a w o {v:=.v (.c (.own d)),new:=some (.ext p)}:=by
 have r:=Jj (C:=C) (s:=s) (η:=η) {v:=.v (.c (.own d)),new:=some (.ext p)} o.dst v (λ_=>False) hstep (λb f=>f.elim) (λ_ _ _ _ b f=>.inl (hv b f)) (λk o l=>by cases l);refine⟨v,w',.inl hrun,h.step o.dst (λx m=>by rw[hd]at m;cases m;exact hdn) _ _ _ (λ_=>False) hstep (λb f=>f.elim) ?_ (λk o l=>by cases l) ?_⟩
 .intro q dd i g
  cases i
  rw[hd]at g;cases g
  exact⟨hR,rfl,by simp[Obj.refs],hob _ _,λb f=>.inl (hv b f)⟩
 .intro _
  refine⟨.v _ _ (.c _ _ (.own _ _ (by simp[SR.eta,hd]) hone)),λj n=>?_⟩;simp[AVal.refs,TV.refs,CV.refs]at n
  exact .inr ⟨by simp,by rw[hd,n]⟩
variable {ops:Array Oper} {ds:List Dir} {k:Nat}
theorem Z6D(hk:Qu ds k=rE {v:=.v (.c (.own d)),new:=some (.ext (Kg P kT eT []))})(hop:(Y8 ops.toList k).op=.makeMap t none)(hdo:(QL nt (Y8 ops.toList k)&&(QX ops (U9 L ops ops.toList ds e s k) (Y8 ops.toList k)==some true)&&(Y8 ops.toList k).dst==some d)=true):K2 P C nt L ops ds e s k:=by
 unfold K2;rw[hk]
 simp only[Qa4,Qg4]at hdo;obtain⟨⟨i,m⟩,g⟩:=hdo
 refine UV i m λR η o p a w n j l h=>?_
 refine Q7a h g (YH i d g) (l d g (by simp)) (v:=.map (some w.heap.size)) (w':=w.alloc (.map #[] 0)) ?_ (Stp.alloc _ w _) rfl (λb f=>by simp[Y7]at f;omega) λX' η'=>?_
 .simp [execOp,hop,Instr.makeMap]
 .refine .ext _ _ ⟨_,rfl,World.ownsMap_made w P kT _⟩ (Z1w _) λb f=>?_
  simp only[Y7,Qb0]at f;subst f
  show w.heap.size<(w.heap.push _).size;rw[Qn0];omega
end
end
section
open Go.Sort Go.Proofs Go.Shelf Go.Maps
end
section
section
variable {P:Program} {L:Lay}
end
section
variable {P:Program} {C:Ctx} {nt:Nat} {L:Lay} {ops:Array Oper} {ds:List Dir} {e:U4} {s:U6}
end
end
section
open Go.Sort Go.Proofs Go.Shelf Go.Maps
end
section
def K7(s:ByteArray)(i:Int):Int:=(((s[i.toNat]?).getD 0).toNat:Nat)
def Zv(a b:ByteArray):Bool:=a.toList==b.toList
def VK(a b:ByteArray):Bool:=Op.bytesLess a.toList b.toList
def LW(op:BinOp)(a b:ByteArray):Option Bool:=
 match op with
 |.eql=>some (Zv a b)
 |.neq=>some (!Zv a b)
 |.lss=>some (VK a b)
 |.leq=>some (VK a b||Zv a b)
 |.gtr=>some (!(VK a b||Zv a b))
 |.geq=>some (!VK a b)
 |_=>none
section
variable {P:Program} {C:Ctx} {nt:Nat} {L:Lay} {ops:Array Oper} {ds:List Dir} {e:U4} {s:U6}
theorem jZ(op:BinOp)(t:TypeId)(x y:Operand)(a b:ByteArray)(w:World):(eqGuard op t x y (.string a) (.string b)).run P w=.ok () w:=by
 unfold eqGuard;split<;>rfl
theorem Q8t(op:BinOp)(t:TypeId)(a b:ByteArray){c:Bool}(h:LW op a b=some c)(w:World):(binOp op t (.string a) (.string b)).run P w=.ok (.bool c) w:=by
 cases op<;>simp only[LW,Qj8,reduceCtorEq]at h<;>subst h<;>simp[binOp,Op.stringOp,Zv,VK]
def VQ(ops:Array Oper)(nt:Nat)(e:U4)(o:Oper)(x y:Operand):Bool:=QB (QD o++Qo ops o) x&&QB (QD o++Qo ops o) y&&QL nt o&&(QX ops e o==some true)
theorem Md{op:BinOp}{t': TypeId}{y:Operand}{b:ByteArray}{c:Bool}(hk:Qu ds k=sE (vb c))(hop:(Y8 ops.toList k).op=.binOp op t x y t')(hb:VQ ops nt (U9 L ops ops.toList ds e s k) (Y8 ops.toList k) x y=true)(hx:Y2 (U9 L ops ops.toList ds e s k) x=.v (.c (.d (.str a))))(hy:Y2 (U9 L ops ops.toList ds e s k) y=.v (.c (.d (.str b))))(hc:LW op a b=some c):K2 P C nt L ops ds e s k:=by
 unfold K2;rw[hk]
 simp only[VQ,Qa4,Qg4]at hb;obtain⟨⟨⟨j,l⟩,n⟩,m⟩:=hb
 refine KI rfl n m λR η p q o w f g=>?_
 have i:=(J9 g x).1;rw[ZS f j,hx]at i
 have i:=KH i;have h:=(J9 g y).1
 rw[ZS f l,hy]at h;have h:=KH h
 exact⟨_,by simp only[execOp,hop,Qd9,i,h,jZ,Q8t op t a b hc,Qd0,Qe9],FD _ _⟩
theorem ZT(ht:P.underlying t=some .string){y:Operand}{m:Int}(hk:Qu ds k=sE (.v (.c (.d (.int .u8 (K7 a m))))))(hop:(Y8 ops.toList k).op=.index t x y)(hb:VQ ops nt (U9 L ops ops.toList ds e s k) (Y8 ops.toList k) x y=true)(hx:Y2 (U9 L ops ops.toList ds e s k) x=.v (.c (.d (.str a))))(hy:ZK (Y2 (U9 L ops ops.toList ds e s k) y)=some m)(hc:0<=m/\m<((a.size:Nat):Int)):K2 P C nt L ops ds e s k:=by
 unfold K2;rw[hk]
 simp only[VQ,Qa4,Qg4]at hb;obtain⟨⟨⟨j,o⟩,q⟩,p⟩:=hb
 refine KI rfl q p λR η u z r w b f=>?_
 have g:=(J9 f x).1;rw[ZS b j,hx]at g
 have g:=KH g;rw[<-ZS b o]at hy
 obtain⟨A,n⟩:=PR f hy;have l:m.toNat<a.size:=by omega
 have h:a[m.toNat]?=some a[m.toNat]:=by
  grind
 have i:K7 a m=((a[m.toNat].toNat:Nat):Int):=by unfold K7;rw[h];rfl
 rw[i];refine⟨.int .u8 (a[m.toNat].toNat:Nat),?_,WF _ _ _⟩
 simp[execOp,hop,g,n,Instr.index,asIntOf,Qc1 ht,hc.1,h]
end
theorem FZ{α:Type}[Emb α]{l:List α}{lo:Nat}(h:lo+n<=l.length):Is n (λj=>LF l (lo+j)) ((l.drop lo).take n):=by
 have c:((l.drop lo).take n).length=n:=by rw[Qd7,Qo3];omega
 refine Q4o _ c λi b=>?_
 have e:gl l (lo+i)=gl ((l.drop lo).take n) i:=by simp[gl,Qa0,b]
 show Emb.cells (gl l (lo+i))=_;rw[e]
end
section
open Go.MapKept
def MP{α:Type}[Emb α](gs:List (Int×List α)):DVal:=.mp gs.length (λi=>(gs.getD i (0,[])).1) λi=>DL (gs.getD i (0,[])).2
def Be{α:Type}[Emb α](w:World)(X:Nat->Prop)(x:MapEntry)(e:Int×List α):Prop:=x.key=.int .i64 e.1/\DRep w X x.val (DL e.2)
def Zd{α:Type}[Emb α](left:List (Int×List α))(cur:Option (Int×List α))(w:World)(X:Nat->Prop)(v:Value):Prop:=
 ∃(r b:Nat) (es:Array MapEntry) (clock since:Nat) (seen:Array Nat) (c0:Nat),v=.pointer (some ⟨r,0,none⟩)/\w.heap[r]?=some (.mapIter (some b) since seen c0)/\¬X b/\w.heap[b]?=some (.map es clock)/\Stamped es clock/\since<=c0/\since<=clock/\(∀x∈es.toList,x.born<since) /\
  (leftOf es seen).size=left.length/\(∀(i:Nat) (x:MapEntry) (e:Int×List α),(leftOf es seen)[i]?=some x->left[i]?=some e->Be w X x e) /\
  ∀e,cur=some e->∃x∈es.toList,∃seen' : Array Nat,seen=seen'.push x.born/\c0=clock/\Be w X x e
theorem Be.mono{α:Type}[Emb α]{X X' : Nat->Prop}{x:MapEntry}{e:Int×List α}(h:Be w X x e)(hk:QS w w' X X'):Be w' X' x e:=⟨h.1,h.2.mono hk⟩
theorem yP{α:Type}[Emb α]{left:List (Int×List α)}{cur:Option (Int×List α)}(v:Value):Ba (Zd left cur) v:=by
 intro w O X X' l D h;obtain⟨r,b,A,d,c,f,N,rfl,G,I,o,u,F,B,q,J,z,g⟩:=h
 have n:=l b (J2 o) I;exact⟨r,b,A,d,c,f,N,rfl,(D r (by simp[Y7])).trans G,n.2,n.1.trans o,u,F,B,q,J,λi x e m j=>(z i x e m j).mono l,λe j=>by
  obtain⟨x,m,p,M,H,t⟩:=g e j;exact⟨x,m,p,M,H,t.mono l⟩⟩
theorem Z2t{α:Type}[Emb α](left:List (Int×List α))(cur:Option (Int×List α)):J3 (.ext (Zd left cur)) (.ext (Zd left none)):=by
 refine⟨λw X η C v l=>?_,rfl,λi n=>by cases n⟩
 cases l with
 |ext _ _ h1 h2 h3=>
  obtain⟨r,b,m,d,c,f,A,e,z,u,g,q,x,j,o,p,h,_⟩:=h1;exact .ext _ _ ⟨r,b,m,d,c,f,A,e,z,u,g,q,x,j,o,p,h,λe t=>by cases t⟩ (yP _) h3
section
variable {P:Program} {C:Ctx} {nt:Nat} {L:Lay} {R:Nat->Prop} {η:Nat->Value} {e:U4} {s:U6} {a:Act} {w:World}
theorem Q6Z(h:Conc C nt R η e s a w)(hd:o.dst=some d)(hdn:d<nt)(hR:¬ R d){p:World->(Nat->Prop)->Value->Prop}(hrun:(execOp a.eval o).run P w=.ok (.value v) w')(hstep:Stp (fun _=>False) w w')(hone:v.oneCell'=true)(hv:∀ b,b ∈ Y7 v->w.heap.size<=b)(hob:∀ X' η',QS w w' (XS C s η) X' -> ORep w' X' η' C v (.ext p)):
  y3 P C nt R η e s a w o {v:=.v (.c (.own d)),new:=some (.ext p)}:=by
 have q:=Jj (C:=C) (s:=s) (η:=η) {v:=.v (.c (.own d)),new:=some (.ext p)} o.dst v (λ_=>False) hstep (λb f=>f.elim) (λ_ _ _ _ b f=>.inl (hv b f)) (λk o l=>by cases l);refine⟨v,w',.inl hrun,h.step o.dst (λx m=>by rw[hd]at m;cases m;exact hdn) _ _ _ (λ_=>False) hstep (λb f=>f.elim) ?_ (λk o l=>by cases l) ?_⟩
 .intro r dd i g
  cases i
  rw[hd]at g;cases g
  exact⟨hR,rfl,by simp[Obj.refs],hob _ _ q,λb f=>.inl (hv b f)⟩
 .intro _
  refine⟨.v _ _ (.c _ _ (.own _ _ (by simp[SR.eta,hd]) hone)),λj n=>?_⟩;simp[AVal.refs,TV.refs,CV.refs]at n
  exact .inr ⟨by simp,by rw[hd,n]⟩
theorem Z6m{α:Type}[Emb α]{X:Nat->Prop}{gs:List (Int×List α)}(h:ARep w X η C v (.v (.c (.d (MP gs))))):
  ∃(b:Nat) (es:Array MapEntry) (clock:Nat),v=.map (some b)/\¬X b/\w.heap[b]?=some (.map es clock)/\Stamped es clock/\es.size=gs.length/\∀(i:Nat) (x:MapEntry) (e:Int×List α),es[i]?=some x->gs[i]?=some e->Be w X x e:=by
 cases h with|v _ _ h=>cases h with|c _ _ h=>cases h with|d _ _ h=>
 unfold MP at h
 cases h with|mp b es clock _ _ Ze _ h1 h2 h3 h4 h5 h6=>
 refine⟨b,es,clock,rfl,h1,h2,h3,h4,λi x e j l=>?_⟩;obtain⟨f,n⟩:=Qj1.1 l
 obtain⟨p,o⟩:=h5 i f;have m:gs.getD i (0,[])=e:=by rw[Qa0,l];rfl
 have g:=h6 i f;rw[o]at j
 cases j
 simp only[m]at g⊢;exact⟨rfl,g⟩
variable {ops:Array Oper} {ds:List Dir} {k:Nat}
theorem Z6C{α:Type}[Emb α]{gs:List (Int×List α)}(ht:P.underlying t=some (.map kT eT))(hk:Qu ds k=rE {v:=.v (.c (.own d)),new:=some (.ext (Zd gs none))})(hop:(Y8 ops.toList k).op=.range t x)(hdo:(QL nt (Y8 ops.toList k)&&(QX ops (U9 L ops ops.toList ds e s k) (Y8 ops.toList k)==some true)&&(Y8 ops.toList k).dst==some d)=true)(hx:Y2 (U9 L ops ops.toList ds e s k) x=.v (.c (.d (MP gs)))):K2 P C nt L ops ds e s k:=by
 unfold K2;rw[hk]
 simp only[Qa4,Qg4]at hdo;obtain⟨⟨z,M⟩,o⟩:=hdo
 refine UV z M λR η T U a w H G J j=>?_
 have I:x∈(Y8 ops.toList k).op.operands.toList:=by rw[hop];simp[Op.operands]
 have B:=(J9 j x).1;rw[H x I,hx]at B
 obtain⟨b,n,f,ev,O,r,u,F,N⟩:=Z6m B;refine Q6Z j o (YH z d o) (J d o (by simp)) (v:=.pointer (some ⟨w.heap.size,0,none⟩)) (w':=w.alloc (.mapIter (some b) f #[] f)) ?_ (Stp.alloc _ w _) rfl (λb D=>by simp[Y7]at D;omega) λX' η' l=>?_
 .simp [execOp,hop,ev,run_range_map w t kT eT b n f ht r]
 .have h:=l b (J2 r) O
  have g:leftOf n #[]=n:=by simp[leftOf]
  refine .ext _ _ ⟨w.heap.size,b,n,f,f, #[],f,rfl,by show(w.heap.push _)[w.heap.size]?=_;exact Array.getElem?_push_size,h.2,h.1.trans r,u,Qb4 _,Qb4 _,u.1,by rw[g,F],λi y q A p=>?_,λq p=>by cases p⟩ (yP _) λV m=>?_
  .rw [g]at A
   exact(N i y q A p).mono l
  .simp only[Y7,Qb0]at m
   subst m;show w.heap.size<(w.heap.push _).size
   rw[Qn0];omega
theorem Z6J{α:Type}[Emb α]{gs:List (Int×List α)}{q:Int×List α}(hk:Qu ds k=rE {v:=.t [.c (.d (.int .i64 q.1)),.c (.d (DL q.2))]})(hop:(Y8 ops.toList k).op=.entry x)(hdo:(QL nt (Y8 ops.toList k)&&(QX ops (U9 L ops ops.toList ds e s k) (Y8 ops.toList k)==some true))=true)(hx:Y2 (U9 L ops ops.toList ds e s k) x=.v (.c (.own id)))(hs:QH L ops ops.toList ds e s k id=some (.ext (Zd gs (some q)))):K2 P C nt L ops ds e s k:=by
 unfold K2;rw[hk]
 simp only[Qa4,Qg4]at hdo;obtain⟨D,U⟩:=hdo
 refine UV D U λR η Z J a w T l hn g=>?_
 have F:x∈(Y8 ops.toList k).op.operands.toList:=by rw[hop];simp[Op.operands]
 have i:=(J9 g x).1;rw[T x F,hx]at i
 have i:=WA i;have m:J id=some (.ext (Zd gs (some q))):=(l x F id (by rw[hx];simp[AVal.refs,TV.refs,CV.refs])).trans hs
 have h:=g.st id _ m;generalize hu:η id=u at h
 cases h with
 |ext _ _ hp _ _=>
  obtain⟨r,b,B,z,f,A,G,rfl,V,g2,H,O,g5,W,Y,g8,g9,o⟩:=hp;obtain⟨y,I,N,rfl,rfl,n,p⟩:=o q rfl
  refine QY g (YH D) (v:=.tuple #[y.key,y.val]) ?_ ?_ (by simp[AVal.refs,TV.refs,CV.refs])
  .simp [execOp,hop,i,hu,run_entry_at w r b f N B G y V H I ((stamped_iff B G).1 O).2.1]
  .refine .t _ _ rfl λj M=>?_
   have:j=0\/j=1:=by simp at M;omega
   rcases this with rfl|rfl
   .exact .c _ _ (.d _ _ (by show DRep w _ y.key _;rw[n];exact .int _ _))
   .exact .c _ _ (.d _ _ p)
end
theorem Z1L{es:Array MapEntry}(hst:Stamped es clock){seen:Array Nat}{x:MapEntry}(hx:(leftOf es seen)[i]?=some x):(leftOf es (seen.push x.born)).toList=(leftOf es seen).toList.eraseIdx i:=by
 have c:((leftOf es seen).toList.map (·.born)).Nodup:=by
  unfold leftOf;rw[Qs5]
  exact(List.filter_sublist.map _).nodup hst.2.1
 have d:(leftOf es (seen.push x.born)).toList=(leftOf es seen).toList.filter λy=>y.born != x.born:=by
  unfold leftOf;rw[Qs5,Qs5,List.filter_filter]
  grind
 rw[d];have b : (leftOf es seen).toList[i]?=some x:=by simpa using hx
 generalize (leftOf es seen).toList=l at c b
 clear hx d
 induction l generalizing i with
 |nil=>simp at b
 |cons y l ih=>
  rw[Qf7,Qr7]at c
  cases i with
  |zero=>
   simp at b
   subst b;rw[List.eraseIdx_zero,Qo4,Qa1 (by simp)]
   rw[List.tail_cons];refine Qm5.2 λz f=>?_
   grind
  |succ i=>
   grind
noncomputable def Gs{α R:Type}(gs:List α)(stop:Option R)(go:α->List α->Option R):Option R:=
 open Classical in
 match gs with
 |[]=>stop
 |g::l=>if h:∃r,∀i (hi:i<(g::l).length),go (g::l)[i] ((g::l).eraseIdx i)=some r then some h.choose else none
theorem Z1f{α R:Type}{gs:List α}{stop:Option R}{go:α->List α->Option R}{r:R}(h:Gs gs stop go=some r)(hg:gs=[]):stop=some r:=by subst hg;exact h
theorem Z1i{α R:Type}{gs:List α}{stop:Option R}{go:α->List α->Option R}{r:R}(h:Gs gs stop go=some r){x:α}{l:List α}(hx:∃i,∃hi:i<gs.length,x=gs[i]/\l=gs.eraseIdx i):go x l=some r:=by
 obtain⟨i,hi,rfl,rfl⟩:=hx
 cases gs with
 |nil=>exact absurd hi (Qc9 _)
 |cons g l=>
  unfold Gs at h;simp only at h
  split at h
  all_goals grind
theorem Z1h{α R:Type}{stop:Option R}{go:α->List α->Option R}:Gs [] stop go=stop:=rfl
theorem Z1g{α R:Type}{gs:List α}{stop:Option R}{go:α->List α->Option R}{r:R}(hne:gs≠[])(h:∀i (hi:i<gs.length),go gs[i] (gs.eraseIdx i)=some r):Gs gs stop go=some r:=by
 cases gs with
 |nil=>exact absurd rfl hne
 |cons g l=>
  unfold Gs;simp only
  have b:∃r,∀i (hi:i<(g::l).length),go (g::l)[i] ((g::l).eraseIdx i)=some r:=⟨r,h⟩;rw[Qu4 b]
  have c:=b.choose_spec 0 (by simp)
  grind
section
variable {P:Program} {C:Ctx} {nt:Nat} {L:Lay} {pins:List Nat} {E:List (Nat×AVal)} {S:List (Nat×Obj)} {Q:Exit->Act->World->Prop}
theorem Z7a{α:Type}[Emb α]{gs:List (Int×List α)}{id it t5 t6 t7 ty6 ty7:Nat}{p6 p7:String}{af6 af7:Array Edge}(hE:lk E t5=.v (.c (.own it)))(h6:(E.map (·.1)).contains t6=false)(hn:(Nat.blt t6 nt&&Nat.blt t7 nt && !(t6==t7))=true)(stop:gs=[]->Kn C nt ((t7,vb false)::E) ((it,.ext (Zd gs none))::S) (Q .normal))(go:∀ q l,(∃ i,∃ hi:i<gs.length,q=gs[i]/\l=gs.eraseIdx i)->Kn C nt ((t7,vb true)::E) ((it,.ext (Zd l (some q)))::S) (Q .normal)):
  AW P C nt (.region id #[{dst:=some t6,op:=.next (.tmp t5) false,type:=ty6,pos:=p6,after:=af6,guard:=none}, {dst:=some t7,op:=.extract (.tmp t6) 0,type:=ty7,pos:=p7,after:=af7,guard:=none}] false) E ((it,.ext (Zd gs none))::S) Q:=by
 simp only[Qa4,Nat.blt_eq,Qh7,Qs6]at hn;obtain⟨⟨n6,n7⟩,f2⟩:=hn
 intro R η a w hc;refine wp_region_list ?_
 have D:ls ((it,.ext (Zd gs none))::S) it=some (.ext (Zd gs none)):=by rw[Qf,Qa2 rfl]
 have e5:a.tmps.getD t5 undef=η it:=by have:=hc.ev t5;rw[hE]at this;exact WA this
 have l6:lk E t6=.any:=by
  unfold lk
  grind
 have b4:=hc.st it _ D;have b3:∀b,b∈Y7 (η it)->Own (ls ((it,.ext (Zd gs none))::S)) η b:=λb hb=>⟨it,_,D,hb⟩
 have f1:∀x,x∈Y7 (η it)->C.M x\/C.w0.heap.size<=x:=λx m=>by
  rcases hc.ow it _ x D m with ⟨h1,_⟩|h1
  .cases h1
  .exact h1
 generalize hu:η it=u at b4
 cases b4 with
 |ext _ _ hp _ hlt=>
 obtain⟨r,b,V,g,f,d,c0,rfl,g1,g2,g3,g4,g5,g6,g7,g8,g9,_⟩:=hp;have e1:r≠b:=λh=>by rw[h,g3]at g1;cases g1
 have a3:∀ (I:Bool) (Y : List (Int×List α)) (W:Option (Int×List α)) (N:World) (G:Array Value) (R1:Nat->Prop) (η1:Nat->Value),G.getD 0 undef=.bool I->G.size≠0 ->
   Conc C nt R1 η1 (Zu (some t6) .any (lk E)) (ls ((it,.ext (Zd Y W))::S)) (a.put (some t6) (.tuple G)) N ->
   Kn C nt ((t7,vb I)::E) ((it,.ext (Zd Y W))::S) (Q .normal) ->
   wpList P #[{dst:=some t6,op:=.next (.tmp t5) false,type:=ty6,pos:=p6,after:=af6,guard:=none}, {dst:=some t7,op:=.extract (.tmp t6) 0,type:=ty7,pos:=p7,after:=af7,guard:=none}] Q [{dst:=some t7,op:=.extract (.tmp t6) 0,type:=ty7,pos:=p7,after:=af7,guard:=none}] (a.put (some t6) (.tuple G)) N:=by
  intro I Y W N G R1 η1 c4 c7 n kn;refine Qy0 rfl λK hK=>?_
  have hv:(a.put (some t6) (.tuple G)).tmps.getD t6 undef=.tuple G:=by rw[To a _ _ _ (by rw[hc.sz];intro x m;cases m;exact n6),Qa2 rfl]
  have h0:G[0]?=some (.bool I):=by
   have:0<G.size:=Nat.pos_of_ne_zero c7
   rw[Qd4,Qe3 this]at c4
   grind
  have c1:(execOp (a.put (some t6) (.tuple G)).eval ({dst:=some t7,op:=.extract (.tmp t6) 0,type:=ty7,pos:=p7,after:=af7,guard:=none}:Oper)).run P N=.ok (.value (.bool I)) N:=by
   simp[execOp,Act.eval,hv,Instr.extract,h0]
  refine Bi c1 (hK _ _ ?_);have b2:=n.val (some t7) (λx m=>by cases m;exact n7) (vb I) (.bool I) λ_=>⟨FD _ _,λj hj=>by cases hj⟩
  have he:SR.env {v:=vb I} (some t7) (Zu (some t6) .any (lk E))=lk ((t7,vb I)::E):=by
   funext t
   simp only[SR.env,Zu];rw[DS]
   grind
  rw[he]at b2;exact kn _ _ _ _ b2
 refine Qy0 rfl λK hK=>?_
 have O:∀ {v:Value} {w' : World},(Instr.next (.pointer (some ⟨r,0,none⟩)) false ty6).run P w=.ok v w' ->
   (execOp a.eval ({dst:=some t6,op:=.next (.tmp t5) false,type:=ty6,pos:=p6,after:=af6,guard:=none}:Oper)).run P w=.ok (.value v) w':=λJ=>by
  simp[execOp,Act.eval,e5,hu,J]
 rcases run_next_at (P:=P) w ty6 r b f c0 d V g g1 g3 g7 g5 with ⟨h0,F⟩|⟨y,hy,N,B,F⟩
 .have c9:gs=[]:=Qe0 (by rw[<-g8,h0])
  refine Bi (O F) (hK _ _ ?_);have n:=hc.val (some t6) (λx m=>by cases m;exact n6) .any (.tuple #[.bool false]) λ_=>⟨.any _,by simp[AVal.refs]⟩
  exact a3 false gs none w #[.bool false] R η rfl (by simp) n (stop c9)
 .obtain ⟨i,hi,c3⟩:=Qc7 hy
  have c6 : i<(leftOf V d).size:=by simpa using hi
  have U : (leftOf V d)[i]?=some y:=by rw[Qe3 c6];simpa using c3
  have a5:i<gs.length:=by omega
  have b9:=g9 i y gs[i] U (Qb9 a5);have b1:y∈V.toList:=by
   have:y∈(leftOf V d).toList:=hy
   unfold leftOf at this
   grind
  refine Bi (O F) (hK _ _ ?_);have a0:N.heap=w.heap:=by rcases B with rfl|rfl<;>rfl
  have a9:N.heap[r]?=some (.mapIter (some b) f d c0):=by rw[a0];exact g1
  have A:Stp (λx=>x=r) w (ChangeMaps.setBlock N r (.mapIter (some b) f (d.push y.born) g)):=by
   refine⟨?_,?_,?_,?_,λx m hn=>?_,?_⟩
   .rcases B with rfl|rfl<;>rfl
   .rcases B with rfl|rfl<;>rfl
   .rcases B with rfl|rfl<;>rfl
   .simp [ChangeMaps.setBlock,a0]
   .exact ((heap_set a9).2 x hn).trans (by rw[a0])
   .rcases B with rfl|rfl
    .exact Qb4 _
    .exact Qn2 _
  have a8:r∈Y7 (η it):=by rw[hu];simp[Y7]
  have b7:∀(p:World->(Nat->Prop)->Value->Prop),SR.sto {v:=.any,upd:=some (it,.ext p)} (some t6) (ls ((it,.ext (Zd gs none))::S))=ls ((it,.ext p)::S):=λp=>by
   funext z
   simp only[SR.sto,List.contains_nil,Qh1,Qh2];rw[Qf,Qf]
   grind
  have T:SR.eta {v:=.any,upd:=some (it,.ext (Zd (gs.eraseIdx i) (some gs[i])))} (some t6) (.tuple #[.bool true,y.key,y.val]) η=η:=by funext z;simp[SR.eta]
  have hk:=Jj (C:=C) (s:=ls ((it,.ext (Zd gs none))::S)) (η:=η) {v:=.any,upd:=some (it,.ext (Zd (gs.eraseIdx i) (some gs[i])))} (some t6) (.tuple #[.bool true,y.key,y.val]) (λx=>x=r) A (λx m=>by subst m;exact b3 _ a8) (λ_ _ J=>by cases J)
   (λk o J=>by cases J;rw[D];simp)
  have n:=hc.step (some t6) (λx m=>by cases m;exact n6) {v:=.any,upd:=some (it,.ext (Zd (gs.eraseIdx i) (some gs[i])))} (.tuple #[.bool true,y.key,y.val]) _ (λx=>x=r) A
   (λx m=>by
    grind)
   (λ_ _ J=>by cases J)
   (λk o J=>by
    cases J
    refine⟨⟨_,D,rfl⟩,rfl,by simp,by simp[Obj.refs],?_⟩;rw[T]at hk⊢
    rw[hu];have a2:=hk b (J2 g3) g2
    have a7:=Z1L g4 U;refine .ext _ _ ⟨r,b,V,g,f,d.push y.born,g,rfl,(heap_set a9).1,a2.2,a2.1.trans g3,g4,g6,g6,g7,?_,λj x q m Z=>?_,λq Z=>?_⟩ (yP _) λx m=>?_
    .have:=congrArg List.length a7
     grind
    .have H:(leftOf V (d.push y.born)).toList[j]?=some x:=by simpa using m
     rw[a7,Qw4]at H;rw[Qw4]at Z
     split at H
     .rename_i hj
      rw[Qa2 hj]at Z;exact(g9 j x q (by simpa using H) Z).mono hk
     .rename_i hj
      rw[Qa1 hj]at Z;exact(g9 (j+1) x q (by simpa using H) Z).mono hk
    .cases Z
     exact⟨y,b1,d,rfl,rfl,b9.mono hk⟩
    .simp only[Y7,Qb0]at m
     subst m;exact Qb6 (J2 g1) A.size)
   (λ_=>⟨.any _,by simp[AVal.refs]⟩)
  rw[b7,T]at n;have he:SR.env {v:=.any,upd:=some (it,.ext (Zd (gs.eraseIdx i) (some gs[i])))} (some t6) (lk E)=Zu (some t6) .any (lk E):=rfl
  rw[he]at n;exact a3 true (gs.eraseIdx i) (some gs[i]) _ #[.bool true,y.key,y.val] _ _ rfl (by simp) n (go gs[i] (gs.eraseIdx i) ⟨i,a5,rfl,rfl⟩)
end
end
section
open Go.MapKept
section
variable {α:Type} [Emb α]
def z3(y:Int)(gs:List (Int×List α)):Nat:=gs.findIdx λe=>e.1==y
def gApp(y:Int)(m:List α)(gs:List (Int×List α)):List (Int×List α):=
 match gs[z3 y gs]? with
 |some e=>gs.set (z3 y gs) (e.1,e.2++m)
 |none=>gs++[(y,m)]
theorem Kl{β:Type}(y:Int)(gs:List (Int×List β)):(z3 y gs<gs.length/\∃e,gs[z3 y gs]?=some e/\e.1=y)\/(z3 y gs=gs.length/\∀e∈gs,e.1≠y):=by
 unfold z3;rcases Qd3 (gs.findIdx λe=>e.1==y) gs.length with h|h
 .left
  refine⟨h,_,Qb9 h,?_⟩
  grind
 all_goals grind
theorem yf{β:Type}{gs:List (Int×List β)}(hnd:(gs.map (·.1)).Nodup){a b:Int×List β}(ha:gs[i]?=some a)(hb:gs[j]?=some b)(h:a.1=b.1):i=j:=by
 obtain⟨c,ha⟩:=Qj1.1 ha;obtain⟨d,hb⟩:=Qj1.1 hb
 exact(Ql4 (h₀:=by simpa using c) (h₁:=by simpa using d) hnd).1 (by simp[ha,hb,h])
def Ue(w:World)(X:Nat->Prop)(v:Value)(l:List α):Prop:=∀η C,ORep w X η C v (AO l)
def ZP(b:Nat)(rs:List Value):Array Value:=(Value.map (some b)::(rs++[.slice none 0 0])).toArray
structure GrpAt (gs:List (Int×List α)) (pend:Option Nat) (w:World) (X:Nat->Prop) (b:Nat) (rs:List Value) (ents:Array MapEntry) (clock:Nat):Prop where
 heap:w.heap[b]?=some (.map ents clock)
 st:Stamped ents clock
 len:rs.length=gs.length
 nd:(gs.map (·.1)).Nodup
 rows:∀(i:Nat) (e:Int×List α) (v:Value),gs[i]?=some e->rs[i]?=some v->Ue w X v e.2
 apart:∀(i j:Nat) (u v:Value) (x:Nat),rs[i]?=some u->rs[j]?=some v->x∈Y7 u->x∈Y7 v->i=j
 off:∀(i:Nat) (v:Value),rs[i]?=some v->b∉Y7 v
 ents:match pend with
  |none=>ents.size=gs.length/\∀(i:Nat) (e:Int×List α) (v:Value),gs[i]?=some e->rs[i]?=some v->∃bo,ents[i]?=some ⟨.int .i64 e.1,v,bo⟩
  |some j=>j<gs.length/\(ents.size=gs.length\/(ents.size+1=gs.length/\j=ents.size))/\∀(i:Nat) (e:Int×List α) (v:Value),i<ents.size->gs[i]?=some e->rs[i]?=some v->∃u bo,ents[i]?=some ⟨.int .i64 e.1,u,bo⟩/\(i≠j->u=v)
def Zi(gs:List (Int×List α))(pend:Option Nat)(w:World)(X:Nat->Prop)(us:List Value)(v:Value):Prop:=
 ∃b rs ents clock,us=[.map (some b)]/\v=.agg (ZP b rs)/\GrpAt gs pend w X b rs ents clock
theorem Ue.form{X:Nat->Prop}{l:List α}(h:Ue w X v l):∃ad n cap,v=.slice ad n cap/\PM v=Y7 v/\v.oneCell'=true:=by
 have:=h (λ_=>undef) (Qd [] w X λ_=>undef)
 unfold AO at this;generalize l.length=n at this
 cases this with
 |nil ad=>exact⟨_,_,_,rfl,by cases ad<;>rfl,rfl⟩
 |arr=>exact⟨_,_,_,rfl,rfl,rfl⟩
theorem Ue.mono{X X' : Nat->Prop}{l:List α}(h:Ue w X v l)(hk:QS w w' X X')(hb:∀b∈Y7 v,w'.heap[b]?=w.heap[b]?):Ue w' X' v l:=
 λη C=>(h η C).mono hk (λ_ _=>rfl) hb
theorem Ue.lt{X:Nat->Prop}{l:List α}(h:Ue w X v l){b:Nat}(hb:b∈Y7 v):b<w.heap.size:=
 (h (λ_=>undef) (Qd [] w X λ_=>undef)).lt hb
theorem YZ{b x:Nat}(h1:∀v∈rs,PM v=Y7 v):x∈Y7 (.agg (ZP b rs))↔x=b\/∃v∈rs,x∈Y7 v:=by
 show x∈(Value.map (some b)::(rs++[.slice none 0 0])).flatMap PM↔_;rw[Qt8,Qa9,Qs7,Qa9,Qb8,Qb8]
 constructor
 .rintro (h|⟨v,hv,h⟩|⟨v,hv,h⟩)
  .exact .inl (Qb0.1 h)
  .grind
  .rw [Qb0.1 hv]at h;cases h
 .rintro (h|⟨v,hv,h⟩)
  .exact .inl (Qb0.2 h)
  all_goals grind
theorem GrpAt.one{gs:List (Int×List α)}{X:Nat->Prop}{b:Nat}(h:GrpAt gs pend w X b rs ents clock):∀v∈rs,PM v=Y7 v:=λv g=>by
 obtain⟨i,d,rfl⟩:=Qc7 g;have c : i<gs.length:=by rw[<-h.len];exact d
 obtain⟨_,_,_,_,f,_⟩:=(h.rows i gs[i] rs[i] (Qb9 c) (Qb9 d)).form;exact f
theorem GrpAt.mono{gs:List (Int×List α)}{X X' : Nat->Prop}{b:Nat}(h:GrpAt gs pend w X b rs ents clock)(hk:QS w w' X X')(hb:∀x∈Y7 (.agg (ZP b rs)),w'.heap[x]?=w.heap[x]?):GrpAt gs pend w' X' b rs ents clock:=
 ⟨(hb b ((YZ h.one).2 (.inl rfl))).trans h.heap,h.st,h.len,h.nd,λi e v f c=>(h.rows i e v f c).mono hk λx d=>hb x ((YZ h.one).2 (.inr ⟨v,Qf4 c,d⟩)),h.apart,h.off,h.ents⟩
theorem yZ{gs:List (Int×List α)}{us:List Value}(v:Value):Ba (λw X v=>Zi gs pend w X us v) v:=by
 intro w m X X' g l h;obtain⟨b,j,d,c,f,rfl,i⟩:=h
 exact⟨b,j,d,c,f,rfl,i.mono g l⟩
theorem GrpAt.lt{gs:List (Int×List α)}{X:Nat->Prop}{b:Nat}(h:GrpAt gs pend w X b rs ents clock){x:Nat}(hx:x∈Y7 (.agg (ZP b rs))):x<w.heap.size:=by
 rcases(YZ h.one).1 hx with rfl|⟨v,f,hx⟩
 .exact J2 h.heap
 .obtain ⟨i,d,rfl⟩:=Qc7 f
  have c : i<gs.length:=by rw[<-h.len];exact d
  exact(h.rows i gs[i] rs[i] (Qb9 c) (Qb9 d)).lt hx
end
def GM(extra:List Nat)(ops:Array Oper)(o:Oper)(e:U4)(r:SR):Eff:= {rd:=QD o++Qo ops o,ids:=WG e o++extra,v:=r.v,l:=r.l o.dst,news:=r.nw o.dst}
def xE(extra:List Nat)(r:SR):Array Oper->Oper->U4->Eff:=λops o e=>GM extra ops o e r
section
variable {P:Program} {C:Ctx} {nt:Nat} {L:Lay} {ops:Array Oper} {ds:List Dir} {e:U4} {s:U6}
def xZ(P:Program)(C:Ctx)(nt:Nat)(R:Nat->Prop)(η:Nat->Value)(e:U4)(s:U6)(a:Act)(w:World)(o:Oper)(r:SR):Prop:=
 ∃v u w',((execOp a.eval o).run P w=.ok (.value v) w' \/ ((execOp a.eval o).run P w=.ok .skip w' /\ v=undef)) /\
  Conc C nt (r.rng o.dst R) (r.eta o.dst u η) (r.env o.dst e) (r.sto o.dst s) (a.put o.dst v) w'
theorem y3.g{R:Nat->Prop}{a:Act}{r:SR}(h:y3 P C nt R η e s a w o r):xZ P C nt R η e s a w o r:=by
 obtain⟨v,b,c,d⟩:=h;exact⟨v,v,b,c,d⟩
theorem Rc(extra:List Nat)(hdo:QL nt o=true){r:SR}(hg:QX ops e o=some true)(hsnd:∀ (R:Nat->Prop) (η:Nat->Value) (e0:U4) (s0:U6) (a:Act) (w:World),(∀ x ∈ o.op.operands.toList,Y2 e0 x=Y2 e x)->(∀ x ∈ o.op.operands.toList,∀ i ∈ (Y2 e x).refs,s0 i=s i)->(∀ i ∈ extra,s0 i=s i)->(∀ d,o.dst=some d->r.new≠none->¬ R d) ->
   Conc C nt R η e0 s0 a w->xZ P C nt R η e0 s0 a w o r):Wu P C nt ops o (GM extra ops o e r) e s:=by
 intro R η e0 s0 a w m c G b K Q V;have p:∀x∈o.op.operands.toList,Y2 e0 x=Y2 e x:=by
  intro x p
  cases x with
  |tmp t=>exact m t (Qa9.2 (.inl (Qp5.2 ⟨_,p,rfl⟩)))
  |const v=>rfl
  |global g=>rfl
  |func f=>rfl
 have B:∀x∈o.op.operands.toList,∀i∈(Y2 e x).refs,s0 i=s i:=λx p i F=>c i (Qk8 _ (Qb8.2 ⟨x,p,F⟩))
 have M:=UR (e:=e) b (λt T=>m t (Qa9.2 (.inr T))) hg;rw[Qa2 M]
 have U:=hsnd R η e0 s0 a w p B (λi F=>c i (Qk4 _ F)) (λd N O=>G d (by
  obtain⟨W,A⟩:=Qa7.1 O;simp[GM,SR.nw,A,N])) b
 have n:∀η' z j,Conc C nt (r.rng o.dst R) η' (r.env o.dst e0) (r.sto o.dst s0) z j -> K z j:=λη' z j D=>by
  refine V η' z j ?_;have H:=D.wider (qb r o.dst R)
  have q:ZC (GM extra ops o e r).l s0=r.sto o.dst s0:=qa r o.dst s0;rw[q]
  have h:Zu o.dst (GM extra ops o e r).v e0=r.env o.dst e0:=rfl;rw[h]
  exact H
 obtain⟨v,u,j,I|⟨I,rfl⟩,J⟩:=U
 .exact Bi I (n _ _ _ J)
 .exact kI I (n _ _ _ J)
end
section
variable {P:Program} {C:Ctx} {nt:Nat} {L:Lay} {R:Nat->Prop} {η:Nat->Value} {e:U4} {s:U6} {a:Act} {w:World}
variable {α:Type} [Emb α]
theorem Ct(h:Conc C nt R η e s a w){g base:Nat}{gs:List (Int×List α)}{pend:Option Nat}(hs:s g=some (.exr [base] (Zi gs pend))):
  ∃b rs ents clock,η base=.map (some b)/\η g=.agg (ZP b rs)/\GrpAt gs pend w (XS C s η) b rs ents clock:=by
 have c:=h.st g _ hs;generalize hu:η g=u at c
 cases c with
 |exr _ _ _ hp _ _=>
  obtain⟨b,rs,ents,clock,d,i,f⟩:=hp
  grind
theorem Q8E(hL:y4 P L)(h:Conc C nt R η e s a w)(hd:o.dst=some d)(hdn:d<nt){tx ty:Nat}(hne:tx≠ty)(hop:o.op=.call { callee:=.builtin .append,args:= #[.tmp tx,.tmp ty],argTypes:= #[t,t] }){ti:TI}(ht:L t=some ti){el:Nat}(hk:ti.kind=.slice el)(hte:L el=some te)(hes:te.size=Emb.es α){l m:List α}(hx:Ue w (XS C s η) (a.tmps.getD tx undef) l)(hX:∀ b ∈ Y7 (a.tmps.getD tx undef),XS C s η b)(hy:e ty=AL m)(hby:te.bytes<=8192)(hzl:te.zero.length=te.size)(hlim:l.length+m.length<=Z9):
  ∃v w',(execOp a.eval o).run P w=.ok (.value v) w' /\ Stp (λb=>b∈Y7 (a.tmps.getD tx undef)) w w' /\ (∀b∈Y7 v,b∈Y7 (a.tmps.getD tx undef)\/w.heap.size<=b) /\
   ∀X',(∀b,b<w'.heap.size->X' b->(XS C s η b/\b∉Y7 (a.tmps.getD tx undef))\/b∈Y7 v)->Ue w' X' v (l++m):=by
 generalize hv1:a.tmps.getD tx undef=v1 at *;have G:∀b,XS C s η b->b<w.heap.size:=by
  rintro b (⟨hx,_⟩|hx)
  .exact Qb6 (h.ok.lt b hx) h.fr.size
  .exact h.lt hx
 let C0:Ctx:= {w0:=w,D:=λb=>b∈Y7 v1,M:=λb=>b∈Y7 v1,X:=XS C s η,pin:=λ_=>none}
 let η0:Nat->Value:=λ_=>v1
 let s0:U6:=λi=>if i=nt then some (AO l)else none
 let e0:U4:=λt=>if t=tx then .v (.c (.own nt))else if t=ty then AL m else .any
 have H:XS C0 s0 η0=XS C s η:=by
  funext b
  apply propext;constructor
  .rintro (⟨h1,_⟩|⟨i,A,p,r⟩)
   all_goals grind
  .intro r
   rcases Qk7 (b∈Y7 v1)with T|T
   .exact .inr ⟨nt,AO l,by simp[s0],T⟩
   .exact .inl ⟨r,T⟩
 have J:∀i A,s0 i=some A -> i=nt/\A=AO l:=λi A p=>by
  grind
 have Z:Conc C0 nt (λi=>i=nt) η0 e0 s0 a w:=by
  refine⟨⟨λb r=>r,λb r=>hX b r,G⟩,h.df,h.sz,λt=>?_,λt i p=>?_,λi A p=>?_,λi A p=>?_,λi j b p U _ _=>?_,λi A b p r=>?_,Stp.refl _ _,λi v p=>by cases p⟩
  .rw [H]
   simp only[e0];split
   .rename_i ht;subst ht
    rw[hv1];exact .v _ _ (.c _ _ (.own _ _ rfl hx.form.choose_spec.choose_spec.choose_spec.2.2))
   .split
    .rename_i _ ht;subst ht
     have:=h.ev t
     rw[hy]at this;unfold AL at this⊢
     generalize a.tmps.getD t undef=q at this⊢
     cases this with|v _ _ hh=>cases hh with|c _ _ hh=>cases hh with|d _ _ hh=>exact .v _ _ (.c _ _ (.d _ _ hh))
    .exact .any _
  .simp only[e0]at p
   split at p
   .simpa [AVal.refs,TV.refs,CV.refs]using p
   .split at p
    .simp [AL,AVal.refs,TV.refs,CV.refs]at p
    .simp [AVal.refs]at p
  .obtain ⟨_,rfl⟩:=J i A p
   rw[H];exact hx _ _
  .obtain ⟨rfl,rfl⟩:=J i A p
   exact⟨rfl,λj U=>by simp[AO,Obj.refs]at U⟩
  all_goals grind
 have hR:¬(λi=>i=nt) d:=by show ¬d=nt;omega
 obtain⟨v,w',Y,x⟩:=Rg (c:=True) hL Z hd hdn hR hop ht hk hte (k:=m.length) (g:=LF m) (by simp[Y2,e0,Ne.symm hne,AL,DL,Wt])
  (del:=[nt]) (n:=l.length) (f:=LF l) (c0:=True) (by simp[Y2,e0,VA,s0,AO,hes]) trivial hby hzl hlim (λj U=>by rw[hes];exact Emb.len _)
 have I:(SR.sto {v:=.v (.c (.own d)),del:=[nt],new:=some (.arr te.size (l.length+m.length) (Qv l.length (LF l) (LF m))),cond:=True} o.dst s0)=λi=>if i=d then some (.arr te.size (l.length+m.length) (Qv l.length (LF l) (LF m)))else none:=by
  funext i
  simp only[SR.sto,hd]
  grind
 rw[I]at x;have B:(λi=>if i=d then some (Obj.arr te.size (l.length+m.length) (Qv l.length (LF l) (LF m)))else none) d=some (.arr te.size (l.length+m.length) (Qv l.length (LF l) (LF m))):=by simp
 have z:=x.st d _ B;have u:SR.eta {v:=.v (.c (.own d)),del:=[nt],new:=some (.arr te.size (l.length+m.length) (Qv l.length (LF l) (LF m))),cond:=True} o.dst v η0 d=v:=by simp[SR.eta,hd]
 have W:∀b,b∈Y7 v->b∈Y7 v1\/w.heap.size<=b:=λb r=>by
  rcases x.ow d _ b B (by rw[u];exact r)with ⟨h1,_⟩|h1|h1
  all_goals grind
 rw[u]at z;have F:(execOp a.eval o).run P w=.ok (.value v) w':=by
  rcases Y with Y|⟨_,rfl⟩
  .exact Y
  .have hu:(undef:Value)=.tuple #[]:=rfl
   rw[hu]at z;cases z
 refine⟨v,w',F,x.fr,W,λX' a1=>λη2 C2=>?_⟩
 .have a2:J3 (.arr te.size (l.length+m.length) (Qv l.length (LF l) (LF m))) (AO (l++m)):=by rw[hes];exact J3.is (Is.app (Is.refl l) (Is.refl m))
  have h2:=a2.1 _ _ _ _ _ z;have h3:ORep w' (XS C0 (λi=>if i=d then some (Obj.arr te.size (l.length+m.length) (Qv l.length (LF l) (LF m)))else none) (SR.eta {v:=.v (.c (.own d)),del:=[nt],new:=some (.arr te.size (l.length+m.length) (Qv l.length (LF l) (LF m))),cond:=True} o.dst v η0)) η2 C2 v (AO (l++m)):=by
   unfold AO at h2⊢;generalize (l++m).length=nn at h2⊢
   cases h2 with
   |nil ad=>exact .nil ad _ _
   |arr b' _ cap' _ c' e' _ q1 q2 q3 q4 q5 q6 q7=>exact .arr b' _ cap' _ c' e' _ q1 q2 q3 q4 q5 q6 q7
  refine h3.mono (λb r N=>⟨rfl,λO=>N ?_⟩) (λ_ _=>rfl) λ_ _=>rfl
  rcases a1 b r O with ⟨V,h5⟩|V
  .exact .inl ⟨V,h5⟩
  .exact .inr ⟨d,_,B,by rw[u];exact V⟩
theorem Hi(b:Nat)(rs:List Value)(i:Nat):(ZP b rs)[1+i]?=(rs++[.slice none 0 0])[i]?:=by
 simp[ZP,Ql7 1 i]
theorem GrpAt.find{gs:List (Int×List α)}{X:Nat->Prop}{b:Nat}(h:GrpAt gs none w X b rs ents clock)(y:Int):
  (Instr.findNow (.int .i64) (.int .i64 y) ents.toList 0=some none/\z3 y gs=gs.length) \/
  ∃x:MapEntry,Instr.findNow (.int .i64) (.int .i64 y) ents.toList 0=some (some (z3 y gs,x.val))/\rs[z3 y gs]?=some x.val/\z3 y gs<gs.length:=by
 obtain⟨J,c⟩:=h.ents;have g:∀(j:Nat) (x:MapEntry),ents[j]?=some x->∃e v,gs[j]?=some e/\rs[j]?=some v/\x.key=.int .i64 e.1/\x.val=v:=λj x A=>by
  have B:j<ents.size:=(Qg9.1 A).1;have D:j<gs.length:=by omega
  have q:j<rs.length:=by rw[h.len];exact D
  obtain⟨H,F⟩:=c j gs[j] rs[j] (Qb9 D) (Qb9 q)
  grind
 have t:∀x∈ents.toList,IsKey (.int .i64) x.key:=λx A=>by
  obtain⟨j,B,rfl⟩:=Qc7 A;obtain⟨e,v,_,_,m,_⟩:=g j _ (by simp at B⊢;exact Qe3 B)
  simp only[Qo5]at m⊢;rw[m];rfl
 rcases findNow_spec (d:=.int .i64) (k:=.int .i64 y) rfl ents.toList 0 t with ⟨o,z⟩|⟨j,x,o,z,I⟩
 .left
  refine⟨o,?_⟩;rcases Kl y gs with ⟨l,e,n,f⟩|⟨N,_⟩
  .exfalso
   have q:z3 y gs<rs.length:=by rw[h.len];exact l
   obtain⟨H,F⟩:=c _ e _ n (Qb9 q);exact z _ (by have:=Qo0 F;simpa using this) (by rw[f])
  .exact N
 .right
  obtain⟨e,v,n,G,m,u⟩:=g j x (by simpa using z);rw[I]at m
  have f:e.1=y:=by cases m;rfl
  have p:z3 y gs=j:=by
   rcases Kl y gs with ⟨l,O,r,i⟩|⟨_,M⟩
   .exact yf h.nd r n (by rw[f,i])
   all_goals grind
  rw[Qd1]at o;rw[p]
  exact⟨x,o,by rw[u];exact G,(Qj1.1 n).1⟩
variable {ops:Array Oper} {ds:List Dir} {k:Nat}
def Pt(ops:Array Oper)(nt:Nat)(e:U4)(o:Oper):Bool:=QL nt o&&(QX ops e o==some true)
theorem Z6G{gs:List (Int×List α)}{g:Nat}{m:Operand}(ht:P.underlying t=some (.map kT eT))(hkT:P.underlying kT=some (.int .i64))(hz:∀w,(zeroValue eT).run P w=.ok (.slice none 0 0) w)(hk:Qu ds k=xE [g] {v:=.v (.c (.cp g (1+z3 y gs)))})(hop:(Y8 ops.toList k).op=.lookup t m x false)(hdo:Pt ops nt (U9 L ops ops.toList ds e s k) (Y8 ops.toList k)=true)(hm:Y2 (U9 L ops ops.toList ds e s k) m=.v (.c (.own base)))(hx:Y2 (U9 L ops ops.toList ds e s k) x=vi y)(hs:QH L ops ops.toList ds e s k g=some (.exr [base] (Zi gs none))):K2 P C nt L ops ds e s k:=by
 unfold K2;rw[hk]
 simp only[Pt,Qa4,Qg4]at hdo;obtain⟨z,V⟩:=hdo
 refine Rc [g] z V λR η Y M a w G O B Z f=>y3.g ?_
 have U:m∈(Y8 ops.toList k).op.operands.toList:=by rw[hop];simp[Op.operands]
 have T:x∈(Y8 ops.toList k).op.operands.toList:=by rw[hop];simp[Op.operands]
 have o:=(J9 f m).1;rw[G m U,hm]at o
 have o:=WA o;have u:=(J9 f x).1
 rw[G x T,hx]at u;have u:=kL u
 have p:M g=some (.exr [base] (Zi gs none)):=(B g (by simp)).trans hs;obtain⟨b,W,i,D,N,F,n⟩:=Ct f p
 rw [N] at o;have h:∀ v,(v=.slice none 0 0/\z3 y gs=gs.length/\Instr.findNow (.int .i64) (.int .i64 y) i.toList 0=some none)\/(W[z3 y gs]?=some v/\Instr.findNow (.int .i64) (.int .i64 y) i.toList 0=some (some (z3 y gs,v))) ->
   (execOp a.eval (Y8 ops.toList k)).run P w=.ok (.value v) w:=by
  rintro v (⟨rfl,_,l⟩|⟨_,l⟩)
  .simp [execOp,hop,o,u,Instr.lookup,Qc1 ht,Qi2 n.heap,Qo6 hkT (k:=.int .i64 y) (d:=.int .i64) rfl,Qp1 hkT l,hz]
  .simp [execOp,hop,o,u,Instr.lookup,Qc1 ht,Qi2 n.heap,Qo6 hkT (k:=.int .i64 y) (d:=.int .i64) rfl,Qp1 hkT l]
 have H:∀j∈(AVal.v (.c (.cp g (1+z3 y gs)))).refs,R j:=λj J=>by
  simp[AVal.refs,TV.refs,CV.refs]at J
  subst J;exact(f.sr _ _ p).1
 rcases n.find y with ⟨l,I⟩|⟨q,l,A,r⟩
 .refine QY f (YH z) (h _ (.inl ⟨rfl,I,l⟩)) (.v _ _ (.c _ _ (.cp _ _ _ _ F ?_ rfl))) H
  rw[Hi,I, <-n.len];simp
 .obtain ⟨e',he'⟩:∃e',gs[z3 y gs]?=some e':=⟨_,Qb9 r⟩
  refine QY f (YH z) (h _ (.inr ⟨A,l⟩)) (.v _ _ (.c _ _ (.cp _ _ _ _ F ?_ ((n.rows _ _ _ he' A).form.choose_spec.choose_spec.choose_spec.2.2)))) H;rw[Hi,Qg0 (by rw[n.len];exact r)]
  exact A
end
end
section
open Go.MapKept
section
variable {P:Program} {C:Ctx} {nt:Nat} {L:Lay} {R:Nat->Prop} {η:Nat->Value} {e:U4} {s:U6} {a:Act} {w:World}
variable {α:Type} [Emb α] {ops:Array Oper} {ds:List Dir} {k:Nat}
def gRow(y:Int)(gs:List (Int×List α)):List α:=match gs[z3 y gs]? with|some e=>e.2|none=>[]
theorem Q1J{β:Type}{m:List β}{gs:List (Int×List β)}{q:Int×List β}(h:gs[z3 y gs]?=some q):gApp y m gs=gs.set (z3 y gs) (q.1,q.2++m):=by unfold gApp;rw[h]
theorem Q1H{β:Type}{m:List β}{gs:List (Int×List β)}(h:z3 y gs=gs.length):gApp y m gs=gs++[(y,m)]:=by
 unfold gApp
 grind
def Jd{β:Type}(l:List β)(i:Nat)(x:β):List β:=if i<l.length then l.set i x else l++[x]
theorem DG{β:Type}{l:List β}{x:β}(h:i<=l.length):(Jd l i x).length=if i<l.length then l.length else l.length+1:=by
 unfold Jd;split<;>simp
theorem DH{β:Type}{l:List β}{x:β}(h:i<=l.length)(j:Nat):(Jd l i x)[j]?=if j=i then some x else l[j]?:=by
 unfold Jd
 grind
theorem Cw{β:Type}{m:List β}{gs:List (Int×List β)}:∃q,q.1=y/\q.2=gRow y gs++m/\gApp y m gs=Jd gs (z3 y gs) q/\z3 y gs<=gs.length:=by
 rcases Kl y gs with ⟨c,q,d,f⟩|⟨b,_⟩
 .refine ⟨(q.1,q.2++m),f,by unfold gRow;rw[d],?_,by omega⟩
  rw[Q1J d];unfold Jd;rw[Qa2 c]
 .refine ⟨(y,m),rfl,?_,?_,by omega⟩
  .unfold gRow;rw[b,Qg7 (Qb4 _)];simp
  .rw [Q1H b];unfold Jd;rw[b,Qa1 (Nat.lt_irrefl _)]
theorem Z3i{β:Type}{m:List β}{gs:List (Int×List β)}:∃q,(gApp y m gs)[z3 y gs]?=some q/\q.1=y:=by
 obtain⟨q,c,_,b,d⟩:=Cw (y:=y) (m:=m) (gs:=gs);refine⟨q,?_,c⟩
 rw[b];unfold Jd
 grind
theorem Q1I{β:Type}{m:List β}{gs:List (Int×List β)}(hnd:(gs.map (·.1)).Nodup):((gApp y m gs).map (·.1)).Nodup:=by
 rcases Kl y gs with ⟨d,q,f,g⟩|⟨c,b⟩
 .rw [Q1J f,List.map_set]
  grind
 .rw [Q1H c,Qd6]
  grind
theorem Z6H(hL:y4 P L){gs:List (Int×List α)}{m:List α}{g:Nat}{t tx ty:Nat}(hT:WP L t te)(hes:te.size=Emb.es α)(hk:Qu ds k=xE [g] {v:=.v (.c (.cp d (1+z3 y gs))),del:=[g],new:=some (.exr [base] (Zi (Go.Ab.gApp y m gs) (some (z3 y gs))))})(hop:(Y8 ops.toList k).op=.call {callee:=.builtin .append,args:= #[.tmp tx,.tmp ty],argTypes:= #[t,t]})(hdo:(Pt ops nt (U9 L ops ops.toList ds e s k) (Y8 ops.toList k)&&(Y8 ops.toList k).dst==some d && !(tx==ty))=true)(hx:U9 L ops ops.toList ds e s k tx=.v (.c (.cp g (1+z3 y gs))))(hy:U9 L ops ops.toList ds e s k ty=AL m)(hs:QH L ops ops.toList ds e s k g=some (.exr [base] (Zi gs none)))(hby:te.bytes<=8192)(hzl:te.zero.length=te.size)(hlim:(gRow y gs).length+m.length<=Z9):K2 P C nt L ops ds e s k:=by
 obtain⟨ti,el,ht,e8,f7⟩:=hT;unfold K2
 rw[hk];simp only[Pt,Qa4,Qg4,Qh7,Qs6]at hdo
 obtain⟨⟨⟨h1,h2⟩,h3⟩,h4⟩:=hdo;refine Rc [g] h1 h2 λR η e0 s0 a w he g9 e7 hn n=>?_
 have ox:Operand.tmp tx∈(Y8 ops.toList k).op.operands.toList:=by rw[hop];simp[Op.operands,Call.operands]
 have oy:Operand.tmp ty∈(Y8 ops.toList k).op.operands.toList:=by rw[hop];simp[Op.operands,Call.operands]
 have ex:e0 tx=.v (.c (.cp g (1+z3 y gs))):=(he _ ox).trans hx;have ey:e0 ty=AL m:=(he _ oy).trans hy
 have B:s0 g=some (.exr [base] (Zi gs none)):=(e7 g (by simp)).trans hs;have c7:=YH h1 d h3
 have a6:¬R d:=hn d h3 (by simp);obtain⟨b,H,a4,V,hb,hg,f⟩:=Ct n B
 have g7:g≠d:=λh=>a6 (h ▸ (n.sr _ _ B).1)
 have a7:=n.ev tx;rw[ex]at a7
 generalize hv1e:a.tmps.getD tx undef=v1 at a7;have d5:(H++[.slice none 0 0])[z3 y gs]?=some v1:=by
  cases a7 with|v _ _ hh=>cases hh with|c _ _ hh=>cases hh with|cp _ _ _ vs q1 q2 _=>
  rw[hg]at q1;cases q1
  rwa [Hi]at q2
 obtain⟨q,i6,i2,Y,G⟩:=Cw (y:=y) (m:=m) (gs:=gs);have W : z3 y gs<=H.length:=by rw[f.len];exact G
 have J:∀x,x∈Y7 (.agg (ZP b H))->Own s0 η x:=λx hx=>⟨g,_,B,by rw[hg];exact hx⟩
 have c8:Ue w (XS C s0 η) v1 (gRow y gs)/\(∀x∈Y7 v1,x∈Y7 (.agg (ZP b H)))/\b∉Y7 v1/\∀j u,j≠z3 y gs->H[j]?=some u->∀x∈Y7 u,x∉Y7 v1:=by
  rcases Kl y gs with ⟨T,q',b6,f1⟩|⟨hl,_⟩
  .have D:H[z3 y gs]?=some v1:=by rwa [Qg0 (by rw[f.len];exact T)]at d5
   refine⟨?_,λx hx=>(YZ f.one).2 (.inr ⟨v1,Qf4 D,hx⟩),f.off _ _ D,λj u A hu x hx f3=>A (f.apart _ _ _ _ x hu D hx f3)⟩;unfold gRow;rw[b6]
   exact f.rows _ _ _ b6 D
  .have D:v1=.slice none 0 0:=by
    rw[hl, <-f.len,Qk1 (Qb4 _),Nat.sub_self]at d5
    grind
   subst D;refine⟨?_,λx hx=>by simp[Y7]at hx,by simp[Y7],λj u _ _ x _ hx=>by simp[Y7]at hx⟩
   unfold gRow;rw[hl,Qg7 (Qb4 _)]
   exact λη C=>.nil _ _ _
 obtain⟨f5,N,b4,d6⟩:=c8;obtain⟨v',w',c9,F,a0,c1⟩:=Q8E hL n h3 c7 h4 hop ht e8 f7 hes (l:=gRow y gs) (m:=m) (by rw[hv1e];exact f5) (λx hx=>by rw[hv1e]at hx;exact .inr (J x (N x hx))) ey hby hzl hlim
 rw[hv1e]at F a0 c1;have b7:∀x∈Y7 (.agg (ZP b H)),C.M x\/C.w0.heap.size<=x:=λx hx=>by
  rcases n.ow g _ x B (by rw[hg];exact hx)with ⟨h,_⟩|h
  .cases h
  .exact h
 have T:∀x∈Y7 (.agg (ZP b H)),x<w.heap.size:=λx hx=>f.lt hx
 let rs':=Jd H (z3 y gs) v'
 have z : ∀j,rs'[j]?=if j=z3 y gs then some v' else H[j]?:=λj=>DH W j
 have a2 : ∀j,(Go.Ab.gApp y m gs)[j]?=if j=z3 y gs then some q else gs[j]?:=λj=>by rw[Y];exact DH G j
 have Z:=(c1 (λ_=>False) λ_ _ h=>h.elim).form;have b2 : ∀v∈rs',PM v=Y7 v:=λv D=>by
  obtain⟨j,A⟩:=Qo7 D;have b3:=z j
  rw[A]at b3
  by_cases h:j=z3 y gs
  .grind
  .rw [Qa1 h]at b3;exact f.one _ (Qf4 b3.symm)
 have hu:∀x,x∈Y7 (.agg (ZP b rs'))->x=b\/x∈Y7 v' \/ ∃j u,j≠z3 y gs/\H[j]?=some u/\x∈Y7 u:=λx hx=>by
  rcases(YZ b2).1 hx with h|⟨v,D,hx⟩
  .exact .inl h
  .obtain ⟨j,A⟩:=Qo7 D
   grind
 have e4:∀x,x∈Y7 (.agg (ZP b rs'))->w.heap.size<=x\/x∈Y7 (.agg (ZP b H)):=λx hx=>by
  rcases hu x hx with rfl|h|⟨j,u,_,h,hx⟩
  .exact .inr ((YZ f.one).2 (.inl rfl))
  .grind
  .exact .inr ((YZ f.one).2 (.inr ⟨u,Qf4 h,hx⟩))
 let r:SR:= {v:=.v (.c (.cp d (1+z3 y gs))),del:=[g],new:=some (.exr [base] (Zi (Go.Ab.gApp y m gs) (some (z3 y gs))))}
 have d8:=Jj (C:=C) (s:=s0) (η:=η) r (Y8 ops.toList k).dst (.agg (ZP b rs')) (λx=>x∈Y7 v1) F (λx hx=>J x (N x hx)) (λo' dd _ _ x hx=>by
  grind) (λk o hh=>by cases hh)
 have I:∀i,r.eta (Y8 ops.toList k).dst (.agg (ZP b rs')) η i=if i=d then .agg (ZP b rs')else η i:=λi=>by simp only[SR.eta,h3,r]
 have e3:w'.heap[b]?=w.heap[b]?:=F.block b (J2 f.heap) b4;have g0:∀x,x<w'.heap.size->XS C (r.sto (Y8 ops.toList k).dst s0) (r.eta (Y8 ops.toList k).dst (.agg (ZP b rs')) η) x->(XS C s0 η x/\x∉Y7 v1)\/x∈Y7 v':=by
  intro x hx hX;rcases hX with ⟨c3,c4⟩|⟨i,oi,p,U⟩
  .refine .inl ⟨.inl ⟨c3,c4⟩,λb1=>?_⟩
   rcases b7 x (N x b1)with h|h
   .exact c4 (n.ok.md x h)
   .have:=n.ok.lt x c3;omega
  .rcases LY r (Y8 ops.toList k).dst i oi p with ⟨_,a8⟩|⟨e2,_⟩|⟨ho,g2,_,a8⟩
   .rw [h3]at a8;cases a8
    rw[I,Qa2 rfl]at U;rcases hu x U with rfl|h|⟨j,u,A,d2,O⟩
    .exact .inl ⟨.inr (J x ((YZ f.one).2 (.inl rfl))),b4⟩
    .exact .inr h
    .exact .inl ⟨.inr (J x ((YZ f.one).2 (.inr ⟨u,Qf4 d2,O⟩))),d6 j u A d2 x O⟩
   .cases e2
   .have f4:i≠d:=fun h=>by
     grind
    rw[I,Qa1 f4]at U;refine .inl ⟨.inr ⟨i,oi,ho,U⟩,λb1=>?_⟩
    have:i=g:=n.ds i g x (by rw[ho];simp) (by rw[B];simp) U (by rw[hg];exact N x b1)
    grind
 have d4:GrpAt (Go.Ab.gApp y m gs) (some (z3 y gs)) w' (XS C (r.sto (Y8 ops.toList k).dst s0) (r.eta (Y8 ops.toList k).dst (.agg (ZP b rs')) η)) b rs' a4 V:=by
  obtain⟨i5,d0⟩:=f.ents;refine⟨e3.trans f.heap,f.st,?_,Q1I f.nd,λi e' v p D=>?_,λi j u v x p A O b0=>?_,λi v p c5=>?_,?_,?_,λi e' v p a9 D=>?_⟩
  .rw [Y,DG G,DG W,f.len]
  .rw [a2]at p
   rw[z]at D
   by_cases h:i=z3 y gs
   .grind
   .rw [Qa1 h]at p D
    exact(f.rows i e' v p D).mono d8 λx hx=>F.block x (T x ((YZ f.one).2 (.inr ⟨v,Qf4 D,hx⟩))) (d6 i v h D x hx)
  .rw [z]at p A
   by_cases h:i=z3 y gs<;>by_cases h' : j=z3 y gs
   .rw [h,h']
   .rw [Qa2 h]at p;rw[Qa1 h']at A
    cases p
    exfalso
    rcases a0 x O with h5|h5
    .grind
    .have:=T x ((YZ f.one).2 (.inr ⟨v,Qf4 A,b0⟩));omega
   .rw [Qa1 h]at p;rw[Qa2 h']at A
    cases A
    exfalso
    rcases a0 x b0 with h5|h5
    .grind
    .have:=T x ((YZ f.one).2 (.inr ⟨u,Qf4 p,O⟩));omega
   .rw [Qa1 h]at p;rw[Qa1 h']at A
    exact f.apart i j u v x p A O b0
  .rw [z]at p
   by_cases h:i=z3 y gs
   .rw [Qa2 h]at p
    cases p
    rcases a0 b c5 with h5|h5
    .exact b4 h5
    .have:=J2 f.heap;omega
   .rw [Qa1 h]at p
    exact f.off i v p c5
  .rw [Y,DG G];split<;>omega
  .rw [Y,DG G]
   grind
  .rw [a2]at a9
   rw[z]at D;have c6:i<gs.length:=by omega
   have e1:i<H.length:=by rw[f.len];exact c6
   obtain⟨bo,e5⟩:=d0 i gs[i] H[i] (Qb9 c6) (Qb9 e1)
   by_cases h:i=z3 y gs
   .rw [Qa2 h]at a9
    cases a9
    refine⟨H[i],bo,?_,λhh=>absurd h hh⟩;rw[e5]
    have:gs[i].1=q.1:=by
     rcases Kl y gs with ⟨a3,q',b6,f1⟩|⟨hl,_⟩
     all_goals grind
    rw[this]
   all_goals grind
 refine⟨v',.agg (ZP b rs'),w',.inl c9,n.stepG (Y8 ops.toList k).dst (λx hx=>by rw[h3]at hx;cases hx;exact c7) r v' (.agg (ZP b rs')) w' (λx=>x∈Y7 v1) F ?_ ?_ (λk o hh=>by cases hh) ?_⟩
 .intro x hx
  exact⟨⟨g,.inl (by simp[r]),by rw[B];simp,by rw[hg];exact N x hx⟩,b7 x (N x hx)⟩
 .intro o' dd e6 d7
  rw[h3]at d7;cases d7
  have f2:o'=.exr [base] (Zi (Go.Ab.gApp y m gs) (some (z3 y gs))):=by simpa[r]using e6.symm
  subst f2;refine⟨a6,rfl,λj A=>?_,?_,λx hx=>?_⟩
  .exact (n.sr g _ B).2 j A
  .have e9:base≠d:=λh=>a6 (h ▸ (n.sr g _ B).2 base (by simp[Obj.refs]))
   refine .exr _ _ _ ⟨b,rs',a4,V,?_,rfl,d4⟩ (yZ _) λx hx=>d4.lt hx
   simp[I,e9,hb]
  .rcases e4 x hx with h|h
   .exact .inl h
   .exact .inr ⟨⟨g,by simp[r],by rw[B];simp,by rw[hg];exact h⟩,b7 x h⟩
 .intro _
  refine⟨.v _ _ (.c _ _ (.cp _ _ _ (ZP b rs') (by rw[I,Qa2 rfl]) ?_ Z.choose_spec.choose_spec.choose_spec.2.2)),λj A=>?_⟩
  .rw [Hi]
   have a3 : z3 y gs<rs'.length:=by
    grind
   rw[Qg0 a3,z,Qa2 rfl]
  .simp [r,AVal.refs,TV.refs,CV.refs]at A
   subst A;exact .inr ⟨by simp[r],h3⟩
theorem Z6F{gs:List (Int×List α)}{g:Nat}{m v:Operand}{q:Int×List α}(ht:P.underlying t=some (.map kT eT))(hkT:P.underlying kT=some (.int .i64))(hk:Qu ds k=xE [] {upd:=some (g,.exr [base] (Zi gs none))})(hop:(Y8 ops.toList k).op=.mapUpdate t m x v)(hdo:(Pt ops nt (U9 L ops ops.toList ds e s k) (Y8 ops.toList k)&&(Y8 ops.toList k).dst.isNone)=true)(hm:Y2 (U9 L ops ops.toList ds e s k) m=.v (.c (.own base)))(hx:Y2 (U9 L ops ops.toList ds e s k) x=vi y)(hv:Y2 (U9 L ops ops.toList ds e s k) v=.v (.c (.cp g (1+j))))(hs:QH L ops ops.toList ds e s k g=some (.exr [base] (Zi gs (some j))))(hq:gs[j]?=some q)(hqy:q.1=y):K2 P C nt L ops ds e s k:=by
 unfold K2;rw[hk]
 simp only[Pt,Qa4,Qg4]at hdo;obtain⟨⟨h1,h2⟩,h3⟩:=hdo
 refine Rc [] h1 h2 λR η e0 s0 a w he b5 d6 hn A=>y3.g ?_
 have om:m∈(Y8 ops.toList k).op.operands.toList:=by rw[hop];simp[Op.operands]
 have ox:x∈(Y8 ops.toList k).op.operands.toList:=by rw[hop];simp[Op.operands]
 have ov:v∈(Y8 ops.toList k).op.operands.toList:=by rw[hop];simp[Op.operands]
 have Y:=(J9 A m).1;rw[he m om,hm]at Y
 have Y:=WA Y;have ex:=(J9 A x).1
 rw[he x ox,hx]at ex;have ex:=kL ex
 have B:s0 g=some (.exr [base] (Zi gs (some j))):=(b5 v ov g (by rw[hv];simp[AVal.refs,TV.refs,CV.refs])).trans hs;obtain⟨b,V,l,c1,hb,hg,n⟩:=Ct A B
 rw[hb]at Y;have ev:=(J9 A v).1
 rw[he v ov,hv]at ev;have b4:j<V.length:=by rw[n.len];exact(Qj1.1 hq).1
 have I:V[j]?=some (a.eval v):=by
  generalize a.eval v=v1 at ev
  cases ev with|v _ _ F=>cases F with|c _ _ F=>cases F with|cp _ _ _ vs q1 q2 _=>
  rw[hg]at q1;cases q1
  rw[Hi,Qg0 b4]at q2;exact q2
 generalize hve:a.eval v=v1 at I;obtain⟨d7,b2,N⟩:=n.ents
 have a6:∀(i:Nat) (z:MapEntry),l[i]?=some z->∃J u,gs[i]?=some J /\ V[i]?=some u/\z.key=.int .i64 J.1/\(i≠j->z.val=u):=λi z W=>by
  have Z:i<l.size:=(Qg9.1 W).1;have c0:i<gs.length:=by omega
  have e4:i<V.length:=by rw[n.len];exact c0
  grind
 have b6:∀z∈l.toList,IsKey (.int .i64) z.key:=λz W=>by
  obtain⟨i,Z,rfl⟩:=Qc7 W;obtain⟨J,_,_,_,b8,_⟩:=a6 i l[i] (Qe3 (by simpa using Z))
  simp only[Qo5];rw[b8];rfl
 have d4:b<w.heap.size:=J2 n.heap;have b3:∃(p : Array MapEntry) (f : Nat),(execOp a.eval (Y8 ops.toList k)).run P w=.ok .skip {w with heap:=w.heap.setIfInBounds b (.map p f)} /\ Stamped p f /\ p.size=gs.length/\∀(i:Nat) (J : Int×List α) (u:Value),gs[i]?=some J -> V[i]?=some u->∃bo,p[i]?=some ⟨.int .i64 J.1,u,bo⟩:=by
  rcases findNow_spec (d:=.int .i64) (k:=.int .i64 y) rfl l.toList 0 b6 with ⟨f1,f2⟩|⟨i,z,f1,f2,f3⟩
  .refine ⟨_,_,?_,stamped_push (val:=v1) n.st f2,?_,λi J u D hu=>?_⟩
   .simp [execOp,hop,Y,ex,hve,Instr.mapUpdate,Qc1 ht,Qi2 n.heap,Qo6 hkT (k:=.int .i64 y) (d:=.int .i64) rfl,Qp1 hkT f1,Ql5 _ n.heap]
   .rw [Qn0]
    rcases b2 with h|⟨h,_⟩
    .exfalso
     obtain⟨u,bo,T,_⟩:=N j q v1 (by omega) hq I;exact f2 _ (by have:=Qo0 T;simpa using this) (by rw[hqy])
    .exact h
   .rcases b2 with h|⟨h,hj⟩
    .exfalso
     obtain⟨u,bo,T,_⟩:=N j q v1 (by omega) hq I;exact f2 _ (by have:=Qo0 T;simpa using this) (by rw[hqy])
    .rw [Ql2]
     by_cases Z:i=l.size
     .rw [Qa2 Z]
      have O:i=j:=by omega
      subst O;rw[hq]at D;rw[I]at hu
      cases D;cases hu
      exact⟨_,by rw[hqy]⟩
     all_goals grind
  .have fz:l[i]?=some z:=by simpa using f2
   obtain⟨J,u,D,hu,a7,d5⟩:=a6 i z fz;have b9:J.1=y:=by rw[f3]at a7;cases a7;rfl
   have O:i=j:=yf n.nd D hq (by rw[b9,hqy]);subst O
   refine⟨_,_,?_,stamped_modify n.st i (λe=> {e with key:=.int .i64 y,val:=v1}) (λ_ _=>rfl) (λc5 _ G=>?_),?_,λi' c5 u' G a4=>?_⟩
   .simp [execOp,hop,Y,ex,hve,Instr.mapUpdate,Qc1 ht,Qi2 n.heap,Qo6 hkT (k:=.int .i64 y) (d:=.int .i64) rfl,Qp1 hkT f1,fz,f3,MapKept.run_keyThatStays (d:=.int .i64) (k:=.int .i64 y) rfl,Ql5 _ n.heap]
   .grind
   .grind
   .rw [Qe2]
    by_cases Z:i=i'
    .subst Z
     rw[Qa2 rfl,fz];rw[hq]at G;rw[I]at a4
     cases G;cases a4
     exact⟨z.born,by rw[hqy];rfl⟩
    all_goals grind
 obtain⟨p,f,a9,a5,a8,U⟩:=b3;have M:Stp (λx=>x=b) w {w with heap:=w.heap.setIfInBounds b (.map p f)} :=
  ⟨rfl,rfl,rfl,by simp,λx _ hx=>(heap_set n.heap).2 x hx,Qb4 _⟩
 have H:b∈Y7 (η g):=by rw[hg];exact(YZ n.one).2 (.inl rfl)
 have hd:(Y8 ops.toList k).dst=none:=by simpa using h3
 let r:SR:= {upd:=some (g,.exr [base] (Zi gs none))}
 have a3:=Jj (C:=C) (s:=s0) (η:=η) r (Y8 ops.toList k).dst undef (λx=>x=b) M (λx hx=>by subst hx;exact⟨g,_,B,H⟩) (λ_ _ F=>by cases F) (λk o F=>by cases F;rw[B];simp);have a1:r.eta (Y8 ops.toList k).dst undef η=η:=by funext i;simp[SR.eta,r]
 refine⟨undef,_,.inr ⟨a9,rfl⟩,A.step (Y8 ops.toList k).dst (λx hx=>by rw[hd]at hx;cases hx) r undef _ (λx=>x=b) M (λx hx=>?_) (λ_ _ F=>by cases F) (λk' o' F=>?_) (λF=>absurd hd F)⟩
 .subst hx
  refine⟨⟨g,.inr ⟨_,rfl⟩,by rw[B];simp,H⟩,?_⟩;rcases A.ow g _ x B H with ⟨h,_⟩|h
  .cases h
  .exact h
 .cases F
  refine⟨⟨_,B,rfl⟩,rfl,by simp[r],λj hj=>(A.sr g _ B).2 j hj,?_⟩;rw[a1]at a3⊢
  rw[hg];have b0:GrpAt gs none {w with heap:=w.heap.setIfInBounds b (.map p f)} (XS C (r.sto (Y8 ops.toList k).dst s0) η) b V p f :=
   ⟨(heap_set n.heap).1,a5,n.len,n.nd,λi J u D hu=>(n.rows i J u D hu).mono a3 λz W=>(heap_set n.heap).2 z (λh=>by subst h;exact n.off i u hu W),n.apart,n.off,a8,U⟩
  exact .exr _ _ _ ⟨b,V,p,f,by simp[hb],rfl,b0⟩ (yZ _) λz W=>b0.lt W
end
section
variable {P:Program} {C:Ctx} {nt:Nat} {L:Lay} {pins:List Nat} {K:Act->World->Prop} {α:Type} [Emb α]
theorem Z6r(Fm:Fr P L C pins){o o' : Obj}(hp:pins.contains k=false)(hfr:((E.flatMap λp=>p.2.refs)++(((id,o)::S0).flatMap λp=>p.1::p.2.refs)).contains k=false)(hid:(S0.map (·.1)).contains id=false)(hro:o.ro=false)(hro' : o'.ro=false)(hrf:∀j∈o'.refs,j=id\/j∈o.refs)(hu:∀R η a w,Conc C nt R η (lk E) (ls ((id,o)::S0)) a w->∃u,(∀b∈Y7 u,b∈Y7 (η id))/\∀X' η',QS w w (XS C (ls ((id,o)::S0)) η) X' -> (∀i,i≠k->η' i=η i)->ORep w X' η' C u o')(hk:Kn C nt E ((k,o')::S0) K):Kn C nt E ((id,o)::S0) K:=by
 intro R η a w l;have g:ls ((id,o)::S0) id=some o:=by rw[Qf,Qa2 rfl]
 obtain⟨u,r,H⟩:=hu R η a w l;have O:C.pin k=none:=by
  rcases hq:C.pin k with _|u
  .rfl
  .have:=Fm.pin k (by rw[hq];simp)
   grind
 have D:∀i∈(E.flatMap λp=>p.2.refs)++(((id,o)::S0).flatMap λp=>p.1::p.2.refs),i≠k:=by
  grind
 have a1:id≠k:=D id (by simp);have a5:∀j∈o.refs,j≠k:=λj q=>D j (by simp[q])
 have m:∀i o',ls S0 i=some o' -> i≠k/\i≠id/\(∀j∈o'.refs,j≠k)/\ls ((id,o)::S0) i=some o':=by
  intro i o' d;have hm:=y8 d
  have T:i≠id:=by
   grind
  refine⟨D i (Qa9.2 (.inr (Qb8.2 ⟨_,Qi9 _ hm,by simp⟩))),T,λj q=>D j (Qa9.2 (.inr (Qb8.2 ⟨_,Qi9 _ hm,by simp[q]⟩))),?_⟩;rw[Qf,Qa1 T];exact d
 have a0:∀u i,i∈(lk E u).refs->i≠k:=by
  intro u i d;rcases Pf (E:=E) (t:=u)with h0|h0
  .rw [h0]at d;cases d
  all_goals grind
 let η' : Nat->Value:=λi=>if i=k then u else η i
 have f : ∀i,i≠k->η' i=η i:=λi d=>by show(if i=k then u else η i)=_;rw[Qa1 d]
 have A:η' k=u:=by show(if k=k then u else η k)=_;rw[Qa2 rfl]
 have N:∀b,Own (ls ((k,o')::S0)) η' b->Own (ls ((id,o)::S0)) η b:=by
  rintro b ⟨i,n,d,B⟩;rw[Qf]at d
  by_cases c:i=k
  .subst c
   rw[A]at B;exact⟨id,_,g,r b B⟩
  .rw [Qa1 c]at d
   rw[f i c]at B;exact⟨i,n,(m i n d).2.2.2,B⟩
 have Z:QS w w (XS C (ls ((id,o)::S0)) η) (XS C (ls ((k,o')::S0)) η'):=by
  intro b J hn;refine⟨rfl,λM=>?_⟩
  rcases M with M|M
  .exact hn (.inl M)
  .exact hn (.inr (N b M))
 refine hk (λi=>R i\/i=k) η' a w ⟨l.ok,l.df,l.sz,λt=>?_,λt i d=>.inl (l.er t i d),λi n d=>?_,λi n d=>?_,λi j b d q x z=>?_,λi n b d J=>?_,l.fr,λi v d=>?_⟩
 .exact (l.ev t).mono Z λi d=>f i (a0 t i d)
 .rw [Qf]at d
  by_cases c:i=k
  .subst c
   rw[Qa2 rfl]at d;cases d
   rw[A];exact H _ _ Z f
  .rw [Qa1 c]at d
   obtain⟨F,U,V,G⟩:=m i n d;rw[f i c]
   exact(l.st i n G).mono Z (λj q=>f j (V j q)) λ_ _=>rfl
 .rw [Qf]at d
  by_cases c:i=k
  .subst c
   rw[Qa2 rfl]at d;cases d
   refine⟨.inr rfl,λj q=>.inl ?_⟩;rcases hrf j q with rfl|h
   .exact (l.sr j _ g).1
   .exact (l.sr id _ g).2 j h
  .rw [Qa1 c]at d
   obtain⟨F,U,V,G⟩:=m i n d;have:=l.sr i n G
   exact⟨.inl this.1,λj q=>.inl (this.2 j q)⟩
 .rw [Qf]at d q
  by_cases c:i=k<;>by_cases hjk:j=k
  .rw [c,hjk]
  .exfalso
   rw[Qa1 hjk]at q;obtain⟨Y,I⟩:=Qa7.1 q
   obtain⟨F,U,V,G⟩:=m j Y I;rw[c,A]at x
   rw[f j hjk]at z;exact U (l.ds j id b (by rw[G];simp) (by rw[g];simp) z (r b x))
  .exfalso
   rw[Qa1 c]at d;obtain⟨n,I⟩:=Qa7.1 d
   obtain⟨F,U,V,G⟩:=m i n I;rw[hjk,A]at z
   rw[f i c]at x;exact U (l.ds i id b (by rw[G];simp) (by rw[g];simp) x (r b z))
  .rw [Qa1 c]at d
   rw[Qa1 hjk]at q;obtain⟨n,I⟩:=Qa7.1 d
   obtain⟨Y,W⟩:=Qa7.1 q;rw[f i c]at x
   rw[f j hjk]at z;exact l.ds i j b (by rw[(m i n I).2.2.2];simp) (by rw[(m j Y W).2.2.2];simp) x z
 .rw [Qf]at d
  by_cases c:i=k
  .subst c
   rw[Qa2 rfl]at d;cases d
   rw[A]at J;rcases l.ow id _ b g (r b J)with ⟨F,_⟩|F
   .rw [hro]at F;cases F
   .exact .inr F
  .rw [Qa1 c]at d
   rw[f i c]at J;exact l.ow i n b (m i n d).2.2.2 J
 .have c:i≠k:=by intro he;subst he;rw[O]at d;cases d
  have:=l.pn i v d
  exact⟨(f i c).trans this.1,.inl this.2⟩
theorem Z6v(Fm:Fr P L C pins)(α:Type)[Emb α]{g:Nat}(hp:pins.contains g=false)(hfr:((E.flatMap λp=>p.2.refs)++(((d,Obj.ext (Kg P kT eT []))::S0).flatMap λp=>p.1::p.2.refs)).contains g=false)(hd:(S0.map (·.1)).contains d=false)(hk:Kn C nt E ((g,.exr [d] (Zi ([]:List (Int×List α)) none))::S0) K):Kn C nt E ((d,.ext (Kg P kT eT []))::S0) K:=by
 refine Z6r Fm hp hfr hd rfl rfl (λj G=>.inl (by simpa[Obj.refs]using G)) (λR η a w A=>?_) hk;have f:=A.st d _ (show ls ((d,.ext (Kg P kT eT []))::S0) d=some (.ext (Kg P kT eT [])) by rw[Qf,Qa2 rfl])
 generalize hη:η d=u at f
 cases f with
 |ext _ _ hp' _ hlt=>
  obtain⟨b,rfl,B,c,F,I,D,_⟩:=hp';have r:B=#[]:=Qr6 (by simpa using D)
  subst r;refine⟨.agg (ZP b []),λx t=>?_,λX' η' H q=>?_⟩
  .have:=(YZ (rs:=[]) (λv l=>by cases l)).1 t
   rcases this with rfl|⟨v,l,_⟩
   .simp [Y7]
   .cases l
  .have m:d≠g:=fun h=>by
    grind
   have z:GrpAt ([]:List (Int×List α)) none w X' b [] #[] c:=⟨F,⟨by simp,by simp,by simp⟩,rfl,by simp,λi e v o=>by simp at o,λi j u v x n=>by simp at n,λi v n=>by simp at n,rfl,λi e v o=>by simp at o⟩;exact .exr _ _ _ ⟨b,[], #[],c,by simp[q d m,hη],rfl,z⟩ (yZ _) λx t=>z.lt t
theorem Z6t{E0:List (Nat×AVal)}{t g:Nat}{gs:List (Int×List α)}(hid:(S0.map (·.1)).contains g=false)(hk:Kn C nt ((t,.v (.c (.d (MP gs))))::E0) S0 K):Kn C nt ((t,.v (.c (.own d)))::E0) ((g,.exr [d] (Zi gs none))::S0) K:=by
 intro R η a w m;have D:ls ((g,.exr [d] (Zi gs none))::S0) g=some (.exr [d] (Zi gs none)):=by rw[Qf,Qa2 rfl]
 have p:∀i o,ls S0 i=some o->i≠g/\ls ((g,.exr [d] (Zi gs none))::S0) i=some o:=by
  intro i o h;have r:i≠g:=by
   intro he;subst he
   have:i∈S0.map (·.1):=Qc5.2 ⟨_,y8 h,rfl⟩
   grind
  exact⟨r,by rw[Qf,Qa1 r];exact h⟩
 obtain⟨b,A,O,H,hb,hg,B⟩:=Ct m D;have J:∀x,XS C (ls S0) η x->XS C (ls ((g,.exr [d] (Zi gs none))::S0)) η x:=λx z=>by
  rcases z with z|⟨i,o,h,F⟩
  .exact .inl z
  .exact .inr ⟨i,o,(p i o h).2,F⟩
 have V:QS w w (XS C (ls ((g,.exr [d] (Zi gs none))::S0)) η) (XS C (ls S0) η):=λx _ hn=>⟨rfl,λz=>hn (J x z)⟩
 have M:∀x∈Y7 (η g),¬XS C (ls S0) η x:=λx z a0=>by
  rcases a0 with ⟨U,W⟩|⟨i,o,h,F⟩
  .rcases m.ow g _ x D z with ⟨I,_⟩|I|I
   .cases I
   .exact W (m.ok.md x I)
   .have:=m.ok.lt x U;omega
  .exact (p i o h).1 (m.ds i g x (by rw[(p i o h).2];simp) (by rw[D];simp) F z)
 obtain⟨Z,a2⟩:=B.ents;have hD:DRep w (XS C (ls S0) η) (.map (some b)) (MP gs):=by
  refine .mp b O H gs.length _ (λi=>A.getD i undef) _ (M b (by rw[hg];exact(YZ B.one).2 (.inl rfl))) B.heap B.st Z (λi h=>?_) λi h=>?_
  .have T:i<A.length:=by rw[B.len];exact h
   grind
  .have T:i<A.length:=by rw[B.len];exact h
   have e1:A.getD i undef=A[i]:=by simp[Qa0,T]
   have e2:gs.getD i (0,[])=gs[i]:=by simp[Qa0,h]
   simp only[e1,e2];have l:=B.rows i gs[i] A[i] (Qb9 h) (Qb9 T) η C
   have N:∀x∈Y7 A[i],¬XS C (ls S0) η x:=λx z=>M x (by rw[hg];exact(YZ B.one).2 (.inr ⟨A[i],Qd8 T,z⟩))
   unfold AO at l;unfold DL
   generalize gs[i].2.length=n at l⊢;generalize LF gs[i].2=f at l⊢
   generalize A[i]=v at l N⊢
   cases l with
   |nil ad es f=>exact .nil ad 0 f
   |arr b n cap es c e f I h2 h3 h4 h5 h6 h7=>
    refine .lst b 0 n cap c e _ f _ (N b (by simp[Y7];omega)) I h3 (by rw[h2,Qd1];exact Qb3 _ h3) h6 λi j h Y=>?_
    rw[Qd1];exact(h7 i j h Y).mono V
 have r:∀i,ls S0 i≠none->ls ((g,.exr [d] (Zi gs none))::S0) i≠none:=λi h hn=>by
  obtain⟨o,ho⟩:=Qa7.1 h
  grind
 refine hk R η a w ⟨m.ok,m.df,m.sz,λu=>?_,λu i h=>?_,λi o h=>(m.st i o (p i o h).2).mono V (λ_ _=>rfl) λ_ _=>rfl,λi o h=>m.sr i o (p i o h).2,λi j b h Y=>m.ds i j b (r i h) (r j Y),λi o b h=>m.ow i o b (p i o h).2,m.fr,m.pn⟩
 .rw [DS]
  have q:=m.ev u;rw[DS]at q
  by_cases hu:u=t
  .rw [Qa2 hu]at q⊢
   rw[WA q,hb];exact .v _ _ (.c _ _ (.d _ _ hD))
  .rw [Qa1 hu]at q⊢
   exact q.mono V λ_ _=>rfl
 .rw [DS]at h
  have G:=m.er u i;rw[DS]at G
  by_cases hu:u=t
  .rw [Qa2 hu]at h;cases h
  .rw [Qa1 hu]at h G
   exact G h
end
end
section
section
variable {P:Program} {C:Ctx} {nt:Nat} {L:Lay} {pins:List Nat} {E:List (Nat×AVal)} {S:List (Nat×Obj)} {Q:Exit->Act->World->Prop}
theorem cT{p:Prop}(h:p):p/\True:=⟨h,True.intro⟩
theorem cA{p q:Prop}(h:p)(k:q):p/\q:=⟨h,k⟩
@[reducible] def lI {α:Type} (l:List α):Int:=((l.length:Nat):Int)
theorem Q3{t:Nat}{x y:Code}{R:Type}{u v:Option R}{r:R}(h:br b u v=some r)(ht:b=true->u=some r->AW P C nt x E S Q)(hf:b=false->v=some r->AW P C nt y E S Q)(hb:lk E t=vb b:=by kernel_rfl):AW P C nt (.cond (.tmp t) x y) E S Q:=
 Ug hb (λq=>ht q (Z5q h q)) (λq=>hf q (Z5s h q))
theorem Z5r{R:Type}{u v:Option R}{r:R}(h:br b u v=some r):(b=true/\u=some r)\/(b=false/\v=some r):=by
 cases b
 .exact .inr ⟨rfl,h⟩
 .exact .inl ⟨rfl,h⟩
theorem gS{R:Type}{p:Prop}[Decidable p]{x:Option R}{r:R}(h:gd p x=some r):p/\x=some r:=Ua h
theorem bS{α R:Type}{x:Option α}{f:α->Option R}{r:R}(h:x.bind f=some r):∃z,x=some z/\f z=some r:=Yf h
theorem FI(hf:P.funcs[f]?=some fn)(hm:P.follows .mixedOrders=true)(hL:y4 P L){S:List (Nat×Obj)}(h:∀C,Fr P L C (S.map (·.1))->AW P C fn.ntmps c (PS args) S (WS P fn C r S'))(hb:fn.body=some c:=by rfl)(hn0:Nat.ble args.length fn.ntmps=true:=by kernel_rfl):G3 P f args S r S':=Z6P hm hL hf hb hn0 h
end
end
section
section
variable {P:Program} {C:Ctx} {nt:Nat} {L:Lay} {ops:Array Oper} {ds:List Dir} {e:U4} {s:U6} {k:Nat}
end
end
section
open Go.MapKept
section
variable {P:Program} {C:Ctx} {nt:Nat} {L:Lay} {R:Nat->Prop} {η:Nat->Value} {e:U4} {s:U6} {a:Act} {w:World}
variable {ops:Array Oper} {ds:List Dir} {k:Nat}
end
section
variable {P:Program} {C:Ctx} {nt:Nat} {L:Lay} {pins:List Nat} {E:List (Nat×AVal)} {S:List (Nat×Obj)} {Q:Exit->Act->World->Prop}
end
end
section
open Go.MapKept
section
variable {P:Program} {C:Ctx} {nt:Nat} {L:Lay} {ops:Array Oper} {ds:List Dir} {e:U4} {s:U6} {k:Nat}
end
section
variable {P:Program} {C:Ctx} {nt:Nat} {K:Act->World->Prop}
end
end
section
section
variable {P:Program} {C:Ctx} {nt:Nat} {L:Lay} {ops:Array Oper} {ds:List Dir} {e:U4} {s:U6} {k:Nat}
end
end
section
section
variable {P:Program} {C:Ctx} {nt:Nat} {L:Lay} {ops:Array Oper} {ds:List Dir} {e:U4} {s:U6}
end
end
section
def ZW(m:Int):ByteArray:=ByteArray.empty.push (UInt8.ofNat m.toNat)
section
variable {P:Program} {C:Ctx} {nt:Nat} {L:Lay} {ops:Array Oper} {ds:List Dir} {e:U4} {s:U6}
theorem FW{t': TypeId}{y:Operand}{b:ByteArray}(hk:Qu ds k=sE (.v (.c (.d (.str (a++b))))))(hop:(Y8 ops.toList k).op=.binOp .add t x y t')(hb:VQ ops nt (U9 L ops ops.toList ds e s k) (Y8 ops.toList k) x y=true)(hx:Y2 (U9 L ops ops.toList ds e s k) x=.v (.c (.d (.str a))))(hy:Y2 (U9 L ops ops.toList ds e s k) y=.v (.c (.d (.str b))))(hc:a.size+b.size<=Z9):K2 P C nt L ops ds e s k:=by
 unfold K2;rw[hk]
 simp only[VQ,Qa4,Qg4]at hb;obtain⟨⟨⟨l,o⟩,q⟩,p⟩:=hb
 refine KI rfl q p λR η u z r w f g=>?_
 have i:=(J9 g x).1;rw[ZS f l,hx]at i
 have i:=KH i;have h:=(J9 g y).1
 rw[ZS f o,hy]at h;have h:=KH h
 have j:¬(((a.size+b.size:Nat):Int) > IntKind.i64.max):=by
  have:IntKind.i64.max=9223372036854775807:=rfl
  rw[this];unfold Z9 at hc;omega
 refine⟨.string (a++b),?_,.v _ _ (.c _ _ (.d _ _ (.str _)))⟩;have m:(eqGuard .add t x y (.string a) (.string b)).run P w=.ok () w:=jZ _ _ _ _ _ _ _
 have n:(binOp .add t (.string a) (.string b)).run P w=.ok (.string (a++b)) w:=by
  show(Op.stringOp .add a b).run P w=_;simp only[Op.stringOp]
  rw[Qa1 j];rfl
 simp only[execOp,hop,Qd9,i,h,m,n,Qd0,Qe9]
theorem FY{src dst el:TypeId}(hs:P.underlying src=some (.slice el))(he:P.underlying el=some (.int .u8))(hd:P.underlying dst=some .string){m:Int}(hk:Qu ds k=sE (.v (.c (.d (.str (ZW m))))))(hop:(Y8 ops.toList k).op=.convert src dst x)(hb:VQ ops nt (U9 L ops ops.toList ds e s k) (Y8 ops.toList k) x x=true)(hx:Y2 (U9 L ops ops.toList ds e s k) x=.v (.c (.d (.lst 1 (QR 1 [.int .u8 m]))))):K2 P C nt L ops ds e s k:=by
 unfold K2;rw[hk]
 simp only[VQ,Qa4,Qg4]at hb;obtain⟨⟨⟨t,H⟩,B⟩,A⟩:=hb
 refine KI rfl B A λR η p I q w i l=>?_
 have g:=(J9 l x).1;rw[ZS i t,hx]at g
 generalize hu:q.eval x=u at g
 cases g with|v _ _ g=>cases g with|c _ _ g=>cases g with|d _ _ g=>
 cases g with|lst b off n cap c e' fz f es hX hheap hn ho hf hd' =>
 have D:=hf 0 (by omega);have o:es=1:=by rw[<-D];rfl
 subst o;have h:=hd' 0 0 (by omega) (by omega)
 have z:c.getD off undef=.int .u8 m:=by
  have p:off+(0*1+0)=off:=by omega
  rw[p]at h;have F:(QR 1 [DVal.int .u8 m] 0).getD 0 .any=.int .u8 m:=rfl
  rw[F]at h;generalize c.getD off undef=u at h⊢
  cases h;rfl
 have G:=run_loadCells (P:=P) w ⟨b,off,none⟩ 1 (λj=>c.getD (off+j) undef) (λj J=>by rw[add_lit];exact HN hheap _ (by omega));refine⟨.string (ZW m),?_,.v _ _ (.c _ _ (.d _ _ (.str _)))⟩
 have r:c[off]?.getD undef=.int .u8 m:=by rw[<-z];simp
 simp[execOp,hop,hu,convert,Qc1 hs,Qc1 hd,Qc1 he,Conv.bytesToString,G,r,ZW]
end
end
section
def sK(ks:List Nat)(S:List (Nat×Obj))(n:List (Nat×Obj)):List (Nat×Obj):=ks.map (λi=>(i,(ls S i).getD (.box false [])))++n
section
variable {P:Program} {C:Ctx} {nt:Nat} {L:Lay} {pins:List Nat} {E:List (Nat×AVal)} {S:List (Nat×Obj)} {Q:Exit->Act->World->Prop}
variable {id:Nat} {ops:Array Oper} {draw:Bool} {y:Code}
theorem Z7h{x y:Code}(k:AW P C nt y E S Q):AW P C nt (.cond (.const (.bool false)) x y) E S Q:=λR η a w b=>Qx2 rfl (k R η a w b)
end
theorem eI{k:IntKind}{e v:Int}(h:some e=some v):Y5 (.v (.c (.d (.int k e)))) (.v (.c (.d (.int k v)))):=by cases h;exact Y5.refl _
section
variable {α:Type} [Emb α]
def Wp(l:List α)(i off:Nat)(ds:List DVal):Obj:=.arr (Emb.es α) l.length λj=>if j=i then Yo (LF l i) off ds else LF l j
def z8(l m:List α):Obj:=.arr (Emb.es α) (l.length+m.length) (Qv l.length (LF l) (LF m))
def XY(m:List α):Obj:=.arr (Emb.es α) (0+m.length) (Qv 0 (λ_=>[]) (LF m))
theorem WB{l:List α}{off:Nat}{ds:List DVal}{y:α}(hi:i<l.length)(hy:Yo (LF l i) off ds=Emb.cells y:=by kernel_rfl):J3 (Wp l i off ds) (AO (l.set i y)):=J3.is (Is.set (Is.refl l) hi y hy)
theorem y5{l m:List α}:J3 (z8 l m) (AO (l++m)):=J3.is (Is.app (Is.refl l) (Is.refl m))
theorem DQ{m:List α}:J3 (XY m) (AO ([]++m)):=J3.is (Is.app Is.nil (Is.refl m))
theorem G9(l:List α):∀j,j<l.length->(LF l j).length=Emb.es α:=(Is.refl l).len
theorem Qk(x:α):Y5 (.v (.c (.d (.lst 1 (QR (Emb.es α) (Emb.cells x)))))) (AL [x]):=Y5.lst (.lit [x] (by
 show[QR (Emb.es α) (Emb.cells x) 0]=[Emb.cells x];unfold QR
 have:=Emb.len x
 rw[Qr3,Qm2,Ql6 (by omega)]))
end
end
section
section
variable {P:Program} {C:Ctx} {nt:Nat} {L:Lay} {ops:Array Oper} {ds:List Dir} {e:U4} {s:U6}
theorem Z6E{y z:Operand}{tys:Array TypeId}{a b c:Int}(hk:Qu ds k=sE (vi (K8 (K8 a b) c)))(hop:(Y8 ops.toList k).op=.call {callee:=.builtin .max,args:= #[x,y,z],argTypes:=tys})(hb:VQ ops nt (U9 L ops ops.toList ds e s k) (Y8 ops.toList k) x y=true)(hb2:VQ ops nt (U9 L ops ops.toList ds e s k) (Y8 ops.toList k) z z=true)(hx:Y2 (U9 L ops ops.toList ds e s k) x=vi a)(hy:Y2 (U9 L ops ops.toList ds e s k) y=vi b)(hz:Y2 (U9 L ops ops.toList ds e s k) z=vi c):K2 P C nt L ops ds e s k:=by
 unfold K2;rw[hk]
 simp only[VQ,Qa4,Qg4]at hb hb2;obtain⟨⟨⟨j,m⟩,o⟩,n⟩:=hb
 obtain⟨⟨⟨l,_⟩,_⟩,_⟩:=hb2;refine KI rfl o n λR η q r p w d f=>?_
 have h:=(J9 f x).1;rw[ZS d j,hx]at h
 have h:=WV h;have g:=(J9 f y).1
 rw[ZS d m,hy]at g;have g:=WV g
 have i:=(J9 f z).1;rw[ZS d l,hz]at i
 have i:=WV i;refine⟨.int .i64 (K8 (K8 a b) c),?_,WF _ _ _⟩
 simp[execOp,hop,resolve,invoke,builtin,Builtin.max_,Builtin.max2,h,g,i,K8]
 rfl
end
section
variable {P:Program} {C:Ctx} {nt:Nat} {E:List (Nat×AVal)} {S:List (Nat×Obj)} {Q:Exit->Act->World->Prop}
theorem Z6X(n:Nat)(h:AW P C nt c E S (Exit.then (λa w=>Code.rounds P c Q n a w) Q)):AW P C nt (.loop c) E S Q:=λR η a w b=>wp_loop_rounds (n+1) (h R η a w b)
theorem Z6q(h:AW P C nt c E S (Exit.then (λa w=>Code.rounds P c Q n a w) Q)):Kn C nt E S (λa w=>Code.rounds P c Q (n+1) a w):=λR η a w b=>h R η a w b
end
end
section
@[reducible] def gn {α:Type} [Emb α] (l:List α) (i:Int):α:=gl l i.toNat
@[reducible] def jb (t:Nat) (z:Bool):List (Nat×AVal):=[(t,vb z)]
@[reducible] def nn {σ β:Type}:σ->List β:=fun _=>[]
@[reducible] def f0:CV:=.fl 0 fun _=>[]
def oD(a b:Nat)(e:Array Oper->Oper->U4->Eff):List Dir:=List.replicate a .s++.k e::List.replicate b .s
@[reducible] def k1 (i:Nat) (K:Nat->Prop):Prop:=K i/\True
@[reducible] def k2 (i j:Nat) (K:Nat->Prop):Prop:=K i/\K j/\True
theorem gO{p q:Prop}[Decidable p]{R:Type}{x:Option R}{r:R}(h:gd p x=some r)(k:p->x=some r->q):q:=k (gS h).1 (gS h).2
theorem bO{α R:Type}{x:Option α}{f:α->Option R}{r:R}{q:Prop}(h:x.bind f=some r)(k:∀z,x=some z->f z=some r->q):q:=(bS h).elim λz e=>k z e.1 e.2
theorem V7{R:Type}{u v:Option R}{r:R}{q:Prop}(h:br b u v=some r)(ht:b=true->u=some r->q)(hf:b=false->v=some r->q):q:=(Z5r h).elim (λe=>ht e.1 e.2) λe=>hf e.1 e.2
section
variable {P:Program} {C:Ctx} {nt:Nat} {L:Lay} {pins:List Nat} {E:List (Nat×AVal)} {S:List (Nat×Obj)} {Q:Exit->Act->World->Prop}
theorem Q4A(Fm:Fr P L C pins){R:Type}{a r:R}(h:some a=some r){g:R->AVal}{G:R->List (Nat×Obj)}(hQ:Q .ret=WS P fn C (g r) (G r) .ret:=by rfl)(hq:(Jb L (lk E) (ls S) fn.results.toList,(G a).map (λp=>ls S p.1))=(some (g a),(G a).map (λp=>some p.2)):=by kernel_rfl):AW P C nt .ret E S Q:=by
 cases h
 exact Uf (hQ ▸ QI Fm hq)
theorem Q4B{σ R:Type}{r:R}{body:(σ->Option R)->σ->Option R}{z0:σ}(h:Y3 body n z0=some r)(E' : σ->List (Nat×AVal))(S' : σ->List (Nat×Obj))(round:∀(again:σ->Option R) (z:σ) (J:Act->World->Prop),(∀z',again z'=some r->Kn C nt (E' z') (S' z') J)->body again z=some r->AW P C nt c (E' z) (S' z) (Exit.then J Q)):AW P C nt (.loop c) (E' z0) (S' z0) Q:=Z7b E' S' round h
variable {K:Act->World->Prop}
theorem G6(Fm:Fr P L C pins)(E' : List (Nat×AVal))(S' : List (Nat×Obj))(h:Kn C nt E' S' K)(hq:(pins.all (λi=>J0 [] i==i),E'.map (λp=>lk E p.1),S'.map (λp=>ls S (J0 [] p.1)),Yc (S'.map λp=>J0 [] p.1))=(true,E'.map (λp=>p.2.ren (J0 [])),S'.map (λp=>some (p.2.ren (J0 []))),true):=by kernel_rfl):Kn C nt E S K:=Q4i Fm E' S' hq h
theorem kb{f:Nat->List DVal}(E' : List (Nat×AVal))(S' : List (Nat×Obj))(h:Kn C nt E' S' K)(hq:(E.map (λp=>(p.1,p.2.frz k n f)),S.map (λp=>(p.1,p.2.frz k n f)),(S.map (·.1)).contains k)=(E',S',false):=by kernel_rfl):Kn C nt E ((k,.arr es n f)::S) K:=Z6x E' S' (congrArg (·.1) hq) (congrArg (·.2.1) hq) (congrArg (·.2.2) hq) h
theorem Qq(Fm:Fr P L C pins)(ρ:List (Nat×Nat))(E' : List (Nat×AVal))(S' : List (Nat×Obj))(h:Kn C nt E' S' K)(hq:(pins.all (λi=>J0 ρ i==i),E'.map (λp=>lk E p.1),S'.map (λp=>ls S (J0 ρ p.1)),Yc (S'.map λp=>J0 ρ p.1))=(true,E'.map (λp=>p.2.ren (J0 ρ)),S'.map (λp=>some (p.2.ren (J0 ρ))),true):=by kernel_rfl):Kn C nt E S K:=
 ka Fm ρ E' S' (congrArg (·.1) hq) (congrArg (·.2.1) hq) (congrArg (·.2.2.1) hq) (congrArg (·.2.2.2) hq) h
abbrev ZZ(pins:List Nat)(E:List (Nat×AVal))(S:List (Nat×Obj))(E' : List (Nat×AVal))(S' : List (Nat×Obj)):Bool×List AVal×List (Option Obj)×Bool:=(pins.all (λi=>J0 [] i==i),E'.map (λp=>lk E p.1),S'.map (λp=>ls S (J0 [] p.1)),Yc (S'.map λp=>J0 [] p.1))
abbrev ZY(E' : List (Nat×AVal))(S' : List (Nat×Obj)):Bool×List AVal×List (Option Obj)×Bool:=(true,E'.map (λp=>p.2.ren (J0 [])),S'.map (λp=>some (p.2.ren (J0 []))),true)
section
variable {id:Nat} {ops:Array Oper} {draw:Bool} {y:Code}
variable {E2:List (Nat×AVal)} {S2:List (Nat×Obj)}
end
end
section
variable {P:Program} {C:Ctx} {nt:Nat} {L:Lay} {ops:Array Oper} {ds:List Dir} {e:U4} {s:U6}
theorem K6(hspec:G3 P f args Si r So)(hcall:∀args w,(callFunc f args).run P w=.ok (.enter f args) w)(m:List (Nat×Nat))(extra:List Nat)(xs:List Operand)(hargs:Xh C nt (U9 L ops ops.toList ds e s k) (QH L ops ops.toList ds e s k) Si (J0 m) (QD (Y8 ops.toList k)++Qo ops (Y8 ops.toList k)) (WG (U9 L ops ops.toList ds e s k) (Y8 ops.toList k)++(Si.map (λp=>J0 m p.1)++extra)) xs args)(hk:Qu ds k=cE m extra r Si So:=by rfl)(hq:(Go.Ab.callB ops nt (U9 L ops ops.toList ds e s k) (Y8 ops.toList k) f m r Si So,Si.map (λp=>QH L ops ops.toList ds e s k (J0 m p.1)),(Go.Ab.callXs (Y8 ops.toList k)).toList)=(true,Si.map (λp=>some (p.2.ren (J0 m))),xs):=by kernel_rfl):K2 P C nt L ops ds e s k:=
 Z6L hspec hcall m extra xs hk (congrArg (·.1) hq) (congrArg (·.2.1) hq) (congrArg (·.2.2) hq) hargs
theorem Qb(hcall:∀args w,(callFunc f args).run P w=.ok (.enter f args) w){F:List AVal->AVal->Prop}(cs:List (List CV))(hspec:∀args r,F args r->G3 P f (args++Ws cs) (Zs cs) r (Zs cs)/\r.closed=true)(cids:List Nat)(hbox:HV s cids cs)(hx:QB rd x=true:=by kernel_rfl)(hv:Y2 e x=.v (.c (.clo f cids)):=by kernel_rfl)(hnd:(Yc cids&&cs.all (λc=>c.all CV.closed)&&cids.all (λi=>ids.contains i))=true:=by kernel_rfl)(hsi:BI s Si m ids cids=true:=by kernel_rfl):YJ C nt e s Si m rd ids x (ZX P F):=Z6V hcall cs (λa r h=>(hspec a r h).1) (λa r h=>(hspec a r h).2) hx cids hv hnd hbox hsi
end
end
section
section
variable {P:Program} {C:Ctx} {nt:Nat} {L:Lay} {R:Nat->Prop} {η:Nat->Value} {e:U4} {s:U6} {a:Act} {w:World}
variable {ops:Array Oper} {ds:List Dir} {k:Nat}
end
end
section
open Go.Sort Go.Proofs Go.Shelf
theorem Q6F{P:Program}{ρ:Ren}(Ly:SlLaysF.n6 P ρ)(F:(Int->Int->Option Int)->List AVal->AVal->Prop)(hF:∀ q x y z,q x y=some z->F q [vi x,vi y] (vi z)){x r:List Int}{q:Int->Int->Option Int}(h:Vi x q=some r):
  G3 P (ρ.f 6) [.v (.c (.own 0)),ZX P (F q)] [(0,AO (α:=Int) x)] .any [(0,AO (α:=Int) r)]:=by
 obtain⟨hl,B⟩:=gP h;have c7:SlLaysF0.n6 P ρ:= {Ly with}
 have H:r.length=x.length:=B.perm.length_eq;intro w X η vs hX a2 c6 i8 G O
 have G:vs.size=2:=G;have d8:vs.getD 0 undef=η 0:=WA (C:=Qd [(0,AO (α:=Int) x)] w X η) (s:=ls [(0,AO (α:=Int) x)]) (by have:=O 0 (by simp);rw[XZ a2];exact this)
 have e4:Qg P (F q) w (Own (ls [(0,AO (α:=Int) x)]) η) X (vs.getD 1 undef):=by
  have:=O 1 (by simp)
  change ARep w X η _ (vs.getD 1 undef) (ZX P (F q))at this;generalize vs.getD 1 undef=u at this
  cases this with|v _ _ g=>cases g with|c _ _ g=>cases g with|sem _ _ g _=>exact g
 rw[Mt G,d8];have ho:=c6 0 (AO x) (by rw[Qf,Qa2 rfl])
 have c1:∀b,b∈Y7 (η 0)->X b:=λb hb=>a2 b ⟨0,_,by rw[Qf,Qa2 rfl],hb⟩
 generalize hu:η 0=u at ho;unfold AO at ho
 generalize hn:x.length=n at ho
 cases ho with
 |nil ad=>
  have hx:x=[]:=Qe0 hn;refine(AnyF.slices_SortFunc_none c7 ad 0 _ w).mono λe w' g=>?_
  obtain⟨he,hw⟩:=g;refine⟨_,η,he,?_⟩
  rw[hw];have hb:=FG (w:=w) (X:=X) (l:=x) hu hX
  have hp:r=[]:=Qe0 (by rw[H,hn]);rw[hp];exact hb
 |arr b _ cap _ c e _ g1 g2 g3 g4 g5 g6 g7=>
  rename_i n
  have J:b∈Y7 (η 0):=by rw[hu];simp[Y7];omega
  rcases Qi6 n with a7|a7
  .subst a7
   refine(AnyF.slices_SortFunc_none c7 (some ⟨b,0,none⟩) cap _ w).mono λe' w' g=>?_
   obtain⟨he,hw⟩:=g;refine⟨_,η,he,?_⟩
   rw[hw];exact PN (c':=c) (e:=e) (b:=b) (n:=0) (cap:=cap) hu g5 (Stp.refl _ _) g1 g2 (by rw[H,hn]) g3 g4 (λi j D=>absurd D (Qc9 i)) hX (c1 b J)
  obtain⟨b5,a1,f1,a4,b9⟩:=e4;rw[f1]
  letI inst:Inhabited (_root_.Fin n):=⟨⟨0,a7⟩⟩
  let at_:_root_.Fin n->Int:=λi=>x[i.val]'(by omega)
  have c8:∀i,at_ i∈r:=λi=>B.perm.mem_iff.2 (Qd8 _)
  have I:∀i,∃s,∃hs:s<r.length,r[s]=at_ i:=λi=>by
   obtain⟨s,hs,e⟩:=Qc7 (c8 i);exact⟨s,hs,e⟩
  let pos:_root_.Fin n->Nat:=λi=>(I i).choose
  have a5:∀i,pos i<r.length:=λi=>(I i).choose_spec.choose
  have W:∀i,r[pos i]'(a5 i)=at_ i:=λi=>(I i).choose_spec.choose_spec
  have o:∀i j,(pos i<pos j->Kw q (at_ i) (at_ j))/\(pos j<=pos i->Kz q (at_ i) (at_ j)):=λi j=>by
   have:=B.at (pos i) (pos j) (a5 i) (a5 j)
   rw[W,W]at this;exact this
  let cf:_root_.Fin n->_root_.Fin n->Int:=λi j=>(q (at_ i) (at_ j)).getD 0
  have hq:∀i j,q (at_ i) (at_ j)=some (cf i j):=by
   intro i j;rcases Qd3 (pos i) (pos j)with V|V
   .obtain ⟨z,e,_⟩:=(o i j).1 V;show _=some ((q (at_ i) (at_ j)).getD 0);rw[e];rfl
   .obtain ⟨z,e,_⟩:=(o i j).2 V;show _=some ((q (at_ i) (at_ j)).getD 0);rw[e];rfl
  have b4:∀i j,Za cf i j=true↔pos i<pos j:=by
   intro i j;unfold Za
   rw[Qb5];rcases Qd3 (pos i) (pos j)with V|V
   .obtain ⟨z,e,hz⟩:=(o i j).1 V
    have:=(hq i j).symm.trans e
    have:cf i j=z:=Qf5 this
    omega
   .obtain ⟨z,e,hz⟩:=(o i j).2 V
    have:=(hq i j).symm.trans e
    have:cf i j=z:=Qf5 this
    omega
  have hO:SWO (Za cf):=gu pos b4;have c5:r.Nodup:=B.asc.imp_of_mem λ{a b} ha _ g e=>by subst e;exact g.1.not (B.self a ha)
  have b7:x.Nodup:=B.perm.nodup_iff.1 c5;have Y:∀i j,at_ i=at_ j->i=j:=λi j e=>by
   have:i.val=j.val:=(Ql4 b7).1 e
   exact _root_.Fin.ext this
  have N:∀i j,pos i=pos j->i=j:=λi j e=>by
   apply Y;rw[<-W i, <-W j]
   simp only[e]
  let d:Array (_root_.Fin n):=(List.finRange n).toArray
  have hd:d.size=n:=by simp[d]
  have b3:∀i (D:i<n),d[i]! = ⟨i,D⟩:=λi D=>by
   rw[Qj9 d i (by rw[hd];exact D)];simp[d]
  obtain⟨⟨A,_,c4⟩,c2⟩:=pdq_sorts (Za cf) hO d 0 d.size (Lib.bitLen d.size) true true (Qc3 _) (Qb4 _) (.inl rfl);generalize hpd:pdq (Za cf) d 0 d.size (Lib.bitLen d.size) true true=p at A c4 c2
  have A:p.size=n:=A.trans hd;have U:p.toList.Perm (List.finRange n):=by
   have:(p.extract 0 d.size).toList.Perm (d.extract 0 d.size).toList:=c4
   have e1:p.extract 0 d.size=p:=by rw[hd.trans A.symm];exact Qp7
   rw[e1,Qp7]at this;exact this
  have a3:(List.finRange n).map at_=x:=by
   apply Qu6
   .simp [hn]
   .intro i V h2;simp[at_]
  have e5:r=p.toList.map at_:=by
   refine B.uniq ⟨a3 ▸ U.map at_,?_,λa ha=>?_⟩
   .rw [Qi4,Qc8]
    intro i j D hj d4;have Z : i<p.size:=by simpa using D
    have b6 : j<p.size:=by simpa using hj
    have h5:Za cf p[j]! p[i]! = false:=c2 i j (Qc3 _) d4 (by rw[hd, <-A];exact b6);rw[Qj9 p i Z,Qj9 p j b6]at h5
    have h6:¬pos p[j]<pos p[i]:=λg=>by rw[(b4 _ _).2 g]at h5;cases h5
    have f3:p.toList.Nodup:=U.nodup_iff.2 (Qx5 n);have h7:pos p[i]≠pos p[j]:=λg=>by
     have h8:=N _ _ g;have:=(Ql4 (i:=i) (j:=j) (h₀:=D) (h₁:=hj) f3).1 (by simpa using h8)
     omega
    have h8:pos p[i]<pos p[j]:=by omega
    simp only[Qo5];exact⟨(o _ _).1 h8,(o _ _).2 (by omega)⟩
   .obtain ⟨i,_,rfl⟩:=Qc5.1 ha
    exact(o i i).2 (Qb4 _)
  have g0:∀i:_root_.Fin n,(LF x i.val)=[.int .i64 (at_ i)]:=λi=>by
   show Emb.cells (x.getD i.val Emb.d)=_;rw[Jl x i.val (by omega)];rfl
  have e7:∀i:_root_.Fin n,c.getD i.val undef=.int .i64 (at_ i):=λi=>by
   have h0:=g7 i.val 0 i.isLt (by show 0<1;omega);rw[g0]at h0
   have e0:i.val*Emb.es Int+0=i.val:=by show i.val*1+0=_;omega
   rw[e0]at h0;exact h0.lit rfl
  let enc:_root_.Fin n->Value:=λi=>.int .i64 (at_ i)
  have g2:c.size=cap:=by rw[g2];show cap*1=cap;omega
  have hH:Holds enc w b 0 d:=by
   intro t ht;have a6 : t<n:=by rw[hd]at ht;exact ht
   have c0:t<c.size:=by omega
   refine⟨?_,by simp[World.frozen?,g1]⟩;rw[b3 t a6]
   have h2:=e7 ⟨t,a6⟩;simp only at h2
   simp only[Qd1,World.cell?,g1,Qp6,Qh1,Qh2,id];rw[Qe3 c0]
   congr 1
   show _=Value.int .i64 (at_ ⟨t,a6⟩);rw[<-h2];simp[c0]
  have V:OneCell enc:=λi=>rfl
  have b1:CmpLays1 P b5 a1 enc cf b 0 d.size w:=by
   intro m os dk j2 u v;have T:=Gn enc w b 0 m dk os
   refine(b9 (grow (putRow enc (Go.Sort.ahead w m) b 0 dk) os) X #[enc u,enc v] _ _ (hF q (at_ u) (at_ v) (cf u v) (hq u v)) T.size (λy hy hD=>T.block y hy λe=>hD ?_)
    (λy hy=>Qb6 (hX y hy) T.size) (λy _ _=>Iff.rfl) rfl (λj hj η C=>?_)).mono λe2 w2 g=>?_
   .rw [e];exact⟨0,_,by rw[Qf,Qa2 rfl],J⟩
   .have:j=0\/j=1:=by simp at hj;omega
    rcases this with rfl|rfl
    .exact .v _ _ (.c _ _ (.d _ _ (.int _ _)))
    .exact .v _ _ (.c _ _ (.d _ _ (.int _ _)))
   .obtain ⟨v',he,h3,hr⟩:=g
    have f9:=hr η (Qd [] w X η);have e3:v'=.int .i64 (cf u v):=by
     cases f9 with|v _ _ g=>cases g with|c _ _ g=>cases g with|d _ _ g=>cases g;rfl
    obtain⟨qq,f4,d9⟩:=LX h3;exact⟨by rw[he,e3],qq,f4,d9⟩
  have M:=Any.slices_SortFunc_eq Ly enc V cf hO b5 a1 b 0 cap d w a4 b1 hH (J2 g1) (by rw[hd];simp only[Z9]at hl;omega);rw[hd]at M
  refine M.mono λe' w' g=>?_
  obtain⟨he,nn,os,hw⟩:=g;refine⟨_,η,he,?_⟩
  have f2:pdq (ltOf cf) d 0 n (Lib.bitLen n) true true=p:=by rw[<-hpd,hd];rfl
  rw[f2]at hw;have d2:w'=grow (putRow enc (Go.Sort.ahead w nn) b 0 p) os:=hw
  rw[d2];have T:=Gn enc w b 0 nn p os
  refine PN (c':=putCells enc 0 p c) (e:=e) (b:=b) (n:=n) (cap:=cap) hu g5 T (Tp _ _ _ _ _ _ _ g1) (by rw[Rz,g2];show cap=cap*1;omega) (by rw[H,hn]) g3 g4 (λi j D hj=>?_) hX (c1 b J);have g8:j=0:=by have:j<1:=hj;omega
  subst g8;have e0:i*Emb.es Int+0=i:=by show i*1+0=_;omega
  rw[e0,Cv _ _ _ _ (by rw[A];exact D) (by rw[A,g2];exact g3)];have e6:LF r i=[.int .i64 (at_ p[i]!)]:=by
   show Emb.cells (r.getD i Emb.d)=_;rw[Jl r i (by rw[H,hn];exact D)]
   have Z : i<p.size:=by rw[A];exact D
   rw[Qj9 p i Z];have:r[i]'(by rw[H,hn];exact D)=(p.toList.map at_)[i]'(by simpa using Z):=by simp only[e5]
   rw[this];simp[Emb.cells]
  rw[e6];exact .int _ _
end
section
def Q0k(ops:Array Oper):List Oper->List Nat->List Nat
 |[],_=>[]
 |o::os,d=>((QD o++Qo ops o).filter λt=> !d.contains t)++Q0k ops os (match o.guard,o.dst with|none,some x=>x::d|_,_=>d)
def rkK(o:Oper):Option Nat:=match o.guard with|none=>o.dst|some _=>none
def RR:List ResultVar->List Nat
 |[]=>[]
 |.tmp t::r=>t::RR r
 |.cell t _::r=>t::RR r
def XE:List Nat->List Nat
 |[]=>[]
 |x::l=>match (XE l).contains x with|true=>XE l|false=>x::XE l
structure LV where
 out:List Nat
 ex:List (Nat×List Nat)
 rt:List Nat
def J4:Code->LV->List Nat
 |.skip,v=>v.out
 |.region _ ops _,v=>XE (Q0k ops ops.toList []++v.out.filter λt=> !(ops.toList.filterMap rkK).contains t)
 |.seq a b,v=>J4 a ⟨J4 b v,v.ex,v.rt⟩
 |.cond x a b,v=>XE ((match x with|.tmp t=>[t]|_=>[])++(J4 a v++J4 b v))
 |.block i c,v=>J4 c ⟨v.out,(i,v.out)::v.ex,v.rt⟩
 |.loop c,v=>J4 c ⟨[],v.ex,v.rt⟩
 |.exit i,v=>(v.ex.lookup i).getD []
 |.ret,v=>v.rt
 |_,_=>[]
def JO:Code->List Nat
 |.region _ ops _=>ops.toList.filterMap (·.dst)
 |.seq a b=>JO a++JO b
 |.cond _ a b=>JO a++JO b
 |.block _ c=>JO c
 |.loop c=>JO c
 |_=>[]
def Lv(v:LV)(Q:Exit->Act->World->Prop):Exit->Act->World->Prop:=Q
class Fz (P:outParam Program) (L:outParam Lay) (C:Ctx) (pins:outParam (List Nat)):Prop where
 b:Fr P L C pins
abbrev sN(n:Nat)(l:List Dir):List Dir:=List.replicate n .s++l
def pd(ops:Array Oper)(ds:List Dir):List Dir:=ds++List.replicate (ops.size-ds.length) .s
def cj(S:List (Nat×Obj)):Nat->List Nat->List Nat
 |0,l=>l
 |n+1,l=>cj S n (XE (l++l.flatMap λi=>match ls S i with|some o=>o.refs|none=>[]))
def qG:List (Nat×Obj)->List Nat
 |[]=>[]
 |(i,.exr _ _)::S=>i::qG S
 |_::S=>qG S
def rkB(o:Oper):Bool:=match o.op with|.alloc _=>true|.call _=>true|_=>false
def YB(pins:List Nat)(ops:Array Oper)(ds:List Dir)(E:List (Nat×AVal))(S:List (Nat×Obj)):List (Nat×Obj):=
 match ds.isEmpty && !(ops.toList.any rkB)with
 |true=>S
 |false=>S.filter λp=>(cj S 3 (pins++(E.flatMap λp=>p.2.refs)++qG S)).contains p.1
def ZG(pins:List Nat)(L:Lay)(ops:Array Oper)(ds:List Dir)(E:List (Nat×AVal))(S:List (Nat×Obj))(ts:List Nat):List (Nat×AVal):=
 ts.map λt=>(t,Jp ops.toList (VB L ops ops.toList (pd ops ds) (lk E) (ls (YB pins ops ds E S))) (lk E) t)
def cg(L:Lay)(ops:Array Oper)(ds:List Dir)(E:List (Nat×AVal))(S:List (Nat×Obj)):List (Nat×Obj):=
 (S.map (·.1)++YD (VB L ops ops.toList (pd ops ds) (lk E) (ls S))).filterMap λi=>(Jo (VB L ops ops.toList (pd ops ds) (lk E) (ls S)) (ls S) i).map λo=>(i,o)
def QA(pins:List Nat)(L:Lay)(ops:Array Oper)(ds:List Dir)(E:List (Nat×AVal))(S:List (Nat×Obj)):List (Nat×Obj):=cg L ops ds E (YB pins ops ds E S)
theorem cm:J0 []=λi=>i:=by funext i;rfl
section
variable {P:Program} {C:Ctx} {nt:Nat} {L:Lay} {pins:List Nat} {v:LV} {E:List (Nat×AVal)} {S:List (Nat×Obj)} {Q:Exit->Act->World->Prop}
variable {id:Nat} {ops:Array Oper} {draw:Bool} {y:Code}
abbrev ZV(P:Program)(C:Ctx)(nt:Nat)(L:Lay)(pins:List Nat)(E:List (Nat×AVal))(S:List (Nat×Obj))(ops:Array Oper)(draw:Bool)(ds:List Dir):Bool×Prop:=
 (Fw L pins nt ops draw (pd ops ds) E (YB pins ops ds E S) [] (QA pins L ops ds E S),Ks P C nt L ops ops.toList (pd ops ds) (lk E) (ls (YB pins ops ds E S)))
theorem TE{l:List Nat}{i:Nat}{o:Obj}:∀{S:List (Nat×Obj)},ls (S.filter λp=>l.contains p.1) i=some o->ls S i=some o
 |[],h=>h
 |(j,x)::S,h=>by
  rw[Qf];rw[Qo4]at h
  by_cases hj:l.contains j=true
  .rw [Qa2 hj,Qf]at h
   by_cases hij:i=j
   .rw [Qa2 hij]at h⊢;exact h
   .rw [Qa1 hij]at h⊢;exact TE h
  .rw [Qa1 hj]at h
   by_cases hij:i=j
   .exfalso
    subst hij;have:=y8 h
    exact hj (by simpa using(Qf9.1 this).2)
   .rw [Qa1 hij];exact TE h
theorem Z6o{K:Act->World->Prop}{l:List Nat}(h:Kn C nt E (S.filter λp=>l.contains p.1) K):Kn C nt E S K:=by
 intro R η a w c;refine h R (λi=>η i) a w (c.conv (λi=>i) (λt=>by rw[Mn];exact Y5.refl _) (λi x b=>⟨x,TE b,by rw[Mc];exact J3.refl _⟩) (λi j b g d=>d) c.er (λi x b=>c.sr i x (TE b)) (λi b=>?_))
 obtain⟨v,f⟩:=Qa7.1 b;exact⟨rfl,(c.pn i v f).2⟩
theorem Z6w{K:Act->World->Prop}{ds:List Dir}(h:Kn C nt E (YB pins ops ds E S) K):Kn C nt E S K:=by
 unfold YB at h;split at h
 .exact h
 .exact Z6o h
theorem Z8[Fm:Fz P L C pins](ds:List Dir)(c:(Nat->Prop)->Prop)(hc:c (K2 P C nt L ops (pd ops ds) (lk E) (ls (YB pins ops ds E S))))(k:Kn C nt (ZG pins L ops ds E S v.out) (QA pins L ops ds E S) (Q .normal))(h:ZV P C nt L pins E S ops draw ds=(true,c (K2 P C nt L ops (pd ops ds) (lk E) (ls (YB pins ops ds E S)))):=by kernel_rfl):AW P C nt (.region id ops draw) E S (Lv v Q):=by
 refine Z6w (pins:=pins) (ops:=ops) (ds:=ds) (Z6Z Fm.b (pd ops ds) [] c (ZG pins L ops ds E S v.out) (QA pins L ops ds E S) hc (congrArg (·.1) h) (congrArg (·.2) h) ?_ ?_ k)
 .rw [cm]
  unfold ZG;rw[Qn8,Qn8]
  exact Qh5 λt _=>(Mn _).symm
 .rw [cm]
  refine Qh5 λp d=>?_
  unfold QA cg at d;obtain⟨i,_,f⟩:=Qp5.1 d
  obtain⟨o,g,e⟩:=Option.map_eq_some_iff.1 f;rw[<-e]
  simp only[g,Mc]
theorem Q1{x:Code}(h:AW P C nt x E S (Lv ⟨J4 y v,v.ex,v.rt⟩ (Exit.then (y.wp P (Lv v Q)) (Lv v Q)))):AW P C nt (.seq x y) E S (Lv v Q):=Q4y h
theorem Q7(h:AW P C nt c E S (Lv ⟨v.out,(i,v.out)::v.ex,v.rt⟩ (Exit.inBlock i (Lv v Q)))):AW P C nt (.block i c) E S (Lv v Q):=Z7i h
theorem Yz[Fm:Fz P L C pins](ds:List Dir)(c:(Nat->Prop)->Prop)(hc:c (K2 P C nt L ops (pd ops ds) (lk E) (ls (YB pins ops ds E S))))(k:AW P C nt y (ZG pins L ops ds E S (J4 y v)) (QA pins L ops ds E S) (Lv v Q))(h:ZV P C nt L pins E S ops draw ds=(true,c (K2 P C nt L ops (pd ops ds) (lk E) (ls (YB pins ops ds E S)))):=by kernel_rfl):AW P C nt (.seq (.region id ops draw) y) E S (Lv v Q):=Q1 (Z8 ds c hc k h)
theorem Jy[Fm:Fz P L C pins](ds:List Dir){q:Prop}(hc:q)(k:Kn C nt (ZG pins L ops ds E S v.out) (QA pins L ops ds E S) (Q .normal))(h:ZV P C nt L pins E S ops draw ds=(true,q):=by kernel_rfl):AW P C nt (.region id ops draw) E S (Lv v Q):=Z8 ds (λ_=>q) hc k h
theorem G8[Fm:Fz P L C pins](ds:List Dir){q:Prop}(hc:q)(k:AW P C nt y (ZG pins L ops ds E S (J4 y v)) (QA pins L ops ds E S) (Lv v Q))(h:ZV P C nt L pins E S ops draw ds=(true,q):=by kernel_rfl):AW P C nt (.seq (.region id ops draw) y) E S (Lv v Q):=Yz ds (λ_=>q) hc k h
theorem y7[Fm:Fz P L C pins]{q:Prop}(hc:q)(k:Kn C nt (ZG pins L ops [] E S v.out) (QA pins L ops [] E S) (Q .normal))(h:ZV P C nt L pins E S ops draw []=(true,q):=by kernel_rfl):AW P C nt (.region id ops draw) E S (Lv v Q):=Jy [] hc k h
theorem U5[Fm:Fz P L C pins]{q:Prop}(hc:q)(k:AW P C nt y (ZG pins L ops [] E S (J4 y v)) (QA pins L ops [] E S) (Lv v Q))(h:ZV P C nt L pins E S ops draw []=(true,q):=by kernel_rfl):AW P C nt (.seq (.region id ops draw) y) E S (Lv v Q):=G8 [] hc k h
theorem Wh[Fm:Fz P L C pins](k:Kn C nt (ZG pins L ops [] E S v.out) (QA pins L ops [] E S) (Q .normal))(h:ZV P C nt L pins E S ops draw []=(true,True):=by kernel_rfl):AW P C nt (.region id ops draw) E S (Lv v Q):=Jy [] True.intro k h
theorem Q0[Fm:Fz P L C pins](k:AW P C nt y (ZG pins L ops [] E S (J4 y v)) (QA pins L ops [] E S) (Lv v Q))(h:ZV P C nt L pins E S ops draw []=(true,True):=by kernel_rfl):AW P C nt (.seq (.region id ops draw) y) E S (Lv v Q):=G8 [] True.intro k h
theorem Y4[Fm:Fz P L C pins]{R:Type}{a r:R}(h:some a=some r){g:R->AVal}{G:R->List (Nat×Obj)}(hQ:Q .ret=WS P fn C (g r) (G r) .ret:=by rfl)(h1:ZV P C nt L pins E S ops draw []=(true,True):=by kernel_rfl)(hq:(Jb L (lk (ZG pins L ops [] E S (J4 .ret v))) (ls (QA pins L ops [] E S)) fn.results.toList,(G a).map (λp=>ls (QA pins L ops [] E S) p.1))=(some (g a),(G a).map (λp=>some p.2)):=by kernel_rfl):AW P C nt (.seq (.region id ops draw) .ret) E S (Lv v Q):=Q0 (Q4A Fm.b h hQ hq) h1
def rp(N:List (Nat×Obj))(S:List (Nat×Obj)):List (Nat×Obj):=S.map λp=>(p.1,(N.lookup p.1).getD p.2)
def FX:List (Nat×Obj)->List (Nat×Obj)->Prop
 |(_,o)::W,(_,x)::N=>J3 o x/\FX W N
 |_,_=>True
theorem Q1K:∀{W N:List (Nat×Obj)},FX W N->W.map (·.1)=N.map (·.1)->∀{i:Nat} {x:Obj},N.lookup i=some x->∃o,W.lookup i=some o/\J3 o x
 |[],[],_,_,_,_,h=>by cases h
 |[],_::_,_,h,_,_,_=>by cases h
 |_::_,[],_,h,_,_,_=>by cases h
 |(k,o)::W,(j,z)::N,hf,b,i,x,h=>by
  simp only[Qf7,Qm8]at b;obtain⟨rfl,b⟩:=b
  rw[Qh0]at h⊢
  cases hik:i==k with
  |true=>rw[hik]at h;cases h;exact⟨o,rfl,hf.1⟩
  |false=>rw[hik]at h;exact Q1K hf.2 b h
theorem Q1L{W N:List (Nat×Obj)}(hf:FX W N)(hk:W.map (·.1)=N.map (·.1)):∀{S:List (Nat×Obj)},S.map (λp=>(W.lookup p.1).getD p.2)=S.map (·.2)->Mh S (rp N S)
 |[],_=>True.intro
 |(i,o)::S,h=>by
  simp only[Qf7,Qm8]at h;refine⟨rfl,?_,Q1L hf hk h.2⟩
  cases hl:N.lookup i with
  |none=>exact J3.refl _
  |some x=>
   obtain⟨f,c,d⟩:=Q1K hf hk hl;have b:=h.1
   rw[c]at b;have b:f=o:=b
   rw[<-b];exact d
theorem Z6p{K:Act->World->Prop}{W N:List (Nat×Obj)}(hf:FX W N)(k:Kn C nt E (rp N S) K)(h:(W.map (·.1),S.map (λp=>(W.lookup p.1).getD p.2))=(N.map (·.1),S.map (·.2))):Kn C nt E S K:=
 Ky E _ (FE.refl _) (Q1L hf (congrArg (·.1) h) (congrArg (·.2) h)) k
theorem YA[Fm:Fz P L C pins](ds:List Dir)(c:(Nat->Prop)->Prop)(hc:c (K2 P C nt L ops (pd ops ds) (lk E) (ls (YB pins ops ds E S))))(W N:List (Nat×Obj))(hW:FX W N)(k:Kn C nt (ZG pins L ops ds E S v.out) (rp N (QA pins L ops ds E S)) (Q .normal))(h:ZV P C nt L pins E S ops draw ds=(true,c (K2 P C nt L ops (pd ops ds) (lk E) (ls (YB pins ops ds E S)))):=by kernel_rfl)(h2:(W.map (·.1),(QA pins L ops ds E S).map (λp=>(W.lookup p.1).getD p.2))=(N.map (·.1),(QA pins L ops ds E S).map (·.2)):=by kernel_rfl):AW P C nt (.region id ops draw) E S (Lv v Q):=
 Z8 ds c hc (Z6p hW k h2) h
theorem Jw[Fm:Fz P L C pins](ds:List Dir)(c:(Nat->Prop)->Prop)(hc:c (K2 P C nt L ops (pd ops ds) (lk E) (ls (YB pins ops ds E S))))(W N:List (Nat×Obj))(hW:FX W N)(k:AW P C nt y (ZG pins L ops ds E S (J4 y v)) (rp N (QA pins L ops ds E S)) (Lv v Q))(h:ZV P C nt L pins E S ops draw ds=(true,c (K2 P C nt L ops (pd ops ds) (lk E) (ls (YB pins ops ds E S)))):=by kernel_rfl)(h2:(W.map (·.1),(QA pins L ops ds E S).map (λp=>(W.lookup p.1).getD p.2))=(N.map (·.1),(QA pins L ops ds E S).map (·.2)):=by kernel_rfl):AW P C nt (.seq (.region id ops draw) y) E S (Lv v Q):=
 Q1 (YA ds c hc W N hW k h h2)
theorem Qw[Fm:Fz P L C pins](ds:List Dir){q:Prop}(hc:q)(W N:List (Nat×Obj))(hW:FX W N)(k:Kn C nt (ZG pins L ops ds E S v.out) (rp N (QA pins L ops ds E S)) (Q .normal))(h:ZV P C nt L pins E S ops draw ds=(true,q):=by kernel_rfl)(h2:(W.map (·.1),(QA pins L ops ds E S).map (λp=>(W.lookup p.1).getD p.2))=(N.map (·.1),(QA pins L ops ds E S).map (·.2)):=by kernel_rfl):AW P C nt (.region id ops draw) E S (Lv v Q):=YA ds (λ_=>q) hc W N hW k h h2
theorem ZU[Fm:Fz P L C pins](ds:List Dir){q:Prop}(hc:q)(W N:List (Nat×Obj))(hW:FX W N)(k:AW P C nt y (ZG pins L ops ds E S (J4 y v)) (rp N (QA pins L ops ds E S)) (Lv v Q))(h:ZV P C nt L pins E S ops draw ds=(true,q):=by kernel_rfl)(h2:(W.map (·.1),(QA pins L ops ds E S).map (λp=>(W.lookup p.1).getD p.2))=(N.map (·.1),(QA pins L ops ds E S).map (·.2)):=by kernel_rfl):AW P C nt (.seq (.region id ops draw) y) E S (Lv v Q):=Jw ds (λ_=>q) hc W N hW k h h2
theorem V8[Fm:Fz P L C pins](a:Nat)(hs:G3 P f args Si r So)(hc:∀ args w,(callFunc f args).run P w=.ok (.enter f args) w)(m:List (Nat×Nat))(k:Kn C nt (ZG pins L ops (oD a 0 (cE m [] r Si So)) E S v.out) (QA pins L ops (oD a 0 (cE m [] r Si So)) E S) (Q .normal))(hk:Qu (pd ops (oD a 0 (cE m [] r Si So))) a=cE m [] r Si So:=by kernel_rfl)(hq:(Go.Ab.callB ops nt (U9 L ops ops.toList (pd ops (oD a 0 (cE m [] r Si So))) (lk E) (ls (YB pins ops (oD a 0 (cE m [] r Si So)) E S)) a) (Y8 ops.toList a) f m r Si So,Si.map (fun p=>QH L ops ops.toList (pd ops (oD a 0 (cE m [] r Si So))) (lk E) (ls (YB pins ops (oD a 0 (cE m [] r Si So)) E S)) a (J0 m p.1)),
   (Go.Ab.callXs (Y8 ops.toList a)).toList.all (QB (QD (Y8 ops.toList a)++Qo ops (Y8 ops.toList a)))&&args.all AVal.noSem,(Go.Ab.callXs (Y8 ops.toList a)).toList.map (Y2 (U9 L ops ops.toList (pd ops (oD a 0 (cE m [] r Si So))) (lk E) (ls (YB pins ops (oD a 0 (cE m [] r Si So)) E S)) a)))=(true,Si.map (λp=>some (p.2.ren (J0 m))),true,args.map (AVal.ren (J0 m))):=by kernel_rfl)(h:ZV P C nt L pins E S ops draw (oD a 0 (cE m [] r Si So))=(true,K2 P C nt L ops (pd ops (oD a 0 (cE m [] r Si So))) (lk E) (ls (YB pins ops (oD a 0 (cE m [] r Si So)) E S)) a/\True):=by kernel_rfl):AW P C nt (.region id ops draw) E S (Lv v Q):=Z8 _ (k1 a) ⟨Q4n hs hc m hk hq,True.intro⟩ k h
variable {E2:List (Nat×AVal)} {S2:List (Nat×Obj)}
theorem U3{K:Act->World->Prop}[Fm:Fz P L C pins](k:Kn C nt E2 S2 K)(hq:ZZ pins E S E2 S2=ZY E2 S2:=by kernel_rfl):Kn C nt E S K:=Z6B Fm.b k hq
theorem U7[Fm:Fz P L C pins](ds:List Dir){q:Prop}(hc:q)(k:Kn C nt E2 S2 (Q .normal))(h:ZV P C nt L pins E S ops draw ds=(true,q):=by kernel_rfl)(hq:ZZ pins (ZG pins L ops ds E S v.out) (QA pins L ops ds E S) E2 S2=ZY E2 S2:=by kernel_rfl):AW P C nt (.region id ops draw) E S (Lv v Q):=Jy ds hc (U3 k hq) h
theorem ZM[Fm:Fz P L C pins]{q:Prop}(hc:q)(k:Kn C nt E2 S2 (Q .normal))(h:ZV P C nt L pins E S ops draw []=(true,q):=by kernel_rfl)(hq:ZZ pins (ZG pins L ops [] E S v.out) (QA pins L ops [] E S) E2 S2=ZY E2 S2:=by kernel_rfl):AW P C nt (.region id ops draw) E S (Lv v Q):=U7 [] hc k h hq
theorem ky[Fm:Fz P L C pins](ds:List Dir){c:Bool}(e:b=c)(k:Kn C nt E2 S2 (Q .normal))(h:ZV P C nt L pins E S ops draw ds=(true,Y5 (vb b) (vb c)/\True):=by kernel_rfl)(hq:ZZ pins (ZG pins L ops ds E S v.out) (QA pins L ops ds E S) E2 S2=ZY E2 S2:=by kernel_rfl):AW P C nt (.region id ops draw) E S (Lv v Q):=U7 ds (Go.Ab.cT (Y5.bool e)) k h hq
theorem J6[Fm:Fz P L C pins]{e:Int}{R:Type}{x:Option R}{r:R}(g:gd (Q8 (e+1)) x=some r)(k:x=some r->Kn C nt E2 S2 (Q .normal))(h:ZV P C nt L pins E S ops draw []=(true,(Q8 (e+1)/\True)/\True):=by kernel_rfl)(hq:ZZ pins (ZG pins L ops [] E S v.out) (QA pins L ops [] E S) E2 S2=ZY E2 S2:=by kernel_rfl):AW P C nt (.region id ops draw) E S (Lv v Q):=
 ZM (Go.Ab.cT (Go.Ab.cT (gS g).1)) (k (gS g).2) h hq
def Qy(x:Code)(l:List Nat)(E n:List (Nat×AVal)):List (Nat×AVal):=n++E.filter λp=>l.contains p.1 && !(JO x).contains p.1
theorem Bf{σ R:Type}(r:R){x:Code}(f:σ->Option R)(nE:σ->List (Nat×AVal))(kS:List Nat)(nS:σ->List (Nat×Obj))(hy:∀z,f z=some r->AW P C nt y (Qy x (J4 y v) E (nE z)) (sK kS S (nS z)) (Lv v Q))(hx:∀J:Act->World->Prop,(∀z,f z=some r->Kn C nt (Qy x (J4 y v) E (nE z)) (sK kS S (nS z)) J)->AW P C nt x E S (Lv ⟨J4 y v,v.ex,v.rt⟩ (Exit.then J (Lv v Q)))):AW P C nt (.seq x y) E S (Lv v Q):=Z7f f _ _ hy hx
theorem Z7d[Fm:Fz P L C pins]{σ R:Type}{r:R}{body:(σ->Option R)->σ->Option R}{z0:σ}(h:Y3 body n z0=some r)(E' : σ->List (Nat×AVal))(S' : σ->List (Nat×Obj))(round:∀(again:σ->Option R) (z:σ) (J:Act->World->Prop),(∀z',again z'=some r->Kn C nt (Qy c (J4 (.loop c) v) E (E' z')) (S' z') J)->body again z=some r->AW P C nt c (Qy c (J4 (.loop c) v) E (E' z)) (S' z) (Lv ⟨J4 (.loop c) v,v.ex,v.rt⟩ (Exit.then J (Lv v Q))))(hq:ZZ pins E S (Qy c (J4 (.loop c) v) E (E' z0)) (S' z0)=ZY (Qy c (J4 (.loop c) v) E (E' z0)) (S' z0):=by kernel_rfl):AW P C nt (.loop c) E S (Lv v Q):=U3 (Q4B h (λz=>Qy c (J4 (.loop c) v) E (E' z)) S' round) hq
def RS(S:List (Nat×Obj))(k:Nat):Nat:=match ls S k with|some (.arr e _ _)=>e|_=>0
def JM(S:List (Nat×Obj))(k:Nat):Nat:=match ls S k with|some (.arr _ n _)=>n|_=>0
def JN(S:List (Nat×Obj))(k:Nat):Nat->List DVal:=match ls S k with|some (.arr _ _ f)=>f|_=>λ_=>[]
def JL(S:List (Nat×Obj))(k:Nat):List (Nat×Obj):=S.filter λp=>p.1 != k
theorem z7{K:Act->World->Prop}[Fm:Fz P L C pins](k:Nat)(h:Kn C nt (E.map λp=>(p.1,p.2.frz k (JM S k) (JN S k))) ((JL S k).map λp=>(p.1,p.2.frz k (JM S k) (JN S k))) K)(h1:ZZ pins E S E ((k,.arr (RS S k) (JM S k) (JN S k))::JL S k)=ZY E ((k,.arr (RS S k) (JM S k) (JN S k))::JL S k):=by kernel_rfl)(h2:((JL S k).map (·.1)).contains k=false:=by kernel_rfl):Kn C nt E S K:=
 U3 (kb _ _ h (by rw[h2])) h1
theorem Z6s{K:Act->World->Prop}{α:Type}[Emb α][Fm:Fz P L C pins](t:Nat)(k:Kn C nt ((t,AL ([]:List α))::E) S K)(h:ZZ pins E S ((t,.v (.c f0))::E) S=ZY ((t,.v (.c f0))::E) S:=by kernel_rfl):Kn C nt E S K:=
 U3 (Z6z (Y5.c (G2.fl .nil)) k) h
theorem J5{R:Type}{a r:R}(h:some a=some r){g:R->AVal}{G:R->List (Nat×Obj)}(k:Kn C nt E S (WS P fn C (g a) (G a) .ret))(hQ:Q .ret=WS P fn C (g r) (G r) .ret:=by rfl):AW P C nt .ret E S Q:=by
 cases h
 exact Uf (hQ ▸ k)
theorem y6[Fm:Fz P L C pins](hq:(Jb L (lk E) (ls S) fn.results.toList,S'.map (λp=>ls S p.1))=(some r,S'.map (λp=>some p.2)):=by kernel_rfl):Kn C nt E S (WS P fn C r S' .ret):=Q4j Fm.b hq
end
section
variable {P:Program} {L:Lay}
theorem GI(hf:P.funcs[f]?=some fn)(hm:P.follows .mixedOrders=true)(hL:y4 P L){S:List (Nat×Obj)}(h:∀C,Fz P L C (S.map (·.1))->AW P C fn.ntmps c (PS args) S (Lv ⟨[],[],RR fn.results.toList⟩ (WS P fn C r S')))(hb:fn.body=some c:=by rfl)(hn0:Nat.ble args.length fn.ntmps=true:=by kernel_rfl):G3 P f args S r S':=FI hf hm hL (λC b=>h C ⟨b⟩) hb hn0
end
theorem Q2z{ops:Array Oper}:∀{ds:List Dir} {k:Nat} {l:List Dir},Nat.blt k ds.length=true->Qu (ds++l) k=Qu ds k
 |[],k,_,h=>by simp[Nat.blt]at h
 |d::ds,0,l,_=>by cases d<;>rfl
 |d::ds,k+1,l,h=>by
  have b:Nat.blt k ds.length=true:=by simp[Nat.blt]at h⊢;omega
  have:Qu ((d::ds)++l) (k+1)=Qu (ds++l) k:=by cases d<;>rfl
  rw[this,Q2z (ops:=ops) b]
  cases d<;>rfl
section
variable {P:Program} {C:Ctx} {nt:Nat} {L:Lay} {ops:Array Oper} {ds:List Dir} {e:U4} {s:U6}
theorem Z7(hspec:G3 P f args Si r So)(hcall:∀ args w,(callFunc f args).run P w=.ok (.enter f args) w)(m:List (Nat×Nat))(hk:Qu ds k=cE m [] r Si So:=by rfl)(hl:Nat.blt k ds.length=true:=by kernel_rfl)(hq:(Go.Ab.callB ops nt (U9 L ops ops.toList (pd ops ds) e s k) (Y8 ops.toList k) f m r Si So,Si.map (fun p=>QH L ops ops.toList (pd ops ds) e s k (J0 m p.1)),
   (Go.Ab.callXs (Y8 ops.toList k)).toList.all (QB (QD (Y8 ops.toList k)++Qo ops (Y8 ops.toList k)))&&args.all AVal.noSem,(Go.Ab.callXs (Y8 ops.toList k)).toList.map (Y2 (U9 L ops ops.toList (pd ops ds) e s k)))
   = (true,Si.map (λp=>some (p.2.ren (J0 m))),true,args.map (AVal.ren (J0 m))):=by kernel_rfl):K2 P C nt L ops (pd ops ds) e s k:=Q4n hspec hcall m ((Q2z (ops:=ops) hl).trans hk) hq
end
end
section
section
variable {P:Program} {C:Ctx} {nt:Nat} {L:Lay} {pins:List Nat} {v:LV} {E:List (Nat×AVal)} {S:List (Nat×Obj)} {Q:Exit->Act->World->Prop}
variable {id:Nat} {ops:Array Oper} {draw:Bool} {y x c:Code} {R A B D G H:Type}
@[reducible] def n2 {σ τ β:Type}:σ->τ->List β:=fun _ _=>[]
@[reducible] def n3 {σ τ ρ β:Type}:σ->τ->ρ->List β:=fun _ _ _=>[]
theorem z4(r:R)(f:Option R)(nE:List (Nat×AVal))(kS:List Nat)(nS:List (Nat×Obj))(hy:f=some r->AW P C nt y (Qy x (J4 y v) E nE) (sK kS S nS) (Lv v Q))(hx:∀J:Act->World->Prop,(f=some r->Kn C nt (Qy x (J4 y v) E nE) (sK kS S nS) J)->AW P C nt x E S (Lv ⟨J4 y v,v.ex,v.rt⟩ (Exit.then J (Lv v Q)))):AW P C nt (.seq x y) E S (Lv v Q):=
 Bf r (λ_:Unit=>f) (λ_=>nE) kS (λ_=>nS) (λ_ h=>hy h) (λJ h=>hx J (h ()))
theorem Y6(r:R)(f:A->Option R)(nE:A->List (Nat×AVal))(kS:List Nat)(nS:A->List (Nat×Obj))(hy:∀a,f a=some r->AW P C nt y (Qy x (J4 y v) E (nE a)) (sK kS S (nS a)) (Lv v Q))(hx:∀J:Act->World->Prop,(∀{a},f a=some r->Kn C nt (Qy x (J4 y v) E (nE a)) (sK kS S (nS a)) J)->AW P C nt x E S (Lv ⟨J4 y v,v.ex,v.rt⟩ (Exit.then J (Lv v Q)))):AW P C nt (.seq x y) E S (Lv v Q):=
 Bf r f nE kS nS hy (λJ h=>hx J (h _))
theorem YK(r:R)(f:A->B->Option R)(nE:A->B->List (Nat×AVal))(kS:List Nat)(nS:A->B->List (Nat×Obj))(hy:∀a b,f a b=some r->AW P C nt y (Qy x (J4 y v) E (nE a b)) (sK kS S (nS a b)) (Lv v Q))(hx:∀J:Act->World->Prop,(∀{a b},f a b=some r->Kn C nt (Qy x (J4 y v) E (nE a b)) (sK kS S (nS a b)) J)->AW P C nt x E S (Lv ⟨J4 y v,v.ex,v.rt⟩ (Exit.then J (Lv v Q)))):AW P C nt (.seq x y) E S (Lv v Q):=
 Bf r (λz:A×B=>f z.1 z.2) (λz=>nE z.1 z.2) kS (λz=>nS z.1 z.2) (λz=>hy z.1 z.2) (λJ h=>hx J (h (_,_)))
theorem Zk(r:R)(f:A->B->D->Option R)(nE:A->B->D->List (Nat×AVal))(kS:List Nat)(nS:A->B->D->List (Nat×Obj))(hy:∀a b c,f a b c=some r->AW P C nt y (Qy x (J4 y v) E (nE a b c)) (sK kS S (nS a b c)) (Lv v Q))(hx:∀J:Act->World->Prop,(∀{a b c},f a b c=some r->Kn C nt (Qy x (J4 y v) E (nE a b c)) (sK kS S (nS a b c)) J)->AW P C nt x E S (Lv ⟨J4 y v,v.ex,v.rt⟩ (Exit.then J (Lv v Q)))):AW P C nt (.seq x y) E S (Lv v Q):=
 YK r (λa (b:B×D)=>f a b.1 b.2) (λa b=>nE a b.1 b.2) kS (λa b=>nS a b.1 b.2) (λa b=>hy a b.1 b.2) (λJ h=>hx J (λ{_ b c}=>h (b:=(b,c))))
theorem kz(r:R)(f:A->B->D->G->Option R)(nE:A->B->D->G->List (Nat×AVal))(kS:List Nat)(nS:A->B->D->G->List (Nat×Obj))(hy:∀a b c d,f a b c d=some r->AW P C nt y (Qy x (J4 y v) E (nE a b c d)) (sK kS S (nS a b c d)) (Lv v Q))(hx:∀J:Act->World->Prop,(∀{a b c d},f a b c d=some r->Kn C nt (Qy x (J4 y v) E (nE a b c d)) (sK kS S (nS a b c d)) J)->AW P C nt x E S (Lv ⟨J4 y v,v.ex,v.rt⟩ (Exit.then J (Lv v Q)))):AW P C nt (.seq x y) E S (Lv v Q):=
 Zk r (λa b (c:D×G)=>f a b c.1 c.2) (λa b c=>nE a b c.1 c.2) kS (λa b c=>nS a b c.1 c.2) (λa b c=>hy a b c.1 c.2) (λJ h=>hx J (λ{_ _ b c}=>h (c:=(b,c))))
theorem z6{r:R}{z0:A}{body:(A->Option R)->A->Option R}(h:Y3 body n z0=some r)(E' : A->List (Nat×AVal))(S' : A->List (Nat×Obj))(round:∀(again:A->Option R) (z:A) (J:Act->World->Prop),(∀{z'},again z'=some r->Kn C nt (Qy c (J4 (.loop c) v) E (E' z')) (S' z') J)->body again z=some r->AW P C nt c (Qy c (J4 (.loop c) v) E (E' z)) (S' z) (Lv ⟨J4 (.loop c) v,v.ex,v.rt⟩ (Exit.then J (Lv v Q))))(hq:ZZ pins E S (Qy c (J4 (.loop c) v) E (E' z0)) (S' z0)=ZY (Qy c (J4 (.loop c) v) E (E' z0)) (S' z0):=by kernel_rfl)[Fm:Fz P L C pins]:AW P C nt (.loop c) E S (Lv v Q):=Z7d h E' S' (λg z J b=>round g z J (b _)) hq
theorem Qe{r:R}{z0:A×B}{body:(A×B->Option R)->A×B->Option R}(h:Y3 body n z0=some r)(E' : A->B->List (Nat×AVal))(S' : A->B->List (Nat×Obj))(round:∀(again:A×B->Option R) (a:A) (b:B) (J:Act->World->Prop),(∀{a b},again (a,b)=some r->Kn C nt (Qy c (J4 (.loop c) v) E (E' a b)) (S' a b) J)->body again (a,b)=some r->AW P C nt c (Qy c (J4 (.loop c) v) E (E' a b)) (S' a b) (Lv ⟨J4 (.loop c) v,v.ex,v.rt⟩ (Exit.then J (Lv v Q))))(hq:ZZ pins E S (Qy c (J4 (.loop c) v) E (E' z0.1 z0.2)) (S' z0.1 z0.2)=ZY (Qy c (J4 (.loop c) v) E (E' z0.1 z0.2)) (S' z0.1 z0.2):=by kernel_rfl)[Fm:Fz P L C pins]:AW P C nt (.loop c) E S (Lv v Q):=
 z6 h (λz=>E' z.1 z.2) (λz=>S' z.1 z.2) (λg z J d=>round g z.1 z.2 J d) hq
theorem WM{r:R}{z0:A×B×D}{body:(A×B×D->Option R)->A×B×D->Option R}(h:Y3 body n z0=some r)(E' : A->B->D->List (Nat×AVal))(S' : A->B->D->List (Nat×Obj))(round:∀(again:A×B×D->Option R) (a:A) (b:B) (d:D) (J:Act->World->Prop),(∀{a b d},again (a,b,d)=some r->Kn C nt (Qy c (J4 (.loop c) v) E (E' a b d)) (S' a b d) J)->body again (a,b,d)=some r->AW P C nt c (Qy c (J4 (.loop c) v) E (E' a b d)) (S' a b d) (Lv ⟨J4 (.loop c) v,v.ex,v.rt⟩ (Exit.then J (Lv v Q))))(hq:ZZ pins E S (Qy c (J4 (.loop c) v) E (E' z0.1 z0.2.1 z0.2.2)) (S' z0.1 z0.2.1 z0.2.2)=ZY (Qy c (J4 (.loop c) v) E (E' z0.1 z0.2.1 z0.2.2)) (S' z0.1 z0.2.1 z0.2.2):=by kernel_rfl)[Fm:Fz P L C pins]:AW P C nt (.loop c) E S (Lv v Q):=
 Qe h (λa z=>E' a z.1 z.2) (λa z=>S' a z.1 z.2) (λg a z J f=>round g a z.1 z.2 J f) hq
theorem WL{r:R}{z0:A×B×D×G}{body:(A×B×D×G->Option R)->A×B×D×G->Option R}(h:Y3 body n z0=some r)(E' : A->B->D->G->List (Nat×AVal))(S' : A->B->D->G->List (Nat×Obj))(round:∀(again:A×B×D×G->Option R) (a:A) (b:B) (d:D) (g:G) (J:Act->World->Prop),(∀{a b d g},again (a,b,d,g)=some r->Kn C nt (Qy c (J4 (.loop c) v) E (E' a b d g)) (S' a b d g) J)->body again (a,b,d,g)=some r->AW P C nt c (Qy c (J4 (.loop c) v) E (E' a b d g)) (S' a b d g) (Lv ⟨J4 (.loop c) v,v.ex,v.rt⟩ (Exit.then J (Lv v Q))))(hq:ZZ pins E S (Qy c (J4 (.loop c) v) E (E' z0.1 z0.2.1 z0.2.2.1 z0.2.2.2)) (S' z0.1 z0.2.1 z0.2.2.1 z0.2.2.2)=ZY (Qy c (J4 (.loop c) v) E (E' z0.1 z0.2.1 z0.2.2.1 z0.2.2.2)) (S' z0.1 z0.2.1 z0.2.2.1 z0.2.2.2):=by kernel_rfl)[Fm:Fz P L C pins]:AW P C nt (.loop c) E S (Lv v Q):=
 WM h (λa b z=>E' a b z.1 z.2) (λa b z=>S' a b z.1 z.2) (λg a b z J f=>round g a b z.1 z.2 J f) hq
theorem Lc{r:R}{z0:A×B×D×G×H}{body:(A×B×D×G×H->Option R)->A×B×D×G×H->Option R}(h:Y3 body n z0=some r)(E' : A->B->D->G->H->List (Nat×AVal))(S' : A->B->D->G->H->List (Nat×Obj))(round:∀(again:A×B×D×G×H->Option R) (a:A) (b:B) (d:D) (g:G) (k:H) (J:Act->World->Prop),(∀{a b d g k},again (a,b,d,g,k)=some r->Kn C nt (Qy c (J4 (.loop c) v) E (E' a b d g k)) (S' a b d g k) J)->body again (a,b,d,g,k)=some r->AW P C nt c (Qy c (J4 (.loop c) v) E (E' a b d g k)) (S' a b d g k) (Lv ⟨J4 (.loop c) v,v.ex,v.rt⟩ (Exit.then J (Lv v Q))))(hq:ZZ pins E S (Qy c (J4 (.loop c) v) E (E' z0.1 z0.2.1 z0.2.2.1 z0.2.2.2.1 z0.2.2.2.2)) (S' z0.1 z0.2.1 z0.2.2.1 z0.2.2.2.1 z0.2.2.2.2)=ZY (Qy c (J4 (.loop c) v) E (E' z0.1 z0.2.1 z0.2.2.1 z0.2.2.2.1 z0.2.2.2.2)) (S' z0.1 z0.2.1 z0.2.2.1 z0.2.2.2.1 z0.2.2.2.2):=by kernel_rfl)[Fm:Fz P L C pins]:AW P C nt (.loop c) E S (Lv v Q):=
 WL h (λa b d z=>E' a b d z.1 z.2) (λa b d z=>S' a b d z.1 z.2) (λg a b d z J f=>round g a b d z.1 z.2 J f) hq
theorem Q4z(n:Nat)(h:AW P C nt c E S (Lv ⟨J4 (.loop c) v,v.ex,v.rt⟩ (Exit.then (λa w=>Code.rounds P c (Lv v Q) n a w) (Lv v Q)))):AW P C nt (.loop c) E S (Lv v Q):=Z6X n h
theorem Bc(h:AW P C nt c E S (Lv ⟨J4 (.loop c) v,v.ex,v.rt⟩ (Exit.then (λa w=>Code.rounds P c (Lv v Q) n a w) (Lv v Q)))):Kn C nt E S (λa w=>Code.rounds P c (Lv v Q) (n+1) a w):=Z6q h
theorem K9{p q:Prop}[Decidable p][Decidable q]{R:Type}{x:Option R}{r:R}{G:Prop}(h:gd p (gd q x)=some r)(k:p->q->x=some r->G):G:=gO h λa h=>gO h (k a)
theorem Vt{p q s:Prop}[Decidable p][Decidable q][Decidable s]{R:Type}{x:Option R}{r:R}{G:Prop}(h:gd p (gd q (gd s x))=some r)(k:p->q->s->x=some r->G):G:=gO h λa h=>K9 h (k a)
theorem Kk{p q s t:Prop}[Decidable p][Decidable q][Decidable s][Decidable t]{R:Type}{x:Option R}{r:R}{G:Prop}(h:gd p (gd q (gd s (gd t x)))=some r)(k:p->q->s->t->x=some r->G):G:=gO h λa h=>Vt h (k a)
theorem GG{p q s t u:Prop}[Decidable p][Decidable q][Decidable s][Decidable t][Decidable u]{R:Type}{x:Option R}{r:R}{G:Prop}(h:gd p (gd q (gd s (gd t (gd u x))))=some r)(k:p->q->s->t->u->x=some r->G):G:=gO h λa h=>Kk h (k a)
end
end
section
section
variable {P:Program} {C:Ctx} {nt:Nat} {L:Lay} {pins:List Nat} {v:LV} {E:List (Nat×AVal)} {S:List (Nat×Obj)} {Q:Exit->Act->World->Prop}
variable {id:Nat} {ops:Array Oper} {draw:Bool} {y x c:Code} {R:Type} {r:R} {B:Prop} {a:Option R} {E1 E2:List (Nat×AVal)} {S1 S2:List (Nat×Obj)}
theorem U2[Fm:Fz P L C pins](k:a=some r->Kn C nt E2 S2 (Q (.exit i)))(hq:ZZ pins E S E2 S2=ZY E2 S2:=by kernel_rfl):B->a=some r->AW P C nt (.exit i) E S Q:=λ_ h=>Jx (U3 (k h) hq)
theorem Qx[Fm:Fz P L C pins](k:a=some r->Kn C nt E2 S2 (Q .normal))(hq:ZZ pins E S E2 S2=ZY E2 S2:=by kernel_rfl):B->a=some r->AW P C nt .skip E S Q:=λ_ h=>Q5 (U3 (k h) hq)
theorem Qh[Fm:Fz P L C pins](n:Nat){u w:Option R}(h:br b u w=some r)(k1:u=some r->Kn C nt E1 S1 (Q .normal))(k2:w=some r->Kn C nt E2 S2 (Q .normal))(h1:ZV P C nt L pins E S ops draw (sN n [.w (vb true)])=(true,Y5 (vb b) (vb true)/\True):=by kernel_rfl)(h2:ZV P C nt L pins E S ops draw (sN n [.w (vb false)])=(true,Y5 (vb b) (vb false)/\True):=by kernel_rfl)(q1:ZZ pins (ZG pins L ops (sN n [.w (vb true)]) E S v.out) (QA pins L ops (sN n [.w (vb true)]) E S) E1 S1=ZY E1 S1:=by kernel_rfl)(q2:ZZ pins (ZG pins L ops (sN n [.w (vb false)]) E S v.out) (QA pins L ops (sN n [.w (vb false)]) E S) E2 S2=ZY E2 S2:=by kernel_rfl):AW P C nt (.region id ops draw) E S (Lv v Q):=
 V7 h (λe g=>ky _ e (k1 g) h1 q1) (λe g=>ky _ e (k2 g) h2 q2)
theorem bJ[Fm:Fz P L C pins](n:Nat)(c:Bool)(k:a=some r->Kn C nt E2 S2 (Q .normal))(h:ZV P C nt L pins E S ops draw (sN n [.w (vb c)])=(true,Y5 (vb b) (vb c)/\True):=by kernel_rfl)(hq:ZZ pins (ZG pins L ops (sN n [.w (vb c)]) E S v.out) (QA pins L ops (sN n [.w (vb c)]) E S) E2 S2=ZY E2 S2:=by kernel_rfl):b=c->a=some r->AW P C nt (.region id ops draw) E S (Lv v Q):=λe g=>ky _ e (k g) h hq
theorem qR[Fm:Fz P L C pins]{a r:R}(h:some a=some r){g:R->AVal}{G:R->List (Nat×Obj)}(hQ:Q .ret=WS P fn C (g r) (G r) .ret:=by rfl)(hq:(Jb L (lk E) (ls S) fn.results.toList,(G a).map (λp=>ls S p.1))=(some (g a),(G a).map (λp=>some p.2)):=by kernel_rfl):AW P C nt .ret E S Q:=Q4A Fm.b h hQ hq
theorem bT{c:Bool}(h:b=c):Y5 (vb b) (vb c):=Y5.bool h
theorem bA{c:Bool}{q:Prop}(h:b=c)(k:q):Y5 (vb b) (vb c)/\q:=⟨Y5.bool h,k⟩
theorem bU{c:Bool}(h:b=c):Y5 (vb b) (vb c)/\True:=⟨Y5.bool h,True.intro⟩
theorem Ys{K:Act->World->Prop}(α:Type)[Emb α][Fm:Fz P L C pins](t:Nat)(k:Kn C nt ((t,AL ([]:List α))::E) S K)(h:ZZ pins E S ((t,.v (.c f0))::E) S=ZY ((t,.v (.c f0))::E) S:=by kernel_rfl):Kn C nt E S K:=Z6s t k h
theorem nA[Fm:Fz P L C pins](α:Type)[Emb α](i:Nat)(k:AW P C nt y (ZG pins L ops [.m] E S (J4 y v)) (rp [(i,AO ([]:List α))] (QA pins L ops [.m] E S)) (Lv v Q))(h:ZV P C nt L pins E S ops draw [.m]=(true,True):=by kernel_rfl)(h2:([i],(QA pins L ops [.m] E S).map (λp=>(([(i,.arr (Emb.es α) 0 nn)]:List (Nat×Obj)).lookup p.1).getD p.2))=([i],(QA pins L ops [.m] E S).map (·.2)):=by kernel_rfl):AW P C nt (.seq (.region id ops draw) y) E S (Lv v Q):=
 ZU [.m] True.intro [(i,.arr (Emb.es α) 0 nn)] [(i,AO ([]:List α))] ⟨J3.is Is.nil,True.intro⟩ k h h2
end
end
section
section
variable {P:Program} {L:Lay} {C:Ctx} {nt:Nat} {R:Nat->Prop} {η:Nat->Value} {e:U4} {s:U6} {a:Act} {w:World}
abbrev VD:Obj:=.ext λ_ _ _=>True
theorem Q7n{α:Type}[Emb α](hL:y4 P L)(h:Conc C nt R η e s a w)(hd:o.dst=some d)(hdn:d<nt)(hR:¬ R d){y:Operand}(hop:o.op=.call { callee:=.builtin .append,args:= #[x,y],argTypes:= #[t,t] }){ti:TI}(ht:L t=some ti){el:Nat}(hk:ti.kind=.slice el)(hte:L el=some te){g:Nat->List DVal}(hy:Wt s (Y2 e y)=some (k,g)){del:List Nat}{f:Nat->List DVal}{c0:Prop}(hx:VA s te.size k (Y2 e x)=some (del,n,f,c0))(hc0:c0)(hby:te.bytes<=8192)(hzl:te.zero.length=te.size){c:Prop}(hlim:n+k<=Z9)(hgl:∀ j,j<k->(g j).length=te.size){l:List α}(hi:Is (n+k) (Qv n f g) l):
  xZ P C nt R η e s a w o {v:=AL l,del:=del,new:=some VD,cond:=c}:=by
 obtain⟨v,Y,hr,p⟩:=Rg hL h hd hdn hR hop ht hk hte hy hx hc0 hby hzl (c:=c) hlim hgl;refine⟨v,.tuple #[],Y,hr,?_⟩
 rw[hd]at p⊢;generalize hF:Qv n f g=G at p hi
 generalize he0:SR.env {v:=.v (.c (.own d)),del:=del,new:=some (.arr te.size (n+k) G),cond:=c} (some d) e=e0 at p;generalize hs0:SR.sto {v:=.v (.c (.own d)),del:=del,new:=some (.arr te.size (n+k) G),cond:=c} (some d) s=s0 at p
 generalize hη0:SR.eta {v:=.v (.c (.own d)),del:=del,new:=some (.arr te.size (n+k) G),cond:=c} (some d) v η=η0 at p;generalize he1:SR.env {v:=AL l,del:=del,new:=some VD,cond:=c} (some d) e=e1
 generalize hs1:SR.sto {v:=AL l,del:=del,new:=some VD,cond:=c} (some d) s=s1;generalize hη1:SR.eta {v:=AL l,del:=del,new:=some VD,cond:=c} (some d) (.tuple #[]) η=η1
 have T:∀i,SR.rng {v:=.v (.c (.own d)),del:=del,new:=some (.arr te.size (n+k) G),cond:=c} (some d) R i->SR.rng {v:=AL l,del:=del,new:=some VD,cond:=c} (some d) R i:=λi h=>h.imp id λh=>⟨by simp,h.2⟩
 have ed:e0 d=.v (.c (.own d)):=by rw[<-he0];simp[SR.env]
 have W:e1 d=AL l:=by rw[<-he1];simp[SR.env]
 have Z:s0 d=some (.arr te.size (n+k) G):=by rw[<-hs0];simp[SR.sto]
 have U:s1 d=some VD:=by rw[<-hs1];simp[SR.sto]
 have nd:η0 d=v:=by rw[<-hη0];simp[SR.eta]
 have F:η1 d=.tuple #[]:=by rw[<-hη1];simp[SR.eta]
 have ee:∀t,t≠d->e1 t=e0 t/\e0 t=e t:=λt ht=>by rw[<-he0, <-he1];simp[SR.env,ht]
 have M:∀i,i≠d->s1 i=s0 i/\∀u,s0 i=some u -> s i=some u:=λi hi=>by
  rw[<-hs0, <-hs1];refine⟨by simp[SR.sto,hi],λu h=>?_⟩
  simp[SR.sto,hi]at h
  exact h.2
 have nn:∀i,i≠d->η1 i=η0 i:=λi hi=>by rw[<-hη0, <-hη1];simp[SR.eta,hi]
 have own:∀b,Own s1 η1 b->∃i u,i≠d/\s0 i=some u /\ b∈Y7 (η0 i):=by
  rintro b ⟨i,u,q,z⟩
  by_cases m:i=d
  .subst m
   rw[F]at z;simp[Y7]at z
  .exact ⟨i,u,m,by rw[<-(M i m).1];exact q,by rw[<-nn i m];exact z⟩
 have hX:∀b,XS C s1 η1 b->XS C s0 η0 b:=by
  rintro b (q|q)
  .exact .inl q
  .obtain ⟨i,u,_,z,O⟩:=own b q
   exact .inr ⟨i,u,z,O⟩
 have hK:QS Y Y (XS C s0 η0) (XS C s1 η1):=λb _ J=>⟨rfl,λh=>J (hX b h)⟩
 have rd:∀t,t≠d->∀i∈(e0 t).refs,i≠d:=λt ht i hi e1=>hR (h.er t d (by rw[<-(ee t ht).2];exact e1 ▸ hi))
 have a1:∀b,b∈Y7 v->¬XS C s1 η1 b:=by
  intro b J hx;have V : b∈Y7 (η0 d):=by rw[nd];exact J
  rcases hx with ⟨hx,hD⟩|hx
  .rcases p.ow d _ b Z V with ⟨a2,_⟩|hM|hf
   .cases a2
   .exact hD (p.ok.md b hM)
   .have:=p.ok.lt b hx;omega
  .obtain ⟨i,u,q,z,O⟩:=own b hx
   exact q (p.ds i d b (by rw[z];simp) (by rw[Z];simp) O V)
 have a4:DRep Y (XS C s1 η1) v (DL l):=by
  refine DRep.is hi ?_;have:=p.st d _ Z
  rw[nd]at this;generalize n+k=N at this hi⊢
  cases this with
  |nil ad es f=>exact .nil ad 0 _
  |arr b n cap es c e f q z O h4 h5 h6 h7=>
   have J:¬XS C s1 η1 b:=a1 b (by simp[Y7];omega);refine .lst b 0 _ cap c e _ _ te.size J q O (by rw[z,Qd1];exact Qb3 _ O) h6 λi j hi I=>?_
   rw[Qd1];exact(h7 i j hi I).mono hK
 have hv:(a.put (some d) v).tmps.getD d undef=v:=by
  rw[To a (some d) v d λx hx=>by cases hx;rw[h.sz];exact hdn];simp
 refine⟨p.ok,p.df,p.sz,λt=>?_,λt i hi=>?_,λi u hi=>?_,λi u hi=>?_,λi j b hi I q z=>?_,λi u b hi q=>?_,p.fr,λi v' hp=>?_⟩
 .by_cases ht:t=d
  .subst ht
   rw[W,hv];exact .v _ _ (.c _ _ (.d _ _ a4))
  .rw [(ee t ht).1]
   exact(p.ev t).mono hK λi hi=>nn i (rd t ht i hi)
 .by_cases ht:t=d
  .subst ht
   rw[W]at hi;simp[AL,AVal.refs,TV.refs,CV.refs]at hi
  .rw [(ee t ht).1]at hi
   exact T i (p.er t i hi)
 .by_cases m:i=d
  .subst m
   rw[U]at hi;cases hi
   rw[F];exact .ext _ _ trivial (λ_ _ _ _ _ _ _=>trivial) λb J=>by simp[Y7]at J
  .rw [(M i m).1]at hi
   rw[nn i m];refine(p.st i u hi).mono hK (λj I=>nn j λe=>?_) λb _=>rfl
   have:=(h.sr i u ((M i m).2 u hi)).2 j I
   exact hR (e ▸ this)
 .by_cases m:i=d
  .subst m
   rw[U]at hi;cases hi
   exact⟨T _ (p.sr i _ Z).1,λj I=>by simp[Obj.refs]at I⟩
  .rw [(M i m).1]at hi
   exact⟨T i (p.sr i u hi).1,λj I=>T j ((p.sr i u hi).2 j I)⟩
 .by_cases m:i=d
  .subst m;rw[F]at q;simp[Y7]at q
  .by_cases hjd:j=d
   .subst hjd;rw[F]at z;simp[Y7]at z
   .rw [nn i m]at q
    rw[nn j hjd]at z;rw[(M i m).1]at hi
    rw[(M j hjd).1]at I;exact p.ds i j b hi I q z
 .by_cases m:i=d
  .subst m;rw[F]at q;simp[Y7]at q
  .rw [(M i m).1]at hi
   rw[nn i m]at q;exact p.ow i u b hi q
 .have q:=p.pn i v' hp
  have m:i≠d:=λe=>hR (e ▸ (h.pn i v' hp).2)
  exact⟨by rw[nn i m];exact q.1,T i q.2⟩
end
section
variable {P:Program} {C:Ctx} {nt:Nat} {L:Lay} {ops:Array Oper} {ds:List Dir} {e:U4} {s:U6} {k:Nat}
theorem Z6O{α:Type}[Emb α](hL:y4 P L)(hT:WP L t te){y:Operand}{q m:Nat}{f g:Nat->List DVal}{l:List α}(hk:Qu ds k=rE {v:=AL l,del:=[q],new:=some VD})(hop:(Y8 ops.toList k).op=.call {callee:=.builtin .append,args:= #[x,y],argTypes:= #[t,t]})(hdo:(QL nt (Y8 ops.toList k)&&(QX ops (U9 L ops ops.toList ds e s k) (Y8 ops.toList k)==some true)&&(Y8 ops.toList k).dst==some d&&Nat.ble te.bytes 8192&&te.zero.length==te.size)=true)(hx:Y2 (U9 L ops ops.toList ds e s k) x=.v (.c (.own q)))(hq:QH L ops ops.toList ds e s k q=some (.arr te.size n f))(hy:Wt (QH L ops ops.toList ds e s k) (Y2 (U9 L ops ops.toList ds e s k) y)=some (m,g))(hlim:n+m<=Z9)(hgl:∀j,j<m->(g j).length=te.size)(hi:Is (n+m) (Qv n f g) l):K2 P C nt L ops ds e s k:=by
 unfold K2;rw[hk]
 simp only[Qa4,Qg4]at hdo;obtain⟨⟨⟨⟨U,h2⟩,u⟩,W⟩,Y⟩:=hdo
 obtain⟨ti,el,Z,I,M⟩:=hT;have b:=Rc (P:=P) (C:=C) [] (o:=Y8 ops.toList k) (s:=QH L ops ops.toList ds e s k) U (r:= {v:=AL l,del:=[q],new:=some VD}) h2 λR η T V a w O h _ hn F=>by
  have N:x∈(Y8 ops.toList k).op.operands.toList:=by rw[hop];simp[Op.operands,Call.operands]
  have i:y∈(Y8 ops.toList k).op.operands.toList:=by rw[hop];simp[Op.operands,Call.operands]
  have J:VA V te.size m (Y2 T x)=some ([q],n,f,True):=by
   have p:=h x N q (by rw[hx];simp[AVal.refs,TV.refs,CV.refs]);rw[O x N,hx]
   simp only[VA];rw[p,hq]
   simp
  have z:Wt V (Y2 T y)=some (m,g):=by rw[O y i,FN (h y i)];exact hy
  exact Q7n hL F u (YH U d u) (hn d u (by simp)) hop Z I M z J trivial (Qq9 W) Y hlim hgl hi
 have e:GM [] ops (Y8 ops.toList k) (U9 L ops ops.toList ds e s k) {v:=AL l,del:=[q],new:=some VD}=GO ops (Y8 ops.toList k) (U9 L ops ops.toList ds e s k) {v:=AL l,del:=[q],new:=some VD} (AL l):=by
  simp[GM,GO]
 rw[e]at b;exact b
end
section
variable {P:Program} {C:Ctx} {nt:Nat} {L:Lay} {pins:List Nat} {E:List (Nat×AVal)} {S:List (Nat×Obj)} {Q:Exit->Act->World->Prop} {c:Code}
theorem Z7g[Fm:Fz P L C pins](k:Nat)(h:AW P C nt c (E.map λp=>(p.1,p.2.frz k (JM S k) (JN S k))) ((JL S k).map λp=>(p.1,p.2.frz k (JM S k) (JN S k))) Q)(h1:ZZ pins E S E ((k,.arr (RS S k) (JM S k) (JN S k))::JL S k)=ZY E ((k,.arr (RS S k) (JM S k) (JN S k))::JL S k):=by kernel_rfl)(h2:((JL S k).map (·.1)).contains k=false:=by kernel_rfl):AW P C nt c E S Q:=
 z7 (K:=λa w=>c.wp P Q a w) k h h1 h2
end
end
section
section
variable {P:Program} {C:Ctx} {nt:Nat} {L:Lay} {pins:List Nat} {v:LV} {E:List (Nat×AVal)} {S:List (Nat×Obj)} {Q:Exit->Act->World->Prop}
variable {c:Code} {R A B D:Type}
def BQ(x:Code)(l:List Nat)(E n:List (Nat×AVal)):List (Nat×AVal):=n++E.filter λp=>l.contains p.1 && !(JO x).contains p.1 && !(n.map (·.1)).contains p.1
theorem Z7e{r:R}{z0:A×B×D}{body:(A×B×D->Option R)->A×B×D->Option R}(h:Y3 body n z0=some r)(E' : A->B->D->List (Nat×AVal))(S' : A->B->D->List (Nat×Obj))(round:∀(again:A×B×D->Option R) (a:A) (b:B) (d:D) (J:Act->World->Prop),(∀{a b d},again (a,b,d)=some r->Kn C nt (BQ c (J4 (.loop c) v) E (E' a b d)) (S' a b d) J)->body again (a,b,d)=some r->AW P C nt c (BQ c (J4 (.loop c) v) E (E' a b d)) (S' a b d) (Lv ⟨J4 (.loop c) v,v.ex,v.rt⟩ (Exit.then J (Lv v Q))))(hq:ZZ pins E S (BQ c (J4 (.loop c) v) E (E' z0.1 z0.2.1 z0.2.2)) (S' z0.1 z0.2.1 z0.2.2)=ZY (BQ c (J4 (.loop c) v) E (E' z0.1 z0.2.1 z0.2.2)) (S' z0.1 z0.2.1 z0.2.2):=by kernel_rfl)[Fm:Fz P L C pins]:AW P C nt (.loop c) E S (Lv v Q):=
 U3 (Q4B h (λz=>BQ c (J4 (.loop c) v) E (E' z.1 z.2.1 z.2.2)) (λz=>S' z.1 z.2.1 z.2.2) λagain z J g f=>round again z.1 z.2.1 z.2.2 J (λh=>g _ h) f) hq
end
end
end
end Go.Ab
