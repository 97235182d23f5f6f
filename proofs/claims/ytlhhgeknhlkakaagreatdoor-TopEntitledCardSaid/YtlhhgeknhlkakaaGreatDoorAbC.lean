/- Abstract states over the model. -/
import Derived.Test.YtlhhgeknhlkakaaGreatDoorAbB
import Derived.Test.YtlhhgeknhlkakaaGreatDoorPuA
import Derived.Sort.AssemblyPlain
import Derived.Lib.BitFns
import Derived.Shelf.SortM.Plain
import Derived.Shelf.SortM.SortNone
import Derived.Shelf.SlSortCmp.WholeK
import Derived.Shelf.SlSortCmp.NoneTotal
import Derived.WalkKit
import Derived.ProofKit
import Derived.OpenShut
import Derived.Carry
import Derived.ChangeSame
import Derived.ChangeSlices
import Derived.Laws.Small
import Derived.Laws.Entries
import Derived.Shelf.Spec.SlicesGrow
import Derived.Deep.Slices
import Derived.ChangeArms
import Derived.Maps.Own
import Derived.Lib.SlKeysI
import Derived.Shelf.SlIterI.Nil
import Derived.Maps.RangeRun
import Derived.Laws.IdiomRangeMap
import Derived.ChangeKeysEq
import Derived.LoopN
import Derived.Shelf.SlSortCmp.Whole1
set_option linter.unusedVariables false
set_option linter.unusedSimpArgs false
namespace Go.Ab
noncomputable section
variable {f n d k i es j id clock base:Nat}{r:AVal}{c:Code}{e t kT eT:TypeId}{w w' W:World}{η:Nat->Value}{b:Bool}{vs:Array Value}{P:Program}{x:Operand}{v:Value}{a:ByteArray}{fn:Func}{args:List AVal}{S' Si So S0:List (Nat×Obj)}{te:TI}{cs:List CV}{m:Nat->Nat}{rd ids caps:List Nat}{E:List (Nat×AVal)}{o:Oper}{y:Int}{rs:List Value}{pend:Option Nat}{ents:Array MapEntry}
section
section
variable {α:Type} [Emb α]
def clr(l:List α)(lo n:Nat):List α:=(List.range l.length).map λi=>if lo<=i/\i<lo+n then Emb.d else gl l i
theorem Q3N{f:Nat->List DVal}{N:Nat}(l:List α)(h:l.length=N)(hf:∀i,i<N->f i=Emb.cells (gl l i)):Is N f l:=by
 subst h;refine⟨rfl,λi a=>?_⟩
 rw[hf i a];rfl
theorem Z2H(N:Nat)(f:Nat->α)(i:Nat)(h:i<N):gl ((List.range N).map f) i=f i:=by simp[gl,Qa0,h]
theorem Is.clr{l:List α}(lo n:Nat){zd:List DVal}(hz:zd=Emb.cells (Emb.d:α)):Is l.length (λi=>if lo<=i/\i<lo+n then(λ_=>zd) (i-lo)else LF l i) (clr l lo n):=by
 refine Q3N _ (by simp[Go.Ab.clr]) λi a=>?_
 rw[Go.Ab.clr,Z2H _ _ _ a]
 by_cases h:lo<=i/\i<lo+n
 .grind
 .rw [Qa1 h,Qa1 h];rfl
end
end
section
open Go.Sort
def VM(l:List Int):Option (List Int):=if l.length<=Y6 then some (l.mergeSort λx y=>decide (x<=y))else none
theorem Q5Z{l r:List Int}(h:VM l=some r):l.length<=Y6/\r=l.mergeSort λx y=>decide (x<=y):=by
 unfold VM at h
 grind
def ZJ{α:Type}(cf:α->α->Int)(x y:α):Bool:=decide (cf x y<0)
section
variable {α:Type} [Emb α]
def ZA(cf:α->α->Int)(l:List α):List α:=(@pdq α ⟨Emb.d⟩ (ZJ cf) l.toArray 0 l.length (Lib.bitLen l.length) true true).toList
open Classical in
noncomputable def Jd(l:List α)(q:α->α->Option Int):Option (List α):=
 if h:l.length<=Y6/\∃cf:α->α->Int,SWO (ZJ cf)/\∀x y,q x y=some (cf x y)then some (ZA h.2.choose l)else none
theorem Q6g{l:List α}{q:α->α->Option Int}(cf:α->α->Int)(hl:l.length<=Y6)(hO:SWO (ZJ cf))(hq:∀x y,q x y=some (cf x y)):Jd l q=some (ZA cf l):=by
 have h:l.length<=Y6/\∃cf:α->α->Int,SWO (ZJ cf)/\∀x y,q x y=some (cf x y):=⟨hl,cf,hO,hq⟩;unfold Jd
 rw[Qt9 h];have e:h.2.choose=cf:=by
  grind
 rw[e]
theorem Q6f{l r:List α}{q:α->α->Option Int}(h:Jd l q=some r):l.length<=Y6/\∃cf:α->α->Int,SWO (ZJ cf)/\(∀x y,q x y=some (cf x y))/\r=ZA cf l:=by
 unfold Jd at h;split at h
 all_goals grind
end
section
variable {α:Type}
def Gs(q:α->α->Option Int)(a b:α):Prop:=∃z,q a b=some z/\z<0
def Gt(q:α->α->Option Int)(a b:α):Prop:=∃z,q a b=some z/\0<=z
structure SortedQ (q:α->α->Option Int) (x r:List α):Prop where
 perm:r.Perm x
 asc:r.Pairwise λa b=>Gs q a b/\Gt q b a
 self:∀a∈r,Gt q a a
theorem Gs.not{q:α->α->Option Int}{a b:α}(h:Gs q a b)(k:Gt q a b):False:=by
 obtain⟨z,e,h⟩:=h;obtain⟨d,c,f⟩:=k
 rw[e]at c;cases c;omega
theorem Z4I{q:α->α->Option Int}:∀{r r' : List α},r.Perm r' -> (r.Pairwise λa b=>Gs q a b/\Gt q b a)->(r'.Pairwise λa b=>Gs q a b/\Gt q b a)->r=r':=by
 intro r
 induction r with
 |nil=>intro r' c _ _;exact(List.Perm.nil_eq c)
 |cons a t ih=>
  intro r' c h e
  cases r' with
  |nil=>exact absurd c.length_eq (by simp)
  |cons b t' =>
   rw[Qd5]at h e;have d:a=b:=by
    rcases Qe1.1 (c.mem_iff.1 Qg5)with f|f
    .exact f
    .rcases Qe1.1 (c.mem_iff.2 Qg5)with g|g
     .exact g.symm
     .exact ((h.1 b g).1.not (e.1 a f).2).elim
   subst d;rw[ih ((List.perm_cons a).1 c) h.2 e.2]
theorem SortedQ.uniq{q:α->α->Option Int}{x r r' : List α}(h:SortedQ q x r)(h' : SortedQ q x r'):r=r':=Z4I (h.perm.trans h'.perm.symm) h.asc h'.asc
open Classical in
noncomputable def Jc(x:List α)(q:α->α->Option Int):Option (List α):=if h:x.length<=Y6/\∃r,SortedQ q x r then some h.2.choose else none
theorem Q6d{x r:List α}{q:α->α->Option Int}(hl:x.length<=Y6)(h:SortedQ q x r):Jc x q=some r:=by
 have a:x.length<=Y6/\∃r,SortedQ q x r:=⟨hl,r,h⟩;unfold Jc
 rw[Qt9 a,a.2.choose_spec.uniq h]
theorem Q6c{x r:List α}{q:α->α->Option Int}(h:Jc x q=some r):x.length<=Y6/\SortedQ q x r:=by
 unfold Jc at h;split at h
 .rename_i a;cases h;exact⟨a.1,a.2.choose_spec⟩
 .cases h
theorem SortedQ.at{q:α->α->Option Int}{x r:List α}(h:SortedQ q x r)(i j:Nat)(hi:i<r.length)(hj:j<r.length):(i<j->Gs q r[i] r[j])/\(j<=i->Gt q r[i] r[j]):=by
 have c:=Qd6.1 h.asc;refine⟨λa=>(c i j hi hj a).1,λa=>?_⟩
 rcases Qc8 j i with b|b
 .exact (c j i hj hi b).2
 .have:i=j:=by omega
  subst this;exact h.self _ (Qf6 hi)
end
def KV{α:Type}(n:Int):Option (List α):=if 0<=n/\n<=Y6 then some []else none
end
section
open Go.Sort Go.Proofs Go.Shelf
theorem yg{α:Type}[Inhabited α](enc:α->Value)(w:World)(b off n:Nat)(d:Array α)(os:Array Go.Obj){c:Array Value}{fz:Nat×Nat}(hb:w.heap[b]?=some (.cells c e fz)):
  (grow (putRow enc (Go.Sort.ahead w n) b off d) os).heap[b]?=some (.cells (putCells enc off d c) e fz):=by
 have a:b<w.heap.size:=J8 hb;unfold grow
 rw[Qg2];rw[Qa2 (by simpa using a)]
 unfold putRow mapBlock;simp only[Qf5,Qi8]
 show Option.map _ (w.heap[b]?)=_;rw[hb]
 rfl
theorem Dq{α:Type}[Inhabited α](enc:α->Value)(w:World)(b off n:Nat)(d:Array α)(os:Array Go.Obj):Stp (λx=>x=b) w (grow (putRow enc (Go.Sort.ahead w n) b off d) os):=by
 refine⟨rfl,rfl,rfl,by simp[Go.Sort.ahead],λx a c=>?_,Nat.le_add_right _ _⟩;unfold grow
 rw[Qg2];rw[Qa2 (by simpa[Go.Sort.ahead]using a)]
 unfold putRow mapBlock;simp only[Qf5]
 rw[Qa1 (Qw1 c)];rfl
theorem ql{α:Type}[Inhabited α](enc:α->Value)(off:Nat)(d:Array α)(c:Array Value):(putCells enc off d c).size=c.size:=by simp[putCells]
theorem vE{α:Type}[Inhabited α](enc:α->Value)(d:Array α)(c:Array Value)(j:Nat)(hj:j<d.size)(hs:d.size<=c.size):(putCells enc 0 d c).getD j undef=enc d[j]! := by
 have a:j<c.size:=by omega
 simp[putCells,a,hj]
theorem Q3G(l:List Int)(i:Nat):LF l i=[.int .i64 (l.getD i 0)]:=rfl
theorem FH{X:Nat->Prop}{α:Type}[Emb α]{l r:List α}{b cap:Nat}{c' : Array Value}(hη:η 0=.slice (some ⟨b,0,none⟩) n cap)(h0:0<cap)(hstp:Stp (fun x=>x=b) w w')(hh:w'.heap[b]?=some (.cells c' e (0,0)))(hs:c'.size=cap*Emb.es α)(hr:r.length=n)(hn:n<=cap)(hm:cap<=maxLen)(hd:∀ i j,i<n->j<Emb.es α->DRep w' X (c'.getD (i*Emb.es α+j) undef) ((LF r i).getD j .any))(hX:∀ x,X x->x<w.heap.size)(hXb:X b):
  Behind (Qk [(0,AO l)] w X η) .any [(0,AO r)] (.tuple #[]) η w':=by
 subst hr;have d:∀x,x∈V8 (η 0)↔x=b:=by intro x;rw[hη];simp[V8];omega
 have c:∀i o,ls [(0,AO (α:=α) r)] i=some o->i=0/\o=AO r:=by
  intro i o a;rw[Qe]at a
  by_cases h:i=0
  .grind
  .rw [Qa1 h]at a;cases a
 have p:∀x,x=b->(Qk [(0,AO (α:=α) l)] w X η).M x:=by
  rintro x rfl;exact⟨0,AO l,by rw[Qe,Qa2 rfl],rfl,(d _).2 rfl⟩
 have k:∀x,XS (Qk [(0,AO (α:=α) l)] w X η) (ls [(0,AO (α:=α) r)]) η x->X x:=by
  rintro x (⟨f,_⟩|⟨i,o,a,hib⟩)
  .exact f
  all_goals grind
 refine⟨hstp.mono λx _ f=>p x f,.any _,λi o a=>?_,λi j x a g _ _=>?_,λi o x a s=>?_,λi v a=>?_⟩
 .obtain ⟨rfl,rfl⟩:=c i o a
  rw[hη];refine .arr b _ cap _ c' e _ hh hs hn hm h0 (Is.refl r).len λi j a g=>?_
  exact(hd i j a g).mono λx _ f=>⟨rfl,λm=>f (k x m)⟩
 .obtain ⟨q,a⟩:=Qa9.1 a
  obtain⟨t,g⟩:=Qa9.1 g;rw[(c i q a).1,(c j t g).1]
 .obtain ⟨rfl,rfl⟩:=c i o a
  exact .inr (.inl (p x ((d x).1 s)))
 .change (if((List.lookup i [(0,AO (α:=α) l)]).isSome=true)then some (η i)else none)=some v at a
  split at a
  .cases a;rfl
  .cases a
theorem xP{X:Nat->Prop}{α:Type}[Emb α]{l:List α}{ad:Option Addr}(hη:η 0=.slice ad 0 0)(hX:∀ x,X x->x<w.heap.size):
  Behind (Qk [(0,AO l)] w X η) .any [(0,AO ([]:List α))] (.tuple #[]) η w:=by
 have c:∀x,x∉V8 (η 0):=by intro x;rw[hη];cases ad<;>simp[V8]
 have b:∀i o,ls [(0,AO ([]:List α))] i=some o->i=0/\o=AO ([]:List α):=by
  intro i o a;rw[Qe]at a
  by_cases h:i=0
  .grind
  .rw [Qa1 h]at a;cases a
 refine⟨Stp.refl _ _,.any _,λi o a=>?_,λi j x a d _ _=>?_,λi o x a e=>?_,λi v a=>?_⟩
 .obtain ⟨rfl,rfl⟩:=b i o a
  rw[hη];exact .nil _ _ _
 .obtain ⟨f,a⟩:=Qa9.1 a
  obtain⟨g,d⟩:=Qa9.1 d;rw[(b i f a).1,(b j g d).1]
 .obtain ⟨rfl,rfl⟩:=b i o a
  exact absurd e (c x)
 .change (if((List.lookup i [(0,AO (α:=α) l)]).isSome=true)then some (η i)else none)=some v at a
  split at a
  .cases a;rfl
  .cases a
theorem Q4q(h:vs.size=1):vs=#[vs.getD 0 undef]:=by
 apply Array.ext
 .simpa using h
 .intro i a b
  have:i=0:=by omega
  subst this;simp[a]
theorem Lk(h:vs.size=2):vs=#[vs.getD 0 undef,vs.getD 1 undef]:=by
 apply Array.ext
 .simpa using h
 .intro i a b
  have:i=0\/i=1:=by omega
  rcases this with rfl|rfl<;>simp[a]
theorem Q6b{ρ:Ren}(Ly:SlLaysM.n5 P ρ){x r:List Int}(h:VM x=some r):G4 P (ρ.f 5) [.v (.c (.own 0))] [(0,AO (α:=Int) x)] .any [(0,AO (α:=Int) r)]:=by
 obtain⟨T,rfl⟩:=Q5Z h;intro w X η M K k t Q g o
 have g:M.size=1:=g;have E:M.getD 0 undef=η 0:=WE (C:=Qk [(0,AO (α:=Int) x)] w X η) (s:=ls [(0,AO (α:=Int) x)]) (by have:=o 0 (by simp);rw[Dv k];exact this)
 rw[Q4q g,E];have A:=t 0 (AO x) (by rw[Qe,Qa2 rfl])
 have I:∀b,b∈V8 (η 0)->X b:=λb F=>k b ⟨0,_,by rw[Qe,Qa2 rfl],F⟩
 generalize hu:η 0=u at A;unfold AO at A
 generalize hn:x.length=n at A
 cases A with
 |nil ad=>
  have O:x=[]:=Qd9 hn;refine(AnyM.slices_Sort_int_none Ly ad 0 w).mono λe N H=>?_
  obtain⟨U,D⟩:=H;refine⟨_,η,U,?_⟩
  rw[D];have F:=xP (w:=w) (X:=X) (l:=x) hu K
  subst O;simpa using F
 |arr b _ cap _ c e _ h1 h2 h3 h4 h5 h6 h7=>
  have d:Emb.es Int=1:=rfl
  rename_i n
  have m:∀j,j<n->c.getD j undef=.int .i64 (x.getD j 0):=by
   intro j p;have:=h7 j 0 p (by rw[d];omega)
   rw[d,Qv8,Ql2,Q3G]at this;have L:DRep w X (c.getD j undef) (.int .i64 (x.getD j 0)):=this
   generalize c.getD j undef=u at L
   cases L;rfl
  have W:c.size=cap:=by rw[h2,d,Qv8]
  have V:Holds (Value.int .i64) w b 0 x.toArray:=by
   intro j p;have J : j<n:=by simpa[hn]using p
   have B:j<x.length:=by omega
   have z:j<c.size:=by omega
   refine⟨?_,by simp[World.frozen?,h1]⟩;have:=m j J
   simp only[Qd2,World.cell?,h1,Qs7,Qi1,Qi0];simp only[z,Array.getD,dite_true]at this
   rw[Qe7 z];congr 1
   refine Eq.trans this ?_;simp[B]
  rw[<-hn];refine((AnyM.slices_Sort_int Ly b 0 cap x w V (J8 h1) (by simp only[Y6]at T;omega)).mono λY N H=>?_)
  .obtain ⟨rfl,q,Z,D⟩:=H
   subst D;refine⟨_,η,rfl,?_⟩
   have a:(x.mergeSort λx y=>decide (x<=y)).length=n:=by rw[Qn4];exact hn
   refine FH (c':=putCells (Value.int .i64) 0 (x.mergeSort λx y=>decide (x<=y)).toArray c) (e:=e) (b:=b) (n:=n) (cap:=cap) hu h5 (Dq _ _ _ _ _ _ _) (yg _ _ _ _ _ _ _ h1) (by rw[ql];exact h2) a h3 h4 (λi j R p=>?_) K (I b (by rw[hu];simp[V8];omega));have G:j=0:=by rw[d]at p;omega
   subst G;rw[d,Qv8,Ql2,vE _ _ _ _ (by simpa[a]using R) (by simp only[Ql7,a];omega),Q3G]
   have:i<(x.mergeSort λx y=>decide (x<=y)).length:=by omega
   have S:(x.mergeSort λx y=>decide (x<=y)).toArray[i]! = (x.mergeSort λx y=>decide (x<=y)).getD i 0:=by
    simp[Qa0,this]
   rw[S];exact .int _ _
end
section
open Go.Sort Go.Proofs Go.Shelf
def DVal.lit:DVal->Bool
 |.int _ _=>true
 |.bool _=>true
 |.str _=>true
 |_=>false
def DVal.val:DVal->Value
 |.int k n=>.int k n
 |.bool b=>.bool b
 |.str s=>.string s
 |_=>undef
theorem DRep.lit{X:Nat->Prop}{d:DVal}(h:DRep w X v d)(hd:d.lit=true):v=d.val:=by
 cases h<;>first|rfl|cases hd
theorem DVal.rep(w:World)(X:Nat->Prop){d:DVal}(hd:d.lit=true):DRep w X d.val d:=by
 cases d with
 |int k n=>exact .int k n
 |bool b=>exact .bool b
 |str s=>exact .str s
 |_=>cases hd
theorem Z5V{d:DVal}(hd:d.lit=true):d.val.oneCell'=true:=by
 cases d<;>first|rfl|cases hd
theorem gF(h:Stp (λ_=>False) w w'):∃q os,w'=grow (w.drewN q) os:=by
 refine⟨w'.drawn-w.drawn,w'.heap.extract w.heap.size w'.heap.size,?_⟩;have d:w'.heap=w.heap++w'.heap.extract w.heap.size w'.heap.size:=by
  apply Array.ext_getElem?;intro k
  rw[Qg2];split
  .rename_i a;exact h.block k a λc=>c
  all_goals grind
 have e:=h.dr;have b:w'=⟨w'.heap,w'.tape,w'.drawn,w'.os,w'.output⟩:=rfl
 rw[b,h.tape,h.os,h.output];unfold grow World.drewN
 congr 1
 simp only
 omega
theorem DS{β:Type}(l:List β)(j:Nat)(h:j<l.length)(d:β):l.getD j d=l[j]:=by
 grind
theorem Q6h{α:Type}[Emb α]{P:Program}{L:Lay}(hL:Qi P L){ρ:Ren}(Ly:SlLaysF0.n6 P ρ)(hlit:∀ x:α,(Emb.cells x).all DVal.lit=true){te:TI}(hte:L (ρ.t 24)=some te)(hagg:te.kind.agg=true)(hsz:te.size=Emb.es α)(F:(α->α->Option Int)->List AVal->AVal->Prop)(hF:∀ q x y z,q x y=some z->F q [.v (.g ((Emb.cells x).map .d)),.v (.g ((Emb.cells y).map .d))] (vi z)){x r:List α}{q:α->α->Option Int}(h:Jd x q=some r):
  G4 P (ρ.f 6) [.v (.c (.own 0)),Yl P (F q)] [(0,AO (α:=α) x)] .any [(0,AO (α:=α) r)]:=by
 obtain⟨hl,o,hO,hq,rfl⟩:=Q6f h;obtain⟨ti,td,tz,S⟩:=hL _ _ hte
 letI inst:Inhabited α:=⟨Emb.d⟩
 let enc:α->List Value:=λx=>(Emb.cells x).map DVal.val
 have hk:∀x,(enc x).length=Emb.es α:=λx=>by simp[enc,Emb.len]
 have h1:∀x,∀v∈enc x,v.oneCell'=true:=by
  intro x v hv;obtain⟨d,hd,rfl⟩:=Qc7.1 hv
  exact Z5V (Qb8.1 (hlit x) d hd)
 intro w X η vs hX H a1 f1 A B;have A:vs.size=2:=A
 have b2:vs.getD 0 undef=η 0:=WE (C:=Qk [(0,AO (α:=α) x)] w X η) (s:=ls [(0,AO (α:=α) x)]) (by have:=B 0 (by simp);rw[Dv H];exact this);have b9:Qp P (F q) w (Own (ls [(0,AO (α:=α) x)]) η) X (vs.getD 1 undef):=by
  have:=B 1 (by simp)
  change ARep w X η _ (vs.getD 1 undef) (Yl P (F q))at this;generalize vs.getD 1 undef=u at this
  cases this with|v _ _ a=>cases a with|c _ _ a=>cases a with|sem _ _ a _=>exact a
 rw[Lk A,b2];have ho:=a1 0 (AO x) (by rw[Qe,Qa2 rfl])
 have b8:∀b,b∈V8 (η 0)->X b:=λb hb=>H b ⟨0,_,by rw[Qe,Qa2 rfl],hb⟩
 generalize hu:η 0=u at ho;have p:(ZA o x).length=x.length:=by
  have:=(pdq_sorts (ZJ o) hO x.toArray 0 x.length (Lib.bitLen x.length) true true (Qc2 _) (by simp) (.inl rfl)).1.1
  unfold ZA
  grind
 unfold AO at ho;generalize hn:x.length=n at ho
 cases ho with
 |nil ad=>
  have hx:x=[]:=Qd9 hn;refine(AnyF.slices_SortFunc_none Ly ad 0 _ w).mono λe w' a=>?_
  obtain⟨T,hw⟩:=a;refine⟨_,η,T,?_⟩
  rw[hw];have hb:=xP (w:=w) (X:=X) (l:=x) hu hX
  grind
 |arr b _ cap _ c e _ g1 g2 g3 g4 g5 g6 g7=>
  rename_i n
  obtain⟨Z,I,b0,K,R⟩:=b9;rw[b0]
  have c3:∀i,i<n->(LF x i)=Emb.cells (x.getD i Emb.d):=λi _=>rfl
  have O:∀i j,i<n->j<Emb.es α->c.getD (i*Emb.es α+j) undef=(enc (x.getD i Emb.d)).getD j undef:=by
   intro i j hi D;have h0:=g7 i j hi D
   have k : j<(Emb.cells (x.getD i Emb.d)).length:=by rw[Emb.len];exact D
   have e1:(LF x i).getD j .any=(Emb.cells (x.getD i Emb.d))[j]:=DS _ _ k _;rw[e1]at h0
   have h2:=h0.lit (Qb8.1 (hlit _) _ (Qf6 k))
   grind
  have Q:∀t,t<n*Emb.es α->c.getD t undef=(flatK enc (Emb.es α) x.toArray)[t]! := by
   intro t ht;have V:0<Emb.es α:=by
    grind
   have p1:t / Emb.es α<n:=Qw4 (by rw[Qu0];exact ht);have p2:t % Emb.es α<Emb.es α:=Qt4 _ V
   have:=O _ _ p1 p2
   rw[show t / Emb.es α*Emb.es α+t % Emb.es α=t from by rw[Qu0];exact Nat.div_add_mod t _]at this;rw[this,get_flatK _ _ _ _ (by simpa[hn]using ht)]
   grind
  have hH:HoldsK enc (Emb.es α) w b 0 x.toArray:=by
   intro t ht;have a9 : t<n*Emb.es α:=by simpa[hn]using ht
   have U:t<c.size:=by
    have:n*Emb.es α<=cap*Emb.es α:=Qb4 _ g3
    omega
   refine⟨?_,by simp[World.frozen?,g1]⟩;have:=Q t a9
   simp only[Qd2,World.cell?,g1,Qs7,Qi1,Qi0,id];rw[Qe7 U]
   congr 1
   rw[<-this];simp[U]
  have G:b∈V8 (η 0):=by rw[hu];simp[V8];omega
  have W:CmpLays P Z I enc (Emb.es α) o b 0 x.toArray.size w:=by
   intro m os dk f6 u v;have M:=Dq id w b 0 m (flatK enc (Emb.es α) dk) os
   have E:∀(w1:World) (z:α) η C,ARep w1 X η C (.agg (enc z).toArray) (.v (.g ((Emb.cells z).map .d))):=by
    intro w1 z η' C';refine .v _ _ (.g _ _ ⟨by simp[enc],λj D=>?_⟩)
    have k : j<(Emb.cells z).length:=by simpa using D
    have e1:(enc z).toArray.getD j undef=((Emb.cells z)[j]).val:=by
     have:(enc z).toArray.getD j undef=(enc z).getD j undef:=by simp[Qa0]
     grind
    have e2:((Emb.cells z).map CV.d).getD j (.d .any)=.d ((Emb.cells z)[j]):=by rw[DS _ j (by simpa using k)];simp
    rw[e1,e2];exact .d _ _ (DVal.rep _ _ (Qb8.1 (hlit z) _ (Qf6 k)))
   refine(R (grow (putRow id (Go.Sort.ahead w m) b 0 (flatK enc (Emb.es α) dk)) os) X #[.agg (enc u).toArray,.agg (enc v).toArray] _ _ (hF q u v (o u v) (hq u v)) M.size (λy hy hD=>M.block y hy λe=>hD ?_)
    (λy hy=>Qc4 (hX y hy) M.size) (λy _ _=>Iff.rfl) rfl (λj D η C=>?_)).mono λe2 w2 a=>?_
   .rw [e];exact⟨0,_,by rw[Qe,Qa2 rfl],G⟩
   .have:j=0\/j=1:=by simp at D;omega
    rcases this with rfl|rfl
    .exact E _ _ _ _
    .exact E _ _ _ _
   .obtain ⟨v',T,b4,hr⟩:=a
    have b7:=hr η (Qk [] w X η);have e3:v'=.int .i64 (o u v):=by
     cases b7 with|v _ _ a=>cases a with|c _ _ a=>cases a with|d _ _ a=>cases a;rfl
    obtain⟨qq,a8,b5⟩:=gF b4;exact⟨by rw[T,e3],qq,a8,b5⟩
  rw[<-hn];have N:=AnyQ.slices_SortFunc_eq Ly (Emb.es α) (λw=>by rw[Ry S w,hagg]) (λw=>by rw[Yu S,hsz]) enc hk h1 o hO Z I b 0 cap x.toArray w K W hH (J8 g1) (by simp only[Ql7];simp only[Y6]at hl;omega)
  refine N.mono λe' w' a=>?_
  obtain⟨T,nn,os,hw⟩:=a;refine⟨_,η,T,?_⟩
  have a7:w'=grow (putRow id (Go.Sort.ahead w nn) b 0 (flatK enc (Emb.es α) (ZA o x).toArray)) os:=hw;rw[a7]
  refine FH (c':=putCells id 0 (flatK enc (Emb.es α) (ZA o x).toArray) c) (e:=e) (b:=b) (n:=n) (cap:=cap) hu g5 (Dq _ _ _ _ _ _ _) (yg _ _ _ _ _ _ _ g1) (by rw[ql];exact g2) (by rw[p,hn]) g3 g4 (λi j hi D=>?_) hX (b8 b G);have Y:i*Emb.es α+j<n*Emb.es α:=by
   have:(i+1)*Emb.es α<=n*Emb.es α:=Qb4 _ hi
   grind
  have J:(flatK enc (Emb.es α) (ZA o x).toArray).size=n*Emb.es α:=by simp[p,hn]
  rw[vE _ _ _ _ (by rw[J];exact Y) (by rw[J,g2];exact Qb4 _ g3)];rw[get_flatK _ _ _ _ (by simpa[p,hn]using Y)]
  have d1:(i*Emb.es α+j) / Emb.es α=i:=by
   rw[Qn0,Nat.add_mul_div_right _ _ (by omega),Nat.div_eq_of_lt D,Qd2]
  have d2:(i*Emb.es α+j) % Emb.es α=j:=by rw[Qn0,Qo4,Qq3 D]
  rw[d1,d2];have e4:(ZA o x).toArray[i]! = (ZA o x).getD i Emb.d:=by
   grind
  rw[e4];have k : j<(Emb.cells ((ZA o x).getD i Emb.d)).length:=by rw[Emb.len];exact D
  have e5:(enc ((ZA o x).getD i Emb.d))[j]! = ((Emb.cells ((ZA o x).getD i Emb.d))[j]).val:=by
   grind
  have e6:(LF (ZA o x) i).getD j .any=(Emb.cells ((ZA o x).getD i Emb.d))[j]:=DS _ _ k _;rw[e5,e6]
  exact DVal.rep _ _ (Qb8.1 (hlit _) _ (Qf6 k))
end
section
open Go.ChangeShapes Go.WideShapes Go.ChangeAt Go.RowKit
theorem Q2Y{a:Addr}(h:w.cell? a=some v):a.spot=none/\∃c e fz,w.heap[a.block]?=some (.cells c e fz)/\a.off<c.size/\c.getD a.off undef=v:=by
 unfold World.cell? at h;split at h
 .rename_i c e fz g
  split at h
  .cases h
  .rename_i f
   obtain⟨b,d⟩:=Qh3.1 h;exact⟨by simpa using f,c,e,fz,g,b,by simp[b,d]⟩
 .cases h
theorem Z4T(b o i:Nat):(⟨b,o,none⟩:Addr).add i=⟨b,o+i,none⟩:=add_lit b o i
theorem Z3Z{a:Addr}{len cap:Nat}{zs:List Int}(hl:len<=cap)(hz:len<=zs.length)(hc:∀ i,i<zs.length->w.cell? (a.add i)=some (.int .i64 (zs.getD i 0))):
  DRep w (λ_=>False) (.slice (some a) len cap) (DL (α:=Int) (zs.take len)):=by
 have o:(zs.take len).length=len:=by simp;omega
 unfold DL;rw[o]
 by_cases h0:len=0
 .subst h0;exact .nil _ _ _
 .have l:a.spot=none:=by
   have:=(Q2Y (hc 0 (by omega))).1
   cases hsp:a.spot with
   |none=>rfl
   |some s=>simp[Addr.add,hsp]at this
  obtain⟨b,d,q⟩:=a;simp only at l
  subst l;have k : ∀i,i<zs.length->∃c e fz,w.heap[b]?=some (.cells c e fz)/\d+i<c.size/\c.getD (d+i) undef=.int .i64 (zs.getD i 0):=by
   intro i g;have:=hc i g
   rw[Z4T]at this;exact(Q2Y this).2
  obtain⟨c,e,fz,n,_,_⟩:=k 0 (by omega);have f:∀i,i<zs.length->d+i<c.size/\c.getD (d+i) undef=.int .i64 (zs.getD i 0):=by
   grind
  refine .lst b d len cap c e fz _ 1 (λh=>h) n hl (by have:=(f (len-1) (by omega)).1;omega) (λi _=>rfl) λi j g r=>?_
  have:j=0:=by omega
  subst this;rw[Qv8,Ql2,(f i (by omega)).2]
  have m:((LF (zs.take len) i).getD 0 .any)=.int .i64 ((zs.take len).getD i 0):=rfl;rw[m]
  have p:(zs.take len).getD i 0=zs.getD i 0:=by simp[Qa0,Qj4,g]
  rw[p];exact .int _ _
theorem Z0E{H:Type}{enc:TypeId×Value->H}{d:DataW H}{ps:List MemPlace}(ht:P.underlying t=some (.slice e))(he:P.underlying e=some (.int .i64))(hc:P.cellsOf e=1){r:Reach}{b0:Nat}(hv:Value.okWide P W r b0 t v)(hd:DataW.Trod enc P W 0 (λ_=>true) true t v d ps):∃l:List Int,DRep W (λ_=>False) v (DL l)/\∀n∈l,(Lit.int .i64 n).wf=true:=by
 obtain⟨k,o⟩:=hd;obtain⟨u,f,s,rfl⟩:=okWide_slice ht hv
 rcases open_ints ht he hc o with ⟨b,p⟩|⟨a,i,j,zs,b,x,m,w,q,p,c,g⟩
 .simp [Value.cells]at b
  obtain⟨rfl,rfl,rfl⟩:=b;exact⟨[],.nil _ _ _,λn h=>by cases h⟩
 .simp [Value.cells]at b
  obtain⟨rfl,rfl,rfl⟩:=b;simp only[Qi8]at q
  exact⟨zs.take f,Z3Z m (by omega) c,λn h=>g n (Qh5 h)⟩
theorem kR{H:Type}{enc:TypeId×Value->H}{P:Program}(hl:laidOutB P=true){W W' : World}(hb:Below W.heap.size W W'):∀ {ts:List TypeId} {vs:List Value} {ds:List (DataW H)} {ps:List MemPlace},
  ts.all (λt=>P.readableRec t&&decide (t<P.types.size))=true->DataW.TrodAll enc P W 0 (λ_=>true) true ts vs ds ps->(∀x∈ps,x.block<W.heap.size)->∀sp:Nat->Bool,(∀x∈ps,sp x.block=true)->DataW.TrodAll enc P W' 0 sp true ts vs ds ps
 |[],[],[],_,_,h,_,_,_=>h
 |t::ts,v::vs,d::ds,ps,hr,⟨p,q,h1,h2,e⟩,hlt,sp,hs=>by
  simp only[Qs9,Qa4,Qb7]at hr;subst e
  exact⟨p,q,WideElems.Trod_stays hl hr.1.1 hr.1.2 h1 (λx a=>hb.same (hlt x (Qo0 _ a))) (λx a=>hs x (Qo0 _ a)),
   kR hl hb hr.2 h2 (λx a=>hlt x (Qn5 _ a)) sp (λx a=>hs x (Qn5 _ a)),rfl⟩
theorem Z0f{H:Type}{enc:TypeId×Value->H}(hl:laidOutB P=true){s:ChangeSpec}{W': World}{args:Array Value}{ds gs:List (DataW H)}{before:List MemPlace}{apart fresh handsOn again:Bool}(hW:DataW.Whole enc P fn.params.toList s.vars apart W args.toList ds gs before)(hv:s.vars=[])(hs:s.fn H (ds++gs)={results:=[.lit (.bool true)],args:=ds})(hr:fn.params.toList.all (λt=>P.readableRec t&&decide (t<P.types.size))=true)(hres:fn.resultTypes=#[t])(ht:P.underlying t=some .bool)(hb:Below W.heap.size W W'):s.post enc P fn apart fresh handsOn again W args (.bool true) W':=by
 have g:=hW.lt;have i:=hW
 obtain⟨p,q,w,v,o,y,B⟩:=hW;rw[hv]at v
 obtain⟨rfl,rfl⟩:=trodVars_none v;rw[Qi2]at o
 subst o;have n:∀(j:Nat) (t' : TypeId) (r:Value),fn.resultTypes[j]?=some t' -> ((Value.bool true).resultList fn.resultTypes.size)[j]?=some r->Value.okWide P W' .any 0 t' r:=ok_one hres rfl (okWide_bool_mk ht _)
 have h:∀x∈before,(λb=>decide (b<W.heap.size)) x.block=true:=λx d=>by simpa using g x d
 have e:∀a:Nat->Bool,(∀x∈before,a x.block=true)->DataW.TrodAll enc P W' 0 a true fn.params.toList args.toList (s.fn H (ds++[])).args before:=λa m=>by
  rw[hs];exact kR hl hb hr w g a m
 have f:∀(b:Nat) (a:Nat->Bool) (u:Bool),DataW.TrodAll enc P W' b a u fn.resultTypes.toList ((Value.bool true).resultList fn.resultTypes.size) (s.fn H (ds++[])).results []:=λb a u=>by
  rw[hs,hres];exact trodAll_cons_mk (shut_bool ht _) trodAll_mk0
 have c:∀a:Nat->Bool,DataW.TrodVars enc P W' a s.vars (s.fn H (ds++[])).vars []:=λa=>by
  rw[hs,hv];exact rfl
 refine⟨ds,_,before,[],before,[],i,f _ _ _,e _ h,c _,World.keptBut_mono (λx d=>⟨d,by simpa using d⟩) (hb.frame (·∈before)),λ_=>⟨n,?_⟩⟩;obtain⟨_,_,_,_,_,A,C⟩:=i
 refine⟨_,_,([]++before)++[],⟨[]++before,[],trodAll_append (e _ λ_ _=>rfl) (f _ _ _),c _,rfl,λb l d=>?_,λz=>?_⟩,λx d _=>?_⟩
 .have k:MemPlace.cell b l∈before:=by simpa using d
  rw[hb.frozen (g _ k)];exact A b l k
 .simpa using C z
 .simpa using d
theorem Z0g{H:Type}{enc:TypeId×Value->H}(hl:laidOutB P=true){s:ChangeSpec}{W': World}{args:Array Value}{ds gs:List (DataW H)}{before:List MemPlace}{apart fresh handsOn again:Bool}(hW:DataW.Whole enc P fn.params.toList s.vars apart W args.toList ds gs before)(hv:s.vars=[])(hs:s.fn H (ds++gs)={results:=[.lit (.bool true)],args:=ds})(hr:fn.params.toList.all (λt=>P.readableRec t&&decide (t<P.types.size))=true)(hres:fn.resultTypes=#[t])(ht:P.underlying t=some .bool)(hstp:Stp (λ_=>False) W W'):s.post enc P fn apart fresh handsOn again W args (.bool true) W' :=
 Z0f hl hW hv hs hr hres ht (hstp.below _ (Qb3 _) λ_ _ h=>h)
end
section
section
variable {P:Program} {C:Ctx} {nt:Nat} {L:Lay} {ops:Array Oper} {ds:List Dir} {e:U8} {s:J0}
end
end
section
def ci(n:Int):CV:=.d (.int .i64 n)
def gC{α:Type}[Emb α](x:α):List CV:=(Emb.cells x).map .d
def gE{α:Type}[Emb α](x:α):AVal:=.v (.g (gC x))
section
variable {P:Program} {C:Ctx} {nt:Nat} {L:Lay} {pins:List Nat} {E:List (Nat×AVal)} {S:List (Nat×Obj)} {Q:Exit->Act->World->Prop}
variable {K:Act->World->Prop}
theorem Q3H(Fm:Fr P L C pins)(E' : List (Nat×AVal))(S' : List (Nat×Obj))(hq:(pins.all (λi=>J3 [] i==i),E'.map (λp=>lk E p.1),S'.map (λp=>ls S (J3 [] p.1)),ZV (S'.map λp=>J3 [] p.1))=(true,E'.map (λp=>p.2.ren (J3 [])),S'.map (λp=>some (p.2.ren (J3 []))),true))(h:Kn C nt E' S' K):Kn C nt E S K:=
 kb Fm [] E' S' (congrArg (·.1) hq) (congrArg (·.2.1) hq) (congrArg (·.2.2.1) hq) (congrArg (·.2.2.2) hq) h
theorem Qj(Fm:Fr P L C pins)(hq:(VQ L (lk E) (ls S) fn.results.toList,S'.map (λp=>ls S p.1))=(some r,S'.map (λp=>some p.2))):Kn C nt E S (Ws P fn C r S' .ret):=
 Q3I Fm (congrArg (·.1) hq) (congrArg (·.2) hq)
end
section
variable {P:Program} {C:Ctx} {nt:Nat} {L:Lay} {ops:Array Oper} {ds:List Dir} {e:U8} {s:J0}
theorem Z5P(hspec:G4 P f args Si r So)(hcall:∀ args w,(callFunc f args).run P w=.ok (.enter f args) w)(m:List (Nat×Nat))(hk:QA ds k=cE m [] r Si So)(hq:(Go.Ab.callB ops nt (J4 L ops ops.toList ds e s k) (U2 ops.toList k) f m r Si So,Si.map (fun p=>QM L ops ops.toList ds e s k (J3 m p.1)),
   (Go.Ab.callXs (U2 ops.toList k)).toList.all (QD (QG (U2 ops.toList k)++Qt ops (U2 ops.toList k)))&&args.all AVal.noSem,(Go.Ab.callXs (U2 ops.toList k)).toList.map (Y5 (J4 L ops ops.toList ds e s k)))
   = (true,Si.map (λp=>some (p.2.ren (J3 m))),true,args.map (AVal.ren (J3 m)))):G2 P C nt L ops ds e s k:=
 Z5S hspec hcall m hk (congrArg (·.1) hq) (congrArg (·.2.1) hq) (congrArg (·.2.2.1) hq) (congrArg (·.2.2.2) hq)
end
end
section
open Go.Proofs Go.Shelf
theorem vt{α:Type}[Emb α]{L:Lay}(hL:Qi P L){ρ:Ren}(Ly:Lays8.n4 P ρ)(hte:L (ρ.t 25)=some te)(hsz:te.size=Emb.es α)(hpos:0<te.size)(hby:te.bytes<=8192)(hzl:te.zero.length=te.size){n:Int}{r:List α}(h:KV n=some r):G4 P (ρ.f 4) [.v (.c (.fl 0 λ_=>[])),vi n] [] (.v (.c (.own 100))) [(100,AO (α:=α) r)]:=by
 unfold KV at h;split at h
 case isFalse=>cases h
 rename_i hn
 cases h
 obtain⟨J,d0,I,k⟩:=hL _ _ hte;intro w X η D hX V Y a0 p q
 have p:D.size=2:=p;have A:∃B,D.getD 0 undef=.slice B 0 0:=by
  have:=q 0 (by simp)
  change ARep w X η _ (D.getD 0 undef) (.v (.c (.fl 0 λ_=>[])))at this;generalize D.getD 0 undef=u at this
  cases this with|v _ _ l=>cases l with|c _ _ l=>cases l with|fl a _ _ _=>exact⟨a,rfl⟩
 have U:D.getD 1 undef=.int .i64 n:=by
  have:=q 1 (by simp)
  change ARep w X η _ (D.getD 1 undef) (.v (.c (.d (.int .i64 n))))at this;generalize D.getD 1 undef=u at this
  cases this with|v _ _ l=>cases l with|c _ _ l=>cases l with|d _ _ l=>cases l;rfl
 obtain⟨B,A⟩:=A;rw[Lk p,A,U]
 obtain⟨m,rfl⟩:∃m:Nat,n=m:=⟨n.toNat,by omega⟩;have O:m<=Y6:=by omega
 have g:∀i o,ls [(100,AO (α:=α) [])] i=some o->i=100/\o=AO (α:=α) []:=by
  intro i o b;rw[Qe]at b
  by_cases h:i=100
  .grind
  .rw [Qa1 h]at b;cases b
 rcases Qj8 m with W|W
 .subst W
  refine(Any8.slices_Grow_room Ly B 0 0 0 w (Qb3 _) (by omega) (by omega) (Qb3 _)).mono λe Z l=>?_
  obtain⟨T,N⟩:=l;refine⟨_,λ_=>.slice B 0 0,T,?_⟩
  rw[N];have y:∀x,x∉V8 (.slice B 0 0):=by intro x;cases B<;>simp[V8]
  refine⟨Stp.refl _ _,.v _ _ (.c _ _ (.own _ _ rfl rfl)),λi o b=>?_,λi j x b F z _=>absurd z (y x),λi o x b z=>absurd z (y x),λi v b=>?_⟩
  .obtain ⟨rfl,rfl⟩:=g i o b
   exact .nil _ _ _
  .change (if((List.lookup i ([]:List (Nat×Obj))).isSome=true)then some (η i)else none)=some v at b
   cases b
 .have H:(0+m)*J.bytes<=140737488355328:=by
   have h1:(0+m)*J.bytes<=4294967296*8192:=Qn1 (by simp only[Y6]at O;omega) (by rw[k.bytes];exact hby);omega
  refine(Any8.slices_Grow_grow Ly J I k.info k.zero (by rw[k.size];exact hpos) B 0 0 m [] w (Qb3 _) (by omega) H (by simp only[Y6]at O;omega) (by simp) (λ_=>rfl) (λ_ _ _ _ F=>by simp at F)).mono λe Z l=>?_
  obtain⟨T,N⟩:=l;have hG:m<=grownCap w (0+m) 0 (ρ.t 25):=by have:=Qs4 w (0+m) 0 (ρ.t 25);omega
  have M:=Qp1 w (0+m) 0 (ρ.t 25) (by simp only[Y6]at O;simp only[maxLen];omega);generalize grownCap w (0+m) 0 (ρ.t 25)=G at *
  refine⟨_,λ_=>.slice (some ⟨w.heap.size,0,none⟩) 0 G,T,?_⟩;rw[N]
  have R:I.cells.size=J.size:=by rw[(k.zrep w (λ_=>False) η (Qk [] w X η)).1,hzl,k.size]
  refine⟨(Stp.drew _ _).trans (Stp.alloc _ _ _),.v _ _ (.c _ _ (.own _ _ rfl rfl)),λi o b=>?_,λi j x b F _ _=>?_,λi o x b z=>?_,λi v b=>?_⟩
  .obtain ⟨rfl,rfl⟩:=g i o b
   refine .arr w.heap.size 0 G _ (([]:List Value).toArray++Builtin.zeroCells I.cells (0+m-0)++Builtin.zeroCells I.cells (G-(0+m))) (ρ.t 25) _ (heap_alloc_new w.drew _) ?_ (Qc2 _) M (by omega) (λi b=>absurd b (Qd7 i)) λi j b=>absurd b (Qd7 i)
   rw[Qt0,Qt0,Qs0,Qs0,R,k.size, <-hsz];have e1:(([]:List Value).toArray).size=0:=rfl
   rw[e1,Qd2, <-Qg8];congr 1
   omega
  .obtain ⟨oi,b⟩:=Qa9.1 b
   obtain⟨oj,F⟩:=Qa9.1 F;rw[(g i oi b).1,(g j oj F).1]
  .have:x=w.heap.size:=by
    have z:x∈V8 (.slice (some ⟨w.heap.size,0,none⟩) 0 G):=z;simp[V8]at z
    exact z.2
   subst this;exact .inr (.inr (Qb3 _))
  .change (if((List.lookup i ([]:List (Nat×Obj))).isSome=true)then some (η i)else none)=some v at b
   cases b
end
section
def Pg(P:Program)(x:CV):Prop:=x.closed=true\/∃F,x=.sem (Qp P F)
section
variable {w:World} {X:Nat->Prop} {η η' : Nat->Value} {C C' : Ctx} {P:Program}
theorem Qf.port(h:Qf w X η C vs cs)(H:∀F v,Qp P F C.w0 C.D C.X v->Qp P F C'.w0 C'.D C'.X v)(hx:∀x∈cs,Pg P x):Qf w X η' C' vs cs:=by
 refine⟨h.1,λj f=>?_⟩;have c:=h.2 j f
 rcases hx _ (Ya (d:=.d .any) f)with a|⟨F,a⟩
 .simp only[CV.closed,Qa4,Qk7]at a
  exact(c.mono (λb _ k=>⟨rfl,k⟩) (λi g=>by rw[a.1]at g;cases g)).ctx a.2
 .rw [a]at c⊢
  generalize vs.getD j undef=u at c⊢
  cases c with|sem _ _ g1 g2=>exact .sem _ _ (H F _ g1) g2
end
section
variable {P:Program} {C:Ctx} {nt:Nat} {e:U8} {s:J0}
theorem Z6a(hcall:∀args w,(callFunc f args).run P w=.ok (.enter f args) w){F:List AVal->AVal->Prop}{cs:List (List CV)}(hspec:∀args r,F args r->G4 P f (args++Wl cs) (Zq cs) r (Zq cs))(hres:∀args r,F args r->r.closed=true)(hx:QD rd x=true){cids:List Nat}(hv:Y5 e x=.v (.c (.clo f cids)))(hlen:cids.length=cs.length)(hnd:ZV cids=true)(hbox:∀k,k<cs.length->∃ro,s (cids.getD k 0)=some (.box ro (cs.getD k [])))(hcl:∀c∈cs,∀x∈c,Pg P x)(hsi:∀p∈Si,∃o1,s (m p.1)=some o1)(hin:∀p∈Si,m p.1∈ids)(hcin:∀i∈cids,i∈ids)(hapart:∀p∈Si,m p.1∉cids):YD C nt e s Si m rd ids x (Yl P F):=by
 intro R η e0 s0 a w c6 T G;have b3:=(K3 G x).1
 rw[ZL c6 hx,hv]at b3;have b6:=Hy b3
 refine .v _ _ (.c _ _ (.sem _ _ ⟨f,_,b6,hcall,?_⟩ (by rw[b6];rfl)));intro w1 X1 vs args r hF e6 O c7 a6 c0 e3
 have M : w.heap.size<=w1.heap.size:=e6;have a0:∀k,k<cs.length->cids.getD k 0∈cids:=λk Y=>Ya (by omega)
 have A:∀k,k<cs.length->∃ro,s0 (cids.getD k 0)=some (.box ro (cs.getD k [])):=by
  grind
 have H:∀k,k<cs.length->∃b c' e',η (cids.getD k 0)=.pointer (some ⟨b,0,none⟩)/\w.heap[b]?=some (.cells c' e' (0,0))/\Qf w (XS C s0 η) η C c' (cs.getD k []):=by
  intro k Y;obtain⟨ro,h⟩:=A k Y
  have:=G.st _ _ h
  generalize η (cids.getD k 0)=u at this
  cases this with
  |box b _ c' e' _ y hcs=>exact⟨b,c',e',rfl,y,hcs⟩
 have J:∀k,k<cs.length->∀b,b∈V8 (η (cids.getD k 0))->¬Own (ls Si) (λi=>η (m i)) b:=by
  rintro k Y b y ⟨i,B,l,n⟩;obtain⟨ro,h⟩:=A k Y
  obtain⟨o1,Z⟩:=hsi _ (Qd l);have e5 : s0 (m i)=some o1:=by rw[T _ (hin _ (Qd l))];exact Z
  have:=G.ds _ _ b (by rw[h];simp) (by rw[e5];simp) y n
  exact hapart _ (Qd l) (this ▸ a0 k Y)
 have d0:∀b,Own (ls Si) (λi=>η (m i)) b->XS C s0 η b:=by
  rintro b ⟨i,B,l,n⟩;obtain⟨o1,Z⟩:=hsi _ (Qd l)
  exact .inr ⟨m i,o1,by rw[T _ (hin _ (Qd l))];exact Z,n⟩
 have Y:QQ w w1 (XS C s0 η) X1:=by
  intro b y hX;have b5:¬Own (ls Si) (λi=>η (m i)) b:=λho=>hX (d0 b ho)
  exact⟨O b y b5,λhx=>hX ((a6 b y b5).1 hx)⟩
 have z:∀k o,ls (Zq cs) k=some o->k<cs.length/\o=.box true (cs.getD k []):=by
  intro k o Y;rw[Q2Z]at Y
  grind
 have W:∀b,Own (ls (Zq cs)) (λk=>η (cids.getD k 0)) b->X1 b:=by
  rintro b ⟨k,B,U,V⟩;obtain⟨t,_⟩:=z k B U
  obtain⟨ro,h⟩:=A k t;have d2:b<w.heap.size:=(G.st _ _ h).lt V
  exact(a6 b d2 (J k t b V)).2 (.inr ⟨_,_,h,V⟩)
 have a4:∀F' v,Qp P F' C.w0 C.D C.X v->Qp P F' w1 (Own (ls (Zq cs)) λk=>η (cids.getD k 0)) X1 v:=by
  rintro F' v ⟨g,gc,g1,g2,g3⟩;refine⟨g,gc,g1,g2,λw2 X2 us c4 q hq s1 s2 s3 s4 s5 s6=>?_⟩
  have b7:∀b,b<C.w0.heap.size->¬C.D b->¬Own (ls Si) (λi=>η (m i)) b:=by
   rintro b y I ⟨i,B,l,n⟩;obtain⟨o1,h⟩:=hsi _ (Qd l)
   rcases G.ow (m i) o1 b (by rw[T _ (hin _ (Qd l))];exact h) n with ⟨_,h⟩|h|h
   .exact I h
   .exact I (G.ok.md b h)
   .omega
  have b0:∀b,b<C.w0.heap.size->¬C.D b->¬Own (ls (Zq cs)) (λk=>η (cids.getD k 0)) b:=by
   rintro b y I ⟨k,B,U,V⟩;obtain⟨t,_⟩:=z k B U
   obtain⟨ro,h⟩:=A k t;rcases G.ow _ _ b h V with ⟨_,h⟩|h|h
   .exact I h
   .exact I (G.ok.md b h)
   .omega
  refine g3 w2 X2 us c4 q hq (Qc9 G.fr.size (Qc9 M s1)) (λb y I=>?_) s3 (λb y I=>?_) s5 s6
  .have N:b<w.heap.size:=Qc4 y G.fr.size
   exact((s2 b (Qc4 N M) (b0 b y I)).trans (O b N (b7 b y I))).trans (G.fr.block b y λhM=>I (G.ok.md b hM))
  .have N:b<w.heap.size:=Qc4 y G.fr.size
   rw[s4 b (Qc4 N M) (b0 b y I),a6 b N (b7 b y I)];constructor
   .rintro (⟨hx,_⟩|⟨i,B,l,n⟩)
    .exact hx
    .rcases G.ow i B b l n with ⟨_,h⟩|h|h
     .grind
     .exact absurd (G.ok.md b h) I
     .omega
   .exact λhx=>.inl ⟨hx,I⟩
 have d8:=hspec args r hF w1 X1 (λk=>η (cids.getD k 0)) (vs++(cids.map η).toArray) c7 W
  (λk o U=>by
   obtain⟨t,rfl⟩:=z k o U;obtain⟨b,c',e',h,Z,h3⟩:=H k t
   have e7:=J k t b (by rw[h];simp[V8]);show ORep w1 X1 _ _ (η (cids.getD k 0)) _
   rw[h];have e4:∀x∈cs.getD k [],Pg P x:=hcl _ (Ya (d:=[]) t)
   exact .box b true c' e' _ ((O b (J8 Z) e7).trans Z) ((h3.mono (η':=η) Y (λ_ _=>rfl)).port a4 e4))
  (λi j b l hj d4 d6=>by
   obtain⟨oi,l⟩:=Qa9.1 l;obtain⟨oj,hj⟩:=Qa9.1 hj
   obtain⟨c3,_⟩:=z i oi l;obtain⟨c5,_⟩:=z j oj hj
   obtain⟨r1,h⟩:=A i c3;obtain⟨r2,Z⟩:=A j c5
   have b1:=G.ds _ _ b (by rw[h];simp) (by rw[Z];simp) d4 d6;have hn:=VW hnd
   have c8:i<cids.length:=by omega
   have d9:j<cids.length:=by omega
   rw[Qa0,Qa0,Qc0 c8,Qc0 d9]at b1;exact(Qn9 hn).1 (by simpa using b1))
  (by simp[c0,Wl,hlen])
  (λj hj=>by
   rw[Qb5]at hj
   by_cases hja:j<args.length
   .have e1:(vs++(cids.map η).toArray).getD j undef=vs.getD j undef:=by
     have:j<vs.size:=by omega
     simp[Qe9,Qg2,this]
    have e2:(args++Wl cs).getD j .any=args.getD j .any:=by simp[Qa0,Qf8,hja]
    grind
   .have t:j-args.length<cs.length:=by simp[Wl]at hj;omega
    obtain⟨b,c',e',h,Z,h3⟩:=H _ t;have e1:(vs++(cids.map η).toArray).getD j undef=η (cids.getD (j-args.length) 0):=by
     have g1:¬j<vs.size:=by omega
     have g2:j-vs.size<cids.length:=by omega
     have g3:j-args.length<cids.length:=by omega
     have:j-vs.size=j-args.length:=by omega
     simp[Qe9,Qg2,g1,Qa0,this,g3]
    have e2:(args++Wl cs).getD j .any=.v (.c (.ptr (j-args.length) 0)):=by
     simp[Qa0,Qf8,hja,Wl,t]
    rw[e1,e2,h];exact .v _ _ (.c _ _ (.ptr b _ 0 h)))
 refine d8.mono λen w' hh=>?_
 obtain⟨v,η',rfl,y⟩:=hh;refine⟨v,rfl,y.stp.mono λb _ hM=>?_,λη2 C2=>?_⟩
 .obtain ⟨i,B,l,d7,_⟩:=hM
  obtain⟨_,rfl⟩:=z i B l;cases d7
 .have hX:∀ b,XS (Qk (Zq cs) w1 X1 fun k=>η (cids.getD k 0)) (ls (Zq cs)) η' b↔X1 b:=by
   have a1:∀i B,ls (Zq cs) i=some B -> η' i=η (cids.getD i 0):=by
    intro i B l;refine y.pn i _ ?_
    unfold ls at l;simp[Qk,l]
   intro b;constructor
   .rintro (⟨hx,_⟩|⟨i,B,l,n⟩)
    .exact hx
    .rw [a1 i B l]at n
     exact W b ⟨i,B,l,n⟩
   .intro hx
    rcases Qn2 (Own (ls (Zq cs)) (λk=>η (cids.getD k 0)) b)with ho|ho
    .obtain ⟨i,B,l,n⟩:=ho
     exact .inr ⟨i,B,l,by rw[a1 i B l];exact n⟩
    .exact .inl ⟨hx,ho⟩
  exact(y.res.mono (η':=η') (λb _ hx=>⟨rfl,λc1=>hx ((hX b).2 c1)⟩) (λ_ _=>rfl)).free (hres args r hF)
def yk(P:Program):List CV->Prop
 |[]=>True
 |c::cs=>Pg P c/\yk P cs
def yj(P:Program):List (List CV)->Prop
 |[]=>True
 |c::cs=>yk P c/\yj P cs
theorem Z0h(h:yk P cs):∀x∈cs,Pg P x:=by
 induction cs with
 |nil=>intro x a;cases a
 |cons c cs ih=>
  intro x a;rcases Qe1.1 a with rfl|a
  .exact h.1
  .exact ih h.2 x a
theorem Z0i{cs:List (List CV)}(h:yj P cs):∀c∈cs,∀x∈c,Pg P x:=by
 induction cs with
 |nil=>intro x a;cases a
 |cons c cs ih=>
  intro x a;rcases Qe1.1 a with rfl|a
  .exact Z0h h.1
  .exact ih h.2 x a
theorem Z5Y(hcall:∀args w,(callFunc f args).run P w=.ok (.enter f args) w){F:List AVal->AVal->Prop}(cs:List (List CV))(hspec:∀args r,F args r->G4 P f (args++Wl cs) (Zq cs) r (Zq cs))(hres:∀args r,F args r->r.closed=true)(hx:QD rd x=true)(cids:List Nat)(hv:Y5 e x=.v (.c (.clo f cids)))(hnd:(ZV cids&&cids.all (λi=>ids.contains i))=true)(hp:yj P cs)(hbox:HD s cids cs)(hsi:PW s Si m ids cids=true):YD C nt e s Si m rd ids x (Yl P F):=by
 simp only[Qa4]at hnd;obtain⟨a,b⟩:=Q3h hbox
 exact Z6a hcall hspec hres hx hv a hnd.1 b (Z0i hp) (Jh hsi).1 (Jh hsi).2.1 (λi d=>by simpa using Qb8.1 hnd.2 i d) (Jh hsi).2.2
end
end
section
section
variable {P:Program} {C:Ctx} {nt:Nat} {L:Lay} {pins:List Nat} {K:Act->World->Prop}
theorem Uo(Fm:Fr P L C pins){f f' : Nat->List DVal}(hp:pins.contains k=false)(hfr:((E.flatMap λp=>p.2.refs)++(((i,Obj.box false cs)::S0).flatMap λp=>p.1::p.2.refs)).contains k=false)(hj:j<cs.length)(hc0:cs.getD j (.d .any)=.fl 0 f)(hk:Kn C nt E ((k,.arr es 0 f')::(i,.box false (cs.set j (.own k)))::S0) K):Kn C nt E ((i,.box false cs)::S0) K:=by
 intro R η a w r;have A:ls ((i,Obj.box false cs)::S0) i=some (.box false cs):=by rw[Qe,Qa2 rfl]
 have V:=r.st i _ A;obtain⟨b0,c',e',hη0,hb0,hcs⟩:∃b c' e',η i=.pointer (some ⟨b,0,none⟩)/\w.heap[b]?=some (.cells c' e' (0,0))/\Qf w (XS C (ls ((i,Obj.box false cs)::S0)) η) η C c' cs:=by
  generalize η i=u at V
  cases V with|box b _ c' e' _ N h=>exact⟨b,c',e',rfl,N,h⟩
 obtain⟨ad,hv⟩:∃ad,c'.getD j undef=.slice ad 0 0:=by
  have:=hcs.2 j hj
  rw[hc0]at this;generalize c'.getD j undef=u at this
  cases this with|fl ad _ _ _=>exact⟨ad,rfl⟩
 have T:C.pin k=none:=by
  rcases Z:C.pin k with _|u
  .rfl
  .have:=Fm.pin k (by rw[Z];simp)
   grind
 have a5:∀x∈(E.flatMap λp=>p.2.refs)++(((i,Obj.box false cs)::S0).flatMap λp=>p.1::p.2.refs),x≠k:=by
  grind
 have hS:∀x o,ls ((i,Obj.box false cs)::S0) x=some o->x≠k/\∀y∈o.refs,y≠k:=by
  intro x o c;have hm:=Qd c
  grind
 have a0:i≠k:=(hS i _ A).1;have hE:∀u x,x∈(lk E u).refs->x≠k:=by
  intro u x c;rcases Xt (E:=E) (t:=u)with h0|h0
  .rw [h0]at c;cases c
  all_goals grind
 let η' : Nat->Value:=λx=>if x=k then .slice ad 0 0 else η x
 have l : ∀x,x≠k->η' x=η x:=λx c=>by show(if x=k then Value.slice ad 0 0 else η x)=_;rw[Qa1 c]
 have H:η' k=.slice ad 0 0:=by show(if k=k then Value.slice ad 0 0 else η k)=_;rw[Qa2 rfl]
 have F:∀b,b∉V8 (η' k):=by intro b;rw[H];cases ad<;>simp[V8]
 have G:∀x o,ls ((k,Obj.arr es 0 f')::(i,.box false (cs.set j (.own k)))::S0) x=some o->(x=k/\o=.arr es 0 f')\/(x=i/\o=.box false (cs.set j (.own k)))\/(x≠k/\x≠i/\ls ((i,Obj.box false cs)::S0) x=some o):=by
  intro x o c;rw[Qe]at c
  by_cases n:x=k
  .grind
  .rw [Qa1 n,Qe]at c
   by_cases v:x=i
   .grind
   .rw [Qa1 v]at c
    exact .inr (.inr ⟨n,v,by rw[Qe,Qa1 v];exact c⟩)
 have m:∀x o,ls ((k,Obj.arr es 0 f')::(i,.box false (cs.set j (.own k)))::S0) x=some o->x≠k->∃M,ls ((i,Obj.box false cs)::S0) x=some M /\ M.ro=o.ro:=by
  intro x o c g;rcases G x o c with ⟨n,_⟩|⟨n,v⟩|⟨_,_,U⟩
  .grind
  .subst n;subst v;exact⟨_,A,rfl⟩
  all_goals grind
 have O:∀b,Own (ls ((k,Obj.arr es 0 f')::(i,.box false (cs.set j (.own k)))::S0)) η' b->Own (ls ((i,Obj.box false cs)::S0)) η b:=by
  rintro b ⟨x,o,c,D⟩
  by_cases g:x=k
  .grind
  .obtain ⟨M,n,_⟩:=m x o c g
   exact⟨x,M,n,by rw[<-l x g];exact D⟩
 have Y:QQ w w (XS C (ls ((i,Obj.box false cs)::S0)) η) (XS C (ls ((k,Obj.arr es 0 f')::(i,.box false (cs.set j (.own k)))::S0)) η'):=by
  intro b N hn;refine⟨rfl,λc=>?_⟩
  rcases c with c|c
  .exact hn (.inl c)
  .exact hn (.inr (O b c))
 refine hk (λx=>R x\/x=k) η' a w ⟨r.ok,r.df,r.sz,λu=>(r.ev u).mono Y λx c=>l x (hE u x c),λu x c=>.inl (r.er u x c),λx o c=>?_,λx o c=>?_,λx y b c B D I=>?_,λx o b c N=>?_,r.fr,λx u c=>?_⟩
 .rcases G x o c with ⟨rfl,rfl⟩|⟨rfl,rfl⟩|⟨n,v,U⟩
  .rw [H];exact .nil _ _ _
  .rw [l x a0,hη0]
   refine .box b0 false c' e' _ hb0 ⟨by rw[hcs.1];simp,λq Z=>?_⟩;have J : q<cs.length:=by simpa using Z
   by_cases hqj:q=j
   .subst hqj
    have:(cs.set q (.own k)).getD q (.d .any)=.own k:=by simp[Qa0,J]
    rw[this,hv];exact .own _ _ H.symm rfl
   .have:(cs.set j (.own k)).getD q (.d .any)=cs.getD q (.d .any):=by
     grind
    rw[this];refine(hcs.2 q J).mono Y λy B=>l y ((hS x _ A).2 y ?_)
    exact Qc1.2 ⟨_,Ya J,B⟩
  .rw [l x n]
   exact(r.st x o U).mono Y (λy B=>l y ((hS x o U).2 y B)) λ_ _=>rfl
 .rcases G x o c with ⟨rfl,rfl⟩|⟨rfl,rfl⟩|⟨n,v,U⟩
  .exact ⟨.inr rfl,by simp[Obj.refs]⟩
  .have:=r.sr x _ A
   refine⟨.inl this.1,λy B=>?_⟩;obtain⟨z,hz,W⟩:=Qc1.1 B
   rcases Ql8 hz with h4|h4
   .exact .inl (this.2 y (Qc1.2 ⟨z,h4,W⟩))
   .subst h4
    exact .inr (by simpa[CV.refs]using W)
  .have:=r.sr x o U
   exact⟨.inl this.1,λy B=>.inl (this.2 y B)⟩
 .obtain ⟨ox,c⟩:=Qa9.1 c
  obtain⟨oy,B⟩:=Qa9.1 B
  by_cases g:x=k
  .subst g;exact absurd D (F b)
  .by_cases hyk:y=k
   .subst hyk;exact absurd I (F b)
   .obtain ⟨o1,n,_⟩:=m x ox c g
    obtain⟨o2,v,_⟩:=m y oy B hyk;rw[l x g]at D
    rw[l y hyk]at I;exact r.ds x y b (by rw[n];simp) (by rw[v];simp) D I
 .by_cases g:x=k
  .subst g;exact absurd N (F b)
  .obtain ⟨M,n,v⟩:=m x o c g
   rw[l x g]at N;rw[<-v]
   exact r.ow x M b n N
 .have g:x≠k:=by intro h;subst h;rw[T]at c;cases c
  have:=r.pn x u c
  exact⟨by rw[l x g];exact this.1,.inl this.2⟩
end
end
theorem km{α:Type}[Emb α]{r:List α}(h:G4 P f args [] (.v (.c (.own 100))) [(100,AO r)]):G4 P f args [] (AL r) []:=by
 intro w X η N G t z F y l;refine(h w X η N G t z F y l).mono λe R x=>?_
 obtain⟨v,η',I,k⟩:=x;refine⟨v,η',I,?_⟩
 have A:∀i o,ls ([]:List (Nat×Obj)) i=some o->False:=λi o a=>by cases a
 have B:=k.objs 100 (AO r) (by rw[Qe,Qa2 rfl]);have J:v=η' 100:=by
  have:=k.res
  cases this with|v _ _ x=>cases x with|c _ _ x=>cases x with|own _ _ g _=>exact g
 have m:∀b,b∈V8 (η' 100)->¬XS (Qk [] w X η) (ls []) η' b:=by
  intro b D M;have H:w.heap.size<=b:=by
   rcases k.ow 100 (AO r) b (by rw[Qe,Qa2 rfl]) D with ⟨g,_⟩|⟨i,o,a,_⟩|g
   .cases g
   .grind
   .exact g
  rcases M with ⟨g,_⟩|⟨i,o,a,_⟩
  .have:=G b g
   omega
  all_goals grind
 have p:∀b,¬XS (Qk [] w X η) (ls [(100,AO r)]) η' b->¬XS (Qk [] w X η) (ls []) η' b:=by
  intro b g q;rcases q with q|⟨i,o,a,_⟩
  .exact g (.inl q)
  all_goals grind
 refine⟨k.stp,?_,λi o a=>(A i o a).elim,λi j b a=>?_,λi o b a=>(A i o a).elim,k.pn⟩
 .rw [J]
  refine .v _ _ (.c _ _ (.d _ _ ?_));show DRep _ _ _ (.lst r.length (LF r))
  unfold AO at B;generalize η' 100=u at B m
  generalize hn:r.length=n at B
  cases B with
  |nil ad=>exact .nil _ _ _
  |arr b n cap es c e f g q h3 h4 h5 h6 h7=>
   refine .lst b 0 n cap c e _ _ _ (m b (by simp[V8];omega)) g h3 ?_ h6 λi j a O=>?_
   .rw [q,Qd2];exact Qb4 _ h3
   .rw [Qd2]
    exact(h7 i j a O).mono λb _ k=>⟨rfl,p b (by unfold AO;rw[hn];exact k)⟩
 .exact absurd rfl a
section
def YT(es n:Nat)(f:Nat->List DVal)(w:World)(X:Nat->Prop)(u:Value):Prop:=
 (∃ad,u=.tuple #[.slice ad n n]/\DRep w X (.slice ad n n) (.lst n f))\/∀η C,ORep w X η C u (.arr es n f)
def AP{α:Type}[Emb α](l:List α):Obj:=.ext (YT (Emb.es α) l.length (LF l))
theorem Z4L{X:Nat->Prop}{C:Ctx}{f:Nat->List DVal}(h:ORep w X η C v (.arr es n f))(η' : Nat->Value)(C' : Ctx):ORep w X η' C' v (.arr es n f):=by
 cases h with
 |nil ad=>exact .nil ad _ _
 |arr b _ cap _ c e _ h1 h2 h3 h4 h5 h6 h7=>exact .arr b _ cap _ c e _ h1 h2 h3 h4 h5 h6 h7
theorem Q3s(es n:Nat)(f:Nat->List DVal)(u:Value):Ph (YT es n f) u:=by
 intro w i X g a c h;rcases h with ⟨d,e,b⟩|h
 .exact .inl ⟨d,e,b.mono a⟩
 .exact .inr λη C=>(h η C).mono (η':=η) a (λ_ _=>rfl) c
theorem G3.ap(k:Nat):G3 (.own k) (.ap k):=⟨λw X η C v b=>by cases b with|own _ _ h h1=>exact .ap _ _ (.inl h.symm) h1,λi a=>a⟩
theorem J5.ap(es n:Nat)(f:Nat->List DVal):J5 (.arr es n f) (.ext (YT es n f)):=
 ⟨λw X η C v a=>.ext _ _ (.inr λη' C'=>Z4L a η' C') (Q3s es n f v) λb c=>a.lt c,rfl,λi d=>by cases d⟩
def Jk(k:Nat)(y:CV):CV->CV
 |.ap i=>if i=k then y else .ap i
 |x=>x
def TV.sb(k:Nat)(y:CV):TV->TV
 |.c x=>.c (Jk k y x)
 |.g xs=>.g (xs.map (Jk k y))
def AVal.sb(k:Nat)(y:CV):AVal->AVal
 |.any=>.any
 |.v x=>.v (x.sb k y)
 |.t xs=>.t (xs.map (TV.sb k y))
def Obj.sb(k:Nat)(y:CV):Obj->Obj
 |.box ro cs=>.box ro (cs.map (Jk k y))
 |o=>o
section
variable {w:World} {X X' : Nat->Prop} {η:Nat->Value} {C:Ctx} {k:Nat} {y:CV}
theorem CRep.sb{x:CV}(h:CRep w X η C v x)(hX:∀b,¬X b->¬X' b)(hk:∀v,CRep w X η C v (.ap k)->CRep w X' η C v y):CRep w X' η C v (Jk k y x):=by
 have a:QQ w w X X':=λb _ c=>⟨rfl,hX b c⟩
 cases x with
 |ap i=>
  simp only[Jk];split
  .grind
  .exact h.mono a λ_ _=>rfl
 |_=>exact h.mono a λ_ _=>rfl
theorem Qf.sb(h:Qf w X η C vs cs)(hX:∀b,¬X b->¬X' b)(hk:∀v,CRep w X η C v (.ap k)->CRep w X' η C v y):Qf w X' η C vs (cs.map (Jk k y)):=by
 refine⟨by simpa using h.1,λj c=>?_⟩;have a : j<cs.length:=by simpa using c
 have:=(h.2 j a).sb hX hk
 grind
theorem TRep.sb{x:TV}(h:TRep w X η C v x)(hX:∀b,¬X b->¬X' b)(hk:∀v,CRep w X η C v (.ap k)->CRep w X' η C v y):TRep w X' η C v (x.sb k y):=by
 cases h with
 |c _ _ h=>exact .c _ _ (h.sb hX hk)
 |g _ _ h=>exact .g _ _ (h.sb hX hk)
theorem ARep.sb{x:AVal}(h:ARep w X η C v x)(hX:∀b,¬X b->¬X' b)(hk:∀v,CRep w X η C v (.ap k)->CRep w X' η C v y):ARep w X' η C v (x.sb k y):=by
 cases h with
 |any=>exact .any v
 |v _ _ h=>exact .v _ _ (h.sb hX hk)
 |t us xs h1 h2=>
  refine .t us _ (by simpa using h1) λj c=>?_
  have a : j<xs.length:=by simpa using c
  have:=(h2 j a).sb hX hk
  grind
theorem ORep.sb{o:Obj}(h:ORep w X η C v o)(hX:∀b,¬X b->¬X' b)(hk:∀v,CRep w X η C v (.ap k)->CRep w X' η C v y):ORep w X' η C v (o.sb k y):=by
 cases o with
 |box ro cs=>cases h with|box b _ c e _ h1 h2=>exact .box b ro c e _ h1 (h2.sb hX hk)
 |arr es n f=>exact h.mono (λb _ a=>⟨rfl,hX b a⟩) (λ_ _=>rfl) λ_ _=>rfl
 |ext p=>exact h.mono (λb _ a=>⟨rfl,hX b a⟩) (λ_ _=>rfl) λ_ _=>rfl
 |exr refs p=>exact h.mono (λb _ a=>⟨rfl,hX b a⟩) (λ_ _=>rfl) λ_ _=>rfl
theorem kw(hy:∀i∈y.refs,i=k)(x:CV):∀j∈(Jk k y x).refs,j∈x.refs:=by
 cases x<;>simp only[Jk]<;>try exact λj a=>a
 split
 .rename_i b;intro j a;rw[hy j a,b];simp[CV.refs]
 all_goals grind
theorem Q3x(hy:∀i∈y.refs,i=k)(x:TV):∀j∈(x.sb k y).refs,j∈x.refs:=by
 cases x with
 |c x=>exact kw hy x
 |g xs=>exact GX (kw hy)
theorem Z6l(hy:∀i∈y.refs,i=k)(x:AVal):∀j∈(x.sb k y).refs,j∈x.refs:=by
 cases x with
 |any=>exact λj a=>a
 |v x=>exact Q3x hy x
 |t xs=>exact GX (Q3x hy)
theorem Z5p(hy:∀i∈y.refs,i=k)(o:Obj):∀j∈(o.sb k y).refs,j∈o.refs:=by
 cases o with
 |box ro cs=>exact GX (kw hy)
 |arr es n f=>exact λj a=>a
 |ext p=>exact λj a=>a
 |exr refs p=>exact λj a=>a
theorem Z5o(o:Obj):(o.sb k y).ro=o.ro:=by cases o<;>rfl
end
section
variable {P:Program} {C:Ctx} {nt:Nat} {L:Lay} {pins:List Nat} {K:Act->World->Prop} {E:List (Nat×AVal)} {S:List (Nat×Obj)}
theorem Conc.sb{R:Nat->Prop}{a:Act}{y:CV}(hc:Conc C nt R η (lk E) (ls S0) a w)(s' : J0)(hy:∀i∈y.refs,i=k)(hs:∀i o',s' i=some o' -> ∃o,ls S0 i=some o/\(o'=o.sb k y\/(o'.refs=[]/\o'.ro=o.ro/\ORep w (XS C s' η) η C (η i) o')))(hrep:∀v,CRep w (XS C (ls S0) η) η C v (.ap k)->CRep w (XS C s' η) η C v y):Conc C nt R η (lk (E.map λp=>(p.1,p.2.sb k y))) s' a w:=by
 have r:∀b,¬XS C (ls S0) η b->¬XS C s' η b:=by
  intro b m n;rcases n with n|⟨i,o',c,q⟩
  .exact m (.inl n)
  .obtain ⟨o,d,_⟩:=hs i o' c
   exact m (.inr ⟨i,o,d,q⟩)
 have l:∀i,s' i≠none->ls S0 i≠none:=by
  intro i c;obtain⟨o',c⟩:=Qa9.1 c
  grind
 refine⟨hc.ok,hc.df,hc.sz,λt=>?_,λt i c=>?_,λi o' c=>?_,λi o' c=>?_,λi j b c f=>hc.ds i j b (l i c) (l j f),λi o' b c m=>?_,hc.fr,hc.pn⟩
 .rw [Tx (g:=AVal.sb k y) rfl];exact(hc.ev t).sb r hrep
 .rw [Tx (g:=AVal.sb k y) rfl]at c;exact hc.er t i (Z6l hy _ i c)
 .obtain ⟨o,d,h|⟨_,_,h⟩⟩:=hs i o' c
  .rw [h];exact(hc.st i o d).sb r hrep
  .exact h
 .obtain ⟨o,d,h|⟨h,_,_⟩⟩:=hs i o' c
  .have:=hc.sr i o d
   exact⟨this.1,λj f=>this.2 j (by rw[h]at f;exact Z5p hy o j f)⟩
  .exact ⟨(hc.sr i o d).1,λj f=>by rw[h]at f;cases f⟩
 .obtain ⟨o,d,h|⟨_,h,_⟩⟩:=hs i o' c
  .have:=hc.ow i o b d m
   rw[h,Z5o];exact this
  .have:=hc.ow i o b d m
   rw[h];exact this
theorem FQ{f:Nat->List DVal}(hk:(S.map (·.1)).contains k=false)(h1:Kn C nt (E.map λp=>(p.1,p.2.sb k (.own k))) ((k,.arr es n f)::S.map λp=>(p.1,p.2.sb k (.own k))) K)(h2:Kn C nt (E.map λp=>(p.1,p.2.sb k (.fl n f))) (S.map λp=>(p.1,p.2.sb k (.fl n f))) K):Kn C nt E ((k,.ext (YT es n f))::S) K:=by
 intro R η a w A;have r:ls ((k,.ext (YT es n f))::S) k=some (.ext (YT es n f)):=by rw[Qe,Qa2 rfl]
 have H:ls S k=none:=by
  cases j:ls S k with
  |none=>rfl
  |some o=>
   have:k∈S.map (·.1):=Qc7.2 ⟨_,Qd j,rfl⟩
   grind
 have g:∀i o,ls S i=some o->ls ((k,.ext (YT es n f))::S) i=some o:=by
  intro i o c;have G:i≠k:=by intro h;rw[h,H]at c;cases c
  rw[Qe,Qa1 G];exact c
 have z:=A.st k _ r;have F:YT es n f w (XS C (ls ((k,.ext (YT es n f))::S)) η) (η k):=by
  generalize η k=u at z
  cases z with|ext _ _ h _ _=>exact h
 rcases F with ⟨J,e,I⟩|j
 .refine h2 R η a w (A.sb _ (by simp[CV.refs]) (λi B c=>?_) λv d=>?_)
  .rw [UD]at c
   cases j:ls S i with
   |none=>rw[j]at c;cases c
   |some o=>rw[j]at c;cases c;exact⟨o,g i o j,.inl rfl⟩
  .have D:∀ b,¬ XS C (ls ((k,.ext (YT es n f))::S)) η b->¬ XS C (ls (S.map fun p=>(p.1,p.2.sb k (.fl n f)))) η b:=by
    intro b m x;rcases x with x|⟨i,B,c,q⟩
    .exact m (.inl x)
    .rw [UD]at c
     cases j:ls S i with
     |none=>rw[j]at c;cases c
     |some o=>exact m (.inr ⟨i,o,g i o j,q⟩)
   cases d with|ap _ _ d h1=>
   rw[e]at d;rcases d with rfl|d|⟨l,d⟩
   .cases h1
   .cases d;exact .fl _ _ _ (I.mono λb _ m=>⟨rfl,D b m⟩)
   .cases d
 .have D:∀ b,¬ XS C (ls ((k,.ext (YT es n f))::S)) η b->¬ XS C (ls ((k,.arr es n f)::S.map fun p=>(p.1,p.2.sb k (.own k)))) η b:=by
   intro b m x;rcases x with x|⟨i,B,c,q⟩
   .exact m (.inl x)
   .rw [Qe]at c
    split at c
    .rename_i t;subst t;exact m (.inr ⟨i,_,r,q⟩)
    .rw [UD]at c
     cases j:ls S i with
     |none=>rw[j]at c;cases c
     |some o=>exact m (.inr ⟨i,o,g i o j,q⟩)
  refine h1 R η a w (A.sb _ (by simp[CV.refs]) (λi B c=>?_) λv d=>?_)
  .rw [Qe]at c
   split at c
   .rename_i t
    cases c
    subst t;exact⟨_,r,.inr ⟨rfl,rfl,(j η C).mono (λb _ m=>⟨rfl,D b m⟩) (λ_ _=>rfl) λ_ _=>rfl⟩⟩
   .rw [UD]at c
    cases ho' : ls S i with
    |none=>rw[ho']at c;cases c
    |some o=>rw[ho']at c;cases c;exact⟨o,g i o ho',.inl rfl⟩
  .cases d with|ap _ _ d h1=>
   have:=j η C
   rcases d with d|d|⟨l,d⟩
   .exact .own _ _ d.symm h1
   .rw [d]at this;cases this
   .rw [d]at this;cases this
theorem ke(Fm:Fr P L C pins){ro:Bool}{f:Nat->List DVal}(hp:pins.contains k=false)(hfr:((E.flatMap λp=>p.2.refs)++(((i,Obj.box ro cs)::S0).flatMap λp=>p.1::p.2.refs)).contains k=false)(hj:j<cs.length)(hc0:cs.getD j (.d .any)=.fl n f)(hk:Kn C nt E ((k,.ext (YT es n f))::(i,.box ro (cs.set j (.ap k)))::S0) K):Kn C nt E ((i,.box ro cs)::S0) K:=by
 intro R η a w A;have D:ls ((i,Obj.box ro cs)::S0) i=some (.box ro cs):=by rw[Qe,Qa2 rfl]
 have W:=A.st i _ D;obtain⟨b0,c',e',hη0,hb0,hcs⟩:∃b c' e',η i=.pointer (some ⟨b,0,none⟩)/\w.heap[b]?=some (.cells c' e' (0,0))/\Qf w (XS C (ls ((i,Obj.box ro cs)::S0)) η) η C c' cs:=by
  generalize η i=u at W
  cases W with|box b _ c' e' _ I h=>exact⟨b,c',e',rfl,I,h⟩
 obtain⟨ad,hv,hdr⟩:∃ad,c'.getD j undef=.slice ad n n/\DRep w (XS C (ls ((i,Obj.box ro cs)::S0)) η) (.slice ad n n) (.lst n f):=by
  have:=hcs.2 j hj
  rw[hc0]at this;generalize c'.getD j undef=u at this
  cases this with|fl ad _ _ h=>exact⟨ad,rfl,h⟩
 have U:C.pin k=none:=by
  rcases hq:C.pin k with _|u
  .rfl
  .have:=Fm.pin k (by rw[hq];simp)
   grind
 have a6:∀x∈(E.flatMap λp=>p.2.refs)++(((i,Obj.box ro cs)::S0).flatMap λp=>p.1::p.2.refs),x≠k:=by
  grind
 have hS:∀x o,ls ((i,Obj.box ro cs)::S0) x=some o->x≠k/\∀y∈o.refs,y≠k:=by
  intro x o c;have hm:=Qd c
  grind
 have a1:i≠k:=(hS i _ D).1;have hE:∀u x,x∈(lk E u).refs->x≠k:=by
  intro u x c;rcases Xt (E:=E) (t:=u)with h0|h0
  .rw [h0]at c;cases c
  all_goals grind
 let η' : Nat->Value:=λx=>if x=k then .tuple #[.slice ad n n]else η x
 have l : ∀x,x≠k->η' x=η x:=λx c=>by show(if x=k then Value.tuple #[.slice ad n n]else η x)=_;rw[Qa1 c]
 have J:η' k=.tuple #[.slice ad n n]:=by show(if k=k then Value.tuple #[.slice ad n n]else η k)=_;rw[Qa2 rfl]
 have v:∀b,b∉V8 (η' k):=by intro b;rw[J];simp[V8]
 have H:∀x o,ls ((k,Obj.ext (YT es n f))::(i,.box ro (cs.set j (.ap k)))::S0) x=some o->(x=k/\o=.ext (YT es n f))\/(x=i/\o=.box ro (cs.set j (.ap k)))\/(x≠k/\x≠i/\ls ((i,Obj.box ro cs)::S0) x=some o):=by
  intro x o c;rw[Qe]at c
  by_cases r:x=k
  .grind
  .rw [Qa1 r,Qe]at c
   by_cases B:x=i
   .grind
   .rw [Qa1 B]at c
    exact .inr (.inr ⟨r,B,by rw[Qe,Qa1 B];exact c⟩)
 have m:∀x o,ls ((k,Obj.ext (YT es n f))::(i,.box ro (cs.set j (.ap k)))::S0) x=some o->x≠k->∃O,ls ((i,Obj.box ro cs)::S0) x=some O /\ O.ro=o.ro:=by
  intro x o c g;rcases H x o c with ⟨r,_⟩|⟨r,B⟩|⟨_,_,V⟩
  .grind
  .subst r;subst B;exact⟨_,D,rfl⟩
  all_goals grind
 have T:∀b,Own (ls ((k,Obj.ext (YT es n f))::(i,.box ro (cs.set j (.ap k)))::S0)) η' b->Own (ls ((i,Obj.box ro cs)::S0)) η b:=by
  rintro b ⟨x,o,c,G⟩
  by_cases g:x=k
  .grind
  .obtain ⟨O,r,_⟩:=m x o c g
   exact⟨x,O,r,by rw[<-l x g];exact G⟩
 have Z:QQ w w (XS C (ls ((i,Obj.box ro cs)::S0)) η) (XS C (ls ((k,Obj.ext (YT es n f))::(i,.box ro (cs.set j (.ap k)))::S0)) η'):=by
  intro b I hn;refine⟨rfl,λc=>?_⟩
  rcases c with c|c
  .exact hn (.inl c)
  .exact hn (.inr (T b c))
 refine hk (λx=>R x\/x=k) η' a w ⟨A.ok,A.df,A.sz,λu=>(A.ev u).mono Z λx c=>l x (hE u x c),λu x c=>.inl (A.er u x c),λx o c=>?_,λx o c=>?_,λx y b c F G M=>?_,λx o b c I=>?_,A.fr,λx u c=>?_⟩
 .rcases H x o c with ⟨rfl,rfl⟩|⟨rfl,rfl⟩|⟨r,B,V⟩
  .refine .ext _ _ ?_ (Q3s es n f _) (λb I=>absurd I (v b))
   rw[J];exact .inl ⟨ad,rfl,hdr.mono Z⟩
  .rw [l x a1,hη0]
   refine .box b0 ro c' e' _ hb0 ⟨by rw[hcs.1];simp,λq hq=>?_⟩;have N : q<cs.length:=by simpa using hq
   by_cases hqj:q=j
   .subst hqj
    have:(cs.set q (.ap k)).getD q (.d .any)=.ap k:=by simp[Qa0,N]
    rw[this,hv];exact .ap _ _ (.inr (.inl J)) rfl
   .have:(cs.set j (.ap k)).getD q (.d .any)=cs.getD q (.d .any):=by
     grind
    rw[this];refine(hcs.2 q N).mono Z λy F=>l y ((hS x _ D).2 y ?_)
    exact Qc1.2 ⟨_,Ya N,F⟩
  .rw [l x r]
   exact(A.st x o V).mono Z (λy F=>l y ((hS x o V).2 y F)) λ_ _=>rfl
 .rcases H x o c with ⟨rfl,rfl⟩|⟨rfl,rfl⟩|⟨r,B,V⟩
  .exact ⟨.inr rfl,by simp[Obj.refs]⟩
  .have:=A.sr x _ D
   refine⟨.inl this.1,λy F=>?_⟩;obtain⟨z,hz,Y⟩:=Qc1.1 F
   rcases Ql8 hz with h4|h4
   .exact .inl (this.2 y (Qc1.2 ⟨z,h4,Y⟩))
   .subst h4
    exact .inr (by simpa[CV.refs]using Y)
  .have:=A.sr x o V
   exact⟨.inl this.1,λy F=>.inl (this.2 y F)⟩
 .obtain ⟨ox,c⟩:=Qa9.1 c
  obtain⟨oy,F⟩:=Qa9.1 F
  by_cases g:x=k
  .subst g;exact absurd G (v b)
  .by_cases hyk:y=k
   .subst hyk;exact absurd M (v b)
   .obtain ⟨o1,r,_⟩:=m x ox c g
    obtain⟨o2,B,_⟩:=m y oy F hyk;rw[l x g]at G
    rw[l y hyk]at M;exact A.ds x y b (by rw[r];simp) (by rw[B];simp) G M
 .by_cases g:x=k
  .subst g;exact absurd I (v b)
  .obtain ⟨O,r,B⟩:=m x o c g
   rw[l x g]at I;rw[<-B]
   exact A.ow x O b r I
 .have g:x≠k:=by intro h;subst h;rw[U]at c;cases c
  have:=A.pn x u c
  exact⟨by rw[l x g];exact this.1,.inl this.2⟩
end
end
section
section
variable {P:Program} {C:Ctx} {nt:Nat} {L:Lay} {ops:Array Oper} {ds:List Dir} {e:U8} {s:J0}
def Gk(caps:List Nat):List AVal:=caps.map λc=>.v (.c (.ptr c 0))
theorem Q5m(hcall:∀args w,(callFunc f args).run P w=.ok (.enter f args) w){fx:Operand}{xs:Array Operand}{tys:Array TypeId}(hop:o.op=.call {callee:=.value fx,args:=xs,argTypes:=tys})(hfx:Y5 e fx=.v (.c (.clo f (caps.map m))))(hrf:QD (QG o++Qt ops o) fx=true)(hspec:G4 P f (args++Gk caps) Si r So)(hbox:∀c∈caps,∃ro cs,ls Si c=some (.box ro cs))(hlen:xs.size=args.length)(extra:List Nat)(hargs:∀j,j<args.length->YD C nt e s Si m (QG o++Qt ops o) (Wu e o++(Si.map (λp=>m p.1)++extra)) (xs.toList.getD j (.const undef)) (args.getD j .any))(hsi:∀p∈Si,∃o1,s (m p.1)=some o1/\J5 o1 (p.2.ren m))(hchk:Vf m r Si So=true)(hdo:QJ nt o=true)(hg:QW ops e o=some true):Wo P C nt ops o (xK ops o e m extra r Si So) e s:=by
 intro R η e0 G a w F q Z n K Q hK;have hw:=Ur (e:=e) n (λt ht=>F t (Qb2.2 (.inr ht))) hg
 rw[Qa2 hw];have I:=(K3 n fx).1
 rw[ZL F hrf,hfx]at I;have M:=Hy I
 have a1:=CI (w:=w) hop M hcall;have g:∀p∈Si,∃o1,G (m p.1)=some o1/\J5 o1 (p.2.ren m):=by
  intro p hp;rw[q (m p.1) (Qb2.2 (.inr (Qb2.2 (.inl (Qc7.2 ⟨p,hp,rfl⟩)))))]
  exact hsi p hp
 simp only[Vf,Qa4]at hchk;have B:=hchk
 obtain⟨⟨⟨⟨⟨⟨⟨⟨⟨c1,c2⟩,c3⟩,c4⟩,c5⟩,c6⟩,c7⟩,c8⟩,c9⟩,b8⟩:=hchk;have H:∀b,XS C G η b->b<w.heap.size:=by
  rintro b (⟨hx,_⟩|hx)
  .exact Qc4 (n.ok.lt b hx) n.fr.size
  .exact n.lt hx
 have N:∀i l,ls Si i=some l -> l.noSem=true:=λi l h=>Qb8.1 c7 _ (Qd h)
 have x:∀i l,ls Si i=some l -> ORep w (XS C G η) (λi=>η (m i)) (Qk Si w (XS C G η) λi=>η (m i)) (η (m i)) l:=λi l h=>by
  obtain⟨o1,J,a2⟩:=g _ (Qd h);exact(ORep.unren (a2.1 _ _ _ _ _ (n.st _ o1 J))).ctx (N i l h)
 have W:=hspec w (XS C G η) (λi=>η (m i)) (xs.map a.eval++((caps.map m).map η).toArray) H
  (λb ⟨i,l,h,hib⟩=>by obtain⟨o1,J,_⟩:=g _ (Qd h);exact .inr ⟨m i,o1,J,hib⟩)
  x
  (λi j b h A T V=>by
   obtain⟨oi,h⟩:=Qa9.1 h;obtain⟨oj,A⟩:=Qa9.1 A
   obtain⟨o1,J,_⟩:=g _ (Qd h);obtain⟨o2,h2,_⟩:=g _ (Qd A)
   have O:m i=m j:=n.ds _ _ b (by rw[J];simp) (by rw[h2];simp) T V;have n3:=VW c3
   rw[Qm6]at n3;exact vk (ρ:=m) n3.2.1 (by rw[h];simp) (by rw[A];simp) O)
  (by simp[hlen,Gk])
  (λj A=>by
   rw[Qb5]at A
   by_cases hja:j<args.length
   .have a4 : j<xs.size:=by omega
    have e1:(xs.map a.eval++((caps.map m).map η).toArray).getD j undef=a.eval (xs.toList.getD j (.const undef)):=by
     simp[Qa0,a4,Qe9,Qg2]
    have Y:(args++Gk caps).getD j .any=args.getD j .any:=by simp[Qa0,Qf8,hja]
    rw[e1,Y];exact hargs j hja R η e0 G a w F q n
   .have z:j-args.length<caps.length:=by simp[Gk]at A;omega
    have g1:¬j<xs.size:=by omega
    have g2:j-xs.size=j-args.length:=by omega
    have e1:(xs.map a.eval++((caps.map m).map η).toArray).getD j undef=η (m (caps.getD (j-args.length) 0)):=by
     simp[Qe9,Qg2,g1,g2,z,Qa0]
    have Y:(args++Gk caps).getD j .any=.v (.c (.ptr (caps.getD (j-args.length) 0) 0)):=by
     simp[Qa0,Qf8,hja,Gk,z]
    rw[e1,Y];obtain⟨ro,cs,U⟩:=hbox _ (Ya (d:=0) z)
    have:=x _ _ U
    generalize hu:η (m (caps.getD (j-args.length) 0))=u at this
    cases this with|box b _ c e' _ _ _=>exact .v _ _ (.c _ _ (.ptr b _ 0 hu)))
 unfold Oper.wp;rw[a1]
 show Calls P f _ w _;refine W.mono λen w' hh=>?_
 obtain⟨v,η',rfl,U⟩:=hh;have D:Vf m r Si So=true:=by simp only[Vf,Qa4];exact B
 obtain⟨η1,a3⟩:=n.call (YO hdo) D g Z U;exact hK η1 _ w' a3
def vj(f:Nat)(ids:List Nat):AVal->Bool
 |.v (.c (.clo g is))=>g==f&&is==ids
 |_=>false
theorem Z1Z{x:AVal}(h:vj f ids x=true):x=.v (.c (.clo f ids)):=by
 unfold vj at h
 grind
def Q3e(Si:List (Nat×Obj))(caps:List Nat):Bool:=caps.all λc=>match ls Si c with|some (.box _ _)=>true|_=>false
theorem Z4F(h:Q3e Si caps=true):∀c∈caps,∃ro cs,ls Si c=some (.box ro cs):=by
 intro c a;have:=Qb8.1 h c a
 grind
def Q3b(ops:Array Oper)(nt:Nat)(e:U8)(o:Oper)(f:Nat)(m:List (Nat×Nat))(caps:List Nat)(r:AVal)(Si So:List (Nat×Obj)):Bool:=
 XF o&&vj f (caps.map (J3 m)) (Y5 e (Uj o))&&QD (QG o++Qt ops o) (Uj o)&&Vf (J3 m) r Si So&&QJ nt o&&(QW ops e o==some true)&&Q3e Si caps
theorem Pk(hspec:G4 P f (args++Gk caps) Si r So)(hcall:∀ args w,(callFunc f args).run P w=.ok (.enter f args) w)(m:List (Nat×Nat))(hk:QA ds k=cE m [] r Si So)(hq:(Q3b ops nt (J4 L ops ops.toList ds e s k) (U2 ops.toList k) f m caps r Si So,Si.map (fun p=>QM L ops ops.toList ds e s k (J3 m p.1)),
   (Go.Ab.callXs (U2 ops.toList k)).toList.all (QD (QG (U2 ops.toList k)++Qt ops (U2 ops.toList k)))&&args.all AVal.noSem,(Go.Ab.callXs (U2 ops.toList k)).toList.map (Y5 (J4 L ops ops.toList ds e s k)))
   = (true,Si.map (λp=>some (p.2.ren (J3 m))),true,args.map (AVal.ren (J3 m)))):G2 P C nt L ops ds e s k:=by
 unfold G2;rw[hk]
 have g:=congrArg (·.1) hq;have c:=congrArg (·.2.1) hq
 have b:=congrArg (·.2.2.1) hq;have a:=congrArg (·.2.2.2) hq
 simp only at g c b a;simp only[Q3b,Qa4]at g
 obtain⟨⟨⟨⟨⟨⟨o,q⟩,z⟩,t⟩,n⟩,i⟩,h⟩:=g;obtain⟨l,d⟩:=Cd o
 rw[Qa4]at b;obtain⟨u,A⟩:=(kA (C:=C) (nt:=nt) (s:=QM L ops ops.toList ds e s k) (Si:=Si) (ids:=Wu (J4 L ops ops.toList ds e s k) (U2 ops.toList k)++(Si.map (λp=>J3 m p.1)++[])) b.1 b.2 a).spec
 exact Q5m hcall d (Z1Z q) z hspec (Z4F h) (by simpa using u) [] (λj x=>A j x) (λp v=>⟨_,JG c p v,J5.refl _⟩) t n (by simpa using i)
end
end
section
open Go.Sort Go.Proofs Go.Shelf
theorem Q5h{κ:Type}{lt:κ->κ->Bool}(pos:κ->Nat)(h:∀i j,lt i j=true↔pos i<pos j):SWO lt:=by
 have c : ∀i j,lt i j=false↔pos j<=pos i:=by
  intro i j;have:=h i j
  cases hh:lt i j with
  |true=>rw[hh]at this;simp at this⊢;omega
  |false=>rw[hh]at this;simp at this⊢;omega
 refine⟨λx=>(c x x).2 (Qb3 _),λx y z b a=>?_,λx y z b a=>?_⟩
 .rw [h]at b a⊢;omega
 .rw [c]at b a⊢;omega
section
variable {α:Type} [Emb α]
end
end
section
section
variable {P:Program} {C:Ctx} {nt:Nat} {L:Lay} {R:Nat->Prop} {η:Nat->Value} {e:U8} {s:J0} {a:Act} {w:World}
theorem y8.upd_le{x:AVal}{ob ob' : Obj}{c:Prop}(h:y8 P C nt R η e s a w o {v:=x,upd:=some (id,ob),cond:=c})(hle:J5 ob ob'):y8 P C nt R η e s a w o {v:=x,upd:=some (id,ob'),cond:=c}:=by
 obtain⟨v,u,r,g⟩:=h;refine⟨v,u,r,?_⟩
 have b:∀q i,SR.sto {v:=x,upd:=some (id,q),cond:=c} o.dst s i=if i=id then some q else s i:=by
  intro q i;unfold SR.sto
  simp
 have m:=g.conv (R':=SR.rng {v:=x,upd:=some (id,ob'),cond:=c} o.dst R) (e':=SR.env {v:=x,upd:=some (id,ob'),cond:=c} o.dst e) (s':=SR.sto {v:=x,upd:=some (id,ob'),cond:=c} o.dst s) (λi=>i)
  (λt=>by rw[HX];exact Y4.refl _) (λi l d=>by
   rw[HO];rw[b]at d⊢
   split at d
   .grind
   .rename_i f;exact⟨l,by rw[Qa1 f];exact d,J5.refl _⟩) (λi j _ _ h=>h) (λt i d=>g.er t i d) (λi l d=>by
   rw[b]at d;split at d
   .rename_i f
    cases d
    have:=g.sr i ob (by rw[b,Qa2 f])
    exact⟨this.1,λj p=>this.2 j (hle.2.2 j p)⟩
   .rename_i f
    exact g.sr i l (by rw[b,Qa1 f];exact d)) (λi d=>⟨rfl,by
   obtain⟨v,n⟩:=Qa9.1 d;exact(g.pn i v n).2⟩)
 exact m
variable {ops:Array Oper} {ds:List Dir} {k:Nat}
theorem ki(hL:Qi P L){ob ob' : Obj}{c:Prop}(hk:QA ds k=rE {v:=.any,upd:=some (id,ob')})(hdo:(QJ nt (U2 ops.toList k)&&(QW ops (J4 L ops ops.toList ds e s k) (U2 ops.toList k)==some true))=true)(hr:Zi L false (J4 L ops ops.toList ds e s k) (QM L ops ops.toList ds e s k) (U2 ops.toList k)=some {v:=.any,upd:=some (id,ob),cond:=c})(hc:c)(hle:J5 ob ob'):G2 P C nt L ops ds e s k:=by
 unfold G2;rw[hk]
 simp only[Qa4,Qg6]at hdo;have i:∀t x y,(U2 ops.toList k).op=.store t x y->(U2 ops.toList k).dst=none:=by
  intro t x y f;have:=hdo.1
  simp only[QJ,f,Qa4]at this
  grind
 refine Ut hdo.1 hdo.2 λR η o n a w l h j b=>?_
 have g:=(Q3u (L:=L) (e:=J4 L ops ops.toList ds e s k) (s:=QM L ops ops.toList ds e s k) false (U2 ops.toList k) l h).trans hr;exact(Q3t hL b false _ (λx m=>YO hdo.1 x m) g hc (λd p j=>absurd rfl j) i).upd_le hle
theorem Z5N(hL:Qi P L)(hT:Vq L t te){y:Operand}{m:Nat}{f g:Nat->List DVal}(hk:QA ds k=rE {v:=.v (.c (.own d)),new:=some (.arr te.size (n+m) (Qw n f g))})(hop:(U2 ops.toList k).op=.call {callee:=.builtin .append,args:= #[x,y],argTypes:= #[t,t]})(hdo:(QJ nt (U2 ops.toList k)&&(QW ops (J4 L ops ops.toList ds e s k) (U2 ops.toList k)==some true)&&(U2 ops.toList k).dst==some d&&Nat.ble te.bytes 8192&&te.zero.length==te.size)=true)(hx:Y5 (J4 L ops ops.toList ds e s k) x=.v (.c (.fl n f)))(hy:Vi (QM L ops ops.toList ds e s k) (Y5 (J4 L ops ops.toList ds e s k) y)=some (m,g))(hm:0<m)(hlim:n+m<=Y6)(hgl:∀j,j<m->(g j).length=te.size)(hfl:∀j,j<n->(f j).length=te.size):G2 P C nt L ops ds e s k:=by
 unfold G2;rw[hk]
 simp only[Qa4,Qg6]at hdo;obtain⟨⟨⟨⟨A,D⟩,h⟩,H⟩,J⟩:=hdo
 obtain⟨N,M,F,r,l⟩:=hT;refine Ut A D λR η B z a w u o I i=>?_
 have G:x∈(U2 ops.toList k).op.operands.toList:=by rw[hop];simp[Op.operands,Call.operands]
 have b:y∈(U2 ops.toList k).op.operands.toList:=by rw[hop];simp[Op.operands,Call.operands]
 have q:UP z te.size m (Y5 B x)=some ([],n,f,∀j,j<n->(f j).length=te.size):=by
  rw[u x G,hx];simp only[UP]
  grind
 have p:Vi z (Y5 B y)=some (m,g):=by rw[u y b,xS (o y b)];exact hy
 exact LX hL i h (YO A d h) (I d h (by simp)) hop F r l p q hfl (Qw2 H) J hlim hgl
end
end
section
open Go.ChangeShapes Go.WideShapes Go.ChangeAt Go.RowKit
end
section
@[reducible] def ow (n:Nat):AVal:=.v (.c (.own n))
@[reducible] def pt (n:Nat):AVal:=.v (.c (.ptr n 0))
@[reducible] def bx (l:List CV):Obj:=.box false l
section
variable {P:Program} {C:Ctx} {nt:Nat} {L:Lay} {pins:List Nat} {E:List (Nat×AVal)} {S:List (Nat×Obj)} {Q:Exit->Act->World->Prop}
variable {K:Act->World->Prop}
theorem Z5G(Fm:Fr P L C pins){E' : List (Nat×AVal)}(h:Kn C nt E' S' K)(hq:(pins.all (λi=>J3 [] i==i),E'.map (λp=>lk E p.1),S'.map (λp=>ls S (J3 [] p.1)),ZV (S'.map λp=>J3 [] p.1))=(true,E'.map (λp=>p.2.ren (J3 [])),S'.map (λp=>some (p.2.ren (J3 []))),true):=by kernel_rfl):Kn C nt E S K:=Q3H Fm E' S' hq h
theorem G7(Fm:Fr P L C pins)(ρ:List (Nat×Nat)){E' : List (Nat×AVal)}(h:Kn C nt E' S' K)(hp:pins.all (λi=>J3 ρ i==i)=true:=by kernel_rfl)(hE:E'.map (λp=>lk E p.1)=E'.map (λp=>p.2.ren (J3 ρ)):=by kernel_rfl)(hS:S'.map (λp=>ls S (J3 ρ p.1))=S'.map (λp=>some (p.2.ren (J3 ρ))):=by kernel_rfl)(hinj:ZV (S'.map λp=>J3 ρ p.1)=true:=by kernel_rfl):Kn C nt E S K:=kb Fm ρ E' S' hp hE hS hinj h
theorem Q3J(Fm:Fr P L C pins)(hq:(VQ L (lk E) (ls S) fn.results.toList,S'.map (λp=>ls S p.1))=(some r,S'.map (λp=>some p.2)):=by kernel_rfl):Kn C nt E S (Ws P fn C r S' .ret):=Qj Fm hq
end
section
variable {P:Program} {C:Ctx} {nt:Nat} {L:Lay} {ops:Array Oper} {ds:List Dir} {e:U8} {s:J0}
theorem Q3M(hspec:G4 P f args Si r So)(hcall:∀ args w,(callFunc f args).run P w=.ok (.enter f args) w)(m:List (Nat×Nat))(hk:QA ds k=cE m [] r Si So:=by rfl)(hq:(Go.Ab.callB ops nt (J4 L ops ops.toList ds e s k) (U2 ops.toList k) f m r Si So,Si.map (fun p=>QM L ops ops.toList ds e s k (J3 m p.1)),
   (Go.Ab.callXs (U2 ops.toList k)).toList.all (QD (QG (U2 ops.toList k)++Qt ops (U2 ops.toList k)))&&args.all AVal.noSem,(Go.Ab.callXs (U2 ops.toList k)).toList.map (Y5 (J4 L ops ops.toList ds e s k)))
   = (true,Si.map (λp=>some (p.2.ren (J3 m))),true,args.map (AVal.ren (J3 m))):=by kernel_rfl):G2 P C nt L ops ds e s k:=Z5P hspec hcall m hk hq
end
section
variable {C:Ctx} {nt:Nat} {e:U8} {s:J0}
theorem YD.p{y:AVal}(hx:QD rd x=true:=by kernel_rfl)(hle:Y5 e x=y.ren m:=by kernel_rfl)(hs:y.noSem=true:=by kernel_rfl):YD C nt e s Si m rd ids x y:=HV hx (Y4.of_eq hle) hs
end
end
section
open Go.Maps (Keyed)
open Go.WideElems (Fit rd rg pl rd_val elemAt)
open Go.ChangeMaps Go.MapKept
def Z1b(ks:List Int):DataW Unit:=ks.foldl (λD k=>D.put (.int .i64 k) (.lit (.bool true))) (.map [])
def JA(P:Program)(kT eT:TypeId)(ks:List Int)(w:World)(_:Nat->Prop)(v:Value):Prop:=∃b,v=.map (some b)/\w.ownsMap P kT (plainElem P eT) b ks.length (Z1b ks)
theorem Z1a{ks:List Int}(v:Value):Ph (JA P kT eT ks) v:=by
 intro w m X X' _ g i;obtain⟨b,rfl,j,c,l,d,f,h⟩:=i
 exact⟨b,rfl,j,c,(g b (by simp[V8])).trans l,d,f,h⟩
end
section
section
variable {P:Program} {C:Ctx} {nt:Nat} {L:Lay} {R:Nat->Prop} {η:Nat->Value} {e:U8} {s:J0} {a:Act} {w:World}
theorem kO{X:Nat->Prop}{n:Int}(h:ARep w X η C v (vi n)):v=.int .i64 n:=by
 cases h with|v _ _ hh=>cases hh with|c _ _ hh=>cases hh with|d _ _ hh=>cases hh;rfl
theorem Q6s(h:Conc C nt R η e s a w)(hd:o.dst=some d)(hdn:d<nt)(hR:¬ R d){p:World->(Nat->Prop)->Value->Prop}(hrun:(execOp a.eval o).run P w=.ok (.value v) w')(hstep:Stp (fun _=>False) w w')(hone:v.oneCell'=true)(hv:∀ b,b ∈ V8 v->w.heap.size<=b)(hob:∀ X' η',ORep w' X' η' C v (.ext p)):
  y8 P C nt R η e s a w o {v:=.v (.c (.own d)),new:=some (.ext p)}:=by
 have q:=UF (C:=C) (s:=s) (η:=η) {v:=.v (.c (.own d)),new:=some (.ext p)} o.dst v (λ_=>False) hstep (λb f=>f.elim) (λ_ _ _ _ b f=>.inl (hv b f)) (λk o i=>by cases i);refine⟨v,w',.inl hrun,h.step o.dst (λx m=>by rw[hd]at m;cases m;exact hdn) _ _ _ (λ_=>False) hstep (λb f=>f.elim) ?_ (λk o i=>by cases i) ?_⟩
 .intro r dd l g
  cases l
  rw[hd]at g;cases g
  exact⟨hR,rfl,by simp[Obj.refs],hob _ _,λb f=>.inl (hv b f)⟩
 .intro _
  refine⟨.v _ _ (.c _ _ (.own _ _ (by simp[SR.eta,hd]) hone)),λj n=>?_⟩;simp[AVal.refs,TV.refs,CV.refs]at n
  exact .inr ⟨by simp,by rw[hd,n]⟩
variable {ops:Array Oper} {ds:List Dir} {k:Nat}
theorem Z5I(hk:QA ds k=rE {v:=.v (.c (.own d)),new:=some (.ext (JA P kT eT []))})(hop:(U2 ops.toList k).op=.makeMap t none)(hdo:(QJ nt (U2 ops.toList k)&&(QW ops (J4 L ops ops.toList ds e s k) (U2 ops.toList k)==some true)&&(U2 ops.toList k).dst==some d)=true):G2 P C nt L ops ds e s k:=by
 unfold G2;rw[hk]
 simp only[Qa4,Qg6]at hdo;obtain⟨⟨i,j⟩,g⟩:=hdo
 refine Ut i j λR η p o a w n l m h=>?_
 refine Q6s h g (YO i d g) (m d g (by simp)) (v:=.map (some w.heap.size)) (w':=w.alloc (.map #[] 0)) ?_ (Stp.alloc _ w _) rfl (λb f=>by simp[V8]at f;omega) λX' η'=>?_
 .simp [execOp,hop,Instr.makeMap]
 .refine .ext _ _ ⟨_,rfl,World.ownsMap_made w P kT _⟩ (Z1a _) λb f=>?_
  simp only[V8,Qb1]at f;subst f
  show w.heap.size<(w.heap.push _).size;rw[Qm3];omega
end
end
section
open Go.Sort Go.Proofs Go.Shelf Go.Maps
end
section
section
variable {P:Program} {L:Lay}
end
section
variable {P:Program} {C:Ctx} {nt:Nat} {L:Lay} {ops:Array Oper} {ds:List Dir} {e:U8} {s:J0}
end
end
section
open Go.Sort Go.Proofs Go.Shelf Go.Maps
end
section
def K9(s:ByteArray)(i:Int):Int:=(((s[i.toNat]?).getD 0).toNat:Nat)
def Zl(a b:ByteArray):Bool:=a.toList==b.toList
def Vu(a b:ByteArray):Bool:=Op.bytesLess a.toList b.toList
def LM(op:BinOp)(a b:ByteArray):Option Bool:=
 match op with
 |.eql=>some (Zl a b)
 |.neq=>some (!Zl a b)
 |.lss=>some (Vu a b)
 |.leq=>some (Vu a b||Zl a b)
 |.gtr=>some (!(Vu a b||Zl a b))
 |.geq=>some (!Vu a b)
 |_=>none
section
variable {P:Program} {C:Ctx} {nt:Nat} {L:Lay} {ops:Array Oper} {ds:List Dir} {e:U8} {s:J0}
theorem cd(op:BinOp)(t:TypeId)(x y:Operand)(a b:ByteArray)(w:World):(eqGuard op t x y (.string a) (.string b)).run P w=.ok () w:=by
 unfold eqGuard;split<;>rfl
theorem Q7L(op:BinOp)(t:TypeId)(a b:ByteArray){c:Bool}(h:LM op a b=some c)(w:World):(binOp op t (.string a) (.string b)).run P w=.ok (.bool c) w:=by
 cases op<;>simp only[LM,Qi9,reduceCtorEq]at h<;>subst h<;>simp[binOp,Op.stringOp,Zl,Vu]
def VA(ops:Array Oper)(nt:Nat)(e:U8)(o:Oper)(x y:Operand):Bool:=QD (QG o++Qt ops o) x&&QD (QG o++Qt ops o) y&&QJ nt o&&(QW ops e o==some true)
theorem HQ{op:BinOp}{t': TypeId}{y:Operand}{b:ByteArray}{c:Bool}(hk:QA ds k=sE (vb c))(hop:(U2 ops.toList k).op=.binOp op t x y t')(hb:VA ops nt (J4 L ops ops.toList ds e s k) (U2 ops.toList k) x y=true)(hx:Y5 (J4 L ops ops.toList ds e s k) x=.v (.c (.d (.str a))))(hy:Y5 (J4 L ops ops.toList ds e s k) y=.v (.c (.d (.str b))))(hc:LM op a b=some c):G2 P C nt L ops ds e s k:=by
 unfold G2;rw[hk]
 simp only[VA,Qa4,Qg6]at hb;obtain⟨⟨⟨n,j⟩,m⟩,l⟩:=hb
 refine JZ rfl m l λR η p q o w f g=>?_
 have i:=(K3 g x).1;rw[ZL f n,hx]at i
 have i:=JY i;have h:=(K3 g y).1
 rw[ZL f j,hy]at h;have h:=JY h
 exact⟨_,by simp only[execOp,hop,Qd8,i,h,cd,Q7L op t a b hc,Qc5,Qf3],FF _ _⟩
theorem ZM(ht:P.underlying t=some .string){y:Operand}{m:Int}(hk:QA ds k=sE (.v (.c (.d (.int .u8 (K9 a m))))))(hop:(U2 ops.toList k).op=.index t x y)(hb:VA ops nt (J4 L ops ops.toList ds e s k) (U2 ops.toList k) x y=true)(hx:Y5 (J4 L ops ops.toList ds e s k) x=.v (.c (.d (.str a))))(hy:ZD (Y5 (J4 L ops ops.toList ds e s k) y)=some m)(hc:0<=m/\m<((a.size:Nat):Int)):G2 P C nt L ops ds e s k:=by
 unfold G2;rw[hk]
 simp only[VA,Qa4,Qg6]at hb;obtain⟨⟨⟨q,j⟩,p⟩,n⟩:=hb
 refine JZ rfl p n λR η u z r w b f=>?_
 have g:=(K3 f x).1;rw[ZL b q,hx]at g
 have g:=JY g;rw[<-ZL b j]at hy
 obtain⟨A,o⟩:=Pc f hy;have i:m.toNat<a.size:=by omega
 have h:a[m.toNat]?=some a[m.toNat]:=by
  grind
 have l:K9 a m=((a[m.toNat].toNat:Nat):Int):=by unfold K9;rw[h];rfl
 rw[l];refine⟨.int .u8 (a[m.toNat].toNat:Nat),?_,Wt _ _ _⟩
 simp[execOp,hop,g,o,Instr.index,asIntOf,Qb9 ht,hc.1,h]
end
theorem JQ{α:Type}[Emb α]{l:List α}{lo:Nat}(h:lo+n<=l.length):Is n (λj=>LF l (lo+j)) ((l.drop lo).take n):=by
 have b:((l.drop lo).take n).length=n:=by rw[Qd1,Qk8];omega
 refine Q3N _ b λi c=>?_
 have e:gl l (lo+i)=gl ((l.drop lo).take n) i:=by simp[gl,Qa0,c]
 show Emb.cells (gl l (lo+i))=_;rw[e]
end
section
open Go.MapKept
def MP{α:Type}[Emb α](gs:List (Int×List α)):DVal:=.mp gs.length (λi=>(gs.getD i (0,[])).1) λi=>DL (gs.getD i (0,[])).2
def Po{α:Type}[Emb α](w:World)(X:Nat->Prop)(x:MapEntry)(e:Int×List α):Prop:=x.key=.int .i64 e.1/\DRep w X x.val (DL e.2)
def Zc{α:Type}[Emb α](left:List (Int×List α))(cur:Option (Int×List α))(w:World)(X:Nat->Prop)(v:Value):Prop:=
 ∃(r b:Nat) (es:Array MapEntry) (clock since:Nat) (seen:Array Nat) (c0:Nat),v=.pointer (some ⟨r,0,none⟩)/\w.heap[r]?=some (.mapIter (some b) since seen c0)/\¬X b/\w.heap[b]?=some (.map es clock)/\Stamped es clock/\since<=c0/\since<=clock/\(∀x∈es.toList,x.born<since) /\
  (leftOf es seen).size=left.length/\(∀(i:Nat) (x:MapEntry) (e:Int×List α),(leftOf es seen)[i]?=some x->left[i]?=some e->Po w X x e) /\
  ∀e,cur=some e->∃x∈es.toList,∃seen' : Array Nat,seen=seen'.push x.born/\c0=clock/\Po w X x e
theorem Po.mono{α:Type}[Emb α]{X X' : Nat->Prop}{x:MapEntry}{e:Int×List α}(h:Po w X x e)(hk:QQ w w' X X'):Po w' X' x e:=⟨h.1,h.2.mono hk⟩
theorem vg{α:Type}[Emb α]{left:List (Int×List α)}{cur:Option (Int×List α)}(v:Value):Ph (Zc left cur) v:=by
 intro w O X X' g H h;obtain⟨r,b,B,c,d,f,D,rfl,F,p,o,I,N,A,z,u,t,l⟩:=h
 have n:=g b (J8 o) p;exact⟨r,b,B,c,d,f,D,rfl,(H r (by simp[V8])).trans F,n.2,n.1.trans o,I,N,A,z,u,λi x e m j=>(t i x e m j).mono g,λe j=>by
  obtain⟨x,m,q,J,M,G⟩:=l e j;exact⟨x,m,q,J,M,G.mono g⟩⟩
theorem Z1W{α:Type}[Emb α](left:List (Int×List α))(cur:Option (Int×List α)):J5 (.ext (Zc left cur)) (.ext (Zc left none)):=by
 refine⟨λw X η C v j=>?_,rfl,λi z=>by cases z⟩
 cases j with
 |ext _ _ h1 h2 h3=>
  obtain⟨r,b,o,c,d,f,p,e,x,A,u,q,l,n,m,h,t,_⟩:=h1;exact .ext _ _ ⟨r,b,o,c,d,f,p,e,x,A,u,q,l,n,m,h,t,λe g=>by cases g⟩ (vg _) h3
section
variable {P:Program} {C:Ctx} {nt:Nat} {L:Lay} {R:Nat->Prop} {η:Nat->Value} {e:U8} {s:J0} {a:Act} {w:World}
theorem Q6r(h:Conc C nt R η e s a w)(hd:o.dst=some d)(hdn:d<nt)(hR:¬ R d){p:World->(Nat->Prop)->Value->Prop}(hrun:(execOp a.eval o).run P w=.ok (.value v) w')(hstep:Stp (fun _=>False) w w')(hone:v.oneCell'=true)(hv:∀ b,b ∈ V8 v->w.heap.size<=b)(hob:∀ X' η',QQ w w' (XS C s η) X' -> ORep w' X' η' C v (.ext p)):
  y8 P C nt R η e s a w o {v:=.v (.c (.own d)),new:=some (.ext p)}:=by
 have q:=UF (C:=C) (s:=s) (η:=η) {v:=.v (.c (.own d)),new:=some (.ext p)} o.dst v (λ_=>False) hstep (λb f=>f.elim) (λ_ _ _ _ b f=>.inl (hv b f)) (λk o i=>by cases i);refine⟨v,w',.inl hrun,h.step o.dst (λx m=>by rw[hd]at m;cases m;exact hdn) _ _ _ (λ_=>False) hstep (λb f=>f.elim) ?_ (λk o i=>by cases i) ?_⟩
 .intro r dd l g
  cases l
  rw[hd]at g;cases g
  exact⟨hR,rfl,by simp[Obj.refs],hob _ _ q,λb f=>.inl (hv b f)⟩
 .intro _
  refine⟨.v _ _ (.c _ _ (.own _ _ (by simp[SR.eta,hd]) hone)),λj n=>?_⟩;simp[AVal.refs,TV.refs,CV.refs]at n
  exact .inr ⟨by simp,by rw[hd,n]⟩
theorem Z5s{α:Type}[Emb α]{X:Nat->Prop}{gs:List (Int×List α)}(h:ARep w X η C v (.v (.c (.d (MP gs))))):
  ∃(b:Nat) (es:Array MapEntry) (clock:Nat),v=.map (some b)/\¬X b/\w.heap[b]?=some (.map es clock)/\Stamped es clock/\es.size=gs.length/\∀(i:Nat) (x:MapEntry) (e:Int×List α),es[i]?=some x->gs[i]?=some e->Po w X x e:=by
 cases h with|v _ _ h=>cases h with|c _ _ h=>cases h with|d _ _ h=>
 unfold MP at h
 cases h with|mp b es clock _ _ Zd _ h1 h2 h3 h4 h5 h6=>
 refine⟨b,es,clock,rfl,h1,h2,h3,h4,λi x e f g=>?_⟩;obtain⟨l,m⟩:=Qj1.1 g
 obtain⟨p,n⟩:=h5 i l;have o:gs.getD i (0,[])=e:=by rw[Qa0,g];rfl
 have j:=h6 i l;rw[n]at f
 cases f
 simp only[o]at j⊢;exact⟨rfl,j⟩
variable {ops:Array Oper} {ds:List Dir} {k:Nat}
theorem Z5H{α:Type}[Emb α]{gs:List (Int×List α)}(ht:P.underlying t=some (.map kT eT))(hk:QA ds k=rE {v:=.v (.c (.own d)),new:=some (.ext (Zc gs none))})(hop:(U2 ops.toList k).op=.range t x)(hdo:(QJ nt (U2 ops.toList k)&&(QW ops (J4 L ops ops.toList ds e s k) (U2 ops.toList k)==some true)&&(U2 ops.toList k).dst==some d)=true)(hx:Y5 (J4 L ops ops.toList ds e s k) x=.v (.c (.d (MP gs)))):G2 P C nt L ops ds e s k:=by
 unfold G2;rw[hk]
 simp only[Qa4,Qg6]at hdo;obtain⟨⟨z,D⟩,o⟩:=hdo
 refine Ut z D λR η V U a w F I N h=>?_
 have O:x∈(U2 ops.toList k).op.operands.toList:=by rw[hop];simp[Op.operands]
 have A:=(K3 h x).1;rw[F x O,hx]at A
 obtain⟨b,n,f,ev,M,r,B,H,G⟩:=Z5s A;refine Q6r h o (YO z d o) (N d o (by simp)) (v:=.pointer (some ⟨w.heap.size,0,none⟩)) (w':=w.alloc (.mapIter (some b) f #[] f)) ?_ (Stp.alloc _ w _) rfl (λb J=>by simp[V8]at J;omega) λX' η' j=>?_
 .simp [execOp,hop,ev,run_range_map w t kT eT b n f ht r]
 .have l:=j b (J8 r) M
  have g:leftOf n #[]=n:=by simp[leftOf]
  refine .ext _ _ ⟨w.heap.size,b,n,f,f, #[],f,rfl,by show(w.heap.push _)[w.heap.size]?=_;exact Array.getElem?_push_size,l.2,l.1.trans r,B,Qb3 _,Qb3 _,B.1,by rw[g,H],λi y q u p=>?_,λq p=>by cases p⟩ (vg _) λT m=>?_
  .rw [g]at u
   exact(G i y q u p).mono j
  .simp only[V8,Qb1]at m
   subst m;show w.heap.size<(w.heap.push _).size
   rw[Qm3];omega
theorem Z5O{α:Type}[Emb α]{gs:List (Int×List α)}{q:Int×List α}(hk:QA ds k=rE {v:=.t [.c (.d (.int .i64 q.1)),.c (.d (DL q.2))]})(hop:(U2 ops.toList k).op=.entry x)(hdo:(QJ nt (U2 ops.toList k)&&(QW ops (J4 L ops ops.toList ds e s k) (U2 ops.toList k)==some true))=true)(hx:Y5 (J4 L ops ops.toList ds e s k) x=.v (.c (.own id)))(hs:QM L ops ops.toList ds e s k id=some (.ext (Zc gs (some q)))):G2 P C nt L ops ds e s k:=by
 unfold G2;rw[hk]
 simp only[Qa4,Qg6]at hdo;obtain⟨A,H⟩:=hdo
 refine Ut A H λR η Y J a w V o hn f=>?_
 have G:x∈(U2 ops.toList k).op.operands.toList:=by rw[hop];simp[Op.operands]
 have i:=(K3 f x).1;rw[V x G,hx]at i
 have i:=WE i;have m:J id=some (.ext (Zc gs (some q))):=(o x G id (by rw[hx];simp[AVal.refs,TV.refs,CV.refs])).trans hs
 have h:=f.st id _ m;generalize hu:η id=u at h
 cases h with
 |ext _ _ hp _ _=>
  obtain⟨r,b,D,l,g,B,F,rfl,O,g2,N,M,g5,g6,g7,W,Z,p⟩:=hp;obtain⟨y,U,I,rfl,rfl,z,n⟩:=p q rfl
  refine QU f (YO A) (v:=.tuple #[y.key,y.val]) ?_ ?_ (by simp[AVal.refs,TV.refs,CV.refs])
  .simp [execOp,hop,i,hu,run_entry_at w r b g I D F y O N U ((stamped_iff D F).1 M).2.1]
  .refine .t _ _ rfl λj T=>?_
   have:j=0\/j=1:=by simp at T;omega
   rcases this with rfl|rfl
   .exact .c _ _ (.d _ _ (by show DRep w _ y.key _;rw[z];exact .int _ _))
   .exact .c _ _ (.d _ _ n)
end
theorem Z1k{es:Array MapEntry}(hst:Stamped es clock){seen:Array Nat}{x:MapEntry}(hx:(leftOf es seen)[i]?=some x):(leftOf es (seen.push x.born)).toList=(leftOf es seen).toList.eraseIdx i:=by
 have c:((leftOf es seen).toList.map (·.born)).Nodup:=by
  unfold leftOf;rw[Qr8]
  exact(List.filter_sublist.map _).nodup hst.2.1
 have d:(leftOf es (seen.push x.born)).toList=(leftOf es seen).toList.filter λy=>y.born != x.born:=by
  unfold leftOf;rw[Qr8,Qr8,List.filter_filter]
  grind
 rw[d];have b : (leftOf es seen).toList[i]?=some x:=by simpa using hx
 generalize (leftOf es seen).toList=l at c b
 clear hx d
 induction l generalizing i with
 |nil=>simp at b
 |cons y l ih=>
  rw[Qg4,Qr2]at c
  cases i with
  |zero=>
   simp at b
   subst b;rw[List.eraseIdx_zero,Qi7,Qa1 (by simp)]
   rw[List.tail_cons];refine Qm1.2 λz f=>?_
   grind
  |succ i=>
   grind
noncomputable def KN{α R:Type}(gs:List α)(stop:Option R)(go:α->List α->Option R):Option R:=
 open Classical in
 match gs with
 |[]=>stop
 |g::l=>if h:∃r,∀i (hi:i<(g::l).length),go (g::l)[i] ((g::l).eraseIdx i)=some r then some h.choose else none
theorem Z0K{α R:Type}{gs:List α}{stop:Option R}{go:α->List α->Option R}{r:R}(h:KN gs stop go=some r)(hg:gs=[]):stop=some r:=by subst hg;exact h
theorem Z0N{α R:Type}{gs:List α}{stop:Option R}{go:α->List α->Option R}{r:R}(h:KN gs stop go=some r){x:α}{l:List α}(hx:∃i,∃hi:i<gs.length,x=gs[i]/\l=gs.eraseIdx i):go x l=some r:=by
 obtain⟨i,hi,rfl,rfl⟩:=hx
 cases gs with
 |nil=>exact absurd hi (Qd7 _)
 |cons g l=>
  unfold KN at h;simp only at h
  split at h
  all_goals grind
theorem Z0M{α R:Type}{stop:Option R}{go:α->List α->Option R}:KN [] stop go=stop:=rfl
theorem Z0L{α R:Type}{gs:List α}{stop:Option R}{go:α->List α->Option R}{r:R}(hne:gs≠[])(h:∀i (hi:i<gs.length),go gs[i] (gs.eraseIdx i)=some r):KN gs stop go=some r:=by
 cases gs with
 |nil=>exact absurd rfl hne
 |cons g l=>
  unfold KN;simp only
  have b:∃r,∀i (hi:i<(g::l).length),go (g::l)[i] ((g::l).eraseIdx i)=some r:=⟨r,h⟩;rw[Qt9 b]
  have c:=b.choose_spec 0 (by simp)
  grind
section
variable {P:Program} {C:Ctx} {nt:Nat} {L:Lay} {pins:List Nat} {E:List (Nat×AVal)} {S:List (Nat×Obj)} {Q:Exit->Act->World->Prop}
theorem Z6e{α:Type}[Emb α]{gs:List (Int×List α)}{id it t5 t6 t7 ty6 ty7:Nat}{p6 p7:String}{af6 af7:Array Edge}(hE:lk E t5=.v (.c (.own it)))(h6:(E.map (·.1)).contains t6=false)(hn:(Nat.blt t6 nt&&Nat.blt t7 nt && !(t6==t7))=true)(stop:gs=[]->Kn C nt ((t7,vb false)::E) ((it,.ext (Zc gs none))::S) (Q .normal))(go:∀ q l,(∃ i,∃ hi:i<gs.length,q=gs[i]/\l=gs.eraseIdx i)->Kn C nt ((t7,vb true)::E) ((it,.ext (Zc l (some q)))::S) (Q .normal)):
  AW P C nt (.region id #[{dst:=some t6,op:=.next (.tmp t5) false,type:=ty6,pos:=p6,after:=af6,guard:=none}, {dst:=some t7,op:=.extract (.tmp t6) 0,type:=ty7,pos:=p7,after:=af7,guard:=none}] false) E ((it,.ext (Zc gs none))::S) Q:=by
 simp only[Qa4,Nat.blt_eq,Qh9,Qo8]at hn;obtain⟨⟨n6,n7⟩,e2⟩:=hn
 intro R η a w hc;refine wp_region_list ?_
 have A:ls ((it,.ext (Zc gs none))::S) it=some (.ext (Zc gs none)):=by rw[Qe,Qa2 rfl]
 have e5:a.tmps.getD t5 undef=η it:=by have:=hc.ev t5;rw[hE]at this;exact WE this
 have l6:lk E t6=.any:=by
  unfold lk
  grind
 have a5:=hc.st it _ A;have a8:∀b,b∈V8 (η it)->Own (ls ((it,.ext (Zc gs none))::S)) η b:=λb hb=>⟨it,_,A,hb⟩
 have e3:∀x,x∈V8 (η it)->C.M x\/C.w0.heap.size<=x:=λx m=>by
  rcases hc.ow it _ x A m with ⟨h1,_⟩|h1
  .cases h1
  .exact h1
 generalize hu:η it=u at a5
 cases a5 with
 |ext _ _ hp _ hlt=>
 obtain⟨r,b,Y,g,f,d,c0,rfl,g1,g2,g3,g4,g5,g6,g7,g8,g9,_⟩:=hp;have e1:r≠b:=λh=>by rw[h,g3]at g1;cases g1
 have b0:∀ (H:Bool) (V : List (Int×List α)) (Z:Option (Int×List α)) (J:World) (G:Array Value) (R1:Nat->Prop) (η1:Nat->Value),G.getD 0 undef=.bool H->G.size≠0 ->
   Conc C nt R1 η1 (Zs (some t6) .any (lk E)) (ls ((it,.ext (Zc V Z))::S)) (a.put (some t6) (.tuple G)) J ->
   Kn C nt ((t7,vb H)::E) ((it,.ext (Zc V Z))::S) (Q .normal) ->
   wpList P #[{dst:=some t6,op:=.next (.tmp t5) false,type:=ty6,pos:=p6,after:=af6,guard:=none}, {dst:=some t7,op:=.extract (.tmp t6) 0,type:=ty7,pos:=p7,after:=af7,guard:=none}] Q [{dst:=some t7,op:=.extract (.tmp t6) 0,type:=ty7,pos:=p7,after:=af7,guard:=none}] (a.put (some t6) (.tuple G)) J:=by
  intro H V Z J G R1 η1 b9 c9 n kn;refine Qx5 rfl λK hK=>?_
  have hv:(a.put (some t6) (.tuple G)).tmps.getD t6 undef=.tuple G:=by rw[yf a _ _ _ (by rw[hc.sz];intro x m;cases m;exact n6),Qa2 rfl]
  have h0:G[0]?=some (.bool H):=by
   have:0<G.size:=Nat.pos_of_ne_zero c9
   rw[Qe9,Qe7 this]at b9
   grind
  have c4:(execOp (a.put (some t6) (.tuple G)).eval ({dst:=some t7,op:=.extract (.tmp t6) 0,type:=ty7,pos:=p7,after:=af7,guard:=none}:Oper)).run P J=.ok (.value (.bool H)) J:=by
   simp[execOp,Act.eval,hv,Instr.extract,h0]
  refine Pr c4 (hK _ _ ?_);have a6:=n.val (some t7) (λx m=>by cases m;exact n7) (vb H) (.bool H) λ_=>⟨FF _ _,λj hj=>by cases hj⟩
  have he:SR.env {v:=vb H} (some t7) (Zs (some t6) .any (lk E))=lk ((t7,vb H)::E):=by
   funext t
   simp only[SR.env,Zs];rw[DB]
   grind
  rw[he]at a6;exact kn _ _ _ _ a6
 refine Qx5 rfl λK hK=>?_
 have U:∀ {v:Value} {w' : World},(Instr.next (.pointer (some ⟨r,0,none⟩)) false ty6).run P w=.ok v w' ->
   (execOp a.eval ({dst:=some t6,op:=.next (.tmp t5) false,type:=ty6,pos:=p6,after:=af6,guard:=none}:Oper)).run P w=.ok (.value v) w':=λN=>by
  simp[execOp,Act.eval,e5,hu,N]
 rcases run_next_at (P:=P) w ty6 r b f c0 d Y g g1 g3 g7 g5 with ⟨h0,F⟩|⟨y,hy,J,D,F⟩
 .have b7:gs=[]:=Qd9 (by rw[<-g8,h0])
  refine Pr (U F) (hK _ _ ?_);have n:=hc.val (some t6) (λx m=>by cases m;exact n6) .any (.tuple #[.bool false]) λ_=>⟨.any _,by simp[AVal.refs]⟩
  exact b0 false gs none w #[.bool false] R η rfl (by simp) n (stop b7)
 .obtain ⟨i,hi,c7⟩:=Qc3 hy
  have d0 : i<(leftOf Y d).size:=by simpa using hi
  have T : (leftOf Y d)[i]?=some y:=by rw[Qe7 d0];simpa using c7
  have a2:i<gs.length:=by omega
  have c3:=g9 i y gs[i] T (Qc0 a2);have a7:y∈Y.toList:=by
   have:y∈(leftOf Y d).toList:=hy
   unfold leftOf at this
   grind
  refine Pr (U F) (hK _ _ ?_);have a0:J.heap=w.heap:=by rcases D with rfl|rfl<;>rfl
  have b3:J.heap[r]?=some (.mapIter (some b) f d c0):=by rw[a0];exact g1
  have B:Stp (λx=>x=r) w (ChangeMaps.setBlock J r (.mapIter (some b) f (d.push y.born) g)):=by
   refine⟨?_,?_,?_,?_,λx m hn=>?_,?_⟩
   .rcases D with rfl|rfl<;>rfl
   .rcases D with rfl|rfl<;>rfl
   .rcases D with rfl|rfl<;>rfl
   .simp [ChangeMaps.setBlock,a0]
   .exact ((heap_set b3).2 x hn).trans (by rw[a0])
   .rcases D with rfl|rfl
    .exact Qb3 _
    .exact Qm4 _
  have a9:r∈V8 (η it):=by rw[hu];simp[V8]
  have c8:∀(p:World->(Nat->Prop)->Value->Prop),SR.sto {v:=.any,upd:=some (it,.ext p)} (some t6) (ls ((it,.ext (Zc gs none))::S))=ls ((it,.ext p)::S):=λp=>by
   funext z
   simp only[SR.sto,List.contains_nil,Qi1,Qi0];rw[Qe,Qe]
   grind
  have O:SR.eta {v:=.any,upd:=some (it,.ext (Zc (gs.eraseIdx i) (some gs[i])))} (some t6) (.tuple #[.bool true,y.key,y.val]) η=η:=by funext z;simp[SR.eta]
  have hk:=UF (C:=C) (s:=ls ((it,.ext (Zc gs none))::S)) (η:=η) {v:=.any,upd:=some (it,.ext (Zc (gs.eraseIdx i) (some gs[i])))} (some t6) (.tuple #[.bool true,y.key,y.val]) (λx=>x=r) B (λx m=>by subst m;exact a8 _ a9) (λ_ _ N=>by cases N)
   (λk o N=>by cases N;rw[A];simp)
  have n:=hc.step (some t6) (λx m=>by cases m;exact n6) {v:=.any,upd:=some (it,.ext (Zc (gs.eraseIdx i) (some gs[i])))} (.tuple #[.bool true,y.key,y.val]) _ (λx=>x=r) B
   (λx m=>by
    grind)
   (λ_ _ N=>by cases N)
   (λk o N=>by
    cases N
    refine⟨⟨_,A,rfl⟩,rfl,by simp,by simp[Obj.refs],?_⟩;rw[O]at hk⊢
    rw[hu];have b2:=hk b (J8 g3) g2
    have b4:=Z1k g4 T;refine .ext _ _ ⟨r,b,Y,g,f,d.push y.born,g,rfl,(heap_set b3).1,b2.2,b2.1.trans g3,g4,g6,g6,g7,?_,λj x q m W=>?_,λq W=>?_⟩ (vg _) λx m=>?_
    .have:=congrArg List.length b4
     grind
    .have I:(leftOf Y (d.push y.born)).toList[j]?=some x:=by simpa using m
     rw[b4,Qv9]at I;rw[Qv9]at W
     split at I
     .rename_i hj
      rw[Qa2 hj]at W;exact(g9 j x q (by simpa using I) W).mono hk
     .rename_i hj
      rw[Qa1 hj]at W;exact(g9 (j+1) x q (by simpa using I) W).mono hk
    .cases W
     exact⟨y,a7,d,rfl,rfl,c3.mono hk⟩
    .simp only[V8,Qb1]at m
     subst m;exact Qc4 (J8 g1) B.size)
   (λ_=>⟨.any _,by simp[AVal.refs]⟩)
  rw[c8,O]at n;have he:SR.env {v:=.any,upd:=some (it,.ext (Zc (gs.eraseIdx i) (some gs[i])))} (some t6) (lk E)=Zs (some t6) .any (lk E):=rfl
  rw[he]at n;exact b0 true (gs.eraseIdx i) (some gs[i]) _ #[.bool true,y.key,y.val] _ _ rfl (by simp) n (go gs[i] (gs.eraseIdx i) ⟨i,a2,rfl,rfl⟩)
end
end
section
open Go.MapKept
section
variable {α:Type} [Emb α]
def z5(y:Int)(gs:List (Int×List α)):Nat:=gs.findIdx λe=>e.1==y
def gApp(y:Int)(m:List α)(gs:List (Int×List α)):List (Int×List α):=
 match gs[z5 y gs]? with
 |some e=>gs.set (z5 y gs) (e.1,e.2++m)
 |none=>gs++[(y,m)]
theorem JF{β:Type}(y:Int)(gs:List (Int×List β)):(z5 y gs<gs.length/\∃e,gs[z5 y gs]?=some e/\e.1=y)\/(z5 y gs=gs.length/\∀e∈gs,e.1≠y):=by
 unfold z5;rcases Qc8 (gs.findIdx λe=>e.1==y) gs.length with h|h
 .left
  refine⟨h,_,Qc0 h,?_⟩
  grind
 all_goals grind
theorem yy{β:Type}{gs:List (Int×List β)}(hnd:(gs.map (·.1)).Nodup){a b:Int×List β}(ha:gs[i]?=some a)(hb:gs[j]?=some b)(h:a.1=b.1):i=j:=by
 obtain⟨d,ha⟩:=Qj1.1 ha;obtain⟨c,hb⟩:=Qj1.1 hb
 exact(Qn9 (h₀:=by simpa using d) (h₁:=by simpa using c) hnd).1 (by simp[ha,hb,h])
def VH(w:World)(X:Nat->Prop)(v:Value)(l:List α):Prop:=∀η C,ORep w X η C v (AO l)
def ZK(b:Nat)(rs:List Value):Array Value:=(Value.map (some b)::(rs++[.slice none 0 0])).toArray
structure GrpAt (gs:List (Int×List α)) (pend:Option Nat) (w:World) (X:Nat->Prop) (b:Nat) (rs:List Value) (ents:Array MapEntry) (clock:Nat):Prop where
 heap:w.heap[b]?=some (.map ents clock)
 st:Stamped ents clock
 len:rs.length=gs.length
 nd:(gs.map (·.1)).Nodup
 rows:∀(i:Nat) (e:Int×List α) (v:Value),gs[i]?=some e->rs[i]?=some v->VH w X v e.2
 apart:∀(i j:Nat) (u v:Value) (x:Nat),rs[i]?=some u->rs[j]?=some v->x∈V8 u->x∈V8 v->i=j
 off:∀(i:Nat) (v:Value),rs[i]?=some v->b∉V8 v
 ents:match pend with
  |none=>ents.size=gs.length/\∀(i:Nat) (e:Int×List α) (v:Value),gs[i]?=some e->rs[i]?=some v->∃bo,ents[i]?=some ⟨.int .i64 e.1,v,bo⟩
  |some j=>j<gs.length/\(ents.size=gs.length\/(ents.size+1=gs.length/\j=ents.size))/\∀(i:Nat) (e:Int×List α) (v:Value),i<ents.size->gs[i]?=some e->rs[i]?=some v->∃u bo,ents[i]?=some ⟨.int .i64 e.1,u,bo⟩/\(i≠j->u=v)
def Zh(gs:List (Int×List α))(pend:Option Nat)(w:World)(X:Nat->Prop)(us:List Value)(v:Value):Prop:=
 ∃b rs ents clock,us=[.map (some b)]/\v=.agg (ZK b rs)/\GrpAt gs pend w X b rs ents clock
theorem VH.form{X:Nat->Prop}{l:List α}(h:VH w X v l):∃ad n cap,v=.slice ad n cap/\Pa v=V8 v/\v.oneCell'=true:=by
 have:=h (λ_=>undef) (Qk [] w X λ_=>undef)
 unfold AO at this;generalize l.length=n at this
 cases this with
 |nil ad=>exact⟨_,_,_,rfl,by cases ad<;>rfl,rfl⟩
 |arr=>exact⟨_,_,_,rfl,rfl,rfl⟩
theorem VH.mono{X X' : Nat->Prop}{l:List α}(h:VH w X v l)(hk:QQ w w' X X')(hb:∀b∈V8 v,w'.heap[b]?=w.heap[b]?):VH w' X' v l:=
 λη C=>(h η C).mono hk (λ_ _=>rfl) hb
theorem VH.lt{X:Nat->Prop}{l:List α}(h:VH w X v l){b:Nat}(hb:b∈V8 v):b<w.heap.size:=
 (h (λ_=>undef) (Qk [] w X λ_=>undef)).lt hb
theorem We{b x:Nat}(h1:∀v∈rs,Pa v=V8 v):x∈V8 (.agg (ZK b rs))↔x=b\/∃v∈rs,x∈V8 v:=by
 show x∈(Value.map (some b)::(rs++[.slice none 0 0])).flatMap Pa↔_;rw[Qm7,Qb2,Qr9,Qb2,Qc1,Qc1]
 constructor
 .rintro (h|⟨v,hv,h⟩|⟨v,hv,h⟩)
  .exact .inl (Qb1.1 h)
  .grind
  .rw [Qb1.1 hv]at h;cases h
 .rintro (h|⟨v,hv,h⟩)
  .exact .inl (Qb1.2 h)
  all_goals grind
theorem GrpAt.one{gs:List (Int×List α)}{X:Nat->Prop}{b:Nat}(h:GrpAt gs pend w X b rs ents clock):∀v∈rs,Pa v=V8 v:=λv g=>by
 obtain⟨i,d,rfl⟩:=Qc3 g;have c : i<gs.length:=by rw[<-h.len];exact d
 obtain⟨_,_,_,_,f,_⟩:=(h.rows i gs[i] rs[i] (Qc0 c) (Qc0 d)).form;exact f
theorem GrpAt.mono{gs:List (Int×List α)}{X X' : Nat->Prop}{b:Nat}(h:GrpAt gs pend w X b rs ents clock)(hk:QQ w w' X X')(hb:∀x∈V8 (.agg (ZK b rs)),w'.heap[x]?=w.heap[x]?):GrpAt gs pend w' X' b rs ents clock:=
 ⟨(hb b ((We h.one).2 (.inl rfl))).trans h.heap,h.st,h.len,h.nd,λi e v f c=>(h.rows i e v f c).mono hk λx d=>hb x ((We h.one).2 (.inr ⟨v,Qf2 c,d⟩)),h.apart,h.off,h.ents⟩
theorem vr{gs:List (Int×List α)}{us:List Value}(v:Value):Ph (λw X v=>Zh gs pend w X us v) v:=by
 intro w m X X' f j h;obtain⟨b,i,d,c,l,rfl,g⟩:=h
 exact⟨b,i,d,c,l,rfl,g.mono f j⟩
theorem GrpAt.lt{gs:List (Int×List α)}{X:Nat->Prop}{b:Nat}(h:GrpAt gs pend w X b rs ents clock){x:Nat}(hx:x∈V8 (.agg (ZK b rs))):x<w.heap.size:=by
 rcases(We h.one).1 hx with rfl|⟨v,f,hx⟩
 .exact J8 h.heap
 .obtain ⟨i,d,rfl⟩:=Qc3 f
  have c : i<gs.length:=by rw[<-h.len];exact d
  exact(h.rows i gs[i] rs[i] (Qc0 c) (Qc0 d)).lt hx
end
def Ht(extra:List Nat)(ops:Array Oper)(o:Oper)(e:U8)(r:SR):Eff:= {rd:=QG o++Qt ops o,ids:=Wu e o++extra,v:=r.v,l:=r.l o.dst,news:=r.nw o.dst}
def xE(extra:List Nat)(r:SR):Array Oper->Oper->U8->Eff:=λops o e=>Ht extra ops o e r
section
variable {P:Program} {C:Ctx} {nt:Nat} {L:Lay} {ops:Array Oper} {ds:List Dir} {e:U8} {s:J0}
def Q3C(P:Program)(C:Ctx)(nt:Nat)(R:Nat->Prop)(η:Nat->Value)(e:U8)(s:J0)(a:Act)(w:World)(o:Oper)(r:SR):Prop:=
 ∃v u w',((execOp a.eval o).run P w=.ok (.value v) w' \/ ((execOp a.eval o).run P w=.ok .skip w' /\ v=undef)) /\
  Conc C nt (r.rng o.dst R) (r.eta o.dst u η) (r.env o.dst e) (r.sto o.dst s) (a.put o.dst v) w'
theorem y8.g{R:Nat->Prop}{a:Act}{r:SR}(h:y8 P C nt R η e s a w o r):Q3C P C nt R η e s a w o r:=by
 obtain⟨v,d,b,c⟩:=h;exact⟨v,v,d,b,c⟩
theorem LO(extra:List Nat)(hdo:QJ nt o=true){r:SR}(hg:QW ops e o=some true)(hsnd:∀ (R:Nat->Prop) (η:Nat->Value) (e0:U8) (s0:J0) (a:Act) (w:World),(∀ x ∈ o.op.operands.toList,Y5 e0 x=Y5 e x)->(∀ x ∈ o.op.operands.toList,∀ i ∈ (Y5 e x).refs,s0 i=s i)->(∀ i ∈ extra,s0 i=s i)->(∀ d,o.dst=some d->r.new≠none->¬ R d) ->
   Conc C nt R η e0 s0 a w->Q3C P C nt R η e0 s0 a w o r):Wo P C nt ops o (Ht extra ops o e r) e s:=by
 intro R η e0 s0 a w q c D b K Q T;have n:∀x∈o.op.operands.toList,Y5 e0 x=Y5 e x:=by
  intro x n
  cases x with
  |tmp t=>exact q t (Qb2.2 (.inl (Qp2.2 ⟨_,n,rfl⟩)))
  |const v=>rfl
  |global g=>rfl
  |func f=>rfl
 have F:∀x∈o.op.operands.toList,∀i∈(Y5 e x).refs,s0 i=s i:=λx n i A=>c i (Qo0 _ (Qc1.2 ⟨x,n,A⟩))
 have M:=Ur (e:=e) b (λt U=>q t (Qb2.2 (.inr U))) hg;rw[Qa2 M]
 have N:=hsnd R η e0 s0 a w n F (λi A=>c i (Qn5 _ A)) (λd O V=>D d (by
  obtain⟨W,B⟩:=Qa9.1 V;simp[Ht,SR.nw,B,O])) b
 have p:∀η' z h,Conc C nt (r.rng o.dst R) η' (r.env o.dst e0) (r.sto o.dst s0) z h -> K z h:=λη' z h I=>by
  refine T η' z h ?_;have G:=I.wider (LS r o.dst R)
  have j:Zw (Ht extra ops o e r).l s0=r.sto o.dst s0:=LR r o.dst s0;rw[j]
  have m:Zs o.dst (Ht extra ops o e r).v e0=r.env o.dst e0:=rfl;rw[m]
  exact G
 obtain⟨v,u,h,H|⟨H,rfl⟩,J⟩:=N
 .exact Pr H (p _ _ _ J)
 .exact kL H (p _ _ _ J)
end
section
variable {P:Program} {C:Ctx} {nt:Nat} {L:Lay} {R:Nat->Prop} {η:Nat->Value} {e:U8} {s:J0} {a:Act} {w:World}
variable {α:Type} [Emb α]
theorem Cr(h:Conc C nt R η e s a w){g base:Nat}{gs:List (Int×List α)}{pend:Option Nat}(hs:s g=some (.exr [base] (Zh gs pend))):
  ∃b rs ents clock,η base=.map (some b)/\η g=.agg (ZK b rs)/\GrpAt gs pend w (XS C s η) b rs ents clock:=by
 have c:=h.st g _ hs;generalize hu:η g=u at c
 cases c with
 |exr _ _ _ hp _ _=>
  obtain⟨b,rs,ents,clock,i,d,f⟩:=hp
  grind
theorem Q7W(hL:Qi P L)(h:Conc C nt R η e s a w)(hd:o.dst=some d)(hdn:d<nt){tx ty:Nat}(hne:tx≠ty)(hop:o.op=.call { callee:=.builtin .append,args:= #[.tmp tx,.tmp ty],argTypes:= #[t,t] }){ti:TI}(ht:L t=some ti){el:Nat}(hk:ti.kind=.slice el)(hte:L el=some te)(hes:te.size=Emb.es α){l m:List α}(hx:VH w (XS C s η) (a.tmps.getD tx undef) l)(hX:∀ b ∈ V8 (a.tmps.getD tx undef),XS C s η b)(hy:e ty=AL m)(hby:te.bytes<=8192)(hzl:te.zero.length=te.size)(hlim:l.length+m.length<=Y6):
  ∃v w',(execOp a.eval o).run P w=.ok (.value v) w' /\ Stp (λb=>b∈V8 (a.tmps.getD tx undef)) w w' /\ (∀b∈V8 v,b∈V8 (a.tmps.getD tx undef)\/w.heap.size<=b) /\
   ∀X',(∀b,b<w'.heap.size->X' b->(XS C s η b/\b∉V8 (a.tmps.getD tx undef))\/b∈V8 v)->VH w' X' v (l++m):=by
 generalize hv1:a.tmps.getD tx undef=v1 at *;have F:∀b,XS C s η b->b<w.heap.size:=by
  rintro b (⟨hx,_⟩|hx)
  .exact Qc4 (h.ok.lt b hx) h.fr.size
  .exact h.lt hx
 let C0:Ctx:= {w0:=w,D:=λb=>b∈V8 v1,M:=λb=>b∈V8 v1,X:=XS C s η,pin:=λ_=>none}
 let η0:Nat->Value:=λ_=>v1
 let s0:J0:=λi=>if i=nt then some (AO l)else none
 let e0:U8:=λt=>if t=tx then .v (.c (.own nt))else if t=ty then AL m else .any
 have G:XS C0 s0 η0=XS C s η:=by
  funext b
  apply propext;constructor
  .rintro (⟨T,_⟩|⟨i,x,p,u⟩)
   all_goals grind
  .intro u
   rcases Qn2 (b∈V8 v1)with V|V
   .exact .inr ⟨nt,AO l,by simp[s0],V⟩
   .exact .inl ⟨u,V⟩
 have H:∀i x,s0 i=some x -> i=nt/\x=AO l:=λi x p=>by
  grind
 have a3:Conc C0 nt (λi=>i=nt) η0 e0 s0 a w:=by
  refine⟨⟨λb u=>u,λb u=>hX b u,F⟩,h.df,h.sz,λt=>?_,λt i p=>?_,λi x p=>?_,λi x p=>?_,λi j b p Z _ _=>?_,λi x b p u=>?_,Stp.refl _ _,λi v p=>by cases p⟩
  .rw [G]
   simp only[e0];split
   .rename_i ht;subst ht
    rw[hv1];exact .v _ _ (.c _ _ (.own _ _ rfl hx.form.choose_spec.choose_spec.choose_spec.2.2))
   .split
    .rename_i _ ht;subst ht
     have:=h.ev t
     rw[hy]at this;unfold AL at this⊢
     generalize a.tmps.getD t undef=q at this⊢
     cases this with|v _ _ hh=>cases hh with|c _ _ hh=>cases hh with|d _ _ hh=>exact .v _ _ (.c _ _ (.d _ _ hh))
    .exact .any _
  .simp only[e0]at p
   split at p
   .simpa [AVal.refs,TV.refs,CV.refs]using p
   .split at p
    .simp [AL,AVal.refs,TV.refs,CV.refs]at p
    .simp [AVal.refs]at p
  .obtain ⟨_,rfl⟩:=H i x p
   rw[G];exact hx _ _
  .obtain ⟨rfl,rfl⟩:=H i x p
   exact⟨rfl,λj Z=>by simp[AO,Obj.refs]at Z⟩
  all_goals grind
 have hR:¬(λi=>i=nt) d:=by show ¬d=nt;omega
 obtain⟨v,w',hr,A⟩:=LX (c:=True) hL a3 hd hdn hR hop ht hk hte (k:=m.length) (g:=LF m) (by simp[Y5,e0,Qw1 hne,AL,DL,Vi])
  (del:=[nt]) (n:=l.length) (f:=LF l) (c0:=True) (by simp[Y5,e0,UP,s0,AO,hes]) trivial hby hzl hlim (λj Z=>by rw[hes];exact Emb.len _)
 have I:(SR.sto {v:=.v (.c (.own d)),del:=[nt],new:=some (.arr te.size (l.length+m.length) (Qw l.length (LF l) (LF m))),cond:=True} o.dst s0)=λi=>if i=d then some (.arr te.size (l.length+m.length) (Qw l.length (LF l) (LF m)))else none:=by
  funext i
  simp only[SR.sto,hd]
  grind
 rw[I]at A;have B:(λi=>if i=d then some (Obj.arr te.size (l.length+m.length) (Qw l.length (LF l) (LF m)))else none) d=some (.arr te.size (l.length+m.length) (Qw l.length (LF l) (LF m))):=by simp
 have z:=A.st d _ B;have r:SR.eta {v:=.v (.c (.own d)),del:=[nt],new:=some (.arr te.size (l.length+m.length) (Qw l.length (LF l) (LF m))),cond:=True} o.dst v η0 d=v:=by simp[SR.eta,hd]
 have U:∀b,b∈V8 v->b∈V8 v1\/w.heap.size<=b:=λb u=>by
  rcases A.ow d _ b B (by rw[r];exact u)with ⟨T,_⟩|T|T
  all_goals grind
 rw[r]at z;have J:(execOp a.eval o).run P w=.ok (.value v) w':=by
  rcases hr with hr|⟨_,rfl⟩
  .exact hr
  .have hu:(undef:Value)=.tuple #[]:=rfl
   rw[hu]at z;cases z
 refine⟨v,w',J,A.fr,U,λX' W=>λη2 C2=>?_⟩
 .have a0:J5 (.arr te.size (l.length+m.length) (Qw l.length (LF l) (LF m))) (AO (l++m)):=by rw[hes];exact J5.is (Is.app (Is.refl l) (Is.refl m))
  have N:=a0.1 _ _ _ _ _ z;have h3:ORep w' (XS C0 (λi=>if i=d then some (Obj.arr te.size (l.length+m.length) (Qw l.length (LF l) (LF m)))else none) (SR.eta {v:=.v (.c (.own d)),del:=[nt],new:=some (.arr te.size (l.length+m.length) (Qw l.length (LF l) (LF m))),cond:=True} o.dst v η0)) η2 C2 v (AO (l++m)):=by
   unfold AO at N⊢;generalize (l++m).length=nn at N⊢
   cases N with
   |nil ad=>exact .nil ad _ _
   |arr b' _ cap' _ c' e' _ q1 q2 q3 q4 q5 q6 q7=>exact .arr b' _ cap' _ c' e' _ q1 q2 q3 q4 q5 q6 q7
  refine h3.mono (λb u O=>⟨rfl,λY=>O ?_⟩) (λ_ _=>rfl) λ_ _=>rfl
  rcases W b u Y with ⟨h4,h5⟩|h4
  .exact .inl ⟨h4,h5⟩
  .exact .inr ⟨d,_,B,by rw[r];exact h4⟩
theorem DR(b:Nat)(rs:List Value)(i:Nat):(ZK b rs)[1+i]?=(rs++[.slice none 0 0])[i]?:=by
 simp[ZK,Qn0 1 i]
theorem GrpAt.find{gs:List (Int×List α)}{X:Nat->Prop}{b:Nat}(h:GrpAt gs none w X b rs ents clock)(y:Int):
  (Instr.findNow (.int .i64) (.int .i64 y) ents.toList 0=some none/\z5 y gs=gs.length) \/
  ∃x:MapEntry,Instr.findNow (.int .i64) (.int .i64 y) ents.toList 0=some (some (z5 y gs,x.val))/\rs[z5 y gs]?=some x.val/\z5 y gs<gs.length:=by
 obtain⟨M,c⟩:=h.ents;have m:∀(j:Nat) (x:MapEntry),ents[j]?=some x->∃e v,gs[j]?=some e/\rs[j]?=some v/\x.key=.int .i64 e.1/\x.val=v:=λj x u=>by
  have B:j<ents.size:=(Qh3.1 u).1;have D:j<gs.length:=by omega
  have z:j<rs.length:=by rw[h.len];exact D
  obtain⟨H,F⟩:=c j gs[j] rs[j] (Qc0 D) (Qc0 z)
  grind
 have q:∀x∈ents.toList,IsKey (.int .i64) x.key:=λx u=>by
  obtain⟨j,B,rfl⟩:=Qc3 u;obtain⟨e,v,_,_,g,_⟩:=m j _ (by simp at B⊢;exact Qe7 B)
  simp only[Qr3]at g⊢;rw[g];rfl
 rcases findNow_spec (d:=.int .i64) (k:=.int .i64 y) rfl ents.toList 0 q with ⟨o,p⟩|⟨j,x,o,p,J⟩
 .left
  refine⟨o,?_⟩;rcases JF y gs with ⟨l,e,n,f⟩|⟨G,_⟩
  .exfalso
   have z:z5 y gs<rs.length:=by rw[h.len];exact l
   obtain⟨H,F⟩:=c _ e _ n (Qc0 z);exact p _ (by have:=Qn6 F;simpa using this) (by rw[f])
  .exact G
 .right
  obtain⟨e,v,n,I,g,r⟩:=m j x (by simpa using p);rw[J]at g
  have f:e.1=y:=by cases g;rfl
  have t:z5 y gs=j:=by
   rcases JF y gs with ⟨l,O,A,i⟩|⟨_,N⟩
   .exact yy h.nd A n (by rw[f,i])
   all_goals grind
  rw[Qd2]at o;rw[t]
  exact⟨x,o,by rw[r];exact I,(Qj1.1 n).1⟩
variable {ops:Array Oper} {ds:List Dir} {k:Nat}
def XL(ops:Array Oper)(nt:Nat)(e:U8)(o:Oper):Bool:=QJ nt o&&(QW ops e o==some true)
theorem Z5L{gs:List (Int×List α)}{g:Nat}{m:Operand}(ht:P.underlying t=some (.map kT eT))(hkT:P.underlying kT=some (.int .i64))(hz:∀w,(zeroValue eT).run P w=.ok (.slice none 0 0) w)(hk:QA ds k=xE [g] {v:=.v (.c (.cp g (1+z5 y gs)))})(hop:(U2 ops.toList k).op=.lookup t m x false)(hdo:XL ops nt (J4 L ops ops.toList ds e s k) (U2 ops.toList k)=true)(hm:Y5 (J4 L ops ops.toList ds e s k) m=.v (.c (.own base)))(hx:Y5 (J4 L ops ops.toList ds e s k) x=vi y)(hs:QM L ops ops.toList ds e s k g=some (.exr [base] (Zh gs none))):G2 P C nt L ops ds e s k:=by
 unfold G2;rw[hk]
 simp only[XL,Qa4,Qg6]at hdo;obtain⟨B,M⟩:=hdo
 refine LO [g] B M λR η Y O a w G T A Z f=>y8.g ?_
 have U:m∈(U2 ops.toList k).op.operands.toList:=by rw[hop];simp[Op.operands]
 have W:x∈(U2 ops.toList k).op.operands.toList:=by rw[hop];simp[Op.operands]
 have n:=(K3 f m).1;rw[G m U,hm]at n
 have n:=WE n;have p:=(K3 f x).1
 rw[G x W,hx]at p;have p:=kO p
 have u:O g=some (.exr [base] (Zh gs none)):=(A g (by simp)).trans hs;obtain⟨b,N,i,z,V,H,o⟩:=Cr f u
 rw [V] at n;have h:∀ v,(v=.slice none 0 0/\z5 y gs=gs.length/\Instr.findNow (.int .i64) (.int .i64 y) i.toList 0=some none)\/(N[z5 y gs]?=some v/\Instr.findNow (.int .i64) (.int .i64 y) i.toList 0=some (some (z5 y gs,v))) ->
   (execOp a.eval (U2 ops.toList k)).run P w=.ok (.value v) w:=by
  rintro v (⟨rfl,_,l⟩|⟨_,l⟩)
  .simp [execOp,hop,n,p,Instr.lookup,Qb9 ht,Qi3 o.heap,Qo1 hkT (k:=.int .i64 y) (d:=.int .i64) rfl,Qo9 hkT l,hz]
  .simp [execOp,hop,n,p,Instr.lookup,Qb9 ht,Qi3 o.heap,Qo1 hkT (k:=.int .i64 y) (d:=.int .i64) rfl,Qo9 hkT l]
 have I:∀j∈(AVal.v (.c (.cp g (1+z5 y gs)))).refs,R j:=λj J=>by
  simp[AVal.refs,TV.refs,CV.refs]at J
  subst J;exact(f.sr _ _ u).1
 rcases o.find y with ⟨l,F⟩|⟨q,l,D,r⟩
 .refine QU f (YO B) (h _ (.inl ⟨rfl,F,l⟩)) (.v _ _ (.c _ _ (.cp _ _ _ _ H ?_ rfl))) I
  rw[DR,F, <-o.len];simp
 .obtain ⟨e',he'⟩:∃e',gs[z5 y gs]?=some e':=⟨_,Qc0 r⟩
  refine QU f (YO B) (h _ (.inr ⟨D,l⟩)) (.v _ _ (.c _ _ (.cp _ _ _ _ H ?_ ((o.rows _ _ _ he' D).form.choose_spec.choose_spec.choose_spec.2.2)))) I;rw[DR,Qh4 (by rw[o.len];exact r)]
  exact D
end
end
section
open Go.MapKept
section
variable {P:Program} {C:Ctx} {nt:Nat} {L:Lay} {R:Nat->Prop} {η:Nat->Value} {e:U8} {s:J0} {a:Act} {w:World}
variable {α:Type} [Emb α] {ops:Array Oper} {ds:List Dir} {k:Nat}
def gRow(y:Int)(gs:List (Int×List α)):List α:=match gs[z5 y gs]? with|some e=>e.2|none=>[]
theorem Q1v{β:Type}{m:List β}{gs:List (Int×List β)}{q:Int×List β}(h:gs[z5 y gs]?=some q):gApp y m gs=gs.set (z5 y gs) (q.1,q.2++m):=by unfold gApp;rw[h]
theorem Q1t{β:Type}{m:List β}{gs:List (Int×List β)}(h:z5 y gs=gs.length):gApp y m gs=gs++[(y,m)]:=by
 unfold gApp
 grind
def Uy{β:Type}(l:List β)(i:Nat)(x:β):List β:=if i<l.length then l.set i x else l++[x]
theorem Dr{β:Type}{l:List β}{x:β}(h:i<=l.length):(Uy l i x).length=if i<l.length then l.length else l.length+1:=by
 unfold Uy;split<;>simp
theorem Ds{β:Type}{l:List β}{x:β}(h:i<=l.length)(j:Nat):(Uy l i x)[j]?=if j=i then some x else l[j]?:=by
 unfold Uy
 grind
theorem Cu{β:Type}{m:List β}{gs:List (Int×List β)}:∃q,q.1=y/\q.2=gRow y gs++m/\gApp y m gs=Uy gs (z5 y gs) q/\z5 y gs<=gs.length:=by
 rcases JF y gs with ⟨b,q,d,f⟩|⟨c,_⟩
 .refine ⟨(q.1,q.2++m),f,by unfold gRow;rw[d],?_,by omega⟩
  rw[Q1v d];unfold Uy;rw[Qa2 b]
 .refine ⟨(y,m),rfl,?_,?_,by omega⟩
  .unfold gRow;rw[c,Qh0 (Qb3 _)];simp
  .rw [Q1t c];unfold Uy;rw[c,Qa1 (Nat.lt_irrefl _)]
theorem Z2K{β:Type}{m:List β}{gs:List (Int×List β)}:∃q,(gApp y m gs)[z5 y gs]?=some q/\q.1=y:=by
 obtain⟨q,c,_,b,d⟩:=Cu (y:=y) (m:=m) (gs:=gs);refine⟨q,?_,c⟩
 rw[b];unfold Uy
 grind
theorem Q1u{β:Type}{m:List β}{gs:List (Int×List β)}(hnd:(gs.map (·.1)).Nodup):((gApp y m gs).map (·.1)).Nodup:=by
 rcases JF y gs with ⟨b,q,f,g⟩|⟨c,d⟩
 .rw [Q1v f,List.map_set]
  grind
 .rw [Q1t c,Qe0]
  grind
theorem Z5M(hL:Qi P L){gs:List (Int×List α)}{m:List α}{g:Nat}{t tx ty:Nat}(hT:Vq L t te)(hes:te.size=Emb.es α)(hk:QA ds k=xE [g] {v:=.v (.c (.cp d (1+z5 y gs))),del:=[g],new:=some (.exr [base] (Zh (Go.Ab.gApp y m gs) (some (z5 y gs))))})(hop:(U2 ops.toList k).op=.call {callee:=.builtin .append,args:= #[.tmp tx,.tmp ty],argTypes:= #[t,t]})(hdo:(XL ops nt (J4 L ops ops.toList ds e s k) (U2 ops.toList k)&&(U2 ops.toList k).dst==some d && !(tx==ty))=true)(hx:J4 L ops ops.toList ds e s k tx=.v (.c (.cp g (1+z5 y gs))))(hy:J4 L ops ops.toList ds e s k ty=AL m)(hs:QM L ops ops.toList ds e s k g=some (.exr [base] (Zh gs none)))(hby:te.bytes<=8192)(hzl:te.zero.length=te.size)(hlim:(gRow y gs).length+m.length<=Y6):G2 P C nt L ops ds e s k:=by
 obtain⟨ti,el,ht,e8,e9⟩:=hT;unfold G2
 rw[hk];simp only[XL,Qa4,Qg6,Qh9,Qo8]at hdo
 obtain⟨⟨⟨h1,h2⟩,h3⟩,h4⟩:=hdo;refine LO [g] h1 h2 λR η e0 s0 a w he i2 e7 hn n=>?_
 have ox:Operand.tmp tx∈(U2 ops.toList k).op.operands.toList:=by rw[hop];simp[Op.operands,Call.operands]
 have oy:Operand.tmp ty∈(U2 ops.toList k).op.operands.toList:=by rw[hop];simp[Op.operands,Call.operands]
 have ex:e0 tx=.v (.c (.cp g (1+z5 y gs))):=(he _ ox).trans hx;have ey:e0 ty=AL m:=(he _ oy).trans hy
 have A:s0 g=some (.exr [base] (Zh gs none)):=(e7 g (by simp)).trans hs;have c7:=YO h1 d h3
 have a7:¬R d:=hn d h3 (by simp);obtain⟨b,H,a5,V,hb,hg,f⟩:=Cr n A
 have h8:g≠d:=λh=>a7 (h ▸ (n.sr _ _ A).1)
 have b6:=n.ev tx;rw[ex]at b6
 generalize hv1e:a.tmps.getD tx undef=v1 at b6;have d6:(H++[.slice none 0 0])[z5 y gs]?=some v1:=by
  cases b6 with|v _ _ hh=>cases hh with|c _ _ hh=>cases hh with|cp _ _ _ vs q1 q2 _=>
  rw[hg]at q1;cases q1
  rwa [DR]at q2
 obtain⟨q,h0,g8,Y,G⟩:=Cu (y:=y) (m:=m) (gs:=gs);have U : z5 y gs<=H.length:=by rw[f.len];exact G
 have J:∀x,x∈V8 (.agg (ZK b H))->Own s0 η x:=λx hx=>⟨g,_,A,by rw[hg];exact hx⟩
 have c3:VH w (XS C s0 η) v1 (gRow y gs)/\(∀x∈V8 v1,x∈V8 (.agg (ZK b H)))/\b∉V8 v1/\∀j u,j≠z5 y gs->H[j]?=some u->∀x∈V8 u,x∉V8 v1:=by
  rcases JF y gs with ⟨W,q',a8,f4⟩|⟨hl,_⟩
  .have D:H[z5 y gs]?=some v1:=by rwa [Qh4 (by rw[f.len];exact W)]at d6
   refine⟨?_,λx hx=>(We f.one).2 (.inr ⟨v1,Qf2 D,hx⟩),f.off _ _ D,λj u B hu x hx e2=>B (f.apart _ _ _ _ x hu D hx e2)⟩;unfold gRow;rw[a8]
   exact f.rows _ _ _ a8 D
  .have D:v1=.slice none 0 0:=by
    rw[hl, <-f.len,Ql6 (Qb3 _),Nat.sub_self]at d6
    grind
   subst D;refine⟨?_,λx hx=>by simp[V8]at hx,by simp[V8],λj u _ _ x _ hx=>by simp[V8]at hx⟩
   unfold gRow;rw[hl,Qh0 (Qb3 _)]
   exact λη C=>.nil _ _ _
 obtain⟨f7,N,b4,d2⟩:=c3;obtain⟨v',w',d8,F,a1,d0⟩:=Q7W hL n h3 c7 h4 hop ht e8 e9 hes (l:=gRow y gs) (m:=m) (by rw[hv1e];exact f7) (λx hx=>by rw[hv1e]at hx;exact .inr (J x (N x hx))) ey hby hzl hlim
 rw[hv1e]at F a1 d0;have b7:∀x∈V8 (.agg (ZK b H)),C.M x\/C.w0.heap.size<=x:=λx hx=>by
  rcases n.ow g _ x A (by rw[hg];exact hx)with ⟨h,_⟩|h
  .cases h
  .exact h
 have W:∀x∈V8 (.agg (ZK b H)),x<w.heap.size:=λx hx=>f.lt hx
 let rs':=Uy H (z5 y gs) v'
 have p : ∀j,rs'[j]?=if j=z5 y gs then some v' else H[j]?:=λj=>Ds U j
 have a2 : ∀j,(Go.Ab.gApp y m gs)[j]?=if j=z5 y gs then some q else gs[j]?:=λj=>by rw[Y];exact Ds G j
 have Z:=(d0 (λ_=>False) λ_ _ h=>h.elim).form;have a6 : ∀v∈rs',Pa v=V8 v:=λv D=>by
  obtain⟨j,B⟩:=Qo2 D;have b2:=p j
  rw[B]at b2
  by_cases h:j=z5 y gs
  .grind
  .rw [Qa1 h]at b2;exact f.one _ (Qf2 b2.symm)
 have hu:∀x,x∈V8 (.agg (ZK b rs'))->x=b\/x∈V8 v' \/ ∃j u,j≠z5 y gs/\H[j]?=some u/\x∈V8 u:=λx hx=>by
  rcases(We a6).1 hx with h|⟨v,D,hx⟩
  .exact .inl h
  .obtain ⟨j,B⟩:=Qo2 D
   grind
 have e1:∀x,x∈V8 (.agg (ZK b rs'))->w.heap.size<=x\/x∈V8 (.agg (ZK b H)):=λx hx=>by
  rcases hu x hx with rfl|h|⟨j,u,_,h,hx⟩
  .exact .inr ((We f.one).2 (.inl rfl))
  .grind
  .exact .inr ((We f.one).2 (.inr ⟨u,Qf2 h,hx⟩))
 let r:SR:= {v:=.v (.c (.cp d (1+z5 y gs))),del:=[g],new:=some (.exr [base] (Zh (Go.Ab.gApp y m gs) (some (z5 y gs))))}
 have c4:=UF (C:=C) (s:=s0) (η:=η) r (U2 ops.toList k).dst (.agg (ZK b rs')) (λx=>x∈V8 v1) F (λx hx=>J x (N x hx)) (λo' dd _ _ x hx=>by
  grind) (λk o hh=>by cases hh)
 have I:∀i,r.eta (U2 ops.toList k).dst (.agg (ZK b rs')) η i=if i=d then .agg (ZK b rs')else η i:=λi=>by simp only[SR.eta,h3,r]
 have f2:w'.heap[b]?=w.heap[b]?:=F.block b (J8 f.heap) b4;have g3:∀x,x<w'.heap.size->XS C (r.sto (U2 ops.toList k).dst s0) (r.eta (U2 ops.toList k).dst (.agg (ZK b rs')) η) x->(XS C s0 η x/\x∉V8 v1)\/x∈V8 v':=by
  intro x hx hX;rcases hX with ⟨c8,c5⟩|⟨i,oi,z,T⟩
  .refine .inl ⟨.inl ⟨c8,c5⟩,λb5=>?_⟩
   rcases b7 x (N x b5)with h|h
   .exact c5 (n.ok.md x h)
   .have:=n.ok.lt x c8;omega
  .rcases LN r (U2 ops.toList k).dst i oi z with ⟨_,b3⟩|⟨e3,_⟩|⟨ho,g4,_,b3⟩
   .rw [h3]at b3;cases b3
    rw[I,Qa2 rfl]at T;rcases hu x T with rfl|h|⟨j,u,B,d5,O⟩
    .exact .inl ⟨.inr (J x ((We f.one).2 (.inl rfl))),b4⟩
    .exact .inr h
    .exact .inl ⟨.inr (J x ((We f.one).2 (.inr ⟨u,Qf2 d5,O⟩))),d2 j u B d5 x O⟩
   .cases e3
   .have f6:i≠d:=fun h=>by
     grind
    rw[I,Qa1 f6]at T;refine .inl ⟨.inr ⟨i,oi,ho,T⟩,λb5=>?_⟩
    have:i=g:=n.ds i g x (by rw[ho];simp) (by rw[A];simp) T (by rw[hg];exact N x b5)
    grind
 have c6:GrpAt (Go.Ab.gApp y m gs) (some (z5 y gs)) w' (XS C (r.sto (U2 ops.toList k).dst s0) (r.eta (U2 ops.toList k).dst (.agg (ZK b rs')) η)) b rs' a5 V:=by
  obtain⟨i5,d7⟩:=f.ents;refine⟨f2.trans f.heap,f.st,?_,Q1u f.nd,λi e' v z D=>?_,λi j u v x z B O a9=>?_,λi v z d4=>?_,?_,?_,λi e' v z b1 D=>?_⟩
  .rw [Y,Dr G,Dr U,f.len]
  .rw [a2]at z
   rw[p]at D
   by_cases h:i=z5 y gs
   .grind
   .rw [Qa1 h]at z D
    exact(f.rows i e' v z D).mono c4 λx hx=>F.block x (W x ((We f.one).2 (.inr ⟨v,Qf2 D,hx⟩))) (d2 i v h D x hx)
  .rw [p]at z B
   by_cases h:i=z5 y gs<;>by_cases h' : j=z5 y gs
   .rw [h,h']
   .rw [Qa2 h]at z;rw[Qa1 h']at B
    cases z
    exfalso
    rcases a1 x O with h5|h5
    .grind
    .have:=W x ((We f.one).2 (.inr ⟨v,Qf2 B,a9⟩));omega
   .rw [Qa1 h]at z;rw[Qa2 h']at B
    cases B
    exfalso
    rcases a1 x a9 with h5|h5
    .grind
    .have:=W x ((We f.one).2 (.inr ⟨u,Qf2 z,O⟩));omega
   .rw [Qa1 h]at z;rw[Qa1 h']at B
    exact f.apart i j u v x z B O a9
  .rw [p]at z
   by_cases h:i=z5 y gs
   .rw [Qa2 h]at z
    cases z
    rcases a1 b d4 with h5|h5
    .exact b4 h5
    .have:=J8 f.heap;omega
   .rw [Qa1 h]at z
    exact f.off i v z d4
  .rw [Y,Dr G];split<;>omega
  .rw [Y,Dr G]
   grind
  .rw [a2]at b1
   rw[p]at D;have c1:i<gs.length:=by omega
   have e6:i<H.length:=by rw[f.len];exact c1
   obtain⟨bo,f5⟩:=d7 i gs[i] H[i] (Qc0 c1) (Qc0 e6)
   by_cases h:i=z5 y gs
   .rw [Qa2 h]at b1
    cases b1
    refine⟨H[i],bo,?_,λhh=>absurd h hh⟩;rw[f5]
    have:gs[i].1=q.1:=by
     rcases JF y gs with ⟨a3,q',a8,f4⟩|⟨hl,_⟩
     all_goals grind
    rw[this]
   all_goals grind
 refine⟨v',.agg (ZK b rs'),w',.inl d8,n.stepG (U2 ops.toList k).dst (λx hx=>by rw[h3]at hx;cases hx;exact c7) r v' (.agg (ZK b rs')) w' (λx=>x∈V8 v1) F ?_ ?_ (λk o hh=>by cases hh) ?_⟩
 .intro x hx
  exact⟨⟨g,.inl (by simp[r]),by rw[A];simp,by rw[hg];exact N x hx⟩,b7 x (N x hx)⟩
 .intro o' dd f1 c9
  rw[h3]at c9;cases c9
  have f3:o'=.exr [base] (Zh (Go.Ab.gApp y m gs) (some (z5 y gs))):=by simpa[r]using f1.symm
  subst f3;refine⟨a7,rfl,λj B=>?_,?_,λx hx=>?_⟩
  .exact (n.sr g _ A).2 j B
  .have e5:base≠d:=λh=>a7 (h ▸ (n.sr g _ A).2 base (by simp[Obj.refs]))
   refine .exr _ _ _ ⟨b,rs',a5,V,?_,rfl,c6⟩ (vr _) λx hx=>c6.lt hx
   simp[I,e5,hb]
  .rcases e1 x hx with h|h
   .exact .inl h
   .exact .inr ⟨⟨g,by simp[r],by rw[A];simp,by rw[hg];exact h⟩,b7 x h⟩
 .intro _
  refine⟨.v _ _ (.c _ _ (.cp _ _ _ (ZK b rs') (by rw[I,Qa2 rfl]) ?_ Z.choose_spec.choose_spec.choose_spec.2.2)),λj B=>?_⟩
  .rw [DR]
   have a3 : z5 y gs<rs'.length:=by
    grind
   rw[Qh4 a3,p,Qa2 rfl]
  .simp [r,AVal.refs,TV.refs,CV.refs]at B
   subst B;exact .inr ⟨by simp[r],h3⟩
theorem Z5K{gs:List (Int×List α)}{g:Nat}{m v:Operand}{q:Int×List α}(ht:P.underlying t=some (.map kT eT))(hkT:P.underlying kT=some (.int .i64))(hk:QA ds k=xE [] {upd:=some (g,.exr [base] (Zh gs none))})(hop:(U2 ops.toList k).op=.mapUpdate t m x v)(hdo:(XL ops nt (J4 L ops ops.toList ds e s k) (U2 ops.toList k)&&(U2 ops.toList k).dst.isNone)=true)(hm:Y5 (J4 L ops ops.toList ds e s k) m=.v (.c (.own base)))(hx:Y5 (J4 L ops ops.toList ds e s k) x=vi y)(hv:Y5 (J4 L ops ops.toList ds e s k) v=.v (.c (.cp g (1+j))))(hs:QM L ops ops.toList ds e s k g=some (.exr [base] (Zh gs (some j))))(hq:gs[j]?=some q)(hqy:q.1=y):G2 P C nt L ops ds e s k:=by
 unfold G2;rw[hk]
 simp only[XL,Qa4,Qg6]at hdo;obtain⟨⟨h1,h2⟩,h3⟩:=hdo
 refine LO [] h1 h2 λR η e0 s0 a w he c5 d6 hn B=>y8.g ?_
 have om:m∈(U2 ops.toList k).op.operands.toList:=by rw[hop];simp[Op.operands]
 have ox:x∈(U2 ops.toList k).op.operands.toList:=by rw[hop];simp[Op.operands]
 have ov:v∈(U2 ops.toList k).op.operands.toList:=by rw[hop];simp[Op.operands]
 have Y:=(K3 B m).1;rw[he m om,hm]at Y
 have Y:=WE Y;have ex:=(K3 B x).1
 rw[he x ox,hx]at ex;have ex:=kO ex
 have A:s0 g=some (.exr [base] (Zh gs (some j))):=(c5 v ov g (by rw[hv];simp[AVal.refs,TV.refs,CV.refs])).trans hs;obtain⟨b,O,l,c2,hb,hg,n⟩:=Cr B A
 rw[hb]at Y;have ev:=(K3 B v).1
 rw[he v ov,hv]at ev;have c0:j<O.length:=by rw[n.len];exact(Qj1.1 hq).1
 have H:O[j]?=some (a.eval v):=by
  generalize a.eval v=v1 at ev
  cases ev with|v _ _ F=>cases F with|c _ _ F=>cases F with|cp _ _ _ vs q1 q2 _=>
  rw[hg]at q1;cases q1
  rw[DR,Qh4 c0]at q2;exact q2
 generalize hve:a.eval v=v1 at H;obtain⟨d8,b0,N⟩:=n.ents
 have a9:∀(i:Nat) (z:MapEntry),l[i]?=some z->∃G u,gs[i]?=some G /\ O[i]?=some u/\z.key=.int .i64 G.1/\(i≠j->z.val=u):=λi z U=>by
  have hi:i<l.size:=(Qh3.1 U).1;have b9:i<gs.length:=by omega
  have e2:i<O.length:=by rw[n.len];exact b9
  grind
 have b4:∀z∈l.toList,IsKey (.int .i64) z.key:=λz U=>by
  obtain⟨i,hi,rfl⟩:=Qc3 U;obtain⟨G,_,_,_,b6,_⟩:=a9 i l[i] (Qe7 (by simpa using hi))
  simp only[Qr3];rw[b6];rfl
 have e4:b<w.heap.size:=J8 n.heap;have b3:∃(p : Array MapEntry) (f : Nat),(execOp a.eval (U2 ops.toList k)).run P w=.ok .skip {w with heap:=w.heap.setIfInBounds b (.map p f)} /\ Stamped p f /\ p.size=gs.length/\∀(i:Nat) (G : Int×List α) (u:Value),gs[i]?=some G -> O[i]?=some u->∃bo,p[i]?=some ⟨.int .i64 G.1,u,bo⟩:=by
  rcases findNow_spec (d:=.int .i64) (k:=.int .i64 y) rfl l.toList 0 b4 with ⟨f1,f2⟩|⟨i,z,f1,f2,f3⟩
  .refine ⟨_,_,?_,stamped_push (val:=v1) n.st f2,?_,λi G u D Z=>?_⟩
   .simp [execOp,hop,Y,ex,hve,Instr.mapUpdate,Qb9 ht,Qi3 n.heap,Qo1 hkT (k:=.int .i64 y) (d:=.int .i64) rfl,Qo9 hkT f1,Ql1 _ n.heap]
   .rw [Qm3]
    rcases b0 with h|⟨h,_⟩
    .exfalso
     obtain⟨u,bo,W,_⟩:=N j q v1 (by omega) hq H;exact f2 _ (by have:=Qn6 W;simpa using this) (by rw[hqy])
    .exact h
   .rcases b0 with h|⟨h,hj⟩
    .exfalso
     obtain⟨u,bo,W,_⟩:=N j q v1 (by omega) hq H;exact f2 _ (by have:=Qn6 W;simpa using this) (by rw[hqy])
    .rw [Qk6]
     by_cases hi:i=l.size
     .rw [Qa2 hi]
      have T:i=j:=by omega
      subst T;rw[hq]at D;rw[H]at Z
      cases D;cases Z
      exact⟨_,by rw[hqy]⟩
     all_goals grind
  .have fz:l[i]?=some z:=by simpa using f2
   obtain⟨G,u,D,Z,a6,d7⟩:=a9 i z fz;have b5:G.1=y:=by rw[f3]at a6;cases a6;rfl
   have T:i=j:=yy n.nd D hq (by rw[b5,hqy]);subst T
   refine⟨_,_,?_,stamped_modify n.st i (λe=> {e with key:=.int .i64 y,val:=v1}) (λ_ _=>rfl) (λc4 _ J=>?_),?_,λi' c4 u' J b1=>?_⟩
   .simp [execOp,hop,Y,ex,hve,Instr.mapUpdate,Qb9 ht,Qi3 n.heap,Qo1 hkT (k:=.int .i64 y) (d:=.int .i64) rfl,Qo9 hkT f1,fz,f3,MapKept.run_keyThatStays (d:=.int .i64) (k:=.int .i64 y) rfl,Ql1 _ n.heap]
   .grind
   .grind
   .rw [Qf5]
    by_cases hi:i=i'
    .subst hi
     rw[Qa2 rfl,fz];rw[hq]at J;rw[H]at b1
     cases J;cases b1
     exact⟨z.born,by rw[hqy];rfl⟩
    all_goals grind
 obtain⟨p,f,b2,a8,a7,V⟩:=b3;have M:Stp (λx=>x=b) w {w with heap:=w.heap.setIfInBounds b (.map p f)} :=
  ⟨rfl,rfl,rfl,by simp,λx _ hx=>(heap_set n.heap).2 x hx,Qb3 _⟩
 have I:b∈V8 (η g):=by rw[hg];exact(We n.one).2 (.inl rfl)
 have hd:(U2 ops.toList k).dst=none:=by simpa using h3
 let r:SR:= {upd:=some (g,.exr [base] (Zh gs none))}
 have a3:=UF (C:=C) (s:=s0) (η:=η) r (U2 ops.toList k).dst undef (λx=>x=b) M (λx hx=>by subst hx;exact⟨g,_,A,I⟩) (λ_ _ F=>by cases F) (λk o F=>by cases F;rw[A];simp);have a1:r.eta (U2 ops.toList k).dst undef η=η:=by funext i;simp[SR.eta,r]
 refine⟨undef,_,.inr ⟨b2,rfl⟩,B.step (U2 ops.toList k).dst (λx hx=>by rw[hd]at hx;cases hx) r undef _ (λx=>x=b) M (λx hx=>?_) (λ_ _ F=>by cases F) (λk' o' F=>?_) (λF=>absurd hd F)⟩
 .subst hx
  refine⟨⟨g,.inr ⟨_,rfl⟩,by rw[A];simp,I⟩,?_⟩;rcases B.ow g _ x A I with ⟨h,_⟩|h
  .cases h
  .exact h
 .cases F
  refine⟨⟨_,A,rfl⟩,rfl,by simp[r],λj hj=>(B.sr g _ A).2 j hj,?_⟩;rw[a1]at a3⊢
  rw[hg];have a4:GrpAt gs none {w with heap:=w.heap.setIfInBounds b (.map p f)} (XS C (r.sto (U2 ops.toList k).dst s0) η) b O p f :=
   ⟨(heap_set n.heap).1,a8,n.len,n.nd,λi G u D Z=>(n.rows i G u D Z).mono a3 λz U=>(heap_set n.heap).2 z (λh=>by subst h;exact n.off i u Z U),n.apart,n.off,a7,V⟩
  exact .exr _ _ _ ⟨b,O,p,f,by simp[hb],rfl,a4⟩ (vr _) λz U=>a4.lt U
end
section
variable {P:Program} {C:Ctx} {nt:Nat} {L:Lay} {pins:List Nat} {K:Act->World->Prop} {α:Type} [Emb α]
theorem Z5x(Fm:Fr P L C pins){o o' : Obj}(hp:pins.contains k=false)(hfr:((E.flatMap λp=>p.2.refs)++(((id,o)::S0).flatMap λp=>p.1::p.2.refs)).contains k=false)(hid:(S0.map (·.1)).contains id=false)(hro:o.ro=false)(hro' : o'.ro=false)(hrf:∀j∈o'.refs,j=id\/j∈o.refs)(hu:∀R η a w,Conc C nt R η (lk E) (ls ((id,o)::S0)) a w->∃u,(∀b∈V8 u,b∈V8 (η id))/\∀X' η',QQ w w (XS C (ls ((id,o)::S0)) η) X' -> (∀i,i≠k->η' i=η i)->ORep w X' η' C u o')(hk:Kn C nt E ((k,o')::S0) K):Kn C nt E ((id,o)::S0) K:=by
 intro R η a w l;have g:ls ((id,o)::S0) id=some o:=by rw[Qe,Qa2 rfl]
 obtain⟨u,r,G⟩:=hu R η a w l;have O:C.pin k=none:=by
  rcases hq:C.pin k with _|u
  .rfl
  .have:=Fm.pin k (by rw[hq];simp)
   grind
 have B:∀i∈(E.flatMap λp=>p.2.refs)++(((id,o)::S0).flatMap λp=>p.1::p.2.refs),i≠k:=by
  grind
 have a2:id≠k:=B id (by simp);have a6:∀j∈o.refs,j≠k:=λj n=>B j (by simp[n])
 have m:∀i o',ls S0 i=some o' -> i≠k/\i≠id/\(∀j∈o'.refs,j≠k)/\ls ((id,o)::S0) i=some o':=by
  intro i o' d;have hm:=Qd d
  have T:i≠id:=by
   grind
  refine⟨B i (Qb2.2 (.inr (Qc1.2 ⟨_,Qf9 _ hm,by simp⟩))),T,λj n=>B j (Qb2.2 (.inr (Qc1.2 ⟨_,Qf9 _ hm,by simp[n]⟩))),?_⟩;rw[Qe,Qa1 T];exact d
 have a0:∀u i,i∈(lk E u).refs->i≠k:=by
  intro u i d;rcases Xt (E:=E) (t:=u)with h0|h0
  .rw [h0]at d;cases d
  all_goals grind
 let η' : Nat->Value:=λi=>if i=k then u else η i
 have f : ∀i,i≠k->η' i=η i:=λi d=>by show(if i=k then u else η i)=_;rw[Qa1 d]
 have A:η' k=u:=by show(if k=k then u else η k)=_;rw[Qa2 rfl]
 have J:∀b,Own (ls ((k,o')::S0)) η' b->Own (ls ((id,o)::S0)) η b:=by
  rintro b ⟨i,q,d,D⟩;rw[Qe]at d
  by_cases c:i=k
  .subst c
   rw[A]at D;exact⟨id,_,g,r b D⟩
  .rw [Qa1 c]at d
   rw[f i c]at D;exact⟨i,q,(m i q d).2.2.2,D⟩
 have W:QQ w w (XS C (ls ((id,o)::S0)) η) (XS C (ls ((k,o')::S0)) η'):=by
  intro b N hn;refine⟨rfl,λM=>?_⟩
  rcases M with M|M
  .exact hn (.inl M)
  .exact hn (.inr (J b M))
 refine hk (λi=>R i\/i=k) η' a w ⟨l.ok,l.df,l.sz,λt=>?_,λt i d=>.inl (l.er t i d),λi q d=>?_,λi q d=>?_,λi j b d n x z=>?_,λi q b d N=>?_,l.fr,λi v d=>?_⟩
 .exact (l.ev t).mono W λi d=>f i (a0 t i d)
 .rw [Qe]at d
  by_cases c:i=k
  .subst c
   rw[Qa2 rfl]at d;cases d
   rw[A];exact G _ _ W f
  .rw [Qa1 c]at d
   obtain⟨F,I,V,H⟩:=m i q d;rw[f i c]
   exact(l.st i q H).mono W (λj n=>f j (V j n)) λ_ _=>rfl
 .rw [Qe]at d
  by_cases c:i=k
  .subst c
   rw[Qa2 rfl]at d;cases d
   refine⟨.inr rfl,λj n=>.inl ?_⟩;rcases hrf j n with rfl|h
   .exact (l.sr j _ g).1
   .exact (l.sr id _ g).2 j h
  .rw [Qa1 c]at d
   obtain⟨F,I,V,H⟩:=m i q d;have:=l.sr i q H
   exact⟨.inl this.1,λj n=>.inl (this.2 j n)⟩
 .rw [Qe]at d n
  by_cases c:i=k<;>by_cases hjk:j=k
  .rw [c,hjk]
  .exfalso
   rw[Qa1 hjk]at n;obtain⟨Z,U⟩:=Qa9.1 n
   obtain⟨F,I,V,H⟩:=m j Z U;rw[c,A]at x
   rw[f j hjk]at z;exact I (l.ds j id b (by rw[H];simp) (by rw[g];simp) z (r b x))
  .exfalso
   rw[Qa1 c]at d;obtain⟨q,U⟩:=Qa9.1 d
   obtain⟨F,I,V,H⟩:=m i q U;rw[hjk,A]at z
   rw[f i c]at x;exact I (l.ds i id b (by rw[H];simp) (by rw[g];simp) x (r b z))
  .rw [Qa1 c]at d
   rw[Qa1 hjk]at n;obtain⟨q,U⟩:=Qa9.1 d
   obtain⟨Z,Y⟩:=Qa9.1 n;rw[f i c]at x
   rw[f j hjk]at z;exact l.ds i j b (by rw[(m i q U).2.2.2];simp) (by rw[(m j Z Y).2.2.2];simp) x z
 .rw [Qe]at d
  by_cases c:i=k
  .subst c
   rw[Qa2 rfl]at d;cases d
   rw[A]at N;rcases l.ow id _ b g (r b N)with ⟨F,_⟩|F
   .rw [hro]at F;cases F
   .exact .inr F
  .rw [Qa1 c]at d
   rw[f i c]at N;exact l.ow i q b (m i q d).2.2.2 N
 .have c:i≠k:=by intro he;subst he;rw[O]at d;cases d
  have:=l.pn i v d
  exact⟨(f i c).trans this.1,.inl this.2⟩
theorem Z5B(Fm:Fr P L C pins)(α:Type)[Emb α]{g:Nat}(hp:pins.contains g=false)(hfr:((E.flatMap λp=>p.2.refs)++(((d,Obj.ext (JA P kT eT []))::S0).flatMap λp=>p.1::p.2.refs)).contains g=false)(hd:(S0.map (·.1)).contains d=false)(hk:Kn C nt E ((g,.exr [d] (Zh ([]:List (Int×List α)) none))::S0) K):Kn C nt E ((d,.ext (JA P kT eT []))::S0) K:=by
 refine Z5x Fm hp hfr hd rfl rfl (λj G=>.inl (by simpa[Obj.refs]using G)) (λR η a w A=>?_) hk;have f:=A.st d _ (show ls ((d,.ext (JA P kT eT []))::S0) d=some (.ext (JA P kT eT [])) by rw[Qe,Qa2 rfl])
 generalize hη:η d=u at f
 cases f with
 |ext _ _ hp' _ hlt=>
  obtain⟨b,rfl,D,c,F,H,B,_⟩:=hp';have q:D=#[]:=Qr1 (by simpa using B)
  subst q;refine⟨.agg (ZK b []),λx o=>?_,λX' η' I m=>?_⟩
  .have:=(We (rs:=[]) (λv n=>by cases n)).1 o
   rcases this with rfl|⟨v,n,_⟩
   .simp [V8]
   .cases n
  .have r:d≠g:=fun h=>by
    grind
   have z:GrpAt ([]:List (Int×List α)) none w X' b [] #[] c:=⟨F,⟨by simp,by simp,by simp⟩,rfl,by simp,λi e v l=>by simp at l,λi j u v x t=>by simp at t,λi v t=>by simp at t,rfl,λi e v l=>by simp at l⟩;exact .exr _ _ _ ⟨b,[], #[],c,by simp[m d r,hη],rfl,z⟩ (vr _) λx o=>z.lt o
theorem Z5z{E0:List (Nat×AVal)}{t g:Nat}{gs:List (Int×List α)}(hid:(S0.map (·.1)).contains g=false)(hk:Kn C nt ((t,.v (.c (.d (MP gs))))::E0) S0 K):Kn C nt ((t,.v (.c (.own d)))::E0) ((g,.exr [d] (Zh gs none))::S0) K:=by
 intro R η a w m;have G:ls ((g,.exr [d] (Zh gs none))::S0) g=some (.exr [d] (Zh gs none)):=by rw[Qe,Qa2 rfl]
 have p:∀i o,ls S0 i=some o->i≠g/\ls ((g,.exr [d] (Zh gs none))::S0) i=some o:=by
  intro i o h;have r:i≠g:=by
   intro he;subst he
   have:i∈S0.map (·.1):=Qc7.2 ⟨_,Qd h,rfl⟩
   grind
  exact⟨r,by rw[Qe,Qa1 r];exact h⟩
 obtain⟨b,A,O,D,hb,hg,B⟩:=Cr m G;have J:∀x,XS C (ls S0) η x->XS C (ls ((g,.exr [d] (Zh gs none))::S0)) η x:=λx z=>by
  rcases z with z|⟨i,o,h,F⟩
  .exact .inl z
  .exact .inr ⟨i,o,(p i o h).2,F⟩
 have U:QQ w w (XS C (ls ((g,.exr [d] (Zh gs none))::S0)) η) (XS C (ls S0) η):=λx _ hn=>⟨rfl,λz=>hn (J x z)⟩
 have M:∀x∈V8 (η g),¬XS C (ls S0) η x:=λx z V=>by
  rcases V with ⟨a0,Z⟩|⟨i,o,h,F⟩
  .rcases m.ow g _ x G z with ⟨I,_⟩|I|I
   .cases I
   .exact Z (m.ok.md x I)
   .have:=m.ok.lt x a0;omega
  .exact (p i o h).1 (m.ds i g x (by rw[(p i o h).2];simp) (by rw[G];simp) F z)
 obtain⟨Y,a2⟩:=B.ents;have hD:DRep w (XS C (ls S0) η) (.map (some b)) (MP gs):=by
  refine .mp b O D gs.length _ (λi=>A.getD i undef) _ (M b (by rw[hg];exact(We B.one).2 (.inl rfl))) B.heap B.st Y (λi h=>?_) λi h=>?_
  .have T:i<A.length:=by rw[B.len];exact h
   grind
  .have T:i<A.length:=by rw[B.len];exact h
   have e1:A.getD i undef=A[i]:=by simp[Qa0,T]
   have e2:gs.getD i (0,[])=gs[i]:=by simp[Qa0,h]
   simp only[e1,e2];have l:=B.rows i gs[i] A[i] (Qc0 h) (Qc0 T) η C
   have N:∀x∈V8 A[i],¬XS C (ls S0) η x:=λx z=>M x (by rw[hg];exact(We B.one).2 (.inr ⟨A[i],Qf6 T,z⟩))
   unfold AO at l;unfold DL
   generalize gs[i].2.length=n at l⊢;generalize LF gs[i].2=f at l⊢
   generalize A[i]=v at l N⊢
   cases l with
   |nil ad es f=>exact .nil ad 0 f
   |arr b n cap es c e f I h2 h3 h4 h5 h6 h7=>
    refine .lst b 0 n cap c e _ f _ (N b (by simp[V8];omega)) I h3 (by rw[h2,Qd2];exact Qb4 _ h3) h6 λi j h W=>?_
    rw[Qd2];exact(h7 i j h W).mono U
 have r:∀i,ls S0 i≠none->ls ((g,.exr [d] (Zh gs none))::S0) i≠none:=λi h hn=>by
  obtain⟨o,ho⟩:=Qa9.1 h
  grind
 refine hk R η a w ⟨m.ok,m.df,m.sz,λu=>?_,λu i h=>?_,λi o h=>(m.st i o (p i o h).2).mono U (λ_ _=>rfl) λ_ _=>rfl,λi o h=>m.sr i o (p i o h).2,λi j b h W=>m.ds i j b (r i h) (r j W),λi o b h=>m.ow i o b (p i o h).2,m.fr,m.pn⟩
 .rw [DB]
  have q:=m.ev u;rw[DB]at q
  by_cases hu:u=t
  .rw [Qa2 hu]at q⊢
   rw[WE q,hb];exact .v _ _ (.c _ _ (.d _ _ hD))
  .rw [Qa1 hu]at q⊢
   exact q.mono U λ_ _=>rfl
 .rw [DB]at h
  have H:=m.er u i;rw[DB]at H
  by_cases hu:u=t
  .rw [Qa2 hu]at h;cases h
  .rw [Qa1 hu]at h H
   exact H h
end
end
section
section
variable {P:Program} {C:Ctx} {nt:Nat} {L:Lay} {pins:List Nat} {E:List (Nat×AVal)} {S:List (Nat×Obj)} {Q:Exit->Act->World->Prop}
theorem cT{p:Prop}(h:p):p/\True:=⟨h,True.intro⟩
theorem cA{p q:Prop}(h:p)(k:q):p/\q:=⟨h,k⟩
@[reducible] def lI {α:Type} (l:List α):Int:=((l.length:Nat):Int)
theorem Q2{t:Nat}{x y:Code}{R:Type}{u v:Option R}{r:R}(h:br b u v=some r)(ht:b=true->u=some r->AW P C nt x E S Q)(hf:b=false->v=some r->AW P C nt y E S Q)(hb:lk E t=vb b:=by kernel_rfl):AW P C nt (.cond (.tmp t) x y) E S Q:=
 VJ hb (λq=>ht q (Z4C h q)) (λq=>hf q (Z4E h q))
theorem Z4D{R:Type}{u v:Option R}{r:R}(h:br b u v=some r):(b=true/\u=some r)\/(b=false/\v=some r):=by
 cases b
 .exact .inr ⟨rfl,h⟩
 .exact .inl ⟨rfl,h⟩
theorem gS{R:Type}{p:Prop}[Decidable p]{x:Option R}{r:R}(h:gd p x=some r):p/\x=some r:=Ct h
theorem bS{α R:Type}{x:Option α}{f:α->Option R}{r:R}(h:x.bind f=some r):∃z,x=some z/\f z=some r:=Q3j h
theorem FI(hf:P.funcs[f]?=some fn)(hm:P.follows .mixedOrders=true)(hL:Qi P L){S:List (Nat×Obj)}(h:∀C,Fr P L C (S.map (·.1))->AW P C fn.ntmps c (Pd args) S (Ws P fn C r S'))(hb:fn.body=some c:=by rfl)(hn0:Nat.ble args.length fn.ntmps=true:=by kernel_rfl):G4 P f args S r S':=Z5U hm hL hf hb hn0 h
end
end
section
section
variable {P:Program} {C:Ctx} {nt:Nat} {L:Lay} {ops:Array Oper} {ds:List Dir} {e:U8} {s:J0} {k:Nat}
end
end
section
open Go.MapKept
section
variable {P:Program} {C:Ctx} {nt:Nat} {L:Lay} {R:Nat->Prop} {η:Nat->Value} {e:U8} {s:J0} {a:Act} {w:World}
variable {ops:Array Oper} {ds:List Dir} {k:Nat}
end
section
variable {P:Program} {C:Ctx} {nt:Nat} {L:Lay} {pins:List Nat} {E:List (Nat×AVal)} {S:List (Nat×Obj)} {Q:Exit->Act->World->Prop}
end
end
section
open Go.MapKept
section
variable {P:Program} {C:Ctx} {nt:Nat} {L:Lay} {ops:Array Oper} {ds:List Dir} {e:U8} {s:J0} {k:Nat}
end
section
variable {P:Program} {C:Ctx} {nt:Nat} {K:Act->World->Prop}
end
end
section
section
variable {P:Program} {C:Ctx} {nt:Nat} {L:Lay} {ops:Array Oper} {ds:List Dir} {e:U8} {s:J0} {k:Nat}
end
end
section
section
variable {P:Program} {C:Ctx} {nt:Nat} {L:Lay} {ops:Array Oper} {ds:List Dir} {e:U8} {s:J0}
end
end
section
def ZT(m:Int):ByteArray:=ByteArray.empty.push (UInt8.ofNat m.toNat)
section
variable {P:Program} {C:Ctx} {nt:Nat} {L:Lay} {ops:Array Oper} {ds:List Dir} {e:U8} {s:J0}
theorem FR{t': TypeId}{y:Operand}{b:ByteArray}(hk:QA ds k=sE (.v (.c (.d (.str (a++b))))))(hop:(U2 ops.toList k).op=.binOp .add t x y t')(hb:VA ops nt (J4 L ops ops.toList ds e s k) (U2 ops.toList k) x y=true)(hx:Y5 (J4 L ops ops.toList ds e s k) x=.v (.c (.d (.str a))))(hy:Y5 (J4 L ops ops.toList ds e s k) y=.v (.c (.d (.str b))))(hc:a.size+b.size<=Y6):G2 P C nt L ops ds e s k:=by
 unfold G2;rw[hk]
 simp only[VA,Qa4,Qg6]at hb;obtain⟨⟨⟨q,l⟩,p⟩,o⟩:=hb
 refine JZ rfl p o λR η u z r w f g=>?_
 have i:=(K3 g x).1;rw[ZL f q,hx]at i
 have i:=JY i;have h:=(K3 g y).1
 rw[ZL f l,hy]at h;have h:=JY h
 have j:¬(((a.size+b.size:Nat):Int) > IntKind.i64.max):=by
  have:IntKind.i64.max=9223372036854775807:=rfl
  rw[this];unfold Y6 at hc;omega
 refine⟨.string (a++b),?_,.v _ _ (.c _ _ (.d _ _ (.str _)))⟩;have n:(eqGuard .add t x y (.string a) (.string b)).run P w=.ok () w:=cd _ _ _ _ _ _ _
 have m:(binOp .add t (.string a) (.string b)).run P w=.ok (.string (a++b)) w:=by
  show(Op.stringOp .add a b).run P w=_;simp only[Op.stringOp]
  rw[Qa1 j];rfl
 simp only[execOp,hop,Qd8,i,h,n,m,Qc5,Qf3]
theorem FU{src dst el:TypeId}(hs:P.underlying src=some (.slice el))(he:P.underlying el=some (.int .u8))(hd:P.underlying dst=some .string){m:Int}(hk:QA ds k=sE (.v (.c (.d (.str (ZT m))))))(hop:(U2 ops.toList k).op=.convert src dst x)(hb:VA ops nt (J4 L ops ops.toList ds e s k) (U2 ops.toList k) x x=true)(hx:Y5 (J4 L ops ops.toList ds e s k) x=.v (.c (.d (.lst 1 (QE 1 [.int .u8 m]))))):G2 P C nt L ops ds e s k:=by
 unfold G2;rw[hk]
 simp only[VA,Qa4,Qg6]at hb;obtain⟨⟨⟨A,I⟩,G⟩,F⟩:=hb
 refine JZ rfl G F λR η p H B w l i=>?_
 have g:=(K3 i x).1;rw[ZL l A,hx]at g
 generalize hu:B.eval x=u at g
 cases g with|v _ _ g=>cases g with|c _ _ g=>cases g with|d _ _ g=>
 cases g with|lst b off n cap c e' fz f es hX hheap hn ho hf hd' =>
 have z:=hf 0 (by omega);have o:es=1:=by rw[<-z];rfl
 subst o;have h:=hd' 0 0 (by omega) (by omega)
 have t:c.getD off undef=.int .u8 m:=by
  have p:off+(0*1+0)=off:=by omega
  rw[p]at h;have r:(QE 1 [DVal.int .u8 m] 0).getD 0 .any=.int .u8 m:=rfl
  rw[r]at h;generalize c.getD off undef=u at h⊢
  cases h;rfl
 have q:=run_loadCells (P:=P) w ⟨b,off,none⟩ 1 (λj=>c.getD (off+j) undef) (λj J=>by rw[add_lit];exact HB hheap _ (by omega));refine⟨.string (ZT m),?_,.v _ _ (.c _ _ (.d _ _ (.str _)))⟩
 have D:c[off]?.getD undef=.int .u8 m:=by rw[<-t];simp
 simp[execOp,hop,hu,convert,Qb9 hs,Qb9 hd,Qb9 he,Conv.bytesToString,q,D,ZT]
end
end
section
def sK(ks:List Nat)(S:List (Nat×Obj))(n:List (Nat×Obj)):List (Nat×Obj):=ks.map (λi=>(i,(ls S i).getD (.box false [])))++n
section
variable {P:Program} {C:Ctx} {nt:Nat} {L:Lay} {pins:List Nat} {E:List (Nat×AVal)} {S:List (Nat×Obj)} {Q:Exit->Act->World->Prop}
variable {id:Nat} {ops:Array Oper} {draw:Bool} {y:Code}
theorem Z6j{x y:Code}(k:AW P C nt y E S Q):AW P C nt (.cond (.const (.bool false)) x y) E S Q:=λR η a w b=>Qw8 rfl (k R η a w b)
end
theorem eI{k:IntKind}{e v:Int}(h:some e=some v):Y4 (.v (.c (.d (.int k e)))) (.v (.c (.d (.int k v)))):=by cases h;exact Y4.refl _
section
variable {α:Type} [Emb α]
def ZH(l:List α)(i off:Nat)(ds:List DVal):Obj:=.arr (Emb.es α) l.length λj=>if j=i then Yf (LF l i) off ds else LF l j
def Qc(l m:List α):Obj:=.arr (Emb.es α) (l.length+m.length) (Qw l.length (LF l) (LF m))
def Dp(m:List α):Obj:=.arr (Emb.es α) (0+m.length) (Qw 0 (λ_=>[]) (LF m))
theorem ZP{l:List α}{off:Nat}{ds:List DVal}{y:α}(hi:i<l.length)(hy:Yf (LF l i) off ds=Emb.cells y:=by kernel_rfl):J5 (ZH l i off ds) (AO (l.set i y)):=J5.is (Is.set (Is.refl l) hi y hy)
theorem Qh{l m:List α}:J5 (Qc l m) (AO (l++m)):=J5.is (Is.app (Is.refl l) (Is.refl m))
theorem Tr{m:List α}:J5 (Dp m) (AO ([]++m)):=J5.is (Is.app Is.nil (Is.refl m))
theorem z9(l:List α):∀j,j<l.length->(LF l j).length=Emb.es α:=(Is.refl l).len
theorem Qy(x:α):Y4 (.v (.c (.d (.lst 1 (QE (Emb.es α) (Emb.cells x)))))) (AL [x]):=Y4.lst (.lit [x] (by
 show[QE (Emb.es α) (Emb.cells x) 0]=[Emb.cells x];unfold QE
 have:=Emb.len x
 rw[Qr0,Qj9,Qj6 (by omega)]))
end
end
section
section
variable {P:Program} {C:Ctx} {nt:Nat} {L:Lay} {ops:Array Oper} {ds:List Dir} {e:U8} {s:J0}
theorem Z5J{y z:Operand}{tys:Array TypeId}{a b c:Int}(hk:QA ds k=sE (vi (y3 (y3 a b) c)))(hop:(U2 ops.toList k).op=.call {callee:=.builtin .max,args:= #[x,y,z],argTypes:=tys})(hb:VA ops nt (J4 L ops ops.toList ds e s k) (U2 ops.toList k) x y=true)(hb2:VA ops nt (J4 L ops ops.toList ds e s k) (U2 ops.toList k) z z=true)(hx:Y5 (J4 L ops ops.toList ds e s k) x=vi a)(hy:Y5 (J4 L ops ops.toList ds e s k) y=vi b)(hz:Y5 (J4 L ops ops.toList ds e s k) z=vi c):G2 P C nt L ops ds e s k:=by
 unfold G2;rw[hk]
 simp only[VA,Qa4,Qg6]at hb hb2;obtain⟨⟨⟨o,j⟩,m⟩,l⟩:=hb
 obtain⟨⟨⟨n,_⟩,_⟩,_⟩:=hb2;refine JZ rfl m l λR η q r p w d f=>?_
 have i:=(K3 f x).1;rw[ZL d o,hx]at i
 have i:=WG i;have h:=(K3 f y).1
 rw[ZL d j,hy]at h;have h:=WG h
 have g:=(K3 f z).1;rw[ZL d n,hz]at g
 have g:=WG g;refine⟨.int .i64 (y3 (y3 a b) c),?_,Wt _ _ _⟩
 simp[execOp,hop,resolve,invoke,builtin,Builtin.max_,Builtin.max2,i,h,g,y3]
 rfl
end
section
variable {P:Program} {C:Ctx} {nt:Nat} {E:List (Nat×AVal)} {S:List (Nat×Obj)} {Q:Exit->Act->World->Prop}
theorem Z6b(n:Nat)(h:AW P C nt c E S (Exit.then (λa w=>Code.rounds P c Q n a w) Q)):AW P C nt (.loop c) E S Q:=λR η a w b=>wp_loop_rounds (n+1) (h R η a w b)
theorem Z5w(h:AW P C nt c E S (Exit.then (λa w=>Code.rounds P c Q n a w) Q)):Kn C nt E S (λa w=>Code.rounds P c Q (n+1) a w):=λR η a w b=>h R η a w b
end
end
section
@[reducible] def gn {α:Type} [Emb α] (l:List α) (i:Int):α:=gl l i.toNat
@[reducible] def jb (t:Nat) (z:Bool):List (Nat×AVal):=[(t,vb z)]
@[reducible] def nn {σ β:Type}:σ->List β:=fun _=>[]
@[reducible] def f0:CV:=.fl 0 fun _=>[]
def oD(a b:Nat)(e:Array Oper->Oper->U8->Eff):List Dir:=List.replicate a .s++.k e::List.replicate b .s
@[reducible] def k1 (i:Nat) (K:Nat->Prop):Prop:=K i/\True
@[reducible] def k2 (i j:Nat) (K:Nat->Prop):Prop:=K i/\K j/\True
theorem gO{p q:Prop}[Decidable p]{R:Type}{x:Option R}{r:R}(h:gd p x=some r)(k:p->x=some r->q):q:=k (gS h).1 (gS h).2
theorem bO{α R:Type}{x:Option α}{f:α->Option R}{r:R}{q:Prop}(h:x.bind f=some r)(k:∀z,x=some z->f z=some r->q):q:=(bS h).elim λz e=>k z e.1 e.2
theorem Y7{R:Type}{u v:Option R}{r:R}{q:Prop}(h:br b u v=some r)(ht:b=true->u=some r->q)(hf:b=false->v=some r->q):q:=(Z4D h).elim (λe=>ht e.1 e.2) λe=>hf e.1 e.2
section
variable {P:Program} {C:Ctx} {nt:Nat} {L:Lay} {pins:List Nat} {E:List (Nat×AVal)} {S:List (Nat×Obj)} {Q:Exit->Act->World->Prop}
theorem Q3U(Fm:Fr P L C pins){R:Type}{a r:R}(h:some a=some r){g:R->AVal}{G:R->List (Nat×Obj)}(hQ:Q .ret=Ws P fn C (g r) (G r) .ret:=by rfl)(hq:(VQ L (lk E) (ls S) fn.results.toList,(G a).map (λp=>ls S p.1))=(some (g a),(G a).map (λp=>some p.2)):=by kernel_rfl):AW P C nt .ret E S Q:=by
 cases h
 exact Wz (hQ ▸ Qj Fm hq)
theorem Z6h{σ R:Type}{r:R}{body:(σ->Option R)->σ->Option R}{z0:σ}(h:Y3 body n z0=some r)(E' : σ->List (Nat×AVal))(S' : σ->List (Nat×Obj))(round:∀(again:σ->Option R) (z:σ) (J:Act->World->Prop),(∀z',again z'=some r->Kn C nt (E' z') (S' z') J)->body again z=some r->AW P C nt c (E' z) (S' z) (Exit.then J Q)):AW P C nt (.loop c) (E' z0) (S' z0) Q:=Z6f E' S' round h
variable {K:Act->World->Prop}
theorem G6(Fm:Fr P L C pins)(E' : List (Nat×AVal))(S' : List (Nat×Obj))(h:Kn C nt E' S' K)(hq:(pins.all (λi=>J3 [] i==i),E'.map (λp=>lk E p.1),S'.map (λp=>ls S (J3 [] p.1)),ZV (S'.map λp=>J3 [] p.1))=(true,E'.map (λp=>p.2.ren (J3 [])),S'.map (λp=>some (p.2.ren (J3 []))),true):=by kernel_rfl):Kn C nt E S K:=Q3H Fm E' S' hq h
theorem kc{f:Nat->List DVal}(E' : List (Nat×AVal))(S' : List (Nat×Obj))(h:Kn C nt E' S' K)(hq:(E.map (λp=>(p.1,p.2.frz k n f)),S.map (λp=>(p.1,p.2.frz k n f)),(S.map (·.1)).contains k)=(E',S',false):=by kernel_rfl):Kn C nt E ((k,.arr es n f)::S) K:=Z5D E' S' (congrArg (·.1) hq) (congrArg (·.2.1) hq) (congrArg (·.2.2) hq) h
theorem y9(Fm:Fr P L C pins)(ρ:List (Nat×Nat))(E' : List (Nat×AVal))(S' : List (Nat×Obj))(h:Kn C nt E' S' K)(hq:(pins.all (λi=>J3 ρ i==i),E'.map (λp=>lk E p.1),S'.map (λp=>ls S (J3 ρ p.1)),ZV (S'.map λp=>J3 ρ p.1))=(true,E'.map (λp=>p.2.ren (J3 ρ)),S'.map (λp=>some (p.2.ren (J3 ρ))),true):=by kernel_rfl):Kn C nt E S K:=
 kb Fm ρ E' S' (congrArg (·.1) hq) (congrArg (·.2.1) hq) (congrArg (·.2.2.1) hq) (congrArg (·.2.2.2) hq) h
abbrev Yn(pins:List Nat)(E:List (Nat×AVal))(S:List (Nat×Obj))(E' : List (Nat×AVal))(S' : List (Nat×Obj)):Bool×List AVal×List (Option Obj)×Bool:=(pins.all (λi=>J3 [] i==i),E'.map (λp=>lk E p.1),S'.map (λp=>ls S (J3 [] p.1)),ZV (S'.map λp=>J3 [] p.1))
abbrev Ym(E' : List (Nat×AVal))(S' : List (Nat×Obj)):Bool×List AVal×List (Option Obj)×Bool:=(true,E'.map (λp=>p.2.ren (J3 [])),S'.map (λp=>some (p.2.ren (J3 []))),true)
section
variable {id:Nat} {ops:Array Oper} {draw:Bool} {y:Code}
variable {E2:List (Nat×AVal)} {S2:List (Nat×Obj)}
end
end
section
variable {P:Program} {C:Ctx} {nt:Nat} {L:Lay} {ops:Array Oper} {ds:List Dir} {e:U8} {s:J0}
theorem z4(hspec:G4 P f args Si r So)(hcall:∀args w,(callFunc f args).run P w=.ok (.enter f args) w)(m:List (Nat×Nat))(extra:List Nat)(xs:List Operand)(hargs:Gu C nt (J4 L ops ops.toList ds e s k) (QM L ops ops.toList ds e s k) Si (J3 m) (QG (U2 ops.toList k)++Qt ops (U2 ops.toList k)) (Wu (J4 L ops ops.toList ds e s k) (U2 ops.toList k)++(Si.map (λp=>J3 m p.1)++extra)) xs args)(hk:QA ds k=cE m extra r Si So:=by rfl)(hq:(Go.Ab.callB ops nt (J4 L ops ops.toList ds e s k) (U2 ops.toList k) f m r Si So,Si.map (λp=>QM L ops ops.toList ds e s k (J3 m p.1)),(Go.Ab.callXs (U2 ops.toList k)).toList)=(true,Si.map (λp=>some (p.2.ren (J3 m))),xs):=by kernel_rfl):G2 P C nt L ops ds e s k:=
 Z5Q hspec hcall m extra xs hk (congrArg (·.1) hq) (congrArg (·.2.1) hq) (congrArg (·.2.2) hq) hargs
theorem Qq(hcall:∀args w,(callFunc f args).run P w=.ok (.enter f args) w){F:List AVal->AVal->Prop}(cs:List (List CV))(hspec:∀args r,F args r->G4 P f (args++Wl cs) (Zq cs) r (Zq cs)/\r.closed=true)(cids:List Nat)(hbox:HD s cids cs)(hx:QD rd x=true:=by kernel_rfl)(hv:Y5 e x=.v (.c (.clo f cids)):=by kernel_rfl)(hnd:(ZV cids&&cs.all (λc=>c.all CV.closed)&&cids.all (λi=>ids.contains i))=true:=by kernel_rfl)(hsi:PW s Si m ids cids=true:=by kernel_rfl):YD C nt e s Si m rd ids x (Yl P F):=Z5Z hcall cs (λa r h=>(hspec a r h).1) (λa r h=>(hspec a r h).2) hx cids hv hnd hbox hsi
end
end
section
section
variable {P:Program} {C:Ctx} {nt:Nat} {L:Lay} {R:Nat->Prop} {η:Nat->Value} {e:U8} {s:J0} {a:Act} {w:World}
variable {ops:Array Oper} {ds:List Dir} {k:Nat}
end
end
section
open Go.Sort Go.Proofs Go.Shelf
theorem Q5Y{P:Program}{ρ:Ren}(Ly:SlLaysF.n6 P ρ)(F:(Int->Int->Option Int)->List AVal->AVal->Prop)(hF:∀ q x y z,q x y=some z->F q [vi x,vi y] (vi z)){x r:List Int}{q:Int->Int->Option Int}(h:Jc x q=some r):
  G4 P (ρ.f 6) [.v (.c (.own 0)),Yl P (F q)] [(0,AO (α:=Int) x)] .any [(0,AO (α:=Int) r)]:=by
 obtain⟨hl,B⟩:=Q6c h;have b3:SlLaysF0.n6 P ρ:= {Ly with}
 have T:r.length=x.length:=B.perm.length_eq;intro w X η vs hX a0 c5 i9 I N
 have I:vs.size=2:=I;have f1:vs.getD 0 undef=η 0:=WE (C:=Qk [(0,AO (α:=Int) x)] w X η) (s:=ls [(0,AO (α:=Int) x)]) (by have:=N 0 (by simp);rw[Dv a0];exact this)
 have h3:Qp P (F q) w (Own (ls [(0,AO (α:=Int) x)]) η) X (vs.getD 1 undef):=by
  have:=N 1 (by simp)
  change ARep w X η _ (vs.getD 1 undef) (Yl P (F q))at this;generalize vs.getD 1 undef=u at this
  cases this with|v _ _ g=>cases g with|c _ _ g=>cases g with|sem _ _ g _=>exact g
 rw[Lk I,f1];have ho:=c5 0 (AO x) (by rw[Qe,Qa2 rfl])
 have c6:∀b,b∈V8 (η 0)->X b:=λb hb=>a0 b ⟨0,_,by rw[Qe,Qa2 rfl],hb⟩
 generalize hu:η 0=u at ho;unfold AO at ho
 generalize hn:x.length=n at ho
 cases ho with
 |nil ad=>
  have hx:x=[]:=Qd9 hn;refine(AnyF.slices_SortFunc_none b3 ad 0 _ w).mono λe w' g=>?_
  obtain⟨he,hw⟩:=g;refine⟨_,η,he,?_⟩
  rw[hw];have hb:=xP (w:=w) (X:=X) (l:=x) hu hX
  have hp:r=[]:=Qd9 (by rw[T,hn]);rw[hp];exact hb
 |arr b _ cap _ c e _ g1 g2 g3 g4 g5 g6 g7=>
  rename_i n
  have J:b∈V8 (η 0):=by rw[hu];simp[V8];omega
  rcases Qj8 n with a8|a8
  .subst a8
   refine(AnyF.slices_SortFunc_none b3 (some ⟨b,0,none⟩) cap _ w).mono λe' w' g=>?_
   obtain⟨he,hw⟩:=g;refine⟨_,η,he,?_⟩
   rw[hw];exact FH (c':=c) (e:=e) (b:=b) (n:=0) (cap:=cap) hu g5 (Stp.refl _ _) g1 g2 (by rw[T,hn]) g3 g4 (λi j D=>absurd D (Qd7 i)) hX (c6 b J)
  obtain⟨c3,a2,e9,a3,b1⟩:=h3;rw[e9]
  letI inst:Inhabited (_root_.Fin n):=⟨⟨0,a8⟩⟩
  let at_:_root_.Fin n->Int:=λi=>x[i.val]'(by omega)
  have b5:∀i,at_ i∈r:=λi=>B.perm.mem_iff.2 (Qf6 _)
  have H:∀i,∃s,∃hs:s<r.length,r[s]=at_ i:=λi=>by
   obtain⟨s,hs,e⟩:=Qc3 (b5 i);exact⟨s,hs,e⟩
  let pos:_root_.Fin n->Nat:=λi=>(H i).choose
  have a6:∀i,pos i<r.length:=λi=>(H i).choose_spec.choose
  have Y:∀i,r[pos i]'(a6 i)=at_ i:=λi=>(H i).choose_spec.choose_spec
  have o:∀i j,(pos i<pos j->Gs q (at_ i) (at_ j))/\(pos j<=pos i->Gt q (at_ i) (at_ j)):=λi j=>by
   have:=B.at (pos i) (pos j) (a6 i) (a6 j)
   rw[Y,Y]at this;exact this
  let cf:_root_.Fin n->_root_.Fin n->Int:=λi j=>(q (at_ i) (at_ j)).getD 0
  have hq:∀i j,q (at_ i) (at_ j)=some (cf i j):=by
   intro i j;rcases Qc8 (pos i) (pos j)with V|V
   .obtain ⟨z,e,_⟩:=(o i j).1 V;show _=some ((q (at_ i) (at_ j)).getD 0);rw[e];rfl
   .obtain ⟨z,e,_⟩:=(o i j).2 V;show _=some ((q (at_ i) (at_ j)).getD 0);rw[e];rfl
  have b8:∀i j,ZJ cf i j=true↔pos i<pos j:=by
   intro i j;unfold ZJ
   rw[Qb7];rcases Qc8 (pos i) (pos j)with V|V
   .obtain ⟨z,e,hz⟩:=(o i j).1 V
    have:=(hq i j).symm.trans e
    have:cf i j=z:=Qe3 this
    omega
   .obtain ⟨z,e,hz⟩:=(o i j).2 V
    have:=(hq i j).symm.trans e
    have:cf i j=z:=Qe3 this
    omega
  have hO:SWO (ZJ cf):=Q5h pos b8;have b6:r.Nodup:=B.asc.imp_of_mem λ{a b} ha _ g e=>by subst e;exact g.1.not (B.self a ha)
  have b2:x.Nodup:=B.perm.nodup_iff.1 b6;have W:∀i j,at_ i=at_ j->i=j:=λi j e=>by
   have:i.val=j.val:=(Qn9 b2).1 e
   exact _root_.Fin.ext this
  have O:∀i j,pos i=pos j->i=j:=λi j e=>by
   apply W;rw[<-Y i, <-Y j]
   simp only[e]
  let d:Array (_root_.Fin n):=(List.finRange n).toArray
  have hd:d.size=n:=by simp[d]
  have b9:∀i (D:i<n),d[i]! = ⟨i,D⟩:=λi D=>by
   rw[Qp3 d i (by rw[hd];exact D)];simp[d]
  obtain⟨⟨A,_,c1⟩,c7⟩:=pdq_sorts (ZJ cf) hO d 0 d.size (Lib.bitLen d.size) true true (Qc2 _) (Qb3 _) (.inl rfl);generalize hpd:pdq (ZJ cf) d 0 d.size (Lib.bitLen d.size) true true=p at A c1 c7
  have A:p.size=n:=A.trans hd;have U:p.toList.Perm (List.finRange n):=by
   have:(p.extract 0 d.size).toList.Perm (d.extract 0 d.size).toList:=c1
   have e1:p.extract 0 d.size=p:=by rw[hd.trans A.symm];exact Array.extract_size
   rw[e1,Array.extract_size]at this;exact this
  have a7:(List.finRange n).map at_=x:=by
   apply List.ext_getElem
   .simp [hn]
   .intro i V h2;simp[at_]
  have f2:r=p.toList.map at_:=by
   refine B.uniq ⟨a7 ▸ U.map at_,?_,λa ha=>?_⟩
   .rw [Qm8,Qd6]
    intro i j D hj e5;have Z : i<p.size:=by simpa using D
    have c8 : j<p.size:=by simpa using hj
    have h5:ZJ cf p[j]! p[i]! = false:=c7 i j (Qc2 _) e5 (by rw[hd, <-A];exact c8);rw[Qp3 p i Z,Qp3 p j c8]at h5
    have h6:¬pos p[j]<pos p[i]:=λg=>by rw[(b8 _ _).2 g]at h5;cases h5
    have f5:p.toList.Nodup:=U.nodup_iff.2 (List.nodup_finRange n);have h7:pos p[i]≠pos p[j]:=λg=>by
     have h8:=O _ _ g;have:=(Qn9 (i:=i) (j:=j) (h₀:=D) (h₁:=hj) f5).1 (by simpa using h8)
     omega
    have h8:pos p[i]<pos p[j]:=by omega
    simp only[Qr3];exact⟨(o _ _).1 h8,(o _ _).2 (by omega)⟩
   .obtain ⟨i,_,rfl⟩:=Qc7.1 ha
    exact(o i i).2 (Qb3 _)
  have g8:∀i:_root_.Fin n,(LF x i.val)=[.int .i64 (at_ i)]:=λi=>by
   show Emb.cells (x.getD i.val Emb.d)=_;rw[DS x i.val (by omega)];rfl
  have d4:∀i:_root_.Fin n,c.getD i.val undef=.int .i64 (at_ i):=λi=>by
   have h0:=g7 i.val 0 i.isLt (by show 0<1;omega);rw[g8]at h0
   have e0:i.val*Emb.es Int+0=i.val:=by show i.val*1+0=_;omega
   rw[e0]at h0;exact h0.lit rfl
  let enc:_root_.Fin n->Value:=λi=>.int .i64 (at_ i)
  have g2:c.size=cap:=by rw[g2];show cap*1=cap;omega
  have hH:Holds enc w b 0 d:=by
   intro t ht;have a5 : t<n:=by rw[hd]at ht;exact ht
   have b4:t<c.size:=by omega
   refine⟨?_,by simp[World.frozen?,g1]⟩;rw[b9 t a5]
   have h2:=d4 ⟨t,a5⟩;simp only at h2
   simp only[Qd2,World.cell?,g1,Qs7,Qi1,Qi0,id];rw[Qe7 b4]
   congr 1
   show _=Value.int .i64 (at_ ⟨t,a5⟩);rw[<-h2];simp[b4]
  have V:OneCell enc:=λi=>rfl
  have b7:CmpLays1 P c3 a2 enc cf b 0 d.size w:=by
   intro m os dk j4 u v;have G:=Dq enc w b 0 m dk os
   refine(b1 (grow (putRow enc (Go.Sort.ahead w m) b 0 dk) os) X #[enc u,enc v] _ _ (hF q (at_ u) (at_ v) (cf u v) (hq u v)) G.size (λy hy hD=>G.block y hy λe=>hD ?_)
    (λy hy=>Qc4 (hX y hy) G.size) (λy _ _=>Iff.rfl) rfl (λj hj η C=>?_)).mono λe2 w2 g=>?_
   .rw [e];exact⟨0,_,by rw[Qe,Qa2 rfl],J⟩
   .have:j=0\/j=1:=by simp at hj;omega
    rcases this with rfl|rfl
    .exact .v _ _ (.c _ _ (.d _ _ (.int _ _)))
    .exact .v _ _ (.c _ _ (.d _ _ (.int _ _)))
   .obtain ⟨v',he,f6,hr⟩:=g
    have f9:=hr η (Qk [] w X η);have e3:v'=.int .i64 (cf u v):=by
     cases f9 with|v _ _ g=>cases g with|c _ _ g=>cases g with|d _ _ g=>cases g;rfl
    obtain⟨qq,e7,f7⟩:=gF f6;exact⟨by rw[he,e3],qq,e7,f7⟩
  have M:=Any.slices_SortFunc_eq Ly enc V cf hO c3 a2 b 0 cap d w a3 b7 hH (J8 g1) (by rw[hd];simp only[Y6]at hl;omega);rw[hd]at M
  refine M.mono λe' w' g=>?_
  obtain⟨he,nn,os,hw⟩:=g;refine⟨_,η,he,?_⟩
  have g9:pdq (ltOf cf) d 0 n (Lib.bitLen n) true true=p:=by rw[<-hpd,hd];rfl
  rw[g9]at hw;have d9:w'=grow (putRow enc (Go.Sort.ahead w nn) b 0 p) os:=hw
  rw[d9];have G:=Dq enc w b 0 nn p os
  refine FH (c':=putCells enc 0 p c) (e:=e) (b:=b) (n:=n) (cap:=cap) hu g5 G (yg _ _ _ _ _ _ _ g1) (by rw[ql,g2];show cap=cap*1;omega) (by rw[T,hn]) g3 g4 (λi j D hj=>?_) hX (c6 b J);have d8:j=0:=by have:j<1:=hj;omega
  subst d8;have e0:i*Emb.es Int+0=i:=by show i*1+0=_;omega
  rw[e0,vE _ _ _ _ (by rw[A];exact D) (by rw[A,g2];exact g3)];have e6:LF r i=[.int .i64 (at_ p[i]!)]:=by
   show Emb.cells (r.getD i Emb.d)=_;rw[DS r i (by rw[T,hn];exact D)]
   have Z : i<p.size:=by rw[A];exact D
   rw[Qp3 p i Z];have:r[i]'(by rw[T,hn];exact D)=(p.toList.map at_)[i]'(by simpa using Z):=by simp only[f2]
   rw[this];simp[Emb.cells]
  rw[e6];exact .int _ _
end
section
def Q0j(ops:Array Oper):List Oper->List Nat->List Nat
 |[],_=>[]
 |o::os,d=>((QG o++Qt ops o).filter λt=> !d.contains t)++Q0j ops os (match o.guard,o.dst with|none,some x=>x::d|_,_=>d)
def rkK(o:Oper):Option Nat:=match o.guard with|none=>o.dst|some _=>none
def RB:List ResultVar->List Nat
 |[]=>[]
 |.tmp t::r=>t::RB r
 |.cell t _::r=>t::RB r
def GR:List Nat->List Nat
 |[]=>[]
 |x::l=>match (GR l).contains x with|true=>GR l|false=>x::GR l
structure LV where
 out:List Nat
 ex:List (Nat×List Nat)
 rt:List Nat
def K6:Code->LV->List Nat
 |.skip,v=>v.out
 |.region _ ops _,v=>GR (Q0j ops ops.toList []++v.out.filter λt=> !(ops.toList.filterMap rkK).contains t)
 |.seq a b,v=>K6 a ⟨K6 b v,v.ex,v.rt⟩
 |.cond x a b,v=>GR ((match x with|.tmp t=>[t]|_=>[])++(K6 a v++K6 b v))
 |.block i c,v=>K6 c ⟨v.out,(i,v.out)::v.ex,v.rt⟩
 |.loop c,v=>K6 c ⟨[],v.ex,v.rt⟩
 |.exit i,v=>(v.ex.lookup i).getD []
 |.ret,v=>v.rt
 |_,_=>[]
def Kl:Code->List Nat
 |.region _ ops _=>ops.toList.filterMap (·.dst)
 |.seq a b=>Kl a++Kl b
 |.cond _ a b=>Kl a++Kl b
 |.block _ c=>Kl c
 |.loop c=>Kl c
 |_=>[]
def Lv(v:LV)(Q:Exit->Act->World->Prop):Exit->Act->World->Prop:=Q
class Fz (P:outParam Program) (L:outParam Lay) (C:Ctx) (pins:outParam (List Nat)):Prop where
 b:Fr P L C pins
abbrev sN(n:Nat)(l:List Dir):List Dir:=List.replicate n .s++l
def pd(ops:Array Oper)(ds:List Dir):List Dir:=ds++List.replicate (ops.size-ds.length) .s
def cj(S:List (Nat×Obj)):Nat->List Nat->List Nat
 |0,l=>l
 |n+1,l=>cj S n (GR (l++l.flatMap λi=>match ls S i with|some o=>o.refs|none=>[]))
def qz:List (Nat×Obj)->List Nat
 |[]=>[]
 |(i,.exr _ _)::S=>i::qz S
 |_::S=>qz S
def rkB(o:Oper):Bool:=match o.op with|.alloc _=>true|.call _=>true|_=>false
def Yv(pins:List Nat)(ops:Array Oper)(ds:List Dir)(E:List (Nat×AVal))(S:List (Nat×Obj)):List (Nat×Obj):=
 match ds.isEmpty && !(ops.toList.any rkB)with
 |true=>S
 |false=>S.filter λp=>(cj S 3 (pins++(E.flatMap λp=>p.2.refs)++qz S)).contains p.1
def Zz(pins:List Nat)(L:Lay)(ops:Array Oper)(ds:List Dir)(E:List (Nat×AVal))(S:List (Nat×Obj))(ts:List Nat):List (Nat×AVal):=
 ts.map λt=>(t,UL ops.toList (Vj L ops ops.toList (pd ops ds) (lk E) (ls (Yv pins ops ds E S))) (lk E) t)
def ce(L:Lay)(ops:Array Oper)(ds:List Dir)(E:List (Nat×AVal))(S:List (Nat×Obj)):List (Nat×Obj):=
 (S.map (·.1)++Yx (Vj L ops ops.toList (pd ops ds) (lk E) (ls S))).filterMap λi=>(UK (Vj L ops ops.toList (pd ops ds) (lk E) (ls S)) (ls S) i).map λo=>(i,o)
def QC(pins:List Nat)(L:Lay)(ops:Array Oper)(ds:List Dir)(E:List (Nat×AVal))(S:List (Nat×Obj)):List (Nat×Obj):=ce L ops ds E (Yv pins ops ds E S)
theorem cl:J3 []=λi=>i:=by funext i;rfl
section
variable {P:Program} {C:Ctx} {nt:Nat} {L:Lay} {pins:List Nat} {v:LV} {E:List (Nat×AVal)} {S:List (Nat×Obj)} {Q:Exit->Act->World->Prop}
variable {id:Nat} {ops:Array Oper} {draw:Bool} {y:Code}
abbrev ZO(P:Program)(C:Ctx)(nt:Nat)(L:Lay)(pins:List Nat)(E:List (Nat×AVal))(S:List (Nat×Obj))(ops:Array Oper)(draw:Bool)(ds:List Dir):Bool×Prop:=
 (FB L pins nt ops draw (pd ops ds) E (Yv pins ops ds E S) [] (QC pins L ops ds E S),JN P C nt L ops ops.toList (pd ops ds) (lk E) (ls (Yv pins ops ds E S)))
theorem Tv{l:List Nat}{i:Nat}{o:Obj}:∀{S:List (Nat×Obj)},ls (S.filter λp=>l.contains p.1) i=some o->ls S i=some o
 |[],h=>h
 |(j,x)::S,h=>by
  rw[Qe];rw[Qi7]at h
  by_cases hj:l.contains j=true
  .rw [Qa2 hj,Qe]at h
   by_cases hij:i=j
   .rw [Qa2 hij]at h⊢;exact h
   .rw [Qa1 hij]at h⊢;exact Tv h
  .rw [Qa1 hj]at h
   by_cases hij:i=j
   .exfalso
    subst hij;have:=Qd h
    exact hj (by simpa using(Qe6.1 this).2)
   .rw [Qa1 hij];exact Tv h
theorem Z5u{K:Act->World->Prop}{l:List Nat}(h:Kn C nt E (S.filter λp=>l.contains p.1) K):Kn C nt E S K:=by
 intro R η a w c;refine h R (λi=>η i) a w (c.conv (λi=>i) (λt=>by rw[HX];exact Y4.refl _) (λi x b=>⟨x,Tv b,by rw[HO];exact J5.refl _⟩) (λi j b g d=>d) c.er (λi x b=>c.sr i x (Tv b)) (λi b=>?_))
 obtain⟨v,f⟩:=Qa9.1 b;exact⟨rfl,(c.pn i v f).2⟩
theorem Z5C{K:Act->World->Prop}{ds:List Dir}(h:Kn C nt E (Yv pins ops ds E S) K):Kn C nt E S K:=by
 unfold Yv at h;split at h
 .exact h
 .exact Z5u h
theorem Z7[Fm:Fz P L C pins](ds:List Dir)(c:(Nat->Prop)->Prop)(hc:c (G2 P C nt L ops (pd ops ds) (lk E) (ls (Yv pins ops ds E S))))(k:Kn C nt (Zz pins L ops ds E S v.out) (QC pins L ops ds E S) (Q .normal))(h:ZO P C nt L pins E S ops draw ds=(true,c (G2 P C nt L ops (pd ops ds) (lk E) (ls (Yv pins ops ds E S)))):=by kernel_rfl):AW P C nt (.region id ops draw) E S (Lv v Q):=by
 refine Z5C (pins:=pins) (ops:=ops) (ds:=ds) (Z6d Fm.b (pd ops ds) [] c (Zz pins L ops ds E S v.out) (QC pins L ops ds E S) hc (congrArg (·.1) h) (congrArg (·.2) h) ?_ ?_ k)
 .rw [cl]
  unfold Zz;rw[Qn3,Qn3]
  exact Qh6 λt _=>(HX _).symm
 .rw [cl]
  refine Qh6 λp d=>?_
  unfold QC ce at d;obtain⟨i,_,g⟩:=Qp2.1 d
  obtain⟨o,f,e⟩:=Option.map_eq_some_iff.1 g;rw[<-e]
  simp only[f,HO]
theorem Q1{x:Code}(h:AW P C nt x E S (Lv ⟨K6 y v,v.ex,v.rt⟩ (Exit.then (y.wp P (Lv v Q)) (Lv v Q)))):AW P C nt (.seq x y) E S (Lv v Q):=Q3T h
theorem Q6(h:AW P C nt c E S (Lv ⟨v.out,(i,v.out)::v.ex,v.rt⟩ (Exit.inBlock i (Lv v Q)))):AW P C nt (.block i c) E S (Lv v Q):=Z6k h
theorem Yt[Fm:Fz P L C pins](ds:List Dir)(c:(Nat->Prop)->Prop)(hc:c (G2 P C nt L ops (pd ops ds) (lk E) (ls (Yv pins ops ds E S))))(k:AW P C nt y (Zz pins L ops ds E S (K6 y v)) (QC pins L ops ds E S) (Lv v Q))(h:ZO P C nt L pins E S ops draw ds=(true,c (G2 P C nt L ops (pd ops ds) (lk E) (ls (Yv pins ops ds E S)))):=by kernel_rfl):AW P C nt (.seq (.region id ops draw) y) E S (Lv v Q):=Q1 (Z7 ds c hc k h)
theorem UU[Fm:Fz P L C pins](ds:List Dir){q:Prop}(hc:q)(k:Kn C nt (Zz pins L ops ds E S v.out) (QC pins L ops ds E S) (Q .normal))(h:ZO P C nt L pins E S ops draw ds=(true,q):=by kernel_rfl):AW P C nt (.region id ops draw) E S (Lv v Q):=Z7 ds (λ_=>q) hc k h
theorem y4[Fm:Fz P L C pins](ds:List Dir){q:Prop}(hc:q)(k:AW P C nt y (Zz pins L ops ds E S (K6 y v)) (QC pins L ops ds E S) (Lv v Q))(h:ZO P C nt L pins E S ops draw ds=(true,q):=by kernel_rfl):AW P C nt (.seq (.region id ops draw) y) E S (Lv v Q):=Yt ds (λ_=>q) hc k h
theorem z6[Fm:Fz P L C pins]{q:Prop}(hc:q)(k:Kn C nt (Zz pins L ops [] E S v.out) (QC pins L ops [] E S) (Q .normal))(h:ZO P C nt L pins E S ops draw []=(true,q):=by kernel_rfl):AW P C nt (.region id ops draw) E S (Lv v Q):=UU [] hc k h
theorem U5[Fm:Fz P L C pins]{q:Prop}(hc:q)(k:AW P C nt y (Zz pins L ops [] E S (K6 y v)) (QC pins L ops [] E S) (Lv v Q))(h:ZO P C nt L pins E S ops draw []=(true,q):=by kernel_rfl):AW P C nt (.seq (.region id ops draw) y) E S (Lv v Q):=y4 [] hc k h
theorem ZU[Fm:Fz P L C pins](k:Kn C nt (Zz pins L ops [] E S v.out) (QC pins L ops [] E S) (Q .normal))(h:ZO P C nt L pins E S ops draw []=(true,True):=by kernel_rfl):AW P C nt (.region id ops draw) E S (Lv v Q):=UU [] True.intro k h
theorem Q0[Fm:Fz P L C pins](k:AW P C nt y (Zz pins L ops [] E S (K6 y v)) (QC pins L ops [] E S) (Lv v Q))(h:ZO P C nt L pins E S ops draw []=(true,True):=by kernel_rfl):AW P C nt (.seq (.region id ops draw) y) E S (Lv v Q):=y4 [] True.intro k h
theorem Y2[Fm:Fz P L C pins]{R:Type}{a r:R}(h:some a=some r){g:R->AVal}{G:R->List (Nat×Obj)}(hQ:Q .ret=Ws P fn C (g r) (G r) .ret:=by rfl)(h1:ZO P C nt L pins E S ops draw []=(true,True):=by kernel_rfl)(hq:(VQ L (lk (Zz pins L ops [] E S (K6 .ret v))) (ls (QC pins L ops [] E S)) fn.results.toList,(G a).map (λp=>ls (QC pins L ops [] E S) p.1))=(some (g a),(G a).map (λp=>some p.2)):=by kernel_rfl):AW P C nt (.seq (.region id ops draw) .ret) E S (Lv v Q):=Q0 (Q3U Fm.b h hQ hq) h1
def rp(N:List (Nat×Obj))(S:List (Nat×Obj)):List (Nat×Obj):=S.map λp=>(p.1,(N.lookup p.1).getD p.2)
def FX:List (Nat×Obj)->List (Nat×Obj)->Prop
 |(_,o)::W,(_,x)::N=>J5 o x/\FX W N
 |_,_=>True
theorem Q1w:∀{W N:List (Nat×Obj)},FX W N->W.map (·.1)=N.map (·.1)->∀{i:Nat} {x:Obj},N.lookup i=some x->∃o,W.lookup i=some o/\J5 o x
 |[],[],_,_,_,_,h=>by cases h
 |[],_::_,_,h,_,_,_=>by cases h
 |_::_,[],_,h,_,_,_=>by cases h
 |(k,o)::W,(j,z)::N,hf,b,i,x,h=>by
  simp only[Qg4,Ql5]at b;obtain⟨rfl,b⟩:=b
  rw[Qg7]at h⊢
  cases hik:i==k with
  |true=>rw[hik]at h;cases h;exact⟨o,rfl,hf.1⟩
  |false=>rw[hik]at h;exact Q1w hf.2 b h
theorem Q1x{W N:List (Nat×Obj)}(hf:FX W N)(hk:W.map (·.1)=N.map (·.1)):∀{S:List (Nat×Obj)},S.map (λp=>(W.lookup p.1).getD p.2)=S.map (·.2)->HS S (rp N S)
 |[],_=>True.intro
 |(i,o)::S,h=>by
  simp only[Qg4,Ql5]at h;refine⟨rfl,?_,Q1x hf hk h.2⟩
  cases hl:N.lookup i with
  |none=>exact J5.refl _
  |some x=>
   obtain⟨d,c,f⟩:=Q1w hf hk hl;have b:=h.1
   rw[c]at b;have b:d=o:=b
   rw[<-b];exact f
theorem Z5v{K:Act->World->Prop}{W N:List (Nat×Obj)}(hf:FX W N)(k:Kn C nt E (rp N S) K)(h:(W.map (·.1),S.map (λp=>(W.lookup p.1).getD p.2))=(N.map (·.1),S.map (·.2))):Kn C nt E S K:=
 JP E _ (FE.refl _) (Q1x hf (congrArg (·.1) h) (congrArg (·.2) h)) k
theorem YF[Fm:Fz P L C pins](ds:List Dir)(c:(Nat->Prop)->Prop)(hc:c (G2 P C nt L ops (pd ops ds) (lk E) (ls (Yv pins ops ds E S))))(W N:List (Nat×Obj))(hW:FX W N)(k:Kn C nt (Zz pins L ops ds E S v.out) (rp N (QC pins L ops ds E S)) (Q .normal))(h:ZO P C nt L pins E S ops draw ds=(true,c (G2 P C nt L ops (pd ops ds) (lk E) (ls (Yv pins ops ds E S)))):=by kernel_rfl)(h2:(W.map (·.1),(QC pins L ops ds E S).map (λp=>(W.lookup p.1).getD p.2))=(N.map (·.1),(QC pins L ops ds E S).map (·.2)):=by kernel_rfl):AW P C nt (.region id ops draw) E S (Lv v Q):=
 Z7 ds c hc (Z5v hW k h2) h
theorem UT[Fm:Fz P L C pins](ds:List Dir)(c:(Nat->Prop)->Prop)(hc:c (G2 P C nt L ops (pd ops ds) (lk E) (ls (Yv pins ops ds E S))))(W N:List (Nat×Obj))(hW:FX W N)(k:AW P C nt y (Zz pins L ops ds E S (K6 y v)) (rp N (QC pins L ops ds E S)) (Lv v Q))(h:ZO P C nt L pins E S ops draw ds=(true,c (G2 P C nt L ops (pd ops ds) (lk E) (ls (Yv pins ops ds E S)))):=by kernel_rfl)(h2:(W.map (·.1),(QC pins L ops ds E S).map (λp=>(W.lookup p.1).getD p.2))=(N.map (·.1),(QC pins L ops ds E S).map (·.2)):=by kernel_rfl):AW P C nt (.seq (.region id ops draw) y) E S (Lv v Q):=
 Q1 (YF ds c hc W N hW k h h2)
theorem Ql[Fm:Fz P L C pins](ds:List Dir){q:Prop}(hc:q)(W N:List (Nat×Obj))(hW:FX W N)(k:Kn C nt (Zz pins L ops ds E S v.out) (rp N (QC pins L ops ds E S)) (Q .normal))(h:ZO P C nt L pins E S ops draw ds=(true,q):=by kernel_rfl)(h2:(W.map (·.1),(QC pins L ops ds E S).map (λp=>(W.lookup p.1).getD p.2))=(N.map (·.1),(QC pins L ops ds E S).map (·.2)):=by kernel_rfl):AW P C nt (.region id ops draw) E S (Lv v Q):=YF ds (λ_=>q) hc W N hW k h h2
theorem Zv[Fm:Fz P L C pins](ds:List Dir){q:Prop}(hc:q)(W N:List (Nat×Obj))(hW:FX W N)(k:AW P C nt y (Zz pins L ops ds E S (K6 y v)) (rp N (QC pins L ops ds E S)) (Lv v Q))(h:ZO P C nt L pins E S ops draw ds=(true,q):=by kernel_rfl)(h2:(W.map (·.1),(QC pins L ops ds E S).map (λp=>(W.lookup p.1).getD p.2))=(N.map (·.1),(QC pins L ops ds E S).map (·.2)):=by kernel_rfl):AW P C nt (.seq (.region id ops draw) y) E S (Lv v Q):=UT ds (λ_=>q) hc W N hW k h h2
theorem Y9[Fm:Fz P L C pins](a:Nat)(hs:G4 P f args Si r So)(hc:∀ args w,(callFunc f args).run P w=.ok (.enter f args) w)(m:List (Nat×Nat))(k:Kn C nt (Zz pins L ops (oD a 0 (cE m [] r Si So)) E S v.out) (QC pins L ops (oD a 0 (cE m [] r Si So)) E S) (Q .normal))(hk:QA (pd ops (oD a 0 (cE m [] r Si So))) a=cE m [] r Si So:=by kernel_rfl)(hq:(Go.Ab.callB ops nt (J4 L ops ops.toList (pd ops (oD a 0 (cE m [] r Si So))) (lk E) (ls (Yv pins ops (oD a 0 (cE m [] r Si So)) E S)) a) (U2 ops.toList a) f m r Si So,Si.map (fun p=>QM L ops ops.toList (pd ops (oD a 0 (cE m [] r Si So))) (lk E) (ls (Yv pins ops (oD a 0 (cE m [] r Si So)) E S)) a (J3 m p.1)),
   (Go.Ab.callXs (U2 ops.toList a)).toList.all (QD (QG (U2 ops.toList a)++Qt ops (U2 ops.toList a)))&&args.all AVal.noSem,(Go.Ab.callXs (U2 ops.toList a)).toList.map (Y5 (J4 L ops ops.toList (pd ops (oD a 0 (cE m [] r Si So))) (lk E) (ls (Yv pins ops (oD a 0 (cE m [] r Si So)) E S)) a)))=(true,Si.map (λp=>some (p.2.ren (J3 m))),true,args.map (AVal.ren (J3 m))):=by kernel_rfl)(h:ZO P C nt L pins E S ops draw (oD a 0 (cE m [] r Si So))=(true,G2 P C nt L ops (pd ops (oD a 0 (cE m [] r Si So))) (lk E) (ls (Yv pins ops (oD a 0 (cE m [] r Si So)) E S)) a/\True):=by kernel_rfl):AW P C nt (.region id ops draw) E S (Lv v Q):=Z7 _ (k1 a) ⟨Q3M hs hc m hk hq,True.intro⟩ k h
variable {E2:List (Nat×AVal)} {S2:List (Nat×Obj)}
theorem U4{K:Act->World->Prop}[Fm:Fz P L C pins](k:Kn C nt E2 S2 K)(hq:Yn pins E S E2 S2=Ym E2 S2:=by kernel_rfl):Kn C nt E S K:=Z5G Fm.b k hq
theorem U7[Fm:Fz P L C pins](ds:List Dir){q:Prop}(hc:q)(k:Kn C nt E2 S2 (Q .normal))(h:ZO P C nt L pins E S ops draw ds=(true,q):=by kernel_rfl)(hq:Yn pins (Zz pins L ops ds E S v.out) (QC pins L ops ds E S) E2 S2=Ym E2 S2:=by kernel_rfl):AW P C nt (.region id ops draw) E S (Lv v Q):=UU ds hc (U4 k hq) h
theorem QO[Fm:Fz P L C pins]{q:Prop}(hc:q)(k:Kn C nt E2 S2 (Q .normal))(h:ZO P C nt L pins E S ops draw []=(true,q):=by kernel_rfl)(hq:Yn pins (Zz pins L ops [] E S v.out) (QC pins L ops [] E S) E2 S2=Ym E2 S2:=by kernel_rfl):AW P C nt (.region id ops draw) E S (Lv v Q):=U7 [] hc k h hq
theorem FZ[Fm:Fz P L C pins](ds:List Dir){c:Bool}(e:b=c)(k:Kn C nt E2 S2 (Q .normal))(h:ZO P C nt L pins E S ops draw ds=(true,Y4 (vb b) (vb c)/\True):=by kernel_rfl)(hq:Yn pins (Zz pins L ops ds E S v.out) (QC pins L ops ds E S) E2 S2=Ym E2 S2:=by kernel_rfl):AW P C nt (.region id ops draw) E S (Lv v Q):=U7 ds (Go.Ab.cT (Y4.bool e)) k h hq
theorem J6[Fm:Fz P L C pins]{e:Int}{R:Type}{x:Option R}{r:R}(g:gd (Q5 (e+1)) x=some r)(k:x=some r->Kn C nt E2 S2 (Q .normal))(h:ZO P C nt L pins E S ops draw []=(true,(Q5 (e+1)/\True)/\True):=by kernel_rfl)(hq:Yn pins (Zz pins L ops [] E S v.out) (QC pins L ops [] E S) E2 S2=Ym E2 S2:=by kernel_rfl):AW P C nt (.region id ops draw) E S (Lv v Q):=
 QO (Go.Ab.cT (Go.Ab.cT (gS g).1)) (k (gS g).2) h hq
def Qx(x:Code)(l:List Nat)(E n:List (Nat×AVal)):List (Nat×AVal):=n++E.filter λp=>l.contains p.1 && !(Kl x).contains p.1
theorem WK{σ R:Type}(r:R){x:Code}(f:σ->Option R)(nE:σ->List (Nat×AVal))(kS:List Nat)(nS:σ->List (Nat×Obj))(hy:∀z,f z=some r->AW P C nt y (Qx x (K6 y v) E (nE z)) (sK kS S (nS z)) (Lv v Q))(hx:∀J:Act->World->Prop,(∀z,f z=some r->Kn C nt (Qx x (K6 y v) E (nE z)) (sK kS S (nS z)) J)->AW P C nt x E S (Lv ⟨K6 y v,v.ex,v.rt⟩ (Exit.then J (Lv v Q)))):AW P C nt (.seq x y) E S (Lv v Q):=Z6i f _ _ hy hx
theorem kB[Fm:Fz P L C pins]{σ R:Type}{r:R}{body:(σ->Option R)->σ->Option R}{z0:σ}(h:Y3 body n z0=some r)(E' : σ->List (Nat×AVal))(S' : σ->List (Nat×Obj))(round:∀(again:σ->Option R) (z:σ) (J:Act->World->Prop),(∀z',again z'=some r->Kn C nt (Qx c (K6 (.loop c) v) E (E' z')) (S' z') J)->body again z=some r->AW P C nt c (Qx c (K6 (.loop c) v) E (E' z)) (S' z) (Lv ⟨K6 (.loop c) v,v.ex,v.rt⟩ (Exit.then J (Lv v Q))))(hq:Yn pins E S (Qx c (K6 (.loop c) v) E (E' z0)) (S' z0)=Ym (Qx c (K6 (.loop c) v) E (E' z0)) (S' z0):=by kernel_rfl):AW P C nt (.loop c) E S (Lv v Q):=U4 (Z6h h (λz=>Qx c (K6 (.loop c) v) E (E' z)) S' round) hq
def cg(S:List (Nat×Obj))(k:Nat):Nat:=match ls S k with|some (.arr e _ _)=>e|_=>0
def RC(S:List (Nat×Obj))(k:Nat):Nat:=match ls S k with|some (.arr _ n _)=>n|_=>0
def RD(S:List (Nat×Obj))(k:Nat):Nat->List DVal:=match ls S k with|some (.arr _ _ f)=>f|_=>λ_=>[]
def RA(S:List (Nat×Obj))(k:Nat):List (Nat×Obj):=S.filter λp=>p.1 != k
theorem J7{K:Act->World->Prop}[Fm:Fz P L C pins](k:Nat)(h:Kn C nt (E.map λp=>(p.1,p.2.frz k (RC S k) (RD S k))) ((RA S k).map λp=>(p.1,p.2.frz k (RC S k) (RD S k))) K)(h1:Yn pins E S E ((k,.arr (cg S k) (RC S k) (RD S k))::RA S k)=Ym E ((k,.arr (cg S k) (RC S k) (RD S k))::RA S k):=by kernel_rfl)(h2:((RA S k).map (·.1)).contains k=false:=by kernel_rfl):Kn C nt E S K:=
 U4 (kc _ _ h (by rw[h2])) h1
theorem Z5y{K:Act->World->Prop}{α:Type}[Emb α][Fm:Fz P L C pins](t:Nat)(k:Kn C nt ((t,AL ([]:List α))::E) S K)(h:Yn pins E S ((t,.v (.c f0))::E) S=Ym ((t,.v (.c f0))::E) S:=by kernel_rfl):Kn C nt E S K:=
 U4 (Z5F (Y4.c (G3.fl .nil)) k) h
theorem J1{R:Type}{a r:R}(h:some a=some r){g:R->AVal}{G:R->List (Nat×Obj)}(k:Kn C nt E S (Ws P fn C (g a) (G a) .ret))(hQ:Q .ret=Ws P fn C (g r) (G r) .ret:=by rfl):AW P C nt .ret E S Q:=by
 cases h
 exact Wz (hQ ▸ k)
theorem K4[Fm:Fz P L C pins](hq:(VQ L (lk E) (ls S) fn.results.toList,S'.map (λp=>ls S p.1))=(some r,S'.map (λp=>some p.2)):=by kernel_rfl):Kn C nt E S (Ws P fn C r S' .ret):=Q3J Fm.b hq
end
section
variable {P:Program} {L:Lay}
theorem GI(hf:P.funcs[f]?=some fn)(hm:P.follows .mixedOrders=true)(hL:Qi P L){S:List (Nat×Obj)}(h:∀C,Fz P L C (S.map (·.1))->AW P C fn.ntmps c (Pd args) S (Lv ⟨[],[],RB fn.results.toList⟩ (Ws P fn C r S')))(hb:fn.body=some c:=by rfl)(hn0:Nat.ble args.length fn.ntmps=true:=by kernel_rfl):G4 P f args S r S':=FI hf hm hL (λC b=>h C ⟨b⟩) hb hn0
end
theorem Q2y{ops:Array Oper}:∀{ds:List Dir} {k:Nat} {l:List Dir},Nat.blt k ds.length=true->QA (ds++l) k=QA ds k
 |[],k,_,h=>by simp[Nat.blt]at h
 |d::ds,0,l,_=>by cases d<;>rfl
 |d::ds,k+1,l,h=>by
  have b:Nat.blt k ds.length=true:=by simp[Nat.blt]at h⊢;omega
  have:QA ((d::ds)++l) (k+1)=QA (ds++l) k:=by cases d<;>rfl
  rw[this,Q2y (ops:=ops) b]
  cases d<;>rfl
section
variable {P:Program} {C:Ctx} {nt:Nat} {L:Lay} {ops:Array Oper} {ds:List Dir} {e:U8} {s:J0}
theorem Z5(hspec:G4 P f args Si r So)(hcall:∀ args w,(callFunc f args).run P w=.ok (.enter f args) w)(m:List (Nat×Nat))(hk:QA ds k=cE m [] r Si So:=by rfl)(hl:Nat.blt k ds.length=true:=by kernel_rfl)(hq:(Go.Ab.callB ops nt (J4 L ops ops.toList (pd ops ds) e s k) (U2 ops.toList k) f m r Si So,Si.map (fun p=>QM L ops ops.toList (pd ops ds) e s k (J3 m p.1)),
   (Go.Ab.callXs (U2 ops.toList k)).toList.all (QD (QG (U2 ops.toList k)++Qt ops (U2 ops.toList k)))&&args.all AVal.noSem,(Go.Ab.callXs (U2 ops.toList k)).toList.map (Y5 (J4 L ops ops.toList (pd ops ds) e s k)))
   = (true,Si.map (λp=>some (p.2.ren (J3 m))),true,args.map (AVal.ren (J3 m))):=by kernel_rfl):G2 P C nt L ops (pd ops ds) e s k:=Q3M hspec hcall m ((Q2y (ops:=ops) hl).trans hk) hq
end
end
section
section
variable {P:Program} {C:Ctx} {nt:Nat} {L:Lay} {pins:List Nat} {v:LV} {E:List (Nat×AVal)} {S:List (Nat×Obj)} {Q:Exit->Act->World->Prop}
variable {id:Nat} {ops:Array Oper} {draw:Bool} {y x c:Code} {R A B D G H:Type}
@[reducible] def n2 {σ τ β:Type}:σ->τ->List β:=fun _ _=>[]
@[reducible] def n3 {σ τ ρ β:Type}:σ->τ->ρ->List β:=fun _ _ _=>[]
theorem z8(r:R)(f:Option R)(nE:List (Nat×AVal))(kS:List Nat)(nS:List (Nat×Obj))(hy:f=some r->AW P C nt y (Qx x (K6 y v) E nE) (sK kS S nS) (Lv v Q))(hx:∀J:Act->World->Prop,(f=some r->Kn C nt (Qx x (K6 y v) E nE) (sK kS S nS) J)->AW P C nt x E S (Lv ⟨K6 y v,v.ex,v.rt⟩ (Exit.then J (Lv v Q)))):AW P C nt (.seq x y) E S (Lv v Q):=
 WK r (λ_:Unit=>f) (λ_=>nE) kS (λ_=>nS) (λ_ h=>hy h) (λJ h=>hx J (h ()))
theorem Z6(r:R)(f:A->Option R)(nE:A->List (Nat×AVal))(kS:List Nat)(nS:A->List (Nat×Obj))(hy:∀a,f a=some r->AW P C nt y (Qx x (K6 y v) E (nE a)) (sK kS S (nS a)) (Lv v Q))(hx:∀J:Act->World->Prop,(∀{a},f a=some r->Kn C nt (Qx x (K6 y v) E (nE a)) (sK kS S (nS a)) J)->AW P C nt x E S (Lv ⟨K6 y v,v.ex,v.rt⟩ (Exit.then J (Lv v Q)))):AW P C nt (.seq x y) E S (Lv v Q):=
 WK r f nE kS nS hy (λJ h=>hx J (h _))
theorem Ye(r:R)(f:A->B->Option R)(nE:A->B->List (Nat×AVal))(kS:List Nat)(nS:A->B->List (Nat×Obj))(hy:∀a b,f a b=some r->AW P C nt y (Qx x (K6 y v) E (nE a b)) (sK kS S (nS a b)) (Lv v Q))(hx:∀J:Act->World->Prop,(∀{a b},f a b=some r->Kn C nt (Qx x (K6 y v) E (nE a b)) (sK kS S (nS a b)) J)->AW P C nt x E S (Lv ⟨K6 y v,v.ex,v.rt⟩ (Exit.then J (Lv v Q)))):AW P C nt (.seq x y) E S (Lv v Q):=
 WK r (λz:A×B=>f z.1 z.2) (λz=>nE z.1 z.2) kS (λz=>nS z.1 z.2) (λz=>hy z.1 z.2) (λJ h=>hx J (h (_,_)))
theorem ZF(r:R)(f:A->B->D->Option R)(nE:A->B->D->List (Nat×AVal))(kS:List Nat)(nS:A->B->D->List (Nat×Obj))(hy:∀a b c,f a b c=some r->AW P C nt y (Qx x (K6 y v) E (nE a b c)) (sK kS S (nS a b c)) (Lv v Q))(hx:∀J:Act->World->Prop,(∀{a b c},f a b c=some r->Kn C nt (Qx x (K6 y v) E (nE a b c)) (sK kS S (nS a b c)) J)->AW P C nt x E S (Lv ⟨K6 y v,v.ex,v.rt⟩ (Exit.then J (Lv v Q)))):AW P C nt (.seq x y) E S (Lv v Q):=
 Ye r (λa (b:B×D)=>f a b.1 b.2) (λa b=>nE a b.1 b.2) kS (λa b=>nS a b.1 b.2) (λa b=>hy a b.1 b.2) (λJ h=>hx J (λ{_ b c}=>h (b:=(b,c))))
theorem kC(r:R)(f:A->B->D->G->Option R)(nE:A->B->D->G->List (Nat×AVal))(kS:List Nat)(nS:A->B->D->G->List (Nat×Obj))(hy:∀a b c d,f a b c d=some r->AW P C nt y (Qx x (K6 y v) E (nE a b c d)) (sK kS S (nS a b c d)) (Lv v Q))(hx:∀J:Act->World->Prop,(∀{a b c d},f a b c d=some r->Kn C nt (Qx x (K6 y v) E (nE a b c d)) (sK kS S (nS a b c d)) J)->AW P C nt x E S (Lv ⟨K6 y v,v.ex,v.rt⟩ (Exit.then J (Lv v Q)))):AW P C nt (.seq x y) E S (Lv v Q):=
 ZF r (λa b (c:D×G)=>f a b c.1 c.2) (λa b c=>nE a b c.1 c.2) kS (λa b c=>nS a b c.1 c.2) (λa b c=>hy a b c.1 c.2) (λJ h=>hx J (λ{_ _ b c}=>h (c:=(b,c))))
theorem y5{r:R}{z0:A}{body:(A->Option R)->A->Option R}(h:Y3 body n z0=some r)(E' : A->List (Nat×AVal))(S' : A->List (Nat×Obj))(round:∀(again:A->Option R) (z:A) (J:Act->World->Prop),(∀{z'},again z'=some r->Kn C nt (Qx c (K6 (.loop c) v) E (E' z')) (S' z') J)->body again z=some r->AW P C nt c (Qx c (K6 (.loop c) v) E (E' z)) (S' z) (Lv ⟨K6 (.loop c) v,v.ex,v.rt⟩ (Exit.then J (Lv v Q))))(hq:Yn pins E S (Qx c (K6 (.loop c) v) E (E' z0)) (S' z0)=Ym (Qx c (K6 (.loop c) v) E (E' z0)) (S' z0):=by kernel_rfl)[Fm:Fz P L C pins]:AW P C nt (.loop c) E S (Lv v Q):=kB h E' S' (λg z J b=>round g z J (b _)) hq
theorem z7{r:R}{z0:A×B}{body:(A×B->Option R)->A×B->Option R}(h:Y3 body n z0=some r)(E' : A->B->List (Nat×AVal))(S' : A->B->List (Nat×Obj))(round:∀(again:A×B->Option R) (a:A) (b:B) (J:Act->World->Prop),(∀{a b},again (a,b)=some r->Kn C nt (Qx c (K6 (.loop c) v) E (E' a b)) (S' a b) J)->body again (a,b)=some r->AW P C nt c (Qx c (K6 (.loop c) v) E (E' a b)) (S' a b) (Lv ⟨K6 (.loop c) v,v.ex,v.rt⟩ (Exit.then J (Lv v Q))))(hq:Yn pins E S (Qx c (K6 (.loop c) v) E (E' z0.1 z0.2)) (S' z0.1 z0.2)=Ym (Qx c (K6 (.loop c) v) E (E' z0.1 z0.2)) (S' z0.1 z0.2):=by kernel_rfl)[Fm:Fz P L C pins]:AW P C nt (.loop c) E S (Lv v Q):=
 y5 h (λz=>E' z.1 z.2) (λz=>S' z.1 z.2) (λg z J d=>round g z.1 z.2 J d) hq
theorem YE{r:R}{z0:A×B×D}{body:(A×B×D->Option R)->A×B×D->Option R}(h:Y3 body n z0=some r)(E' : A->B->D->List (Nat×AVal))(S' : A->B->D->List (Nat×Obj))(round:∀(again:A×B×D->Option R) (a:A) (b:B) (d:D) (J:Act->World->Prop),(∀{a b d},again (a,b,d)=some r->Kn C nt (Qx c (K6 (.loop c) v) E (E' a b d)) (S' a b d) J)->body again (a,b,d)=some r->AW P C nt c (Qx c (K6 (.loop c) v) E (E' a b d)) (S' a b d) (Lv ⟨K6 (.loop c) v,v.ex,v.rt⟩ (Exit.then J (Lv v Q))))(hq:Yn pins E S (Qx c (K6 (.loop c) v) E (E' z0.1 z0.2.1 z0.2.2)) (S' z0.1 z0.2.1 z0.2.2)=Ym (Qx c (K6 (.loop c) v) E (E' z0.1 z0.2.1 z0.2.2)) (S' z0.1 z0.2.1 z0.2.2):=by kernel_rfl)[Fm:Fz P L C pins]:AW P C nt (.loop c) E S (Lv v Q):=
 z7 h (λa z=>E' a z.1 z.2) (λa z=>S' a z.1 z.2) (λg a z J f=>round g a z.1 z.2 J f) hq
theorem Vl{r:R}{z0:A×B×D×G}{body:(A×B×D×G->Option R)->A×B×D×G->Option R}(h:Y3 body n z0=some r)(E' : A->B->D->G->List (Nat×AVal))(S' : A->B->D->G->List (Nat×Obj))(round:∀(again:A×B×D×G->Option R) (a:A) (b:B) (d:D) (g:G) (J:Act->World->Prop),(∀{a b d g},again (a,b,d,g)=some r->Kn C nt (Qx c (K6 (.loop c) v) E (E' a b d g)) (S' a b d g) J)->body again (a,b,d,g)=some r->AW P C nt c (Qx c (K6 (.loop c) v) E (E' a b d g)) (S' a b d g) (Lv ⟨K6 (.loop c) v,v.ex,v.rt⟩ (Exit.then J (Lv v Q))))(hq:Yn pins E S (Qx c (K6 (.loop c) v) E (E' z0.1 z0.2.1 z0.2.2.1 z0.2.2.2)) (S' z0.1 z0.2.1 z0.2.2.1 z0.2.2.2)=Ym (Qx c (K6 (.loop c) v) E (E' z0.1 z0.2.1 z0.2.2.1 z0.2.2.2)) (S' z0.1 z0.2.1 z0.2.2.1 z0.2.2.2):=by kernel_rfl)[Fm:Fz P L C pins]:AW P C nt (.loop c) E S (Lv v Q):=
 YE h (λa b z=>E' a b z.1 z.2) (λa b z=>S' a b z.1 z.2) (λg a b z J f=>round g a b z.1 z.2 J f) hq
theorem La{r:R}{z0:A×B×D×G×H}{body:(A×B×D×G×H->Option R)->A×B×D×G×H->Option R}(h:Y3 body n z0=some r)(E' : A->B->D->G->H->List (Nat×AVal))(S' : A->B->D->G->H->List (Nat×Obj))(round:∀(again:A×B×D×G×H->Option R) (a:A) (b:B) (d:D) (g:G) (k:H) (J:Act->World->Prop),(∀{a b d g k},again (a,b,d,g,k)=some r->Kn C nt (Qx c (K6 (.loop c) v) E (E' a b d g k)) (S' a b d g k) J)->body again (a,b,d,g,k)=some r->AW P C nt c (Qx c (K6 (.loop c) v) E (E' a b d g k)) (S' a b d g k) (Lv ⟨K6 (.loop c) v,v.ex,v.rt⟩ (Exit.then J (Lv v Q))))(hq:Yn pins E S (Qx c (K6 (.loop c) v) E (E' z0.1 z0.2.1 z0.2.2.1 z0.2.2.2.1 z0.2.2.2.2)) (S' z0.1 z0.2.1 z0.2.2.1 z0.2.2.2.1 z0.2.2.2.2)=Ym (Qx c (K6 (.loop c) v) E (E' z0.1 z0.2.1 z0.2.2.1 z0.2.2.2.1 z0.2.2.2.2)) (S' z0.1 z0.2.1 z0.2.2.1 z0.2.2.2.1 z0.2.2.2.2):=by kernel_rfl)[Fm:Fz P L C pins]:AW P C nt (.loop c) E S (Lv v Q):=
 Vl h (λa b d z=>E' a b d z.1 z.2) (λa b d z=>S' a b d z.1 z.2) (λg a b d z J f=>round g a b d z.1 z.2 J f) hq
theorem FY(n:Nat)(h:AW P C nt c E S (Lv ⟨K6 (.loop c) v,v.ex,v.rt⟩ (Exit.then (λa w=>Code.rounds P c (Lv v Q) n a w) (Lv v Q)))):AW P C nt (.loop c) E S (Lv v Q):=Z6b n h
theorem Pj(h:AW P C nt c E S (Lv ⟨K6 (.loop c) v,v.ex,v.rt⟩ (Exit.then (λa w=>Code.rounds P c (Lv v Q) n a w) (Lv v Q)))):Kn C nt E S (λa w=>Code.rounds P c (Lv v Q) (n+1) a w):=Z5w h
theorem K5{p q:Prop}[Decidable p][Decidable q]{R:Type}{x:Option R}{r:R}{G:Prop}(h:gd p (gd q x)=some r)(k:p->q->x=some r->G):G:=gO h λa h=>gO h (k a)
theorem Yz{p q s:Prop}[Decidable p][Decidable q][Decidable s]{R:Type}{x:Option R}{r:R}{G:Prop}(h:gd p (gd q (gd s x))=some r)(k:p->q->s->x=some r->G):G:=gO h λa h=>K5 h (k a)
theorem JE{p q s t:Prop}[Decidable p][Decidable q][Decidable s][Decidable t]{R:Type}{x:Option R}{r:R}{G:Prop}(h:gd p (gd q (gd s (gd t x)))=some r)(k:p->q->s->t->x=some r->G):G:=gO h λa h=>Yz h (k a)
theorem UH{p q s t u:Prop}[Decidable p][Decidable q][Decidable s][Decidable t][Decidable u]{R:Type}{x:Option R}{r:R}{G:Prop}(h:gd p (gd q (gd s (gd t (gd u x))))=some r)(k:p->q->s->t->u->x=some r->G):G:=gO h λa h=>JE h (k a)
end
end
section
section
variable {P:Program} {C:Ctx} {nt:Nat} {L:Lay} {pins:List Nat} {v:LV} {E:List (Nat×AVal)} {S:List (Nat×Obj)} {Q:Exit->Act->World->Prop}
variable {id:Nat} {ops:Array Oper} {draw:Bool} {y x c:Code} {R:Type} {r:R} {B:Prop} {a:Option R} {E1 E2:List (Nat×AVal)} {S1 S2:List (Nat×Obj)}
theorem U6[Fm:Fz P L C pins](k:a=some r->Kn C nt E2 S2 (Q (.exit i)))(hq:Yn pins E S E2 S2=Ym E2 S2:=by kernel_rfl):B->a=some r->AW P C nt (.exit i) E S Q:=λ_ h=>YW (U4 (k h) hq)
theorem Qg[Fm:Fz P L C pins](k:a=some r->Kn C nt E2 S2 (Q .normal))(hq:Yn pins E S E2 S2=Ym E2 S2:=by kernel_rfl):B->a=some r->AW P C nt .skip E S Q:=λ_ h=>Q3 (U4 (k h) hq)
theorem z3[Fm:Fz P L C pins](n:Nat){u w:Option R}(h:br b u w=some r)(k1:u=some r->Kn C nt E1 S1 (Q .normal))(k2:w=some r->Kn C nt E2 S2 (Q .normal))(h1:ZO P C nt L pins E S ops draw (sN n [.w (vb true)])=(true,Y4 (vb b) (vb true)/\True):=by kernel_rfl)(h2:ZO P C nt L pins E S ops draw (sN n [.w (vb false)])=(true,Y4 (vb b) (vb false)/\True):=by kernel_rfl)(q1:Yn pins (Zz pins L ops (sN n [.w (vb true)]) E S v.out) (QC pins L ops (sN n [.w (vb true)]) E S) E1 S1=Ym E1 S1:=by kernel_rfl)(q2:Yn pins (Zz pins L ops (sN n [.w (vb false)]) E S v.out) (QC pins L ops (sN n [.w (vb false)]) E S) E2 S2=Ym E2 S2:=by kernel_rfl):AW P C nt (.region id ops draw) E S (Lv v Q):=
 Y7 h (λe g=>FZ _ e (k1 g) h1 q1) (λe g=>FZ _ e (k2 g) h2 q2)
theorem bJ[Fm:Fz P L C pins](n:Nat)(c:Bool)(k:a=some r->Kn C nt E2 S2 (Q .normal))(h:ZO P C nt L pins E S ops draw (sN n [.w (vb c)])=(true,Y4 (vb b) (vb c)/\True):=by kernel_rfl)(hq:Yn pins (Zz pins L ops (sN n [.w (vb c)]) E S v.out) (QC pins L ops (sN n [.w (vb c)]) E S) E2 S2=Ym E2 S2:=by kernel_rfl):b=c->a=some r->AW P C nt (.region id ops draw) E S (Lv v Q):=λe g=>FZ _ e (k g) h hq
theorem qR[Fm:Fz P L C pins]{a r:R}(h:some a=some r){g:R->AVal}{G:R->List (Nat×Obj)}(hQ:Q .ret=Ws P fn C (g r) (G r) .ret:=by rfl)(hq:(VQ L (lk E) (ls S) fn.results.toList,(G a).map (λp=>ls S p.1))=(some (g a),(G a).map (λp=>some p.2)):=by kernel_rfl):AW P C nt .ret E S Q:=Q3U Fm.b h hQ hq
theorem bT{c:Bool}(h:b=c):Y4 (vb b) (vb c):=Y4.bool h
theorem bA{c:Bool}{q:Prop}(h:b=c)(k:q):Y4 (vb b) (vb c)/\q:=⟨Y4.bool h,k⟩
theorem bU{c:Bool}(h:b=c):Y4 (vb b) (vb c)/\True:=⟨Y4.bool h,True.intro⟩
theorem YL{K:Act->World->Prop}(α:Type)[Emb α][Fm:Fz P L C pins](t:Nat)(k:Kn C nt ((t,AL ([]:List α))::E) S K)(h:Yn pins E S ((t,.v (.c f0))::E) S=Ym ((t,.v (.c f0))::E) S:=by kernel_rfl):Kn C nt E S K:=Z5y t k h
theorem nA[Fm:Fz P L C pins](α:Type)[Emb α](i:Nat)(k:AW P C nt y (Zz pins L ops [.m] E S (K6 y v)) (rp [(i,AO ([]:List α))] (QC pins L ops [.m] E S)) (Lv v Q))(h:ZO P C nt L pins E S ops draw [.m]=(true,True):=by kernel_rfl)(h2:([i],(QC pins L ops [.m] E S).map (λp=>(([(i,.arr (Emb.es α) 0 nn)]:List (Nat×Obj)).lookup p.1).getD p.2))=([i],(QC pins L ops [.m] E S).map (·.2)):=by kernel_rfl):AW P C nt (.seq (.region id ops draw) y) E S (Lv v Q):=
 Zv [.m] True.intro [(i,.arr (Emb.es α) 0 nn)] [(i,AO ([]:List α))] ⟨J5.is Is.nil,True.intro⟩ k h h2
end
end
section
section
variable {P:Program} {L:Lay} {C:Ctx} {nt:Nat} {R:Nat->Prop} {η:Nat->Value} {e:U8} {s:J0} {a:Act} {w:World}
end
section
variable {P:Program} {C:Ctx} {nt:Nat} {L:Lay} {ops:Array Oper} {ds:List Dir} {e:U8} {s:J0} {k:Nat}
end
section
variable {P:Program} {C:Ctx} {nt:Nat} {L:Lay} {pins:List Nat} {E:List (Nat×AVal)} {S:List (Nat×Obj)} {Q:Exit->Act->World->Prop} {c:Code}
end
end
section
section
variable {P:Program} {C:Ctx} {nt:Nat} {L:Lay} {pins:List Nat} {v:LV} {E:List (Nat×AVal)} {S:List (Nat×Obj)} {Q:Exit->Act->World->Prop}
variable {c:Code} {R A B D:Type}
end
end
section
def CV.brw(k n:Nat)(f:Nat->List DVal):CV->CV
 |.own i=>if i=k then .d (.lst n f)else .own i
 |x=>x
def AVal.brw(k n:Nat)(f:Nat->List DVal):AVal->AVal
 |.v (.c x)=>.v (.c (x.brw k n f))
 |.v (.g xs)=>.v (.g (xs.map (CV.brw k n f)))
 |x=>x
section
variable {w:World} {X:Nat->Prop} {η:Nat->Value} {C C' : Ctx} {k es n:Nat} {fl:Nat->List DVal}
theorem CRep.brw{x:CV}(h:CRep w X η C v x)(hk:ORep w X η C (η k) (.arr es n fl))(hc:(x.brw k n fl).closed=true):CRep w (λb=>X b/\b∉V8 (η k)) η C' v (x.brw k n fl):=by
 have f:∀y:CV,y=x->y.closed=true->CRep w (λb=>X b/\b∉V8 (η k)) η C' v y:=by
  intro y q g;subst q
  simp only[CV.closed,Qa4,Qk7]at g;exact(h.mono (X':=λb=>X b/\b∉V8 (η k)) (η':=η) (λb _ p=>⟨rfl,λm=>p m.1⟩) (λi l=>absurd l (by rw[g.1];exact Qg0))).ctx g.2
 cases x with
 |own i=>
  by_cases l:i=k
  .subst l
   have t:v=η i:=by cases h;assumption
   have o:CV.brw i n fl (.own i)=.d (.lst n fl):=Qa2 rfl;rw[o,t]
   generalize η i=u at hk;refine .d _ _ ?_
   cases hk with
   |nil ad es _=>exact .nil ad 0 fl
   |arr b n cap es c e _ h1 h2 h3 h4 h5 h6 h7=>
    refine .lst b 0 n cap c e _ fl es (λm=>m.2 (by simp[V8];omega)) h1 h3 (by rw[h2,Qd2];exact Qb4 _ h3) h6 λi j l z=>?_
    rw[Qd2];exact(h7 i j l z).mono λb _ p=>⟨rfl,λm=>p m.1⟩
  .have o:CV.brw k n fl (.own i)=.own i:=Qa1 l
   rw[o]at hc⊢;exact f _ rfl hc
 |_=>exact f _ rfl hc
theorem ARep.brw{x:AVal}(h:ARep w X η C v x)(hk:ORep w X η C (η k) (.arr es n fl))(hc:(x.brw k n fl).closed=true):ARep w (λb=>X b/\b∉V8 (η k)) η C' v (x.brw k n fl):=by
 have f:∀y:AVal,y=x->y.closed=true->ARep w (λb=>X b/\b∉V8 (η k)) η C' v y:=by
  intro y o l;subst o
  exact(h.mono (X':=λb=>X b/\b∉V8 (η k)) (η':=η) (λb _ u=>⟨rfl,λp=>u p.1⟩) (λ_ _=>rfl)).free l
 cases x with
 |any=>exact .any v
 |t xs=>exact f _ rfl hc
 |v x=>
  cases x with
  |c x=>
   cases h with|v _ _ h=>cases h with|c _ _ h=>exact .v _ _ (.c _ _ (h.brw hk hc))
  |g xs=>
   cases h with|v _ _ h=>cases h with|g vs _ h=>
    refine .v _ _ (.g _ _ ⟨by rw[h.1,Qg1],λj z=>?_⟩);have i : j<xs.length:=by simpa using z
    have q:(xs.map (CV.brw k n fl)).getD j (.d .any)=(xs.getD j (.d .any)).brw k n fl:=by
     simp[Qa0,Qc0 i]
    rw[q];refine(h.2 j i).brw hk ?_
    simp only[AVal.brw,AVal.closed,AVal.refs,TV.refs,AVal.noSem,TV.noSem,Qa4,Qk7,Qm2,Qb8]at hc;have m:(xs.getD j (.d .any)).brw k n fl∈xs.map (CV.brw k n fl):=Qc7.2 ⟨_,Ya i,rfl⟩
    simp only[CV.closed,Qa4,Qk7];exact⟨hc.1 _ m,hc.2 _ m⟩
end
theorem Z6p{X X' : Nat->Prop}{η': Nat->Value}{C C' : Ctx}{z:List Int}(h:ORep w X η C v (AO z))(hb:∀b,b∈V8 v->w'.heap[b]?=w.heap[b]?):ORep w' X' η' C' v (AO z):=by
 unfold AO at h⊢;have d:∀i j,j<1->∃m,((LF z) i).getD j .any=.int .i64 m:=λi j g=>⟨gl z i,by
  have:j=0:=by omega
  subst this;rfl⟩
 generalize hn:z.length=n at h⊢;generalize hf:LF z=f at h d⊢
 cases h with
 |nil ad=>exact .nil _ _ _
 |arr b n cap es c e f h1 h2 h3 h4 h5 h6 h7=>
  refine .arr b _ cap _ c e _ ((hb b (by simp[V8];omega)).trans h1) h2 h3 h4 h5 h6 λi j o g=>?_
  obtain⟨m,l⟩:=d i j g;have:=h7 i j o g
  rw[l]at this⊢;generalize c.getD (i*Emb.es Int+j) undef=u at this⊢
  cases this with|int=>exact .int _ _
theorem G4.brw(args:List AVal)(k es n:Nat)(fl:Nat->List DVal)(h:G4 P f (args.map (AVal.brw k n fl)) [] r So)(hc:(args.map (AVal.brw k n fl)).all AVal.closed=true)(hr:r.flat=true/\So=[]\/r=.v (.c (.own 100))/\∃z:List Int,So=[(100,AO z)])(hk:k≠100):G4 P f args [(k,.arr es n fl)] r ((k,.arr es n fl)::So):=by
 intro w X η vs hX a7 b2 c0 b0 a1;have T:ls [(k,Obj.arr es n fl)] k=some (.arr es n fl):=by rw[Qe,Qa2 rfl]
 have a9:=b2 k _ T;have b1:∀b,b∈V8 (η k)->X b:=λb U=>a7 b ⟨k,_,T,U⟩
 have l:∀i o,ls ([]:List (Nat×Obj)) i=some o->False:=λi o d=>by cases d
 refine(h w (λb=>X b/\b∉V8 (η k)) η vs (λb U=>hX b U.1) (λb ⟨i,o,d,_⟩=>(l i o d).elim) (λi o d=>(l i o d).elim) (λi j b d=>absurd rfl d) (by simpa using b0) (λj O=>?_)).mono λe w' hh=>?_
 .have p : j<args.length:=by simpa using O
  have e1:(args.map (AVal.brw k n fl)).getD j .any=(args.getD j .any).brw k n fl:=by
   simp[Qa0,Qc0 p]
  rw[e1];exact(a1 j p).brw a9 (Qb8.1 hc _ (Qc7.2 ⟨_,Ya p,rfl⟩))
 .obtain ⟨v,η',he,U⟩:=hh
  have N:∀b,b<w.heap.size->w'.heap[b]?=w.heap[b]?:=λb a3=>U.stp.block b a3 λ⟨i,o,d,_⟩=>l i o d
  have b8:ls So k=none:=by
   rcases hr with ⟨_,rfl⟩|⟨_,z,rfl⟩
   .rfl
   .rw [Qe,Qa1 hk];rfl
  have F:∀i o b,ls So i=some o->b∈V8 (η' i)->w.heap.size<=b:=by
   intro i o b d J;rcases U.ow i o b d J with ⟨_,j,o',O,_⟩|⟨j,o',O,_⟩|M
   .exact (l j o' O).elim
   .exact (l j o' O).elim
   .exact M
  let η2:Nat->Value:=λi=>if i=k then η k else η' i
  have e2:∀i,i≠k->η2 i=η' i:=λi d=>Qa1 d
  have I:η2 k=η k:=Qa2 rfl;have m:∀i o,ls ((k,Obj.arr es n fl)::So) i=some o->i=k/\o=.arr es n fl\/i≠k/\ls So i=some o:=by
   intro i o d;rw[Qe]at d
   by_cases g:i=k
   .rw [Qa2 g]at d;cases d;exact .inl ⟨g,rfl⟩
   .rw [Qa1 g]at d;exact .inr ⟨g,d⟩
  have Z:∀b,b∈V8 (η k)->b<w.heap.size:=λb a2=>hX b (b1 b a2)
  have t:∀i o,ls So i=some o->i=100/\∃z:List Int,o=AO z:=by
   intro i o d;rcases hr with ⟨_,rfl⟩|⟨_,z,rfl⟩
   .cases d
   .rw [Qe]at d
    by_cases M:i=100
    .rw [Qa2 M]at d;cases d;exact⟨M,z,rfl⟩
    .rw [Qa1 M]at d;cases d
  refine⟨v,η2,he,U.stp.mono λb _ ⟨i,o,d,_⟩=>(l i o d).elim,?_,λi o d=>?_,λi j b d O V W=>?_,λi o b d J=>?_,λi u hp=>?_⟩
  .rcases hr with ⟨M,_⟩|⟨rfl,z,rfl⟩
   .exact U.res.flat M
   .have hv:=U.res
    cases hv with|v _ _ hv=>cases hv with|c _ _ hv=>cases hv with|own _ _ M h2=>exact .v _ _ (.c _ _ (.own _ _ (by rw[e2 100 (Qw1 hk)];exact M) h2))
  .rcases m i o d with ⟨rfl,rfl⟩|⟨g,q⟩
   .rw [I]
    refine a9.mono (λb a3 a6=>⟨N b a3,?_⟩) (λx hx=>by cases hx) (λb a2=>N b (Z b a2)) |>.ctx rfl
    rintro(⟨hx,_⟩|⟨j,o',O,hjb⟩)
    .exact a6 hx
    .rcases m j o' O with ⟨rfl,_⟩|⟨a0,p⟩
     .rw [I]at hjb;exact a6 (b1 b hjb)
     .rw [e2 j a0]at hjb
      have:=F j o' b p hjb
      omega
   .obtain ⟨rfl,z,rfl⟩:=t i o q
    rw[e2 100 g];exact Z6p (U.objs 100 _ q) λb _=>rfl
  .obtain ⟨oi,d⟩:=Qa9.1 d
   obtain⟨oj,O⟩:=Qa9.1 O;rcases m i oi d with ⟨rfl,_⟩|⟨g,q⟩<;>rcases m j oj O with ⟨rfl,_⟩|⟨a0,p⟩
   .rfl
   .rw [I]at V;rw[e2 j a0]at W
    have M:=F j oj b p W;have h2:=Z b V
    omega
   .rw [e2 i g]at V;rw[I]at W
    have M:=F i oi b q V;have h2:=Z b W
    omega
   .exact (t i oi q).1.trans (t j oj p).1.symm
  .rcases m i o d with ⟨rfl,rfl⟩|⟨g,q⟩
   .rw [I]at J
    exact .inr (.inl ⟨i,_,T,rfl,J⟩)
   .rw [e2 i g]at J
    exact .inr (.inr (F i o b q J))
  .have Y : (if(List.lookup i [(k,Obj.arr es n fl)]).isSome then some (η i)else none)=some u:=hp
   by_cases g:i=k
   .subst g
    simp at Y
    rw[I];exact Y
   .have hl:List.lookup i [(k,Obj.arr es n fl)]=none:=by
     rw[Qg7,show(i==k)=false from Qo8.2 g];rfl
    rw[hl]at Y
    cases Y
theorem HR(args:List AVal)(k es n:Nat)(fl:Nat->List DVal){args0:List AVal}(h:G4 P f args0 [] r So)(e:args.map (AVal.brw k n fl)=args0)(hc:args0.all AVal.closed=true)(hr:r.flat=true/\So=[]\/r=.v (.c (.own 100))/\∃z:List Int,So=[(100,AO z)])(hk:k≠100):G4 P f args [(k,.arr es n fl)] r ((k,.arr es n fl)::So):=by
 subst e;exact G4.brw args k es n fl h hc hr hk
end
end
end Go.Ab
