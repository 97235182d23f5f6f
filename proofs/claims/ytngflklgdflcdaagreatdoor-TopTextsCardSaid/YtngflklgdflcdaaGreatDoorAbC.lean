/- Abstract states over the model. -/
import Derived.Test.YtngflklgdflcdaaGreatDoorAbB
import Derived.Test.YtngflklgdflcdaaGreatDoorPuA
import Derived.Shelf.SortM.Plain
import Derived.Shelf.SortM.SortNone
import Derived.Shelf.SlSortCmp.NoneTotal
import Derived.ProofKit
import Derived.OpenShut
import Derived.Shelf.Spec.SlicesGrow
import Derived.Shelf.SlIterI.Nil
import Derived.Lib.AtoiTie
import Derived.Lib.Join
import Derived.Lib.Explode
set_option linter.all false
noncomputable section
namespace Go.Ab
variable {K:Act->World->Prop}{ents:Array MapEntry}{seen:Array Nat}{ops:Array Oper}{xs:Array Operand}{tys:Array TypeId}{c' vs:Ξ}{draw:Bool}{Q:Exit->Act->World->Prop}{fn:Func}{N S S1 S2:ι}{E E' E0 E1 E2:Γ}{ks:θ}{cids pins:υ}{rs us:List Value}{zd:Ψ}{F:List ai->ai->Prop}{ds:List dH}{b0 el id k lo nt off ty:Nat}{f':Δ}{X X':ξ}{η η':Nat->Value}{ob ob':Obj}{fx:Operand}{ad:Option Addr}{pend:Option Nat}{P:Program}{B c0 q:Prop}{te ti:TI}{t':TypeId}{s:U8}{W w:World}{C C':da}{L:dj}
section
variable {f n d i es j clock base:Nat}{r:ai}{c:Code}{e t kT eT:TypeId}{w':World}{b:Bool}{x:Operand}{v:Value}{a:ByteArray}{args:List ai}{S' Si So S0:ι}{cs:List CV}{m:Nat->Nat}{rd ids caps:υ}{o:Oper}{y:Int}
section
variable {α:Type}[aN α]
def clr(l:List α)(lo n:Nat):List α:=(List.range l.length).map λi=>if lo<=i/\i<lo+n then aN.d else gl l i
theorem rC{f:Δ}{N:Nat}(l:List α)(h:l.length=N)(hf:∀i,i<N->f i=aN.cells (gl l i)):Is N f l:=by
 subst h;refine⟨rfl,λi a=>?_⟩
 rw[hf i a];rfl
theorem II(N:Nat)(f:Nat->α)(i:Nat)(h:i<N):gl ((List.range N).map f) i=f i:=by simp[gl,aY,h]
theorem Is.clr{l:List α}(lo n:Nat)(hz:zd=aN.cells (aN.d:α):=by kernel_rfl):Is l.length (λi=>if lo<=i/\i<lo+n then(λ_=>zd) (i-lo)else LF l i) (clr l lo n):=by
 refine rC _ (by simp[Go.Ab.clr]) λi a=>?_
 rw[Go.Ab.clr,II _ _ _ a]
 by_cases h:lo<=i/\i<lo+n
 .grind
 .rw [an h,an h];rfl
end
section
open Go.Sort
def UI(l:θ):Option θ:=if l.length<=Y2 then some (l.mergeSort λx y=>decide (x<=y))else none
theorem Q9o{l r:θ}(h:UI l=some r):l.length<=Y2/\r=l.mergeSort λx y=>decide (x<=y):=by
 unfold UI at h
 grind
def ZH{α:Type}(cf:α->α->Int)(x y:α):Bool:=decide (cf x y<0)
section
variable {α:Type}[aN α]
def ZV(cf:α->α->Int)(l:List α):List α:=(@pdq α ⟨aN.d⟩ (ZH cf) l.toArray 0 l.length (Lib.bitLen l.length) true true).toList
open Classical in
def UJ(l:List α)(q:α->α->φ):Option (List α):=
 if h:l.length<=Y2/\∃cf:α->α->Int,SWO (ZH cf)/\∀x y,q x y=some (cf x y)then some (ZV h.2.choose l)else none
theorem bj{l:List α}{q:α->α->φ}(cf:α->α->Int)(hl:l.length<=Y2)(hO:SWO (ZH cf))(hq:∀x y,q x y=some (cf x y)):UJ l q=some (ZV cf l):=by
 have h:l.length<=Y2/\∃cf:α->α->Int,SWO (ZH cf)/\∀x y,q x y=some (cf x y):=⟨hl,cf,hO,hq⟩;unfold UJ
 rw[lf h];have e:h.2.choose=cf:=by
  grind
 rw[e]
theorem Q9u{l r:List α}{q:α->α->φ}(h:UJ l q=some r):l.length<=Y2/\∃cf:α->α->Int,SWO (ZH cf)/\(∀x y,q x y=some (cf x y))/\r=ZV cf l:=by
 unfold UJ at h;split at h
 all_goals grind
end
section
variable {α:Type}
def XN(q:α->α->φ)(a b:α):Prop:=∃z,q a b=some z/\z<0
def XQ(q:α->α->φ)(a b:α):Prop:=∃z,q a b=some z/\0<=z
structure dU (q:α->α->φ) (x r:List α):Prop where
 perm:r.Perm x
 asc:r.Pairwise λa b=>XN q a b/\XQ q b a
 self:∀a∈r,XQ q a a
theorem XN.not{q:α->α->φ}{a b:α}(h:XN q a b)(k:XQ q a b):False:=by
 obtain⟨z,e,h⟩:=h;obtain⟨d,c,f⟩:=k
 rw[e]at c;cases c;omega
theorem Z8j{q:α->α->φ}:∀{r r' : List α},r.Perm r' -> (r.Pairwise λa b=>XN q a b/\XQ q b a)->(r'.Pairwise λa b=>XN q a b/\XQ q b a)->r=r':=by
 intro r
 induction r with
 |nil=>intro r' c _ _;exact(List.Perm.nil_eq c)
 |cons a t ih=>
  intro r' c f e
  cases r' with
  |nil=>exact absurd c.length_eq (by simp)
  |cons b t' =>
   rw[fu]at f e;have d:a=b:=by
    rcases dY.1 (c.mem_iff.1 dZ)with g|g
    .exact g
    .rcases dY.1 (c.mem_iff.2 dZ)with h|h
     .exact h.symm
     .exact ((f.1 b h).1.not (e.1 a g).2).elim
   subst d;rw[ih ((List.perm_cons a).1 c) f.2 e.2]
theorem dU.uniq{q:α->α->φ}{x r r' : List α}(h:dU q x r)(h' : dU q x r'):r=r':=Z8j (h.perm.trans h'.perm.symm) h.asc h'.asc
open Classical in
def Ke(x:List α)(q:α->α->φ):Option (List α):=if h:x.length<=Y2/\∃r,dU q x r then some h.2.choose else none
theorem Q9s{x r:List α}{q:α->α->φ}(hl:x.length<=Y2)(h:dU q x r):Ke x q=some r:=by
 have a:x.length<=Y2/\∃r,dU q x r:=⟨hl,r,h⟩;unfold Ke
 rw[lf a,a.2.choose_spec.uniq h]
theorem Q9r{x r:List α}{q:α->α->φ}(h:Ke x q=some r):x.length<=Y2/\dU q x r:=by
 unfold Ke at h;split at h
 .rename_i a;cases h;exact⟨a.1,a.2.choose_spec⟩
 .cases h
theorem dU.at{q:α->α->φ}{x r:List α}(h:dU q x r)(i j:Nat)(hi:i<r.length)(hj:j<r.length):(i<j->XN q r[i] r[j])/\(j<=i->XQ q r[i] r[j]):=by
 have c:=ie.1 h.asc;refine⟨λa=>(c i j hi hj a).1,λa=>?_⟩
 rcases eK j i with b|b
 .exact (c j i hj hi b).2
 .have:i=j:=by omega
  subst this;exact h.self _ (fp hi)
end
def Xl{α:Type}(n:Int):Option (List α):=if 0<=n/\n<=Y2 then some []else none
end
section
open Go.Sort Go.Proofs Go.Shelf
theorem vI{α:Type}[Inhabited α](enc:α->Value)(w:World)(b off n:Nat)(d:Array α)(os:Array Go.Obj){c:Ξ}{fz:Nat×Nat}(hb:w.heap[b]?=some (.cells c e fz)):
  (grow (putRow enc (Go.Sort.ahead w n) b off d) os).heap[b]?=some (.cells (putCells enc off d c) e fz):=by
 have a:b<w.heap.size:=J4 hb;unfold grow
 rw[io];rw[av (by simpa using a)]
 unfold putRow mapBlock;simp only[fV,fJ]
 show Option.map _ (w.heap[b]?)=_;rw[hb]
 rfl
theorem HU{α:Type}[Inhabited α](enc:α->Value)(w:World)(b off n:Nat)(d:Array α)(os:Array Go.Obj):aM (λx=>x=b) w (grow (putRow enc (Go.Sort.ahead w n) b off d) os):=by
 refine⟨rfl,rfl,rfl,by simp[Go.Sort.ahead],λx c a=>?_,oh _ _⟩;unfold grow
 rw[io];rw[av (by simpa[Go.Sort.ahead]using c)]
 unfold putRow mapBlock;simp only[fV]
 rw[an (Ne.symm a)];rfl
theorem zV{α:Type}[Inhabited α](enc:α->Value)(off:Nat)(d:Array α)(c:Ξ):(putCells enc off d c).size=c.size:=by simp[putCells]
theorem kb{α:Type}[Inhabited α](enc:α->Value)(d:Array α)(c:Ξ)(j:Nat)(hj:j<d.size)(hs:d.size<=c.size):(putCells enc 0 d c).getD j undef=enc d[j]! := by
 have a:j<c.size:=by omega
 simp[putCells,a,hj]
theorem wl(l:θ)(i:Nat):LF l i=[.int .i64 (l.getD i 0)]:=rfl
theorem qd{α:Type}[aN α]{l r:List α}{b cap:Nat}(hη:η 0=.slice (some ⟨b,0,none⟩) n cap)(h0:0<cap)(hstp:aM (fun x=>x=b) w w')(hh:w'.heap[b]?=some (.cells c' e (0,0)))(hs:c'.size=cap*aN.es α)(hr:r.length=n)(hn:n<=cap)(hm:cap<=maxLen)(hd:∀ i j,i<n->j<aN.es α->aA w' X (c'.getD (i*aN.es α+j) undef) ((LF r i).getD j .any))(hX:∀ x,X x->x<w.heap.size)(hXb:X b):
  eW (Qh [(0,AO l)] w X η) .any [(0,AO r)] (.tuple #[]) η w':=by
 subst hr;have d:∀x,x∈Y9 (η 0)↔x=b:=by intro x;rw[hη];simp[Y9];omega
 have c:∀i o,ls [(0,AO (α:=α) r)] i=some o->i=0/\o=AO r:=by
  intro i o a;rw[Qo]at a
  by_cases h:i=0
  .grind
  .rw [an h]at a;cases a
 have p:∀x,x=b->(Qh [(0,AO (α:=α) l)] w X η).M x:=by
  rintro x rfl;exact⟨0,AO l,by rw[Qo,av rfl],rfl,(d _).2 rfl⟩
 have m:∀x,XS (Qh [(0,AO (α:=α) l)] w X η) (ls [(0,AO (α:=α) r)]) η x->X x:=by
  rintro x (⟨g,_⟩|⟨i,o,a,hib⟩)
  .exact g
  all_goals grind
 refine⟨hstp.mono λx _ g=>p x g,.any _,λi o a=>?_,λi j x a f _ _=>?_,λi o x a s=>?_,λi v a=>?_⟩
 .obtain ⟨rfl,rfl⟩:=c i o a
  rw[hη];refine .arr b _ cap _ c' e _ hh hs hn hm h0 (Is.refl r).len λi j a f=>?_
  exact(hd i j a f).mono λx _ g=>⟨rfl,λk=>g (m x k)⟩
 .obtain ⟨t,a⟩:=dS.1 a
  obtain⟨q,f⟩:=dS.1 f;rw[(c i t a).1,(c j q f).1]
 .obtain ⟨rfl,rfl⟩:=c i o a
  exact .inr (.inl (p x ((d x).1 s)))
 .change (if((List.lookup i [(0,AO (α:=α) l)]).isSome=true)then some (η i)else none)=some v at a
  split at a
  .cases a;rfl
  .cases a
theorem gy{α:Type}[aN α]{l:List α}(hη:η 0=.slice ad 0 0)(hX:∀ x,X x->x<w.heap.size):
  eW (Qh [(0,AO l)] w X η) .any [(0,AO ([]:List α))] (.tuple #[]) η w:=by
 have c:∀x,x∉Y9 (η 0):=by intro x;rw[hη];cases ad<;>simp[Y9]
 have b:∀i o,ls [(0,AO ([]:List α))] i=some o->i=0/\o=AO ([]:List α):=by
  intro i o a;rw[Qo]at a
  by_cases h:i=0
  .grind
  .rw [an h]at a;cases a
 refine⟨aM.refl _ _,.any _,λi o a=>?_,λi j x a d _ _=>?_,λi o x a e=>?_,λi v a=>?_⟩
 .obtain ⟨rfl,rfl⟩:=b i o a
  rw[hη];exact .nil _ _ _
 .obtain ⟨f,a⟩:=dS.1 a
  obtain⟨g,d⟩:=dS.1 d;rw[(b i f a).1,(b j g d).1]
 .obtain ⟨rfl,rfl⟩:=b i o a
  exact absurd e (c x)
 .change (if((List.lookup i [(0,AO (α:=α) l)]).isSome=true)then some (η i)else none)=some v at a
  split at a
  .cases a;rfl
  .cases a
theorem L8(h:vs.size=1):vs=#[vs.getD 0 undef]:=by
 apply Array.ext
 .simpa using h
 .intro i a b
  have:i=0:=by omega
  subst this;simp[a]
theorem qO(h:vs.size=2):vs=#[vs.getD 0 undef,vs.getD 1 undef]:=by
 apply Array.ext
 .simpa using h
 .intro i a b
  have:i=0\/i=1:=by omega
  rcases this with rfl|rfl<;>simp[a]
theorem IV{ρ:Ren}(Ly:SlLaysM.n5 P ρ){x r:θ}(h:UI x=some r):J7 P (ρ.f 5) [.v (.c (.own 0))] [(0,AO (α:=Int) x)] .any [(0,AO (α:=Int) r)]:=by
 obtain⟨S,rfl⟩:=Q9o h;intro w X η K M k p R g o
 have g:K.size=1:=g;have B:K.getD 0 undef=η 0:=Vm (C:=Qh [(0,AO (α:=Int) x)] w X η) (s:=ls [(0,AO (α:=Int) x)]) (by have:=o 0 (by simp);rw[PT k];exact this)
 rw[L8 g,B];have A:=p 0 (AO x) (by rw[Qo,av rfl])
 have H:∀b,b∈Y9 (η 0)->X b:=λb G=>k b ⟨0,_,by rw[Qo,av rfl],G⟩
 generalize hu:η 0=u at A;unfold AO at A
 generalize hn:x.length=n at A
 cases A with
 |nil ad=>
  have V:x=[]:=iH hn;refine(AnyM.slices_Sort_int_none Ly ad 0 w).mono λe U E=>?_
  obtain⟨W,D⟩:=E;refine⟨_,η,W,?_⟩
  rw[D];have G:=gy (w:=w) (X:=X) (l:=x) hu M.lt
  subst V;simpa using G
 |arr b _ cap _ c e _ h1 h2 h3 h4 h5 h6 h7=>
  have d:aN.es Int=1:=rfl
  rename_i n
  have m:∀j,j<n->c.getD j undef=.int .i64 (x.getD j 0):=by
   intro j t;have:=h7 j 0 t (by rw[d];omega)
   rw[d,mQ,fU,wl]at this;have L:aA w X (c.getD j undef) (.int .i64 (x.getD j 0)):=this
   generalize c.getD j undef=u at L
   cases L;rfl
  have N:c.size=cap:=by rw[h2,d,mQ]
  have O:Holds (Value.int .i64) w b 0 x.toArray:=by
   intro j t;have I : j<n:=by simpa[hn]using t
   have J:j<x.length:=by omega
   have z:j<c.size:=by omega
   refine⟨?_,by simp[World.frozen?,h1]⟩;have:=m j I
   simp only[eH,World.cell?,h1,oK,iS,fC];simp only[z,Array.getD,dite_true]at this
   rw[iD z];congr 1
   refine Eq.trans this ?_;simp[J]
  rw[<-hn];refine((AnyM.slices_Sort_int Ly b 0 cap x w O (J4 h1) (by simp only[Y2]at S;omega)).mono λY U E=>?_)
  .obtain ⟨rfl,q,Z,D⟩:=E
   subst D;refine⟨_,η,rfl,?_⟩
   have a:(x.mergeSort λx y=>decide (x<=y)).length=n:=by rw[mA];exact hn
   refine qd (c':=putCells (Value.int .i64) 0 (x.mergeSort λx y=>decide (x<=y)).toArray c) (e:=e) (b:=b) (n:=n) (cap:=cap) hu h5 (HU _ _ _ _ _ _ _) (vI _ _ _ _ _ _ _ h1) (by rw[zV];exact h2) a h3 h4 (λi j Q t=>?_) M.lt (H b (by rw[hu];simp[Y9];omega));have F:j=0:=by rw[d]at t;omega
   subst F;rw[d,mQ,fU,kb _ _ _ _ (by simpa[a]using Q) (by simp only[lP,a];omega),wl]
   have:i<(x.mergeSort λx y=>decide (x<=y)).length:=by omega
   have T:(x.mergeSort λx y=>decide (x<=y)).toArray[i]! = (x.mergeSort λx y=>decide (x<=y)).getD i 0:=by
    simp[aY,this]
   rw[T];exact .int _ _
end
section
open Go.Sort Go.Proofs Go.Shelf
def aH.lit:aH->Bool
 |.int _ _=>true
 |.bool _=>true
 |.str _=>true
 |_=>false
def aH.val:aH->Value
 |.int k n=>.int k n
 |.bool b=>.bool b
 |.str s=>.string s
 |_=>undef
theorem aA.lit{d:aH}(h:aA w X v d)(hd:d.lit=true):v=d.val:=by
 cases h<;>first|rfl|cases hd
theorem aH.rep(w:World)(X:ξ){d:aH}(hd:d.lit=true):aA w X d.val d:=by
 cases d with
 |int k n=>exact .int k n
 |bool b=>exact .bool b
 |str s=>exact .str s
 |_=>cases hd
theorem Z9S{d:aH}(hd:d.lit=true):d.val.oneCell'=true:=by
 cases d<;>first|rfl|cases hd
theorem cQ(h:aM (λ_=>False) w w'):∃q os,w'=grow (w.drewN q) os:=by
 refine⟨w'.drawn-w.drawn,w'.heap.extract w.heap.size w'.heap.size,?_⟩;have e:w'.heap=w.heap++w'.heap.extract w.heap.size w'.heap.size:=by
  apply Array.ext_getElem?;intro k
  rw[io];split
  .rename_i c;exact h.block k c λa=>a
  all_goals grind
 have d:=h.dr;have b:w'=⟨w'.heap,w'.tape,w'.drawn,w'.os,w'.output⟩:=rfl
 rw[b,h.tape,h.os,h.output];unfold grow World.drewN
 congr 1
 simp only
 omega
theorem Mx{β:Type}(l:List β)(j:Nat)(h:j<l.length)(d:β):l.getD j d=l[j]:=by
 grind
theorem bm{α:Type}[aN α]{P:Program}{L:dj}(hL:Qa P L){ρ:Ren}(Ly:SlLaysF0.n6 P ρ)(hlit:∀ x:α,(aN.cells x).all aH.lit=true){te:TI}(hagg:te.kind.agg=true)(hsz:te.size=aN.es α)(F:(α->α->φ)->List ai->ai->Prop)(hF:∀ q x y z,q x y=some z->F q [.v (.g ((aN.cells x).map .d)),.v (.g ((aN.cells y).map .d))] (vi z)){x r:List α}{q:α->α->φ}(h:UJ x q=some r)(hte:L (ρ.t 24)=some te:=by kernel_rfl):
  J7 P (ρ.f 6) [.v (.c (.own 0)),YG P (F q)] [(0,AO (α:=α) x)] .any [(0,AO (α:=α) r)]:=by
 obtain⟨hl,o,hO,hq,rfl⟩:=Q9u h;obtain⟨ti,td,tz,a0⟩:=hL _ _ hte
 letI inst:Inhabited α:=⟨aN.d⟩
 let enc:α->List Value:=λx=>(aN.cells x).map aH.val
 have hk:∀x,(enc x).length=aN.es α:=λx=>by simp[enc,aN.len]
 have h1:∀x,∀v∈enc x,v.oneCell'=true:=by
  intro x v hv;obtain⟨d,hd,rfl⟩:=eF.1 hv
  exact Z9S (en.1 (hlit x) d hd)
 intro w X η V hX K T f3 A B;have A:V.size=2:=A
 have b4:V.getD 0 undef=η 0:=Vm (C:=Qh [(0,AO (α:=α) x)] w X η) (s:=ls [(0,AO (α:=α) x)]) (by have:=B 0 (by simp);rw[PT K];exact this);have b6:Qv P (F q) w (dV (ls [(0,AO (α:=α) x)]) η) X (V.getD 1 undef):=by
  have:=B 1 (by simp)
  change aQ w X η _ (V.getD 1 undef) (YG P (F q))at this;generalize V.getD 1 undef=u at this
  cases this with|v _ _ a=>cases a with|c _ _ a=>cases a with|sem _ _ a _=>exact a
 rw[qO A,b4];have ho:=T 0 (AO x) (by rw[Qo,av rfl])
 have Y:∀b,b∈Y9 (η 0)->X b:=λb hb=>K b ⟨0,_,by rw[Qo,av rfl],hb⟩
 generalize hu:η 0=u at ho;have p:(ZV o x).length=x.length:=by
  have:=(pdq_sorts (ZH o) hO x.toArray 0 x.length (Lib.bitLen x.length) true true (dW _) (by simp) (.inl rfl)).1.1
  unfold ZV
  grind
 unfold AO at ho;generalize E:x.length=n at ho
 cases ho with
 |nil ad=>
  have hx:x=[]:=iH E;refine(AnyF.slices_SortFunc_none Ly ad 0 _ w).mono λe w' a=>?_
  obtain⟨he,hw⟩:=a;refine⟨_,η,he,?_⟩
  rw[hw];have hb:=gy (w:=w) (X:=X) (l:=x) hu hX.lt
  grind
 |arr b _ cap _ c e _ g1 g2 g3 g4 g5 g6 g7=>
  rename_i n
  obtain⟨a1,M,b9,O,Z⟩:=b6;rw[b9]
  have c1:∀i,i<n->(LF x i)=aN.cells (x.getD i aN.d):=λi _=>rfl
  have Q:∀i j,i<n->j<aN.es α->c.getD (i*aN.es α+j) undef=(enc (x.getD i aN.d)).getD j undef:=by
   intro i j hi G;have h0:=g7 i j hi G
   have k : j<(aN.cells (x.getD i aN.d)).length:=by rw[aN.len];exact G
   have e1:(LF x i).getD j .any=(aN.cells (x.getD i aN.d))[j]:=Mx _ _ k _;rw[e1]at h0
   have h2:=h0.lit (en.1 (hlit _) _ (fp k))
   grind
  have R:∀t,t<n*aN.es α->c.getD t undef=(flatK enc (aN.es α) x.toArray)[t]! := by
   intro t ht;have S:0<aN.es α:=by
    grind
   have p1:t / aN.es α<n:=Eb (by rw[mH];exact ht);have p2:t % aN.es α<aN.es α:=mi _ S
   have:=Q _ _ p1 p2
   rw[show t / aN.es α*aN.es α+t % aN.es α=t from by rw[mH];exact Nat.div_add_mod t _]at this;rw[this,get_flatK _ _ _ _ (by simpa[E]using ht)]
   grind
  have hH:HoldsK enc (aN.es α) w b 0 x.toArray:=by
   intro t ht;have c0 : t<n*aN.es α:=by simpa[E]using ht
   have a2:t<c.size:=by
    have:n*aN.es α<=cap*aN.es α:=eu _ g3
    omega
   refine⟨?_,by simp[World.frozen?,g1]⟩;have:=R t c0
   simp only[eH,World.cell?,g1,oK,iS,fC,id];rw[iD a2]
   congr 1
   rw[<-this];simp[a2]
  have D:b∈Y9 (η 0):=by rw[hu];simp[Y9];omega
  have U:CmpLays P a1 M enc (aN.es α) o b 0 x.toArray.size w:=by
   intro m os dk f2 u v;have H:=HU id w b 0 m (flatK enc (aN.es α) dk) os
   have J:∀(w1:World) (z:α) η C,aQ w1 X η C (.agg (enc z).toArray) (.v (.g ((aN.cells z).map .d))):=by
    intro w1 z η' C';refine .v _ _ (.g _ _ ⟨by simp[enc],λj G=>?_⟩)
    have k : j<(aN.cells z).length:=by simpa using G
    have e1:(enc z).toArray.getD j undef=((aN.cells z)[j]).val:=by
     have:(enc z).toArray.getD j undef=(enc z).getD j undef:=by simp[aY]
     grind
    have e2:((aN.cells z).map CV.d).getD j (.d .any)=.d ((aN.cells z)[j]):=by rw[Mx _ j (by simpa using k)];simp
    rw[e1,e2];exact .d _ _ (aH.rep _ _ (en.1 (hlit z) _ (fp k)))
   refine(Z (grow (putRow id (Go.Sort.ahead w m) b 0 (flatK enc (aN.es α) dk)) os) X #[.agg (enc u).toArray,.agg (enc v).toArray] _ _ (hF q u v (o u v) (hq u v)) H.size (λy hy hD=>H.block y hy λe=>hD ?_)
    ⟨λy hy=>fH (hX.lt y hy) H.size,hX.gl.mono λy hy E=>⟨H.block y hy λe=>E (by rw[e];exact Y b D),E⟩⟩ (λy _ _=>Iff.rfl) rfl (λj G η C=>?_)).mono λe2 w2 a=>?_
   .rw [e];exact⟨0,_,by rw[Qo,av rfl],D⟩
   .have:j=0\/j=1:=by simp at G;omega
    rcases this with rfl|rfl
    .exact J _ _ _ _
    .exact J _ _ _ _
   .obtain ⟨v',he,b5,hr⟩:=a
    have b8:=hr η (Qh [] w X η);have e3:v'=.int .i64 (o u v):=by
     cases b8 with|v _ _ a=>cases a with|c _ _ a=>cases a with|d _ _ a=>cases a;rfl
    obtain⟨qq,b2,b3⟩:=cQ b5;exact⟨by rw[he,e3],qq,b2,b3⟩
  rw[<-E];have N:=AnyQ.slices_SortFunc_eq Ly (aN.es α) (λw=>by rw[To a0 w,hagg]) (λw=>by rw[YV a0,hsz]) enc hk h1 o hO a1 M b 0 cap x.toArray w O U hH (J4 g1) (by simp only[lP];simp only[Y2]at hl;omega)
  refine N.mono λe' w' a=>?_
  obtain⟨he,nn,os,hw⟩:=a;refine⟨_,η,he,?_⟩
  have b7:w'=grow (putRow id (Go.Sort.ahead w nn) b 0 (flatK enc (aN.es α) (ZV o x).toArray)) os:=hw;rw[b7]
  refine qd (c':=putCells id 0 (flatK enc (aN.es α) (ZV o x).toArray) c) (e:=e) (b:=b) (n:=n) (cap:=cap) hu g5 (HU _ _ _ _ _ _ _) (vI _ _ _ _ _ _ _ g1) (by rw[zV];exact g2) (by rw[p,E]) g3 g4 (λi j hi G=>?_) hX.lt (Y b D);have W:i*aN.es α+j<n*aN.es α:=by
   have:(i+1)*aN.es α<=n*aN.es α:=eu _ hi
   grind
  have I:(flatK enc (aN.es α) (ZV o x).toArray).size=n*aN.es α:=by simp[p,E]
  rw[kb _ _ _ _ (by rw[I];exact W) (by rw[I,g2];exact eu _ g3)];rw[get_flatK _ _ _ _ (by simpa[p,E]using W)]
  have d1:(i*aN.es α+j) / aN.es α=i:=by
   rw[ln,Nat.add_mul_div_right _ _ (by omega),Nat.div_eq_of_lt G,eH]
  have d2:(i*aN.es α+j) % aN.es α=j:=by rw[ln,nQ,ml G]
  rw[d1,d2];have e4:(ZV o x).toArray[i]! = (ZV o x).getD i aN.d:=by
   grind
  rw[e4];have k : j<(aN.cells ((ZV o x).getD i aN.d)).length:=by rw[aN.len];exact G
  have e5:(enc ((ZV o x).getD i aN.d))[j]! = ((aN.cells ((ZV o x).getD i aN.d))[j]).val:=by
   grind
  have e6:(LF (ZV o x) i).getD j .any=(aN.cells ((ZV o x).getD i aN.d))[j]:=Mx _ _ k _;rw[e5,e6]
  exact aH.rep _ _ (en.1 (hlit _) _ (fp k))
end
section
open Go.ChangeShapes Go.WideShapes Go.ChangeAt Go.RowKit
theorem wM{a:Addr}(h:w.cell? a=some v):a.spot=none/\∃c e fz,w.heap[a.block]?=some (.cells c e fz)/\a.off<c.size/\c.getD a.off undef=v:=by
 unfold World.cell? at h;split at h
 .rename_i c e fz g
  split at h
  .cases h
  .rename_i f
   obtain⟨b,d⟩:=lD.1 h;exact⟨by simpa using f,c,e,fz,g,b,by simp[b,d]⟩
 .cases h
theorem Z8s(b o i:Nat):(⟨b,o,none⟩:Addr).add i=⟨b,o+i,none⟩:=add_lit b o i
theorem Nz{a:Addr}{len cap:Nat}{zs:θ}(hl:len<=cap)(hz:len<=zs.length)(hc:∀ i,i<zs.length->w.cell? (a.add i)=some (.int .i64 (zs.getD i 0))):
  aA w (λ_=>False) (.slice (some a) len cap) (DL (α:=Int) (zs.take len)):=by
 have o:(zs.take len).length=len:=by simp;omega
 unfold DL;rw[o]
 by_cases h0:len=0
 .subst h0;exact .nil _ _ _
 .have l:a.spot=none:=by
   have:=(wM (hc 0 (by omega))).1
   cases hsp:a.spot with
   |none=>rfl
   |some s=>simp[Addr.add,hsp]at this
  obtain⟨b,d,r⟩:=a;simp only at l
  subst l;have g : ∀i,i<zs.length->∃c e fz,w.heap[b]?=some (.cells c e fz)/\d+i<c.size/\c.getD (d+i) undef=.int .i64 (zs.getD i 0):=by
   intro i k;have:=hc i k
   rw[Z8s]at this;exact(wM this).2
  obtain⟨c,e,fz,p,_,_⟩:=g 0 (by omega);have f:∀i,i<zs.length->d+i<c.size/\c.getD (d+i) undef=.int .i64 (zs.getD i 0):=by
   grind
  refine .lst b d len cap c e fz _ 1 (λh=>h) p hl (by have:=(f (len-1) (by omega)).1;omega) (λi _=>rfl) λi j k q=>?_
  have:j=0:=by omega
  subst this;rw[mQ,fU,(f i (by omega)).2]
  have m:((LF (zs.take len) i).getD 0 .any)=.int .i64 ((zs.take len).getD i 0):=rfl;rw[m]
  have n:(zs.take len).getD i 0=zs.getD i 0:=by simp[aY,lx,k]
  rw[n];exact .int _ _
theorem Z3S{H:Type}{enc:TypeId×Value->H}{d:DataW H}{ps:List MemPlace}(ht:P.underlying t=some (.slice e))(he:P.underlying e=some (.int .i64)){r:Reach}(hv:Value.okWide P W r b0 t v)(hd:DataW.Trod enc P W 0 (λ_=>true) true t v d ps)(hc:P.cellsOf e=1:=by kernel_rfl):∃l:θ,aA W (λ_=>False) v (DL l)/\∀n∈l,(Lit.int .i64 n).wf=true:=by
 obtain⟨k,q⟩:=hd;obtain⟨w,f,p,rfl⟩:=okWide_slice ht hv
 rcases open_ints ht he hc q with ⟨b,s⟩|⟨a,j,i,zs,b,x,m,u,o,s,c,g⟩
 .simp [Value.cells]at b
  obtain⟨rfl,rfl,rfl⟩:=b;exact⟨[],.nil _ _ _,λn h=>by cases h⟩
 .simp [Value.cells]at b
  obtain⟨rfl,rfl,rfl⟩:=b;simp only[fJ]at o
  exact⟨zs.take f,Nz m (by omega) c,λn h=>g n (j9 h)⟩
theorem jM{H:Type}{enc:TypeId×Value->H}{P:Program}(hl:laidOutB P=true){W W' : World}(hb:Below W.heap.size W W'):∀ {ts:List TypeId} {vs:List Value} {ds:List (DataW H)} {ps:List MemPlace},
  ts.all (λt=>P.readableRec t&&decide (t<P.types.size))=true->DataW.TrodAll enc P W 0 (λ_=>true) true ts vs ds ps->(∀x∈ps,x.block<W.heap.size)->∀sp:Nat->Bool,(∀x∈ps,sp x.block=true)->DataW.TrodAll enc P W' 0 sp true ts vs ds ps
 |[],[],[],_,_,h,_,_,_=>h
 |t::ts,v::vs,d::ds,ps,hr,⟨p,q,h1,h2,e⟩,hlt,sp,hs=>by
  simp only[m7,dc,dT]at hr;subst e
  exact⟨p,q,WideElems.Trod_stays hl hr.1.1 hr.1.2 h1 (λx a=>hb.same (hlt x (mq _ a))) (λx a=>hs x (mq _ a)),
   jM hl hb hr.2 h2 (λx a=>hlt x (mf _ a)) sp (λx a=>hs x (mf _ a)),rfl⟩
theorem Z3u{H:Type}{enc:TypeId×Value->H}(hl:laidOutB P=true){s:ChangeSpec}{W':World}{args:Ξ}{ds gs:List (DataW H)}{before:List MemPlace}{apart fresh handsOn again:Bool}(hW:DataW.Whole enc P fn.params.toList s.vars apart W args.toList ds gs before)(hv:s.vars=[])(hs:s.fn H (ds++gs)={results:=[.lit (.bool true)],args:=ds})(ht:P.underlying t=some .bool)(hb:Below W.heap.size W W')(hr:fn.params.toList.all (λt=>P.readableRec t&&decide (t<P.types.size))=true:=by kernel_rfl)(hres:fn.resultTypes=#[t]:=by kernel_rfl):s.post enc P fn apart fresh handsOn again W args (.bool true) W':=by
 have g:=hW.lt;have k:=hW
 obtain⟨p,q,A,v,u,C,B⟩:=hW;rw[hv]at v
 obtain⟨rfl,rfl⟩:=trodVars_none v;rw[fW]at u
 subst u;have m:∀(j:Nat) (t' : TypeId) (r:Value),fn.resultTypes[j]?=some t' -> ((Value.bool true).resultList fn.resultTypes.size)[j]?=some r->Value.okWide P W' .any 0 t' r:=ok_one hres rfl (okWide_bool_mk ht _)
 have i:∀x∈before,(λb=>decide (b<W.heap.size)) x.block=true:=λx f=>by simpa using g x f
 have e:∀a:Nat->Bool,(∀x∈before,a x.block=true)->DataW.TrodAll enc P W' 0 a true fn.params.toList args.toList (s.fn H (ds++[])).args before:=λa n=>by
  rw[hs];exact jM hl hb hr A g a n
 have d:∀(b:Nat) (a:Nat->Bool) (o:Bool),DataW.TrodAll enc P W' b a o fn.resultTypes.toList ((Value.bool true).resultList fn.resultTypes.size) (s.fn H (ds++[])).results []:=λb a o=>by
  rw[hs,hres];exact trodAll_cons_mk (shut_bool ht _) trodAll_mk0
 have c:∀a:Nat->Bool,DataW.TrodVars enc P W' a s.vars (s.fn H (ds++[])).vars []:=λa=>by
  rw[hs,hv];exact rfl
 refine⟨ds,_,before,[],before,[],k,d _ _ _,e _ i,c _,World.keptBut_mono (λx f=>⟨f,by simpa using f⟩) (hb.frame (·∈before)),λ_=>⟨m,?_⟩⟩;obtain⟨_,_,_,_,_,y,z⟩:=k
 refine⟨_,_,([]++before)++[],⟨[]++before,[],trodAll_append (e _ λ_ _=>rfl) (d _ _ _),c _,rfl,λb l f=>?_,λw=>?_⟩,λx f _=>?_⟩
 .have h:MemPlace.cell b l∈before:=by simpa using f
  rw[hb.frozen (g _ h)];exact y b l h
 .simpa using z w
 .simpa using f
end
section
variable {e:U5}
theorem uR(q:Bool){a:Bool}(hk:Ql ds k=sE (vb (if q then a==b else !(a==b))))(hop:MJ (IT ops k) t=some q)(ht:P.underlying t=some .bool:=by kernel_rfl)(hb:Bv ops nt (No L ops ds e s k) (IT ops k)=true:=by kernel_rfl)(hx:Y3 (No L ops ds e s k) (Va (IT ops k))=vb a:=by kernel_rfl)(hy:Y3 (No L ops ds e s k) (WZ (IT ops k))=vb b:=by kernel_rfl):J9 P C nt L ops ds e s k:=by
 unfold J9;rw[hk]
 simp only[Bv,dc]at hb;obtain⟨⟨⟨m,p⟩,o⟩,n⟩:=hb
 obtain⟨u,c⟩:=kH hop;refine Kd rfl o (by simpa using n) λR η r x v w d l=>?_
 have h:=(K3 l (Va (IT ops k))).1;rw[ZL d m,hx]at h
 have g:=(K3 l (WZ (IT ops k))).1;rw[ZL d p,hy]at g
 have i:=BK h;have j:=BK g
 refine⟨.bool (if q then a==b else !(a==b)),?_,Rc _ _⟩
 cases q with
 |true=>
  simp only[fJ]at c⊢;have f:(eqGuard .eql t (Va (IT ops k)) (WZ (IT ops k)) (.bool a) (.bool b)).run P w=.ok () w:=rfl
  simp only[execOp,c,eX,i,j,f,fh,run_eql_bool w t a b ht,fB]
 |false=>
  simp only[iS,fC]at c⊢;have f:(eqGuard .neq t (Va (IT ops k)) (WZ (IT ops k)) (.bool a) (.bool b)).run P w=.ok () w:=rfl
  simp only[execOp,c,eX,i,j,f,fh,run_neq_bool w t a b ht,fB]
end
def ci(n:Int):CV:=.d (.int .i64 n)
def gC{α:Type}[aN α](x:α):List CV:=(aN.cells x).map .d
def gE{α:Type}[aN α](x:α):ai:=.v (.g (gC x))
theorem tu(Fm:Fr P L C pins)(E' : Γ)(S' : ι)(hq:(pins.all (λi=>J1 [] i==i),E'.map (λp=>lk E p.1),S'.map (λp=>ls S (J1 [] p.1)),Yr (S'.map λp=>J1 [] p.1))=(true,E'.map (λp=>p.2.ren (J1 [])),S'.map (λp=>some (p.2.ren (J1 []))),true))(h:Kn C nt E' S' K):Kn C nt E S K:=
 gR Fm [] E' S' (congrArg (·.1) hq) (congrArg (·.2.1) hq) (congrArg (·.2.2.1) hq) (congrArg (·.2.2.2) hq) h
theorem Zq(Fm:Fr P L C pins)(hq:(Jr L (lk E) (ls S) fn.results.toList,S'.map (λp=>ls S p.1))=(some r,S'.map (λp=>some p.2)):=by kernel_rfl):Kn C nt E S (Wu P fn C r S' .ret):=
 P8 Fm (congrArg (·.1) hq) (congrArg (·.2) hq)
section
variable {e:U5}
theorem Z9I(hspec:J7 P f args Si r So)(hcall:∀ args w,(callFunc f args).run P w=.ok (.enter f args) w)(m:List (Nat×Nat))(hk:Ql ds k=cE m [] r Si So)(hq:(Go.Ab.callB ops nt (No L ops ds e s k) (IT ops k) f m r Si So,Si.map (fun p=>QC L ops ops.toList ds e s k (J1 m p.1)),
   (Go.Ab.callXs (IT ops k)).toList.all (Qt (Qs (IT ops k)++Qk ops (IT ops k)))&&args.all ai.noSem,(Go.Ab.callXs (IT ops k)).toList.map (Y3 (No L ops ds e s k)))
   = (true,Si.map (λp=>some (p.2.ren (J1 m))),true,args.map (ai.ren (J1 m)))):J9 P C nt L ops ds e s k:=
 Eo hspec hcall m hk (congrArg (·.1) hq) (congrArg (·.2.1) hq) (congrArg (·.2.2.1) hq) (congrArg (·.2.2.2) hq)
end
section
open Go.Proofs Go.Shelf
theorem xT{α:Type}[aN α](hL:Qa P L){ρ:Ren}(Ly:Lays8.n4 P ρ)(hsz:te.size=aN.es α)(hpos:0<te.size)(hby:te.bytes<=8192)(hzl:te.zero.length=te.size){n:Int}{r:List α}(h:Xl n=some r)(hte:L (ρ.t 25)=some te:=by kernel_rfl):J7 P (ρ.f 4) [.v (.c (.fl 0 λ_=>[])),vi n] [] (.v (.c (.own 100))) [(100,AO (α:=α) r)]:=by
 unfold Xl at h;split at h
 case isFalse=>cases h
 rename_i hn
 cases h
 obtain⟨J,d0,I,k⟩:=hL _ _ hte;intro w X η B hX V W a1 p q
 have p:B.size=2:=p;have A:∃D,B.getD 0 undef=.slice D 0 0:=by
  have:=q 0 (by simp)
  change aQ w X η _ (B.getD 0 undef) (.v (.c (.fl 0 λ_=>[])))at this;generalize B.getD 0 undef=u at this
  cases this with|v _ _ l=>cases l with|c _ _ l=>cases l with|fl a _ _ _=>exact⟨a,rfl⟩
 have N:B.getD 1 undef=.int .i64 n:=by
  have:=q 1 (by simp)
  change aQ w X η _ (B.getD 1 undef) (.v (.c (.d (.int .i64 n))))at this;generalize B.getD 1 undef=u at this
  cases this with|v _ _ l=>cases l with|c _ _ l=>cases l with|d _ _ l=>cases l;rfl
 obtain⟨D,A⟩:=A;rw[qO p,A,N]
 obtain⟨m,rfl⟩:∃m:Nat,n=m:=⟨n.toNat,by omega⟩;have M:m<=Y2:=by omega
 have g:∀i o,ls [(100,AO (α:=α) [])] i=some o->i=100/\o=AO (α:=α) []:=by
  intro i o b;rw[Qo]at b
  by_cases h:i=100
  .grind
  .rw [an h]at b;cases b
 rcases lA m with Y|Y
 .subst Y
  refine(Any8.slices_Grow_room Ly D 0 0 0 w (di _) (by omega) (by omega) (di _)).mono λe w' l=>?_
  obtain⟨U,O⟩:=l;refine⟨_,λ_=>.slice D 0 0,U,?_⟩
  rw[O];have z:∀x,x∉Y9 (.slice D 0 0):=by intro x;cases D<;>simp[Y9]
  refine⟨aM.refl _ _,.v _ _ (.c _ _ (.own _ _ rfl rfl)),λi o b=>?_,λi j x b F y _=>absurd y (z x),λi o x b y=>absurd y (z x),λi v b=>?_⟩
  .obtain ⟨rfl,rfl⟩:=g i o b
   exact .nil _ _ _
  .change (if((List.lookup i ([]:ι)).isSome=true)then some (η i)else none)=some v at b
   cases b
 .have H:(0+m)*J.bytes<=140737488355328:=by
   have h1:(0+m)*J.bytes<=4294967296*8192:=lM (by simp only[Y2]at M;omega) (by rw[k.bytes];exact hby);omega
  refine(Any8.slices_Grow_grow Ly J I k.info k.zero (by rw[k.size];exact hpos) D 0 0 m [] w (di _) (by omega) H (by simp only[Y2]at M;omega) (by simp) (λ_=>rfl) (λ_ _ _ _ F=>by simp at F)).mono λe w' l=>?_
  obtain⟨U,O⟩:=l;have hG:m<=grownCap w (0+m) 0 (ρ.t 25):=by have:=grownCap_ge w (0+m) 0 (ρ.t 25);omega
  have R:=oN w (0+m) 0 (ρ.t 25) (by simp only[Y2]at M;simp only[maxLen];omega);generalize grownCap w (0+m) 0 (ρ.t 25)=G at *
  refine⟨_,λ_=>.slice (some ⟨w.heap.size,0,none⟩) 0 G,U,?_⟩;rw[O]
  have T:I.cells.size=J.size:=by rw[(k.zrep w (λ_=>False) η (Qh [] w X η)).1,hzl,k.size]
  refine⟨(aM.drew _ _).trans (aM.alloc _ _ _),.v _ _ (.c _ _ (.own _ _ rfl rfl)),λi o b=>?_,λi j x b F _ _=>?_,λi o x b y=>?_,λi v b=>?_⟩
  .obtain ⟨rfl,rfl⟩:=g i o b
   refine .arr w.heap.size 0 G _ (([]:List Value).toArray++Builtin.zeroCells I.cells (0+m-0)++Builtin.zeroCells I.cells (G-(0+m))) (ρ.t 25) _ (heap_alloc_new w.drew _) ?_ (dW _) R (by omega) (λi b=>absurd b (fy i)) λi j b=>absurd b (fy i)
   rw[oL,oL,oB,oB,T,k.size, <-hsz];have e1:(([]:List Value).toArray).size=0:=rfl
   rw[e1,eH, <-fQ];congr 1
   omega
  .obtain ⟨oi,b⟩:=dS.1 b
   obtain⟨Z,F⟩:=dS.1 F;rw[(g i oi b).1,(g j Z F).1]
  .have:x=w.heap.size:=by
    have y:x∈Y9 (.slice (some ⟨w.heap.size,0,none⟩) 0 G):=y;simp[Y9]at y
    exact y.2
   subst this;exact .inr (.inr (di _))
  .change (if((List.lookup i ([]:ι)).isSome=true)then some (η i)else none)=some v at b
   cases b
end
def BR(P:Program)(x:CV):Prop:=x.closed=true\/∃F,x=.sem (Qv P F)
theorem Qj.port(h:Qj w X η C vs cs)(H:∀F v,Qv P F C.w0 C.D C.X v->Qv P F C'.w0 C'.D C'.X v)(hx:∀x∈cs,BR P x):Qj w X η' C' vs cs:=by
 refine⟨h.1,λj f=>?_⟩;have c:=h.2 j f
 rcases hx _ (YN (d:=.d .any) f)with a|⟨F,a⟩
 .simp only[CV.closed,dc,mN]at a
  exact(c.mono (λb _ k=>⟨rfl,k⟩) (λi g=>by rw[a.1]at g;cases g)).ctx a.2
 .rw [a]at c⊢
  generalize vs.getD j undef=u at c⊢
  cases c with|sem _ _ g1 g2=>exact .sem _ _ (H F _ g1) g2
section
variable {e:U5}
theorem Z9X(hcall:∀args w,(callFunc f args).run P w=.ok (.enter f args) w){cs:List (List CV)}(hspec:∀args r,F args r->J7 P f (args++WL cs) (ZK cs) r (ZK cs))(hres:∀args r,F args r->r.closed=true)(hx:Qt rd x=true)(hv:Y3 e x=.v (.c (.clo f cids)))(hlen:cids.length=cs.length)(hnd:Yr cids=true)(hbox:∀k,k<cs.length->∃ro,s (cids.getD k 0)=some (.box ro (cs.getD k [])))(hcl:∀c∈cs,∀x∈c,BR P x)(hsi:∀p∈Si,∃o1,s (m p.1)=some o1)(hin:∀p∈Si,m p.1∈ids)(hcin:∀i∈cids,i∈ids)(hapart:∀p∈Si,m p.1∉cids):YU C nt e s Si m rd ids x (YG P F):=by
 intro R η e0 s0 a w d4 T G;have b6:=(K3 G x).1
 rw[ZL d4 hx,hv]at b6;have b4:=BJ b6
 refine .v _ _ (.c _ _ (.sem _ _ ⟨f,_,b4,hcall,?_⟩ (by rw[b4];rfl)));intro w1 X1 vs args r hF c1 W e3 a6 d8 d0
 have U : w.heap.size<=w1.heap.size:=c1;have Z:∀k,k<cs.length->cids.getD k 0∈cids:=λk hk=>YN (by omega)
 have A:∀k,k<cs.length->∃ro,s0 (cids.getD k 0)=some (.box ro (cs.getD k [])):=by
  grind
 have I:∀k,k<cs.length->∃b c' e',η (cids.getD k 0)=.pointer (some ⟨b,0,none⟩)/\w.heap[b]?=some (.cells c' e' (0,0))/\Qj w (XS C s0 η) η C c' (cs.getD k []):=by
  intro k hk;obtain⟨ro,h⟩:=A k hk
  have:=G.st _ _ h
  generalize η (cids.getD k 0)=u at this
  cases this with
  |box b _ c' e' _ y hcs=>exact⟨b,c',e',rfl,y,hcs⟩
 have O:∀k,k<cs.length->∀b,b∈Y9 (η (cids.getD k 0))->¬dV (ls Si) (λi=>η (m i)) b:=by
  rintro k hk b y ⟨i,B,l,n⟩;obtain⟨ro,h⟩:=A k hk
  obtain⟨o1,Y⟩:=hsi _ (y6 l);have c3 : s0 (m i)=some o1:=by rw[T _ (hin _ (y6 l))];exact Y
  have:=G.ds _ _ b (by rw[h];simp) (by rw[c3];simp) y n
  exact hapart _ (y6 l) (this ▸ Z k hk)
 have c8:∀b,dV (ls Si) (λi=>η (m i)) b->XS C s0 η b:=by
  rintro b ⟨i,B,l,n⟩;obtain⟨o1,Y⟩:=hsi _ (y6 l)
  exact .inr ⟨m i,o1,by rw[T _ (hin _ (y6 l))];exact Y,n⟩
 have hk:QP w w1 (XS C s0 η) X1:=by
  intro b y hX;have b5:¬dV (ls Si) (λi=>η (m i)) b:=λho=>hX (c8 b ho)
  exact⟨W b y b5,λhx=>hX ((a6 b y b5).1 hx)⟩
 have z:∀k o,ls (ZK cs) k=some o->k<cs.length/\o=.box true (cs.getD k []):=by
  intro k o hk;rw[s7]at hk
  grind
 have M:∀b,dV (ls (ZK cs)) (λk=>η (cids.getD k 0)) b->X1 b:=by
  rintro b ⟨k,B,N,V⟩;obtain⟨t,_⟩:=z k B N
  obtain⟨ro,h⟩:=A k t;have c6:b<w.heap.size:=(G.st _ _ h).lt V
  exact(a6 b c6 (O k t b V)).2 (.inr ⟨_,_,h,V⟩)
 have a4:∀F' v,Qv P F' C.w0 C.D C.X v->Qv P F' w1 (dV (ls (ZK cs)) λk=>η (cids.getD k 0)) X1 v:=by
  rintro F' v ⟨g,gc,g1,g2,g3⟩;refine⟨g,gc,g1,g2,λw2 X2 us d9 q hq s1 s2 s3 s4 s5 s6=>?_⟩
  have b3:∀b,b<C.w0.heap.size->¬C.D b->¬dV (ls Si) (λi=>η (m i)) b:=by
   rintro b y H ⟨i,B,l,n⟩;obtain⟨o1,h⟩:=hsi _ (y6 l)
   rcases G.ow (m i) o1 b (by rw[T _ (hin _ (y6 l))];exact h) n with ⟨_,h⟩|h|h
   .exact H h
   .exact H (G.ok.md b h)
   .omega
  have b0:∀b,b<C.w0.heap.size->¬C.D b->¬dV (ls (ZK cs)) (λk=>η (cids.getD k 0)) b:=by
   rintro b y H ⟨k,B,N,V⟩;obtain⟨t,_⟩:=z k B N
   obtain⟨ro,h⟩:=A k t;rcases G.ow _ _ b h V with ⟨_,h⟩|h|h
   .exact H h
   .exact H (G.ok.md b h)
   .omega
  refine g3 w2 X2 us d9 q hq (dP G.fr.size (dP U s1)) (λb y H=>?_) s3 (λb y H=>?_) s5 s6
  .have J:b<w.heap.size:=fH y G.fr.size
   exact((s2 b (fH J U) (b0 b y H)).trans (W b J (b3 b y H))).trans (G.fr.block b y λhM=>H (G.ok.md b hM))
  .have J:b<w.heap.size:=fH y G.fr.size
   rw[s4 b (fH J U) (b0 b y H),a6 b J (b3 b y H)];constructor
   .rintro (⟨hx,_⟩|⟨i,B,l,n⟩)
    .exact hx
    .rcases G.ow i B b l n with ⟨_,h⟩|h|h
     .grind
     .exact absurd (G.ok.md b h) H
     .omega
   .exact λhx=>.inl ⟨hx,H⟩
 have c4:=hspec args r hF w1 X1 (λk=>η (cids.getD k 0)) (vs++(cids.map η).toArray) e3 M
  (λk o N=>by
   obtain⟨t,rfl⟩:=z k o N;obtain⟨b,c',e',h,Y,h3⟩:=I k t
   have c9:=O k t b (by rw[h];simp[Y9]);show db w1 X1 _ _ (η (cids.getD k 0)) _
   rw[h];have d6:∀x∈cs.getD k [],BR P x:=hcl _ (YN (d:=[]) t)
   exact .box b true c' e' _ ((W b (J4 Y) c9).trans Y) ((h3.mono (η':=η) hk (λ_ _=>rfl)).port a4 d6))
  (λi j b l hj d7 e5=>by
   obtain⟨oi,l⟩:=dS.1 l;obtain⟨oj,hj⟩:=dS.1 hj
   obtain⟨e6,_⟩:=z i oi l;obtain⟨c2,_⟩:=z j oj hj
   obtain⟨r1,h⟩:=A i e6;obtain⟨r2,Y⟩:=A j c2
   have b2:=G.ds _ _ b (by rw[h];simp) (by rw[Y];simp) d7 e5;have hn:=Up hnd
   have b9:i<cids.length:=by omega
   have e4:j<cids.length:=by omega
   rw[aY,aY,eG b9,eG e4]at b2;exact(ma hn).1 (by simpa using b2))
  (by simp[d8,WL,hlen])
  (λj hj=>by
   rw[dK]at hj
   by_cases hja:j<args.length
   .have e1:(vs++(cids.map η).toArray).getD j undef=vs.getD j undef:=by
     have:j<vs.size:=by omega
     simp[hU,io,this]
    have e2:(args++WL cs).getD j .any=args.getD j .any:=by simp[aY,iq,hja]
    grind
   .have t:j-args.length<cs.length:=by simp[WL]at hj;omega
    obtain⟨b,c',e',h,Y,h3⟩:=I _ t;have e1:(vs++(cids.map η).toArray).getD j undef=η (cids.getD (j-args.length) 0):=by
     have g1:¬j<vs.size:=by omega
     have g2:j-vs.size<cids.length:=by omega
     have g3:j-args.length<cids.length:=by omega
     have:j-vs.size=j-args.length:=by omega
     simp[hU,io,g1,aY,this,g3]
    have e2:(args++WL cs).getD j .any=.v (.c (.ptr (j-args.length) 0)):=by
     simp[aY,iq,hja,WL,t]
    rw[e1,e2,h];exact .v _ _ (.c _ _ (.ptr b _ 0 h)))
 refine c4.mono λen w' hh=>?_
 obtain⟨v,η',rfl,y⟩:=hh;refine⟨v,rfl,y.stp.mono λb _ hM=>?_,λη2 C2=>?_⟩
 .obtain ⟨i,B,l,c0,_⟩:=hM
  obtain⟨_,rfl⟩:=z i B l;cases c0
 .have hX:∀ b,XS (Qh (ZK cs) w1 X1 fun k=>η (cids.getD k 0)) (ls (ZK cs)) η' b↔X1 b:=by
   have a1:∀i B,ls (ZK cs) i=some B -> η' i=η (cids.getD i 0):=by
    intro i B l;refine y.pn i _ ?_
    unfold ls at l;simp[Qh,l]
   intro b;constructor
   .rintro (⟨hx,_⟩|⟨i,B,l,n⟩)
    .exact hx
    .rw [a1 i B l]at n
     exact M b ⟨i,B,l,n⟩
   .intro hx
    rcases ly (dV (ls (ZK cs)) (λk=>η (cids.getD k 0)) b)with ho|ho
    .obtain ⟨i,B,l,n⟩:=ho
     exact .inr ⟨i,B,l,by rw[a1 i B l];exact n⟩
    .exact .inl ⟨hx,ho⟩
  exact(y.res.mono (η':=η') (λb _ hx=>⟨rfl,λd2=>hx ((hX b).2 d2)⟩) (λ_ _=>rfl)).free (hres args r hF)
def vM(P:Program):List CV->Prop
 |[]=>True
 |c::cs=>BR P c/\vM P cs
def vL(P:Program):List (List CV)->Prop
 |[]=>True
 |c::cs=>vM P c/\vL P cs
theorem IL(h:vM P cs):∀x∈cs,BR P x:=by
 induction cs with
 |nil=>intro x a;cases a
 |cons c cs ih=>
  intro x a;rcases dY.1 a with rfl|a
  .exact h.1
  .exact ih h.2 x a
theorem Z3w{cs:List (List CV)}(h:vL P cs):∀c∈cs,∀x∈c,BR P x:=by
 induction cs with
 |nil=>intro x a;cases a
 |cons c cs ih=>
  intro x a;rcases dY.1 a with rfl|a
  .exact IL h.1
  .exact ih h.2 x a
theorem K1(hcall:∀args w,(callFunc f args).run P w=.ok (.enter f args) w)(cs:List (List CV))(hspec:∀args r,F args r->J7 P f (args++WL cs) (ZK cs) r (ZK cs))(hres:∀args r,F args r->r.closed=true)(hx:Qt rd x=true)(cids:υ)(hv:Y3 e x=.v (.c (.clo f cids)))(hnd:(Yr cids&&cids.all (λi=>ids.contains i))=true)(hp:vL P cs)(hbox:Rb s cids cs)(hsi:DP s Si m ids cids=true):YU C nt e s Si m rd ids x (YG P F):=by
 simp only[dc]at hnd;obtain⟨b,d⟩:=sO hbox
 exact Z9X hcall hspec hres hx hv b hnd.1 d (Z3w hp) (Ki hsi).1 (Ki hsi).2.1 (λi a=>by simpa using en.1 hnd.2 i a) (Ki hsi).2.2
end
theorem Jg(Fm:Fr P L C pins){f:Δ}(hj:j<cs.length)(hc0:cs.getD j (.d .any)=.fl 0 f)(hk:Kn C nt E ((k,.arr es 0 f')::(i,.box false (cs.set j (.own k)))::S0) K)(hp:pins.contains k=false:=by kernel_rfl)(hfr:((E.flatMap λp=>p.2.refs)++(((i,Obj.box false cs)::S0).flatMap λp=>p.1::p.2.refs)).contains k=false:=by kernel_rfl):Kn C nt E ((i,.box false cs)::S0) K:=by
 intro R η a w r;have D:ls ((i,Obj.box false cs)::S0) i=some (.box false cs):=by rw[Qo,av rfl]
 have U:=r.st i _ D;obtain⟨b0,c',e',hη0,hb0,hcs⟩:∃b c' e',η i=.pointer (some ⟨b,0,none⟩)/\w.heap[b]?=some (.cells c' e' (0,0))/\Qj w (XS C (ls ((i,Obj.box false cs)::S0)) η) η C c' cs:=by
  generalize η i=u at U
  cases U with|box b _ c' e' _ M h=>exact⟨b,c',e',rfl,M,h⟩
 obtain⟨ad,hv⟩:∃ad,c'.getD j undef=.slice ad 0 0:=by
  have:=hcs.2 j hj
  rw[hc0]at this;generalize c'.getD j undef=u at this
  cases this with|fl ad _ _ _=>exact⟨ad,rfl⟩
 have T:C.pin k=none:=by
  rcases hq:C.pin k with _|u
  .rfl
  .have:=Fm.pin k (by rw[hq];simp)
   grind
 have a4:∀x∈(E.flatMap λp=>p.2.refs)++(((i,Obj.box false cs)::S0).flatMap λp=>p.1::p.2.refs),x≠k:=by
  grind
 have hS:∀x o,ls ((i,Obj.box false cs)::S0) x=some o->x≠k/\∀y∈o.refs,y≠k:=by
  intro x o c;have hm:=y6 c
  grind
 have Y:i≠k:=(hS i _ D).1;have hE:∀u x,x∈(lk E u).refs->x≠k:=by
  intro u x c;rcases Bc (E:=E) (t:=u)with h0|h0
  .rw [h0]at c;cases c
  all_goals grind
 let η' : Nat->Value:=λx=>if x=k then .slice ad 0 0 else η x
 have l : ∀x,x≠k->η' x=η x:=λx c=>by show(if x=k then Value.slice ad 0 0 else η x)=_;rw[an c]
 have H:η' k=.slice ad 0 0:=by show(if k=k then Value.slice ad 0 0 else η k)=_;rw[av rfl]
 have F:∀b,b∉Y9 (η' k):=by intro b;rw[H];cases ad<;>simp[Y9]
 have B:∀x o,ls ((k,Obj.arr es 0 f')::(i,.box false (cs.set j (.own k)))::S0) x=some o->(x=k/\o=.arr es 0 f')\/(x=i/\o=.box false (cs.set j (.own k)))\/(x≠k/\x≠i/\ls ((i,Obj.box false cs)::S0) x=some o):=by
  intro x o c;rw[Qo]at c
  by_cases m:x=k
  .grind
  .rw [an m,Qo]at c
   by_cases v:x=i
   .grind
   .rw [an v]at c
    exact .inr (.inr ⟨m,v,by rw[Qo,an v];exact c⟩)
 have n:∀x o,ls ((k,Obj.arr es 0 f')::(i,.box false (cs.set j (.own k)))::S0) x=some o->x≠k->∃N,ls ((i,Obj.box false cs)::S0) x=some N /\ N.ro=o.ro:=by
  intro x o c g;rcases B x o c with ⟨m,_⟩|⟨m,v⟩|⟨_,_,V⟩
  .grind
  .subst m;subst v;exact⟨_,D,rfl⟩
  all_goals grind
 have O:∀b,dV (ls ((k,Obj.arr es 0 f')::(i,.box false (cs.set j (.own k)))::S0)) η' b->dV (ls ((i,Obj.box false cs)::S0)) η b:=by
  rintro b ⟨x,o,c,A⟩
  by_cases g:x=k
  .grind
  .obtain ⟨N,m,_⟩:=n x o c g
   exact⟨x,N,m,by rw[<-l x g];exact A⟩
 have hX:QP w w (XS C (ls ((i,Obj.box false cs)::S0)) η) (XS C (ls ((k,Obj.arr es 0 f')::(i,.box false (cs.set j (.own k)))::S0)) η'):=by
  intro b M hn;refine⟨rfl,λc=>?_⟩
  rcases c with c|c
  .exact hn (.inl c)
  .exact hn (.inr (O b c))
 refine hk (λx=>R x\/x=k) η' a w ⟨r.ok,r.df,r.sz,λu=>(r.ev u).mono hX λx c=>l x (hE u x c),λu x c=>.inl (r.er u x c),λx o c=>?_,λx o c=>?_,λx y b c G A J=>?_,λx o b c M=>?_,r.fr,λx u c=>?_⟩
 .rcases B x o c with ⟨rfl,rfl⟩|⟨rfl,rfl⟩|⟨m,v,V⟩
  .rw [H];exact .nil _ _ _
  .rw [l x Y,hη0]
   refine .box b0 false c' e' _ hb0 ⟨by rw[hcs.1];simp,λq hq=>?_⟩;have I : q<cs.length:=by simpa using hq
   by_cases hqj:q=j
   .subst hqj
    have:(cs.set q (.own k)).getD q (.d .any)=.own k:=by simp[aY,I]
    rw[this,hv];exact .own _ _ H.symm rfl
   .have:(cs.set j (.own k)).getD q (.d .any)=cs.getD q (.d .any):=by
     grind
    rw[this];refine(hcs.2 q I).mono hX λy G=>l y ((hS x _ D).2 y ?_)
    exact eE.2 ⟨_,YN I,G⟩
  .rw [l x m]
   exact(r.st x o V).mono hX (λy G=>l y ((hS x o V).2 y G)) λ_ _=>rfl
 .rcases B x o c with ⟨rfl,rfl⟩|⟨rfl,rfl⟩|⟨m,v,V⟩
  .exact ⟨.inr rfl,by simp[Obj.refs]⟩
  .have:=r.sr x _ D
   refine⟨.inl this.1,λy G=>?_⟩;obtain⟨z,hz,W⟩:=eE.1 G
   rcases ot hz with Z|Z
   .exact .inl (this.2 y (eE.2 ⟨z,Z,W⟩))
   .subst Z
    exact .inr (by simpa[CV.refs]using W)
  .have:=r.sr x o V
   exact⟨.inl this.1,λy G=>.inl (this.2 y G)⟩
 .obtain ⟨ox,c⟩:=dS.1 c
  obtain⟨oy,G⟩:=dS.1 G
  by_cases g:x=k
  .subst g;exact absurd A (F b)
  .by_cases hyk:y=k
   .subst hyk;exact absurd J (F b)
   .obtain ⟨o1,m,_⟩:=n x ox c g
    obtain⟨o2,v,_⟩:=n y oy G hyk;rw[l x g]at A
    rw[l y hyk]at J;exact r.ds x y b (by rw[m];simp) (by rw[v];simp) A J
 .by_cases g:x=k
  .subst g;exact absurd M (F b)
  .obtain ⟨N,m,v⟩:=n x o c g
   rw[l x g]at M;rw[<-v]
   exact r.ow x N b m M
 .have g:x≠k:=by intro h;subst h;rw[T]at c;cases c
  have:=r.pn x u c
  exact⟨by rw[l x g];exact this.1,.inl this.2⟩
theorem J7.list{α:Type}[aN α]{r:List α}(h:J7 P f args [] (.v (.c (.own 100))) [(100,AO r)]):J7 P f args [] (AL r) []:=by
 intro w X η M H m x D y l;refine(h w X η M H m x D y l).mono λe R t=>?_
 obtain⟨v,η',N,k⟩:=t;refine⟨v,η',N,?_⟩
 have A:∀i o,ls ([]:ι) i=some o->False:=λi o a=>by cases a
 have B:=k.objs 100 (AO r) (by rw[Qo,av rfl]);have I:v=η' 100:=by
  have:=k.res
  cases this with|v _ _ t=>cases t with|c _ _ t=>cases t with|own _ _ g _=>exact g
 have z:∀b,b∈Y9 (η' 100)->¬XS (Qh [] w X η) (ls []) η' b:=by
  intro b F O;have G:w.heap.size<=b:=by
   rcases k.ow 100 (AO r) b (by rw[Qo,av rfl]) F with ⟨g,_⟩|⟨i,o,a,_⟩|g
   .cases g
   .grind
   .exact g
  rcases O with ⟨g,_⟩|⟨i,o,a,_⟩
  .have:=H.lt b g
   omega
  all_goals grind
 have q:∀b,¬XS (Qh [] w X η) (ls [(100,AO r)]) η' b->¬XS (Qh [] w X η) (ls []) η' b:=by
  intro b g p;rcases p with p|⟨i,o,a,_⟩
  .exact g (.inl p)
  all_goals grind
 refine⟨k.stp,?_,λi o a=>(A i o a).elim,λi j b a=>?_,λi o b a=>(A i o a).elim,k.pn⟩
 .rw [I]
  refine .v _ _ (.c _ _ (.d _ _ ?_));show aA _ _ _ (.lst r.length (LF r))
  unfold AO at B;generalize η' 100=u at B z
  generalize hn:r.length=n at B
  cases B with
  |nil ad=>exact .nil _ _ _
  |arr b n cap es c e f g p h3 h4 h5 h6 h7=>
   refine .lst b 0 n cap c e _ _ _ (z b (by simp[Y9];omega)) g h3 ?_ h6 λi j a J=>?_
   .rw [p,eH];exact eu _ h3
   .rw [eH]
    exact(h7 i j a J).mono λb _ k=>⟨rfl,q b (by unfold AO;rw[hn];exact k)⟩
 .exact absurd rfl a
def Wn(es n:Nat)(f:Δ)(w:World)(X:ξ)(u:Value):Prop:=
 (∃ad,u=.tuple #[.slice ad n n]/\aA w X (.slice ad n n) (.lst n f))\/∀η C,db w X η C u (.arr es n f)
def AP{α:Type}[aN α](l:List α):Obj:=.ext (Wn (aN.es α) l.length (LF l))
theorem Z8m{f:Δ}(h:db w X η C v (.arr es n f))(η' : Nat->Value)(C' : da):db w X η' C' v (.arr es n f):=by
 cases h with
 |nil ad=>exact .nil ad _ _
 |arr b _ cap _ c e _ h1 h2 h3 h4 h5 h6 h7=>exact .arr b _ cap _ c e _ h1 h2 h3 h4 h5 h6 h7
theorem wA(es n:Nat)(f:Δ)(u:Value):BS (Wn es n f) u:=by
 intro w i X g a d h;rcases h with ⟨b,e,c⟩|h
 .exact .inl ⟨b,e,c.mono a⟩
 .exact .inr λη C=>(h η C).mono (η':=η) a (λ_ _=>rfl) d
theorem U6.ap(k:Nat):U6 (.own k) (.ap k):=⟨λw X η C v a=>by cases a with|own _ _ h h1=>exact .ap _ _ (.inl h.symm) h1,λi b=>b⟩
theorem J2.ap(es n:Nat)(f:Δ):J2 (.arr es n f) (.ext (Wn es n f)):=
 ⟨λw X η C v a=>.ext _ _ (.inr λη' C'=>Z8m a η' C') (wA es n f v) λb c=>a.lt c,rfl,λi d=>by cases d⟩
def Kp(k:Nat)(y:CV):CV->CV
 |.ap i=>if i=k then y else .ap i
 |x=>x
def TV.sb(k:Nat)(y:CV):TV->TV
 |.c x=>.c (Kp k y x)
 |.g xs=>.g (xs.map (Kp k y))
def ai.sb(k:Nat)(y:CV):ai->ai
 |.any=>.any
 |.v x=>.v (x.sb k y)
 |.t xs=>.t (xs.map (TV.sb k y))
def Obj.sb(k:Nat)(y:CV):Obj->Obj
 |.box ro cs=>.box ro (cs.map (Kp k y))
 |o=>o
section
variable {y:CV}
theorem aX.sb{x:CV}(h:aX w X η C v x)(hX:∀b,¬X b->¬X' b)(hk:∀v,aX w X η C v (.ap k)->aX w X' η C v y):aX w X' η C v (Kp k y x):=by
 have a:QP w w X X':=λb _ c=>⟨rfl,hX b c⟩
 cases x with
 |ap i=>
  simp only[Kp];split
  .grind
  .exact h.mono a λ_ _=>rfl
 |_=>exact h.mono a λ_ _=>rfl
theorem Qj.sb(h:Qj w X η C vs cs)(hX:∀b,¬X b->¬X' b)(hk:∀v,aX w X η C v (.ap k)->aX w X' η C v y):Qj w X' η C vs (cs.map (Kp k y)):=by
 refine⟨by simpa using h.1,λj c=>?_⟩;have a : j<cs.length:=by simpa using c
 have:=(h.2 j a).sb hX hk
 grind
theorem dy.sb{x:TV}(h:dy w X η C v x)(hX:∀b,¬X b->¬X' b)(hk:∀v,aX w X η C v (.ap k)->aX w X' η C v y):dy w X' η C v (x.sb k y):=by
 cases h with
 |c _ _ h=>exact .c _ _ (h.sb hX hk)
 |g _ _ h=>exact .g _ _ (h.sb hX hk)
theorem aQ.sb{x:ai}(h:aQ w X η C v x)(hX:∀b,¬X b->¬X' b)(hk:∀v,aX w X η C v (.ap k)->aX w X' η C v y):aQ w X' η C v (x.sb k y):=by
 cases h with
 |any=>exact .any v
 |v _ _ h=>exact .v _ _ (h.sb hX hk)
 |t us xs h1 h2=>
  refine .t us _ (by simpa using h1) λj c=>?_
  have a : j<xs.length:=by simpa using c
  have:=(h2 j a).sb hX hk
  grind
theorem db.sb{o:Obj}(h:db w X η C v o)(hX:∀b,¬X b->¬X' b)(hk:∀v,aX w X η C v (.ap k)->aX w X' η C v y):db w X' η C v (o.sb k y):=by
 cases o with
 |box ro cs=>cases h with|box b _ c e _ h1 h2=>exact .box b ro c e _ h1 (h2.sb hX hk)
 |arr es n f=>exact h.mono (λb _ a=>⟨rfl,hX b a⟩) (λ_ _=>rfl) λ_ _=>rfl
 |ext p=>exact h.mono (λb _ a=>⟨rfl,hX b a⟩) (λ_ _=>rfl) λ_ _=>rfl
 |exr refs p=>exact h.mono (λb _ a=>⟨rfl,hX b a⟩) (λ_ _=>rfl) λ_ _=>rfl
theorem jf(hy:∀i∈y.refs,i=k)(x:CV):∀j∈(Kp k y x).refs,j∈x.refs:=by
 cases x<;>simp only[Kp]<;>try exact λj a=>a
 split
 .rename_i b;intro j a;rw[hy j a,b];simp[CV.refs]
 all_goals grind
theorem B2(hy:∀i∈y.refs,i=k)(x:TV):∀j∈(x.sb k y).refs,j∈x.refs:=by
 cases x with
 |c x=>exact jf hy x
 |g xs=>exact PD (jf hy)
theorem Y0k(hy:∀i∈y.refs,i=k)(x:ai):∀j∈(x.sb k y).refs,j∈x.refs:=by
 cases x with
 |any=>exact λj a=>a
 |v x=>exact B2 hy x
 |t xs=>exact PD (B2 hy)
theorem Z9g(hy:∀i∈y.refs,i=k)(o:Obj):∀j∈(o.sb k y).refs,j∈o.refs:=by
 cases o with
 |box ro cs=>exact PD (jf hy)
 |arr es n f=>exact λj a=>a
 |ext p=>exact λj a=>a
 |exr refs p=>exact λj a=>a
theorem Z9f(o:Obj):(o.sb k y).ro=o.ro:=by cases o<;>rfl
end
theorem aK.sb{R:ξ}{a:Act}{y:CV}(hc:aK C nt R η (lk E) (ls S0) a w)(s' : U8)(hy:∀i∈y.refs,i=k)(hs:∀i o',s' i=some o' -> ∃o,ls S0 i=some o/\(o'=o.sb k y\/(o'.refs=[]/\o'.ro=o.ro/\db w (XS C s' η) η C (η i) o')))(hrep:∀v,aX w (XS C (ls S0) η) η C v (.ap k)->aX w (XS C s' η) η C v y):aK C nt R η (lk (E.map λp=>(p.1,p.2.sb k y))) s' a w:=by
 have r:∀b,¬XS C (ls S0) η b->¬XS C s' η b:=by
  intro b l q;rcases q with q|⟨i,o',c,n⟩
  .exact l (.inl q)
  .obtain ⟨o,d,_⟩:=hs i o' c
   exact l (.inr ⟨i,o,d,n⟩)
 have m:∀i,s' i≠none->ls S0 i≠none:=by
  intro i c;obtain⟨o',c⟩:=dS.1 c
  grind
 refine⟨hc.ok,hc.df,hc.sz,λt=>?_,λt i c=>?_,λi o' c=>?_,λi o' c=>?_,λi j b c f=>hc.ds i j b (m i c) (m j f),λi o' b c l=>?_,hc.fr,hc.pn⟩
 .rw [Ff (g:=ai.sb k y) rfl];exact(hc.ev t).sb r hrep
 .rw [Ff (g:=ai.sb k y) rfl]at c;exact hc.er t i (Y0k hy _ i c)
 .obtain ⟨o,d,h|⟨_,_,h⟩⟩:=hs i o' c
  .rw [h];exact(hc.st i o d).sb r hrep
  .exact h
 .obtain ⟨o,d,h|⟨h,_,_⟩⟩:=hs i o' c
  .have:=hc.sr i o d
   exact⟨this.1,λj f=>this.2 j (by rw[h]at f;exact Z9g hy o j f)⟩
  .exact ⟨(hc.sr i o d).1,λj f=>by rw[h]at f;cases f⟩
 .obtain ⟨o,d,h|⟨_,h,_⟩⟩:=hs i o' c
  .have:=hc.ow i o b d l
   rw[h,Z9f];exact this
  .have:=hc.ow i o b d l
   rw[h];exact this
theorem qt{f:Δ}(hk:(S.map (·.1)).contains k=false)(h1:Kn C nt (E.map λp=>(p.1,p.2.sb k (.own k))) ((k,.arr es n f)::S.map λp=>(p.1,p.2.sb k (.own k))) K)(h2:Kn C nt (E.map λp=>(p.1,p.2.sb k (.fl n f))) (S.map λp=>(p.1,p.2.sb k (.fl n f))) K):Kn C nt E ((k,.ext (Wn es n f))::S) K:=by
 intro R η a w B;have t:ls ((k,.ext (Wn es n f))::S) k=some (.ext (Wn es n f)):=by rw[Qo,av rfl]
 have A:ls S k=none:=by
  cases g:ls S k with
  |none=>rfl
  |some o=>
   have:k∈S.map (·.1):=eF.2 ⟨_,y6 g,rfl⟩
   grind
 have j:∀i o,ls S i=some o->ls ((k,.ext (Wn es n f))::S) i=some o:=by
  intro i o c;have H:i≠k:=by intro h;rw[h,A]at c;cases c
  rw[Qo,an H];exact c
 have z:=B.st k _ t;have D:Wn es n f w (XS C (ls ((k,.ext (Wn es n f))::S)) η) (η k):=by
  generalize η k=u at z
  cases z with|ext _ _ h _ _=>exact h
 rcases D with ⟨J,e,I⟩|g
 .refine h2 R η a w (B.sb _ (by simp[CV.refs]) (λi G c=>?_) λv d=>?_)
  .rw [Jz]at c
   cases g:ls S i with
   |none=>rw[g]at c;cases c
   |some o=>rw[g]at c;cases c;exact⟨o,j i o g,.inl rfl⟩
  .have F:∀ b,¬ XS C (ls ((k,.ext (Wn es n f))::S)) η b->¬ XS C (ls (S.map fun p=>(p.1,p.2.sb k (.fl n f)))) η b:=by
    intro b m x;rcases x with x|⟨i,G,c,q⟩
    .exact m (.inl x)
    .rw [Jz]at c
     cases g:ls S i with
     |none=>rw[g]at c;cases c
     |some o=>exact m (.inr ⟨i,o,j i o g,q⟩)
   cases d with|ap _ _ d h1=>
   rw[e]at d;rcases d with rfl|d|⟨l,d⟩
   .cases h1
   .cases d;exact .fl _ _ _ (I.mono λb _ m=>⟨rfl,F b m⟩)
   .cases d
 .have F:∀ b,¬ XS C (ls ((k,.ext (Wn es n f))::S)) η b->¬ XS C (ls ((k,.arr es n f)::S.map fun p=>(p.1,p.2.sb k (.own k)))) η b:=by
   intro b m x;rcases x with x|⟨i,G,c,q⟩
   .exact m (.inl x)
   .rw [Qo]at c
    split at c
    .rename_i r;subst r;exact m (.inr ⟨i,_,t,q⟩)
    .rw [Jz]at c
     cases g:ls S i with
     |none=>rw[g]at c;cases c
     |some o=>exact m (.inr ⟨i,o,j i o g,q⟩)
  refine h1 R η a w (B.sb _ (by simp[CV.refs]) (λi G c=>?_) λv d=>?_)
  .rw [Qo]at c
   split at c
   .rename_i r
    cases c
    subst r;exact⟨_,t,.inr ⟨rfl,rfl,(g η C).mono (λb _ m=>⟨rfl,F b m⟩) (λ_ _=>rfl) λ_ _=>rfl⟩⟩
   .rw [Jz]at c
    cases ho' : ls S i with
    |none=>rw[ho']at c;cases c
    |some o=>rw[ho']at c;cases c;exact⟨o,j i o ho',.inl rfl⟩
  .cases d with|ap _ _ d h1=>
   have:=g η C
   rcases d with d|d|⟨l,d⟩
   .exact .own _ _ d.symm h1
   .rw [d]at this;cases this
   .rw [d]at this;cases this
theorem gU(Fm:Fr P L C pins){ro:Bool}{f:Δ}(hj:j<cs.length)(hc0:cs.getD j (.d .any)=.fl n f)(hk:Kn C nt E ((k,.ext (Wn es n f))::(i,.box ro (cs.set j (.ap k)))::S0) K)(hp:pins.contains k=false:=by kernel_rfl)(hfr:((E.flatMap λp=>p.2.refs)++(((i,Obj.box ro cs)::S0).flatMap λp=>p.1::p.2.refs)).contains k=false:=by kernel_rfl):Kn C nt E ((i,.box ro cs)::S0) K:=by
 intro R η a w A;have G:ls ((i,Obj.box ro cs)::S0) i=some (.box ro cs):=by rw[Qo,av rfl]
 have V:=A.st i _ G;obtain⟨b0,c',e',hη0,hb0,hcs⟩:∃b c' e',η i=.pointer (some ⟨b,0,none⟩)/\w.heap[b]?=some (.cells c' e' (0,0))/\Qj w (XS C (ls ((i,Obj.box ro cs)::S0)) η) η C c' cs:=by
  generalize η i=u at V
  cases V with|box b _ c' e' _ I h=>exact⟨b,c',e',rfl,I,h⟩
 obtain⟨ad,hv,hdr⟩:∃ad,c'.getD j undef=.slice ad n n/\aA w (XS C (ls ((i,Obj.box ro cs)::S0)) η) (.slice ad n n) (.lst n f):=by
  have:=hcs.2 j hj
  rw[hc0]at this;generalize c'.getD j undef=u at this
  cases this with|fl ad _ _ h=>exact⟨ad,rfl,h⟩
 have U:C.pin k=none:=by
  rcases hq:C.pin k with _|u
  .rfl
  .have:=Fm.pin k (by rw[hq];simp)
   grind
 have a5:∀x∈(E.flatMap λp=>p.2.refs)++(((i,Obj.box ro cs)::S0).flatMap λp=>p.1::p.2.refs),x≠k:=by
  grind
 have hS:∀x o,ls ((i,Obj.box ro cs)::S0) x=some o->x≠k/\∀y∈o.refs,y≠k:=by
  intro x o c;have hm:=y6 c
  grind
 have a0:i≠k:=(hS i _ G).1;have hE:∀u x,x∈(lk E u).refs->x≠k:=by
  intro u x c;rcases Bc (E:=E) (t:=u)with h0|h0
  .rw [h0]at c;cases c
  all_goals grind
 let η' : Nat->Value:=λx=>if x=k then .tuple #[.slice ad n n]else η x
 have l : ∀x,x≠k->η' x=η x:=λx c=>by show(if x=k then Value.tuple #[.slice ad n n]else η x)=_;rw[an c]
 have J:η' k=.tuple #[.slice ad n n]:=by show(if k=k then Value.tuple #[.slice ad n n]else η k)=_;rw[av rfl]
 have v:∀b,b∉Y9 (η' k):=by intro b;rw[J];simp[Y9]
 have F:∀x o,ls ((k,Obj.ext (Wn es n f))::(i,.box ro (cs.set j (.ap k)))::S0) x=some o->(x=k/\o=.ext (Wn es n f))\/(x=i/\o=.box ro (cs.set j (.ap k)))\/(x≠k/\x≠i/\ls ((i,Obj.box ro cs)::S0) x=some o):=by
  intro x o c;rw[Qo]at c
  by_cases m:x=k
  .grind
  .rw [an m,Qo]at c
   by_cases B:x=i
   .grind
   .rw [an B]at c
    exact .inr (.inr ⟨m,B,by rw[Qo,an B];exact c⟩)
 have r:∀x o,ls ((k,Obj.ext (Wn es n f))::(i,.box ro (cs.set j (.ap k)))::S0) x=some o->x≠k->∃O,ls ((i,Obj.box ro cs)::S0) x=some O /\ O.ro=o.ro:=by
  intro x o c g;rcases F x o c with ⟨m,_⟩|⟨m,B⟩|⟨_,_,W⟩
  .grind
  .subst m;subst B;exact⟨_,G,rfl⟩
  all_goals grind
 have T:∀b,dV (ls ((k,Obj.ext (Wn es n f))::(i,.box ro (cs.set j (.ap k)))::S0)) η' b->dV (ls ((i,Obj.box ro cs)::S0)) η b:=by
  rintro b ⟨x,o,c,D⟩
  by_cases g:x=k
  .grind
  .obtain ⟨O,m,_⟩:=r x o c g
   exact⟨x,O,m,by rw[<-l x g];exact D⟩
 have Z:QP w w (XS C (ls ((i,Obj.box ro cs)::S0)) η) (XS C (ls ((k,Obj.ext (Wn es n f))::(i,.box ro (cs.set j (.ap k)))::S0)) η'):=by
  intro b I hn;refine⟨rfl,λc=>?_⟩
  rcases c with c|c
  .exact hn (.inl c)
  .exact hn (.inr (T b c))
 refine hk (λx=>R x\/x=k) η' a w ⟨A.ok,A.df,A.sz,λu=>(A.ev u).mono Z λx c=>l x (hE u x c),λu x c=>.inl (A.er u x c),λx o c=>?_,λx o c=>?_,λx y b c H D N=>?_,λx o b c I=>?_,A.fr,λx u c=>?_⟩
 .rcases F x o c with ⟨rfl,rfl⟩|⟨rfl,rfl⟩|⟨m,B,W⟩
  .refine .ext _ _ ?_ (wA es n f _) (λb I=>absurd I (v b))
   rw[J];exact .inl ⟨ad,rfl,hdr.mono Z⟩
  .rw [l x a0,hη0]
   refine .box b0 ro c' e' _ hb0 ⟨by rw[hcs.1];simp,λq hq=>?_⟩;have M : q<cs.length:=by simpa using hq
   by_cases hqj:q=j
   .subst hqj
    have:(cs.set q (.ap k)).getD q (.d .any)=.ap k:=by simp[aY,M]
    rw[this,hv];exact .ap _ _ (.inr (.inl J)) rfl
   .have:(cs.set j (.ap k)).getD q (.d .any)=cs.getD q (.d .any):=by
     grind
    rw[this];refine(hcs.2 q M).mono Z λy H=>l y ((hS x _ G).2 y ?_)
    exact eE.2 ⟨_,YN M,H⟩
  .rw [l x m]
   exact(A.st x o W).mono Z (λy H=>l y ((hS x o W).2 y H)) λ_ _=>rfl
 .rcases F x o c with ⟨rfl,rfl⟩|⟨rfl,rfl⟩|⟨m,B,W⟩
  .exact ⟨.inr rfl,by simp[Obj.refs]⟩
  .have:=A.sr x _ G
   refine⟨.inl this.1,λy H=>?_⟩;obtain⟨z,hz,Y⟩:=eE.1 H
   rcases ot hz with h4|h4
   .exact .inl (this.2 y (eE.2 ⟨z,h4,Y⟩))
   .subst h4
    exact .inr (by simpa[CV.refs]using Y)
  .have:=A.sr x o W
   exact⟨.inl this.1,λy H=>.inl (this.2 y H)⟩
 .obtain ⟨ox,c⟩:=dS.1 c
  obtain⟨oy,H⟩:=dS.1 H
  by_cases g:x=k
  .subst g;exact absurd D (v b)
  .by_cases hyk:y=k
   .subst hyk;exact absurd N (v b)
   .obtain ⟨o1,m,_⟩:=r x ox c g
    obtain⟨o2,B,_⟩:=r y oy H hyk;rw[l x g]at D
    rw[l y hyk]at N;exact A.ds x y b (by rw[m];simp) (by rw[B];simp) D N
 .by_cases g:x=k
  .subst g;exact absurd I (v b)
  .obtain ⟨O,m,B⟩:=r x o c g
   rw[l x g]at I;rw[<-B]
   exact A.ow x O b m I
 .have g:x≠k:=by intro h;subst h;rw[U]at c;cases c
  have:=A.pn x u c
  exact⟨by rw[l x g];exact this.1,.inl this.2⟩
section
variable {e:U5}
def XD(caps:υ):List ai:=caps.map λc=>.v (.c (.ptr c 0))
theorem Q8U(hcall:∀args w,(callFunc f args).run P w=.ok (.enter f args) w)(hop:o.op=.call {callee:=.value fx,args:=xs,argTypes:=tys})(hfx:Y3 e fx=.v (.c (.clo f (caps.map m))))(hrf:Qt (Qs o++Qk ops o) fx=true)(hspec:J7 P f (args++XD caps) Si r So)(hbox:∀c∈caps,∃ro cs,ls Si c=some (.box ro cs))(hlen:xs.size=args.length)(extra:υ)(hargs:∀j,j<args.length->YU C nt e s Si m (Qs o++Qk ops o) (WA e o++(Si.map (λp=>m p.1)++extra)) (xs.toList.getD j (.const undef)) (args.getD j .any))(hsi:∀p∈Si,∃o1,s (m p.1)=some o1/\J2 o1 (p.2.ren m))(hchk:WD m r Si So=true)(hdo:QM nt o=true)(hg:Ze ops e o=some true):WE P C nt ops o (qb ops o e m extra r Si So) e s:=by
 intro R η e0 M a w z q W F K Q hK;have hw:=UE (e:=e) F (λt ht=>z t (dv.2 (.inr ht))) hg
 rw[av hw];have J:=(K3 F fx).1
 rw[ZL z hrf,hfx]at J;have H:=BJ J
 have T:=MG (w:=w) hop H hcall;have g:∀p∈Si,∃o1,M (m p.1)=some o1/\J2 o1 (p.2.ren m):=by
  intro p hp;rw[q (m p.1) (dv.2 (.inr (dv.2 (.inl (eF.2 ⟨p,hp,rfl⟩)))))]
  exact hsi p hp
 simp only[WD,dc]at hchk;have A:=hchk
 obtain⟨⟨⟨⟨⟨⟨⟨⟨⟨c1,c2⟩,c3⟩,c4⟩,c5⟩,c6⟩,c7⟩,c8⟩,c9⟩,b1⟩:=hchk;have O:=F.xl
 have N:∀i l,ls Si i=some l -> l.noSem=true:=λi l h=>en.1 c7 _ (y6 h)
 have n:∀i l,ls Si i=some l -> db w (XS C M η) (λi=>η (m i)) (Qh Si w (XS C M η) λi=>η (m i)) (η (m i)) l:=λi l h=>by
  obtain⟨o1,G,a0⟩:=g _ (y6 h);exact(db.unren (a0.1 _ _ _ _ _ (F.st _ o1 G))).ctx (N i l h)
 have Y:=hspec w (XS C M η) (λi=>η (m i)) (xs.map a.eval++((caps.map m).map η).toArray) O
  (λb ⟨i,l,h,hib⟩=>by obtain⟨o1,G,_⟩:=g _ (y6 h);exact .inr ⟨m i,o1,G,hib⟩)
  n
  (λi j b h B V a4=>by
   obtain⟨oi,h⟩:=dS.1 h;obtain⟨oj,B⟩:=dS.1 B
   obtain⟨o1,G,_⟩:=g _ (y6 h);obtain⟨o2,h2,_⟩:=g _ (y6 B)
   have I:m i=m j:=F.ds _ _ b (by rw[G];simp) (by rw[h2];simp) V a4;have n3:=Up c3
   rw[lX]at n3;exact FJ (ρ:=m) n3.2.1 (by rw[h];simp) (by rw[B];simp) I)
  (by simp[hlen,XD])
  (λj B=>by
   rw[dK]at B
   by_cases hja:j<args.length
   .have a3 : j<xs.size:=by omega
    have U:(xs.map a.eval++((caps.map m).map η).toArray).getD j undef=a.eval (xs.toList.getD j (.const undef)):=by
     simp[aY,a3,hU,io]
    have e2:(args++XD caps).getD j .any=args.getD j .any:=by simp[aY,iq,hja]
    rw[U,e2];exact hargs j hja R η e0 M a w z q F
   .have D:j-args.length<caps.length:=by simp[XD]at B;omega
    have g1:¬j<xs.size:=by omega
    have g2:j-xs.size=j-args.length:=by omega
    have U:(xs.map a.eval++((caps.map m).map η).toArray).getD j undef=η (m (caps.getD (j-args.length) 0)):=by
     simp[hU,io,g1,g2,D,aY]
    have e2:(args++XD caps).getD j .any=.v (.c (.ptr (caps.getD (j-args.length) 0) 0)):=by
     simp[aY,iq,hja,XD,D]
    rw[U,e2];obtain⟨ro,cs,hb⟩:=hbox _ (YN (d:=0) D)
    have:=n _ _ hb
    generalize hu:η (m (caps.getD (j-args.length) 0))=u at this
    cases this with|box b _ c e' _ _ _=>exact .v _ _ (.c _ _ (.ptr b _ 0 hu)))
 unfold Oper.wp;rw[T]
 show Calls P f _ w _;refine Y.mono λen w' hh=>?_
 obtain⟨v,η',rfl,hb⟩:=hh;have x:WD m r Si So=true:=by simp only[WD,dc];exact A
 obtain⟨η1,Z⟩:=F.call (YO hdo) x g W hb;exact hK η1 _ w' Z
def xL(f:Nat)(ids:υ):ai->Bool
 |.v (.c (.clo g is))=>g==f&&is==ids
 |_=>false
theorem Z5m{x:ai}(h:xL f ids x=true):x=.v (.c (.clo f ids)):=by
 unfold xL at h
 grind
def uu(Si:ι)(caps:υ):Bool:=caps.all λc=>match ls Si c with|some (.box _ _)=>true|_=>false
theorem Z8a(h:uu Si caps=true):∀c∈caps,∃ro cs,ls Si c=some (.box ro cs):=by
 intro c a;have:=en.1 h c a
 grind
def uQ(ops:Array Oper)(nt:Nat)(e:U5)(o:Oper)(f:Nat)(m:List (Nat×Nat))(caps:υ)(r:ai)(Si So:ι):Bool:=
 Bn o&&xL f (caps.map (J1 m)) (Y3 e (UZ o))&&Qt (Qs o++Qk ops o) (UZ o)&&WD (J1 m) r Si So&&QM nt o&&(Ze ops e o==some true)&&uu Si caps
theorem BW(hspec:J7 P f (args++XD caps) Si r So)(hcall:∀ args w,(callFunc f args).run P w=.ok (.enter f args) w)(m:List (Nat×Nat))(hk:Ql ds k=cE m [] r Si So)(hq:(uQ ops nt (No L ops ds e s k) (IT ops k) f m caps r Si So,Si.map (fun p=>QC L ops ops.toList ds e s k (J1 m p.1)),
   (Go.Ab.callXs (IT ops k)).toList.all (Qt (Qs (IT ops k)++Qk ops (IT ops k)))&&args.all ai.noSem,(Go.Ab.callXs (IT ops k)).toList.map (Y3 (No L ops ds e s k)))
   = (true,Si.map (λp=>some (p.2.ren (J1 m))),true,args.map (ai.ren (J1 m))):=by kernel_rfl):J9 P C nt L ops ds e s k:=by
 unfold J9;rw[hk]
 have d:=congrArg (·.1) hq;have c:=congrArg (·.2.1) hq
 have b:=congrArg (·.2.2.1) hq;have a:=congrArg (·.2.2.2) hq
 simp only at d c b a;simp only[uQ,dc]at d
 obtain⟨⟨⟨⟨⟨⟨h,A⟩,o⟩,i⟩,x⟩,u⟩,z⟩:=d;obtain⟨t,g⟩:=Mo h
 rw[dc]at b;obtain⟨q,l⟩:=(qy (C:=C) (nt:=nt) (s:=QC L ops ops.toList ds e s k) (Si:=Si) (ids:=WA (No L ops ds e s k) (IT ops k)++(Si.map (λp=>J1 m p.1)++[])) b.1 b.2 a).spec
 exact Q8U hcall g (Z5m A) o hspec (Z8a z) (by simpa using q) [] (λj n=>l j n) (λp v=>⟨_,JC c p v,J2.refl _⟩) i x (by simpa using u)
end
section
open Go.Sort Go.Proofs Go.Shelf
theorem Q8L{κ:Type}{lt:κ->κ->Bool}(pos:κ->Nat)(h:∀i j,lt i j=true↔pos i<pos j):SWO lt:=by
 have c : ∀i j,lt i j=false↔pos j<=pos i:=by
  intro i j;have:=h i j
  cases hh:lt i j with
  |true=>rw[hh]at this;simp at this⊢;omega
  |false=>rw[hh]at this;simp at this⊢;omega
 refine⟨λx=>(c x x).2 (di _),λx y z b a=>?_,λx y z b a=>?_⟩
 .rw [h]at b a⊢;omega
 .rw [c]at b a⊢;omega
section
variable {α:Type}[aN α]
end
end
section
variable {R:ξ}{e:U5}{a:Act}
theorem Qe.upd_le{x:ai}{c:Prop}(h:Qe P C nt R η e s a w o {v:=x,upd:=some (id,ob),cond:=c})(hle:J2 ob ob'):Qe P C nt R η e s a w o {v:=x,upd:=some (id,ob'),cond:=c}:=by
 obtain⟨v,u,m,g⟩:=h;refine⟨v,u,m,?_⟩
 have b:∀q i,SR.sto {v:=x,upd:=some (id,q),cond:=c} o.dst s i=if i=id then some q else s i:=by
  intro q i;unfold SR.sto
  simp
 have r:=g.conv (R':=SR.rng {v:=x,upd:=some (id,ob'),cond:=c} o.dst R) (e':=SR.env {v:=x,upd:=some (id,ob'),cond:=c} o.dst e) (s':=SR.sto {v:=x,upd:=some (id,ob'),cond:=c} o.dst s) (λi=>i)
  (λt=>by rw[RB];exact Z5.refl _) (λi l d=>by
   rw[Rs];rw[b]at d⊢
   split at d
   .grind
   .rename_i f;exact⟨l,by rw[an f];exact d,J2.refl _⟩) (λi j _ _ h=>h) (λt i d=>g.er t i d) (λi l d=>by
   rw[b]at d;split at d
   .rename_i f
    cases d
    have:=g.sr i ob (by rw[b,av f])
    exact⟨this.1,λj p=>this.2 j (hle.2.2 j p)⟩
   .rename_i f
    exact g.sr i l (by rw[b,an f];exact d)) (λi d=>⟨rfl,by
   obtain⟨v,n⟩:=dS.1 d;exact(g.pn i v n).2⟩)
 exact r
theorem sS(hL:Qa P L){c:Prop}(hk:Ql ds k=rE {v:=.any,upd:=some (id,ob')})(hc:c)(hle:J2 ob ob')(hdo:(QM nt (IT ops k)&&(Ze ops (No L ops ds e s k) (IT ops k)==some true))=true:=by kernel_rfl)(hr:ZD L false (No L ops ds e s k) (OF L ops ds e s k) (IT ops k)=some {v:=.any,upd:=some (id,ob),cond:=c}:=by kernel_rfl):J9 P C nt L ops ds e s k:=by
 unfold J9;rw[hk]
 simp only[dc,eY]at hdo;have f:∀t x y,(IT ops k).op=.store t x y->(IT ops k).dst=none:=by
  intro t x y i;have:=hdo.1
  simp only[QM,i,dc]at this
  grind
 refine Jn hdo.1 hdo.2 λR η n p a w l g j h=>?_
 have b:=(uL (L:=L) (e:=J0 L ops ops.toList ds e s k) (s:=QC L ops ops.toList ds e s k) false (IT ops k) l g).trans hr;exact(tM hL h false _ (λx m=>YO hdo.1 x m) b hc (λd o j=>absurd rfl j) f).upd_le hle
theorem Z9G(hL:Qa P L)(hT:Vj L t te){y:Operand}{m:Nat}{f g:Δ}(hk:Ql ds k=rE {v:=.v (.c (.own d)),new:=some (.arr te.size (n+m) (Qu n f g))})(hop:(IT ops k).op=.call {callee:=.builtin .append,args:= #[x,y],argTypes:= #[t,t]})(hm:0<m)(hlim:n+m<=Y2)(hgl:∀j,j<m->(g j).length=te.size)(hfl:∀j,j<n->(f j).length=te.size)(hdo:(QM nt (IT ops k)&&(Ze ops (No L ops ds e s k) (IT ops k)==some true)&&(IT ops k).dst==some d&&Nat.ble te.bytes 8192&&te.zero.length==te.size)=true:=by kernel_rfl)(hx:Y3 (No L ops ds e s k) x=.v (.c (.fl n f)):=by kernel_rfl)(hy:WM (OF L ops ds e s k) (Y3 (No L ops ds e s k) y)=some (m,g):=by kernel_rfl):J9 P C nt L ops ds e s k:=by
 unfold J9;rw[hk]
 simp only[dc,eY]at hdo;obtain⟨⟨⟨⟨z,F⟩,q⟩,H⟩,J⟩:=hdo
 obtain⟨N,M,G,i,r⟩:=hT;refine Jn z F λR η u A a w B o I p=>?_
 have D:x∈(IT ops k).op.operands.toList:=by rw[hop];simp[Op.operands,Call.operands]
 have b:y∈(IT ops k).op.operands.toList:=by rw[hop];simp[Op.operands,Call.operands]
 have l:VV A te.size m (Y3 u x)=some ([],n,f,∀j,j<n->(f j).length=te.size):=by
  rw[B x D,hx];simp only[VV]
  grind
 have h:WM A (Y3 u y)=some (m,g):=by rw[B y b,ql (o y b)];exact hy
 exact Sz hL p q (YO z d q) (I d q (by simp)) hop G i r h l hfl (mJ H) J hlim hgl
end
section
open Go.ChangeShapes Go.WideShapes Go.ChangeAt Go.RowKit
end
@[reducible] def ow (n:Nat):ai:=.v (.c (.own n))
@[reducible] def pt (n:Nat):ai:=.v (.c (.ptr n 0))
@[reducible] def bx (l:List CV):Obj:=.box false l
theorem IZ(Fm:Fr P L C pins)(h:Kn C nt E' S' K)(hq:(pins.all (λi=>J1 [] i==i),E'.map (λp=>lk E p.1),S'.map (λp=>ls S (J1 [] p.1)),Yr (S'.map λp=>J1 [] p.1))=(true,E'.map (λp=>p.2.ren (J1 [])),S'.map (λp=>some (p.2.ren (J1 []))),true):=by kernel_rfl):Kn C nt E S K:=tu Fm E' S' hq h
theorem z4(Fm:Fr P L C pins)(ρ:List (Nat×Nat))(h:Kn C nt E' S' K)(hp:pins.all (λi=>J1 ρ i==i)=true:=by kernel_rfl)(hE:E'.map (λp=>lk E p.1)=E'.map (λp=>p.2.ren (J1 ρ)):=by kernel_rfl)(hS:S'.map (λp=>ls S (J1 ρ p.1))=S'.map (λp=>some (p.2.ren (J1 ρ))):=by kernel_rfl)(hinj:Yr (S'.map λp=>J1 ρ p.1)=true:=by kernel_rfl):Kn C nt E S K:=gR Fm ρ E' S' hp hE hS hinj h
theorem v7(Fm:Fr P L C pins)(hq:(Jr L (lk E) (ls S) fn.results.toList,S'.map (λp=>ls S p.1))=(some r,S'.map (λp=>some p.2)):=by kernel_rfl):Kn C nt E S (Wu P fn C r S' .ret):=Zq Fm hq
section
variable {e:U5}
theorem uz(hspec:J7 P f args Si r So)(hcall:∀ args w,(callFunc f args).run P w=.ok (.enter f args) w)(m:List (Nat×Nat))(hk:Ql ds k=cE m [] r Si So:=by rfl)(hq:(Go.Ab.callB ops nt (No L ops ds e s k) (IT ops k) f m r Si So,Si.map (fun p=>QC L ops ops.toList ds e s k (J1 m p.1)),
   (Go.Ab.callXs (IT ops k)).toList.all (Qt (Qs (IT ops k)++Qk ops (IT ops k)))&&args.all ai.noSem,(Go.Ab.callXs (IT ops k)).toList.map (Y3 (No L ops ds e s k)))
   = (true,Si.map (λp=>some (p.2.ren (J1 m))),true,args.map (ai.ren (J1 m))):=by kernel_rfl):J9 P C nt L ops ds e s k:=Z9I hspec hcall m hk hq
end
section
variable {e:U5}
theorem YU.p{y:ai}(hx:Qt rd x=true:=by kernel_rfl)(hle:Y3 e x=y.ren m:=by kernel_rfl)(hs:y.noSem=true:=by kernel_rfl):YU C nt e s Si m rd ids x y:=Rz (Z5.of_eq hle) hx hs
end
section
open Go.Maps (Keyed)
open Go.WideElems (Fit rd rg pl rd_val elemAt)
open Go.ChangeMaps Go.MapKept
def Z4r(ks:θ):DataW Unit:=ks.foldl (λD k=>D.put (.int .i64 k) (.lit (.bool true))) (.map [])
def KG(P:Program)(kT eT:TypeId)(ks:θ)(w:World)(_:ξ)(v:Value):Prop:=∃b,v=.map (some b)/\w.ownsMap P kT (plainElem P eT) b ks.length (Z4r ks)
theorem Z4q(v:Value):BS (KG P kT eT ks) v:=by
 intro w m X X' _ h d;obtain⟨b,rfl,i,c,g,f,j,l⟩:=d
 exact⟨b,rfl,i,c,(h b (by simp[Y9])).trans g,f,j,l⟩
end
section
variable {R:ξ}{e:U5}{a:Act}
theorem jC{n:Int}(h:aQ w X η C v (vi n)):v=.int .i64 n:=by
 cases h with|v _ _ hh=>cases hh with|c _ _ hh=>cases hh with|d _ _ hh=>cases hh;rfl
theorem Q9G(h:aK C nt R η e s a w)(hd:o.dst=some d)(hdn:d<nt)(hR:¬ R d){p:World->ξ->Value->Prop}(hrun:(execOp a.eval o).run P w=.ok (.value v) w')(hstep:aM (fun _=>False) w w')(hone:v.oneCell'=true)(hv:∀ b,b ∈ Y9 v->w.heap.size<=b)(hob:∀ X' η',db w' X' η' C v (.ext p)):
  Qe P C nt R η e s a w o {v:=.v (.c (.own d)),new:=some (.ext p)}:=by
 have q:=JA (C:=C) (s:=s) (η:=η) {v:=.v (.c (.own d)),new:=some (.ext p)} o.dst v (λ_=>False) hstep (λb f=>f.elim) (λ_ _ _ _ b f=>.inl (hv b f)) (λk o i=>by cases i);refine⟨v,w',.inl hrun,h.step o.dst (λx n=>by rw[hd]at n;cases n;exact hdn) _ _ _ (λ_=>False) hstep (λb f=>f.elim) ?_ (λk o i=>by cases i) ?_⟩
 .intro r dd l g
  cases l
  rw[hd]at g;cases g
  exact⟨hR,rfl,by simp[Obj.refs],hob _ _,λb f=>.inl (hv b f)⟩
 .intro _
  refine⟨.v _ _ (.c _ _ (.own _ _ (by simp[SR.eta,hd]) hone)),λj m=>?_⟩;simp[ai.refs,TV.refs,CV.refs]at m
  exact .inr ⟨by simp,by rw[hd,m]⟩
theorem IP(hk:Ql ds k=rE {v:=.v (.c (.own d)),new:=some (.ext (KG P kT eT []))})(hop:(IT ops k).op=.makeMap t none)(hdo:(QM nt (IT ops k)&&(Ze ops (No L ops ds e s k) (IT ops k)==some true)&&(IT ops k).dst==some d)=true:=by kernel_rfl):J9 P C nt L ops ds e s k:=by
 unfold J9;rw[hk]
 simp only[dc,eY]at hdo;obtain⟨⟨i,j⟩,h⟩:=hdo
 refine Jn i j λR η n o a w p l m g=>?_
 refine Q9G g h (YO i d h) (m d h (by simp)) (v:=.map (some w.heap.size)) (w':=w.alloc (.map #[] 0)) ?_ (aM.alloc _ w _) rfl (λb f=>by simp[Y9]at f;omega) λX' η'=>?_
 .simp [execOp,hop,Instr.makeMap]
 .refine .ext _ _ ⟨_,rfl,World.ownsMap_made w P kT _⟩ (Z4q _) λb f=>?_
  simp only[Y9,dI]at f;subst f
  show w.heap.size<(w.heap.push _).size;rw[nI];omega
end
section
open Go.Sort Go.Proofs Go.Shelf Go.Maps
end
def zw(w:World):World:= {w with drawn:=0}
def WN(P:Program)(f:Nat)(args:List ai)(S:ι)(r:ai)(S' : ι):Prop:=
 ∀(w:World) (X:ξ) (η:Nat->Value) (vs:Ξ),XL w X->(∀b,dV (ls S) η b->X b) ->
  (∀i o,ls S i=some o->db w X η (Qh S (zw w) X η) (η i) o)->(∀i j b,ls S i≠none->ls S j≠none->b∈Y9 (η i)->b∈Y9 (η j)->i=j) ->
  vs.size=args.length->(∀j,j<args.length->aQ w X η (Qh S (zw w) X η) (vs.getD j undef) (args.getD j .any)) ->
  Calls P f vs w λe w'=>∃v η',e=.returned v/\eW (Qh S (zw w) X η) r S' v η' w'
theorem py(h:∀b,dV (ls S) η b->X b):XS (Qh S (zw w) X η) (ls S) η=X:=PT h
theorem Z9R(hm:P.follows .mixedOrders=true)(hL:Qa P L)(hf:P.funcs[f]?=some fn)(hb:fn.body=some c)(hn0:Nat.ble args.length fn.ntmps=true)(h:∀C,C.w0.drawn=0->Fr P L C (S.map (·.1))->AW P C fn.ntmps c (JN args) S (Wu P fn C r S')):WN P f args S r S':=by
 have F:args.length<=fn.ntmps:=mJ hn0;intro w X η p q g n l x j
 have D:(Qh S (zw w) X η).Ok:=⟨λb ⟨i,o,h1,_,h2⟩=>⟨i,o,h1,h2⟩,λb hb=>g b hb,q.lt,q.gl⟩;refine calls_of_wp hf hb (h (Qh S (zw w) X η) rfl ⟨hm,hL,λi d=>?_⟩ (λ_=>True) η _ w ⟨D,rfl,?_,λt=>?_,λ_ _ _=>trivial,λi o d=>?_,λ_ _ _=>⟨trivial,λ_ _=>trivial⟩,l,λi o b d m=>?_,⟨rfl,rfl,rfl,di _,λ_ _ _=>rfl,dW _⟩,λi v d=>⟨?_,trivial⟩⟩)
 .simp only[Qh]at d
  split at d
  .rename_i A
   obtain⟨o,u⟩:=mu.1 A;obtain⟨H,G,z,_⟩:=ll.1 u
   rw[z];simp
  .exact absurd rfl d
 .simp;omega
 .rw [py g,wz]
  by_cases ht:t<args.length
  .have B:(p++Array.replicate (fn.ntmps-p.size) undef).getD t undef=p.getD t undef:=by
    have:t<p.size:=by omega
    simp[this,io,hU]
   simp only[B];exact j t ht
  .rw [aY,iO (by omega)]
   exact .any _
 .rw [py g];exact n i o d
 .cases hro:o.ro with
  |true=>exact .inl ⟨rfl,⟨i,o,d,m⟩⟩
  |false=>exact .inr (.inl ⟨i,o,d,hro,m⟩)
 .simp only[Qh]at d
  split at d
  .cases d;rfl
  .cases d
section
variable {e:U5}
theorem aK.zw{R:ξ}{a:Act}(h:aK C nt R η e s a w)(hz:C.w0.drawn=0):aK C nt R η e s a (Go.Ab.zw w):=by
 have c:QP w (Go.Ab.zw w) (XS C s η) (XS C s η):=λb _ f=>⟨rfl,f⟩
 exact⟨h.ok,h.df,h.sz,λt=>(h.ev t).mono c λ_ _=>rfl,h.er,λi o d=>(h.st i o d).mono c (λ_ _=>rfl) λ_ _=>rfl,h.sr,h.ds,h.ow,
  ⟨h.fr.os,h.fr.tape,h.fr.output,h.fr.size,h.fr.block,by rw[hz];exact dW _⟩,h.pn⟩
theorem Q8W(hz:C.w0.drawn=0)(hcall:∀args w,(callFunc f args).run P w=.ok (.enter f args) w)(hop:o.op=.call {callee:=.value fx,args:=xs,argTypes:=tys})(hfx:Y3 e fx=.v (.c (.clo f [])))(hrf:Qt (Qs o++Qk ops o) fx=true)(hspec:WN P f args Si r So)(hlen:xs.size=args.length)(m:Nat->Nat)(extra:υ)(hargs:∀j,j<args.length->YU C nt e s Si m (Qs o++Qk ops o) (WA e o++(Si.map (λp=>m p.1)++extra)) (xs.toList.getD j (.const undef)) (args.getD j .any))(hsi:∀p∈Si,∃o1,s (m p.1)=some o1/\J2 o1 (p.2.ren m))(hchk:WD m r Si So=true)(hdo:QM nt o=true)(hg:Ze ops e o=some true):WE P C nt ops o (qb ops o e m extra r Si So) e s:=by
 intro R η e0 Y a w n h N x K Q hK;have hw:=UE (e:=e) x (λt ht=>n t (dv.2 (.inr ht))) hg
 rw[av hw];have G:=(K3 x fx).1
 rw[ZL n hrf,hfx]at G;have B:=BJ G
 have J:=MG (w:=w) hop B hcall;have d:∀p∈Si,∃o1,Y (m p.1)=some o1/\J2 o1 (p.2.ren m):=by
  intro p Z;rw[h (m p.1) (dv.2 (.inr (dv.2 (.inl (eF.2 ⟨p,Z,rfl⟩)))))]
  exact hsi p Z
 simp only[WD,dc]at hchk;have q:=hchk
 obtain⟨⟨⟨⟨⟨⟨⟨⟨⟨c1,c2⟩,c3⟩,c4⟩,c5⟩,c6⟩,c7⟩,c8⟩,c9⟩,a5⟩:=hchk;have D:=x.zw hz
 have I:=x.xl;have H:∀i z,ls Si i=some z -> z.noSem=true:=λi z g=>en.1 c7 _ (y6 g)
 have O:=hspec w (XS C Y η) (λi=>η (m i)) (xs.map a.eval++(([]:υ).map η).toArray) I
  (λb ⟨i,z,g,hib⟩=>by obtain⟨o1,A,_⟩:=d _ (y6 g);exact .inr ⟨m i,o1,A,hib⟩)
  (λi z g=>by
   obtain⟨o1,A,U⟩:=d _ (y6 g);exact(db.unren (U.1 _ _ _ _ _ (x.st _ o1 A))).ctx (H i z g))
  (λi j b g u M W=>by
   obtain⟨oi,g⟩:=dS.1 g;obtain⟨oj,u⟩:=dS.1 u
   obtain⟨o1,A,_⟩:=d _ (y6 g);obtain⟨o2,h2,_⟩:=d _ (y6 u)
   have F:m i=m j:=x.ds _ _ b (by rw[A];simp) (by rw[h2];simp) M W;have n3:=Up c3
   rw[lX]at n3;exact FJ (ρ:=m) n3.2.1 (by rw[g];simp) (by rw[u];simp) F)
  (by simp[hlen])
  (λj u=>by
   have V : j<xs.size:=by omega
   have e1:(xs.map a.eval++(([]:υ).map η).toArray).getD j undef=a.eval (xs.toList.getD j (.const undef)):=by
    simp[aY,V]
   rw[e1];exact(hargs j u R η e0 Y a (Go.Ab.zw w) n h D).mono (λb _ hX=>⟨rfl,hX⟩) λ_ _=>rfl)
 unfold Oper.wp;rw[J]
 show Calls P f _ w _;refine O.mono λen w' hh=>?_
 obtain⟨v,η',rfl,hb⟩:=hh;have l:WD m r Si So=true:=by simp only[WD,dc];exact q
 obtain⟨η1,T⟩:=D.call (YO hdo) l d N hb;exact hK η1 _ w' T
theorem Z9J(hz:C.w0.drawn=0)(hspec:WN P f args Si r So)(hcall:∀args w,(callFunc f args).run P w=.ok (.enter f args) w)(m:List (Nat×Nat))(extra:υ)(xs:List Operand)(hk:Ql ds k=cE m extra r Si So)(hb:Go.Ab.callB ops nt (No L ops ds e s k) (IT ops k) f m r Si So=true)(hsi:Si.map (λp=>QC L ops ops.toList ds e s k (J1 m p.1))=Si.map (λp=>some (p.2.ren (J1 m))))(hxs:(Go.Ab.callXs (IT ops k)).toList=xs)(hargs:Gd C nt (No L ops ds e s k) (OF L ops ds e s k) Si (J1 m) (Qs (IT ops k)++Qk ops (IT ops k)) (WA (No L ops ds e s k) (IT ops k)++(Si.map (λp=>J1 m p.1)++extra)) xs args):J9 P C nt L ops ds e s k:=by
 unfold J9;rw[hk]
 simp only[Go.Ab.callB,dc]at hb;obtain⟨⟨⟨⟨⟨d,n⟩,o⟩,g⟩,i⟩,u⟩:=hb
 obtain⟨t,b⟩:=Mo d;obtain⟨q,h⟩:=(hxs ▸ hargs).spec
 exact Q8W hz hcall b (xM n) o hspec (by simpa using q) (J1 m) extra (λj l=>h j l) (λp c=>⟨_,JC hsi p c,J2.refl _⟩) g i (by simpa using u)
theorem Z9M(hz:C.w0.drawn=0)(hspec:WN P f args Si r So)(hcall:∀args w,(callFunc f args).run P w=.ok (.enter f args) w)(m:List (Nat×Nat))(hk:Ql ds k=cE m [] r Si So)(hb:Go.Ab.callB ops nt (No L ops ds e s k) (IT ops k) f m r Si So=true)(hsi:Si.map (λp=>QC L ops ops.toList ds e s k (J1 m p.1))=Si.map (λp=>some (p.2.ren (J1 m))))(hrd:((Go.Ab.callXs (IT ops k)).toList.all (Qt (Qs (IT ops k)++Qk ops (IT ops k)))&&args.all ai.noSem)=true)(hargs:(Go.Ab.callXs (IT ops k)).toList.map (Y3 (No L ops ds e s k))=args.map (ai.ren (J1 m))):J9 P C nt L ops ds e s k:=by
 rw[dc]at hrd;exact Z9J hz hspec hcall m [] _ hk hb hsi rfl (qy hrd.1 hrd.2 hargs)
theorem JO(hz:C.w0.drawn=0)(hspec:WN P f args Si r So)(hcall:∀ args w,(callFunc f args).run P w=.ok (.enter f args) w)(m:List (Nat×Nat))(hk:Ql ds k=cE m [] r Si So:=by rfl)(hq:(Go.Ab.callB ops nt (No L ops ds e s k) (IT ops k) f m r Si So,Si.map (fun p=>QC L ops ops.toList ds e s k (J1 m p.1)),
   (Go.Ab.callXs (IT ops k)).toList.all (Qt (Qs (IT ops k)++Qk ops (IT ops k)))&&args.all ai.noSem,(Go.Ab.callXs (IT ops k)).toList.map (Y3 (No L ops ds e s k)))
   = (true,Si.map (λp=>some (p.2.ren (J1 m))),true,args.map (ai.ren (J1 m))):=by kernel_rfl):J9 P C nt L ops ds e s k:=
 Z9M hz hspec hcall m hk (congrArg (·.1) hq) (congrArg (·.2.1) hq) (congrArg (·.2.2.1) hq) (congrArg (·.2.2.2) hq)
end
section
open Go.Sort Go.Proofs Go.Shelf Go.Maps
end
def K5(s:ByteArray)(i:Int):Int:=(((s[i.toNat]?).getD 0).toNat:Nat)
def J3(a b:ByteArray):Bool:=a.toList==b.toList
def YA(a b:ByteArray):Bool:=Op.bytesLess a.toList b.toList
def zD(op:BinOp)(a b:ByteArray):π:=
 match op with
 |.eql=>some (J3 a b)
 |.neq=>some (!J3 a b)
 |.lss=>some (YA a b)
 |.leq=>some (YA a b||J3 a b)
 |.gtr=>some (!(YA a b||J3 a b))
 |.geq=>some (!YA a b)
 |_=>none
section
variable {e:U5}
theorem uF(op:BinOp)(t:TypeId)(x y:Operand)(a b:ByteArray)(w:World):(eqGuard op t x y (.string a) (.string b)).run P w=.ok () w:=by
 unfold eqGuard;split<;>rfl
theorem Z1c(op:BinOp)(t:TypeId)(a b:ByteArray){c:Bool}(h:zD op a b=some c)(w:World):(binOp op t (.string a) (.string b)).run P w=.ok (.bool c) w:=by
 cases op<;>simp only[zD,ld,reduceCtorEq]at h<;>subst h<;>simp[binOp,Op.stringOp,J3,YA]
def Un(ops:Array Oper)(nt:Nat)(e:U5)(o:Oper)(x y:Operand):Bool:=Qt (Qs o++Qk ops o) x&&Qt (Qs o++Qk ops o) y&&QM nt o&&(Ze ops e o==some true)
theorem Zg{op:BinOp}{y:Operand}{b:ByteArray}{c:Bool}(hk:Ql ds k=sE (vb c))(hop:(IT ops k).op=.binOp op t x y t')(hc:zD op a b=some c)(hb:Un ops nt (No L ops ds e s k) (IT ops k) x y=true:=by kernel_rfl)(hx:Y3 (No L ops ds e s k) x=.v (.c (.d (.str a))):=by kernel_rfl)(hy:Y3 (No L ops ds e s k) y=.v (.c (.d (.str b))):=by kernel_rfl):J9 P C nt L ops ds e s k:=by
 unfold J9;rw[hk]
 simp only[Un,dc,eY]at hb;obtain⟨⟨⟨j,m⟩,n⟩,l⟩:=hb
 refine Kd rfl n l λR η o q p w g f=>?_
 have i:=(K3 f x).1;rw[ZL g j,hx]at i
 have i:=Gl i;have h:=(K3 f y).1
 rw[ZL g m,hy]at h;have h:=Gl h
 exact⟨_,by simp only[execOp,hop,eX,i,h,uF,Z1c op t a b hc,fh,fB],Rc _ _⟩
theorem Yg{y:Operand}{m:Int}(hk:Ql ds k=sE (.v (.c (.d (.int .u8 (K5 a m))))))(hop:(IT ops k).op=.index t x y)(hc:0<=m/\m<((a.size:Nat):Int))(ht:P.underlying t=some .string:=by kernel_rfl)(hb:Un ops nt (No L ops ds e s k) (IT ops k) x y=true:=by kernel_rfl)(hx:Y3 (No L ops ds e s k) x=.v (.c (.d (.str a))):=by kernel_rfl)(hy:ZY (Y3 (No L ops ds e s k) y)=some m:=by kernel_rfl):J9 P C nt L ops ds e s k:=by
 unfold J9;rw[hk]
 simp only[Un,dc,eY]at hb;obtain⟨⟨⟨j,p⟩,q⟩,l⟩:=hb
 refine Kd rfl q l λR η r z u w f b=>?_
 have g:=(K3 b x).1;rw[ZL f j,hx]at g
 have g:=Gl g;rw[<-ZL f p]at hy
 obtain⟨A,i⟩:=BN b hy;have o:m.toNat<a.size:=by omega
 have h:a[m.toNat]?=some a[m.toNat]:=by
  grind
 have n:K5 a m=((a[m.toNat].toNat:Nat):Int):=by unfold K5;rw[h];rfl
 rw[n];refine⟨.int .u8 (a[m.toNat].toNat:Nat),?_,WY _ _ _⟩
 simp[execOp,hop,g,i,Instr.index,asIntOf,ef ht,hc.1,h]
end
theorem qv{α:Type}[aN α]{l:List α}(h:lo+n<=l.length):Is n (λj=>LF l (lo+j)) ((l.drop lo).take n):=by
 have b:((l.drop lo).take n).length=n:=by rw[fE,lu];omega
 refine rC _ b λi c=>?_
 have e:gl l (lo+i)=gl ((l.drop lo).take n) i:=by simp[gl,aY,c]
 show aN.cells (gl l (lo+i))=_;rw[e]
section
open Go.MapKept
def MP{α:Type}[aN α](gs:List (Int×List α)):aH:=.mp gs.length (λi=>(gs.getD i (0,[])).1) λi=>DL (gs.getD i (0,[])).2
def BY{α:Type}[aN α](w:World)(X:ξ)(x:MapEntry)(e:Int×List α):Prop:=x.key=.int .i64 e.1/\aA w X x.val (DL e.2)
def Zu{α:Type}[aN α](left:List (Int×List α))(cur:Option (Int×List α))(w:World)(X:ξ)(v:Value):Prop:=
 ∃(r b:Nat) (es:Array MapEntry) (clock since:Nat) (seen:Array Nat) (c0:Nat),v=.pointer (some ⟨r,0,none⟩)/\w.heap[r]?=some (.mapIter (some b) since seen c0)/\¬X b/\w.heap[b]?=some (.map es clock)/\Stamped es clock/\since<=c0/\since<=clock/\(∀x∈es.toList,x.born<since) /\
  (leftOf es seen).size=left.length/\(∀(i:Nat) (x:MapEntry) (e:Int×List α),(leftOf es seen)[i]?=some x->left[i]?=some e->BY w X x e) /\
  ∀e,cur=some e->∃x∈es.toList,∃seen' : Array Nat,seen=seen'.push x.born/\c0=clock/\BY w X x e
theorem BY.mono{α:Type}[aN α]{x:MapEntry}{e:Int×List α}(h:BY w X x e)(hk:QP w w' X X'):BY w' X' x e:=⟨h.1,h.2.mono hk⟩
theorem xJ{α:Type}[aN α]{left:List (Int×List α)}{cur:Option (Int×List α)}(v:Value):BS (Zu left cur) v:=by
 intro w O X X' g J h;obtain⟨r,b,z,d,c,f,A,rfl,q,p,o,G,N,I,M,D,H,j⟩:=h
 have n:=g b (J4 o) p;exact⟨r,b,z,d,c,f,A,rfl,(J r (by simp[Y9])).trans q,n.2,n.1.trans o,G,N,I,M,D,λi x e l m=>(H i x e l m).mono g,λe m=>by
  obtain⟨x,l,F,B,t,u⟩:=j e m;exact⟨x,l,F,B,t,u.mono g⟩⟩
theorem Z5k{α:Type}[aN α](left:List (Int×List α))(cur:Option (Int×List α)):J2 (.ext (Zu left cur)) (.ext (Zu left none)):=by
 refine⟨λw X η C v o=>?_,rfl,λi u=>by cases u⟩
 cases o with
 |ext _ _ h1 h2 h3=>
  obtain⟨r,b,n,d,c,f,p,e,t,h,m,g,l,q,A,j,x,_⟩:=h1;exact .ext _ _ ⟨r,b,n,d,c,f,p,e,t,h,m,g,l,q,A,j,x,λe z=>by cases z⟩ (xJ _) h3
section
variable {R:ξ}{e:U5}{a:Act}
theorem IA(h:aK C nt R η e s a w)(hd:o.dst=some d)(hdn:d<nt)(hR:¬ R d){p:World->ξ->Value->Prop}(hrun:(execOp a.eval o).run P w=.ok (.value v) w')(hstep:aM (fun _=>False) w w')(hone:v.oneCell'=true)(hv:∀ b,b ∈ Y9 v->w.heap.size<=b)(hob:∀ X' η',QP w w' (XS C s η) X' -> db w' X' η' C v (.ext p)):
  Qe P C nt R η e s a w o {v:=.v (.c (.own d)),new:=some (.ext p)}:=by
 have q:=JA (C:=C) (s:=s) (η:=η) {v:=.v (.c (.own d)),new:=some (.ext p)} o.dst v (λ_=>False) hstep (λb f=>f.elim) (λ_ _ _ _ b f=>.inl (hv b f)) (λk o i=>by cases i);refine⟨v,w',.inl hrun,h.step o.dst (λx n=>by rw[hd]at n;cases n;exact hdn) _ _ _ (λ_=>False) hstep (λb f=>f.elim) ?_ (λk o i=>by cases i) ?_⟩
 .intro r dd l g
  cases l
  rw[hd]at g;cases g
  exact⟨hR,rfl,by simp[Obj.refs],hob _ _ q,λb f=>.inl (hv b f)⟩
 .intro _
  refine⟨.v _ _ (.c _ _ (.own _ _ (by simp[SR.eta,hd]) hone)),λj m=>?_⟩;simp[ai.refs,TV.refs,CV.refs]at m
  exact .inr ⟨by simp,by rw[hd,m]⟩
theorem Z9j{α:Type}[aN α]{gs:List (Int×List α)}(h:aQ w X η C v (.v (.c (.d (MP gs))))):
  ∃(b:Nat) (es:Array MapEntry) (clock:Nat),v=.map (some b)/\¬X b/\w.heap[b]?=some (.map es clock)/\Stamped es clock/\es.size=gs.length/\∀(i:Nat) (x:MapEntry) (e:Int×List α),es[i]?=some x->gs[i]?=some e->BY w X x e:=by
 cases h with|v _ _ h=>cases h with|c _ _ h=>cases h with|d _ _ h=>
 unfold MP at h
 cases h with|mp b es clock _ _ Zx _ h1 h2 h3 h4 h5 h6=>
 refine⟨b,es,clock,rfl,h1,h2,h3,h4,λi x e j g=>?_⟩;obtain⟨l,o⟩:=lH.1 g
 obtain⟨p,m⟩:=h5 i l;have n:gs.getD i (0,[])=e:=by rw[aY,g];rfl
 have f:=h6 i l;rw[m]at j
 cases j
 simp only[n]at f⊢;exact⟨rfl,f⟩
theorem OG{α:Type}[aN α]{gs:List (Int×List α)}(hk:Ql ds k=rE {v:=.v (.c (.own d)),new:=some (.ext (Zu gs none))})(hop:(IT ops k).op=.range t x)(ht:P.underlying t=some (.map kT eT):=by kernel_rfl)(hdo:(QM nt (IT ops k)&&(Ze ops (No L ops ds e s k) (IT ops k)==some true)&&(IT ops k).dst==some d)=true:=by kernel_rfl)(hx:Y3 (No L ops ds e s k) x=.v (.c (.d (MP gs))):=by kernel_rfl):J9 P C nt L ops ds e s k:=by
 unfold J9;rw[hk]
 simp only[dc,eY]at hdo;obtain⟨⟨u,F⟩,p⟩:=hdo
 refine Jn u F λR η T V a w O I J j=>?_
 have N:x∈(IT ops k).op.operands.toList:=by rw[hop];simp[Op.operands]
 have B:=(K3 j x).1;rw[O x N,hx]at B
 obtain⟨b,n,f,ev,H,o,z,D,G⟩:=Z9j B;refine IA j p (YO u d p) (J d p (by simp)) (v:=.pointer (some ⟨w.heap.size,0,none⟩)) (w':=w.alloc (.mapIter (some b) f #[] f)) ?_ (aM.alloc _ w _) rfl (λb M=>by simp[Y9]at M;omega) λX' η' h=>?_
 .simp [execOp,hop,ev,run_range_map w t kT eT b n f ht o]
 .have l:=h b (J4 o) H
  have g:leftOf n #[]=n:=by simp[leftOf]
  refine .ext _ _ ⟨w.heap.size,b,n,f,f, #[],f,rfl,by show(w.heap.push _)[w.heap.size]?=_;exact Array.getElem?_push_size,l.2,l.1.trans o,z,di _,di _,z.1,by rw[g,D],λi y q A r=>?_,λq r=>by cases r⟩ (xJ _) λU m=>?_
  .rw [g]at A
   exact(G i y q A r).mono h
  .simp only[Y9,dI]at m
   subst m;show w.heap.size<(w.heap.push _).size
   rw[nI];omega
theorem Z9H{α:Type}[aN α]{gs:List (Int×List α)}{q:Int×List α}(hk:Ql ds k=rE {v:=.t [.c (.d (.int .i64 q.1)),.c (.d (DL q.2))]})(hop:(IT ops k).op=.entry x)(hdo:(QM nt (IT ops k)&&(Ze ops (No L ops ds e s k) (IT ops k)==some true))=true:=by kernel_rfl)(hx:Y3 (No L ops ds e s k) x=.v (.c (.own id)):=by kernel_rfl)(hs:QC L ops ops.toList ds e s k id=some (.ext (Zu gs (some q))):=by kernel_rfl):J9 P C nt L ops ds e s k:=by
 unfold J9;rw[hk]
 simp only[dc,eY]at hdo;obtain⟨A,H⟩:=hdo
 refine Jn A H λR η W T a w U o hn g=>?_
 have G:x∈(IT ops k).op.operands.toList:=by rw[hop];simp[Op.operands]
 have i:=(K3 g x).1;rw[U x G,hx]at i
 have i:=Vm i;have p:T id=some (.ext (Zu gs (some q))):=(o x G id (by rw[hx];simp[ai.refs,TV.refs,CV.refs])).trans hs
 have h:=g.st id _ p;generalize hu:η id=u at h
 cases h with
 |ext _ _ hp _ _=>
  obtain⟨r,b,B,z,f,F,D,rfl,N,Y,J,I,g5,Z,g7,g8,g9,l⟩:=hp;obtain⟨y,V,O,rfl,rfl,m,n⟩:=l q rfl
  refine Zm g (YO A) (v:=.tuple #[y.key,y.val]) ?_ ?_ (by simp[ai.refs,TV.refs,CV.refs])
  .simp [execOp,hop,i,hu,run_entry_at w r b f O B D y N J V ((stamped_iff B D).1 I).2.1]
  .refine .t _ _ rfl λj M=>?_
   have:j=0\/j=1:=by simp at M;omega
   rcases this with rfl|rfl
   .exact .c _ _ (.d _ _ (by show aA w _ y.key _;rw[m];exact .int _ _))
   .exact .c _ _ (.d _ _ n)
end
theorem IQ{es:Array MapEntry}(hst:Stamped es clock){x:MapEntry}(hx:(leftOf es seen)[i]?=some x):(leftOf es (seen.push x.born)).toList=(leftOf es seen).toList.eraseIdx i:=by
 have c:((leftOf es seen).toList.map (·.born)).Nodup:=by
  unfold leftOf;rw[oC]
  exact(List.filter_sublist.map _).nodup hst.2.1
 have d:(leftOf es (seen.push x.born)).toList=(leftOf es seen).toList.filter λy=>y.born != x.born:=by
  unfold leftOf;rw[oC,oC,List.filter_filter]
  grind
 rw[d];have b : (leftOf es seen).toList[i]?=some x:=by simpa using hx
 generalize (leftOf es seen).toList=l at c b
 clear hx d
 induction l generalizing i with
 |nil=>simp at b
 |cons y l ih=>
  rw[eP,mB]at c
  cases i with
  |zero=>
   simp at b
   subst b;rw[List.eraseIdx_zero,iX,an (by simp)]
   rw[List.tail_cons];refine mg.2 λz f=>?_
   grind
  |succ i=>
   grind
def Xc{α R:Type}(gs:List α)(stop:Option R)(go:α->List α->Option R):Option R:=
 open Classical in
 match gs with
 |[]=>stop
 |g::l=>if h:∃r,∀i (hi:i<(g::l).length),go (g::l)[i] ((g::l).eraseIdx i)=some r then some h.choose else none
theorem Z4a{α R:Type}{gs:List α}{stop:Option R}{go:α->List α->Option R}{r:R}(h:Xc gs stop go=some r)(hg:gs=[]):stop=some r:=by subst hg;exact h
theorem Z4d{α R:Type}{gs:List α}{stop:Option R}{go:α->List α->Option R}{r:R}(h:Xc gs stop go=some r){x:α}{l:List α}(hx:∃i,∃hi:i<gs.length,x=gs[i]/\l=gs.eraseIdx i):go x l=some r:=by
 obtain⟨i,hi,rfl,rfl⟩:=hx
 cases gs with
 |nil=>exact absurd hi (fy _)
 |cons g l=>
  unfold Xc at h;simp only at h
  split at h
  all_goals grind
theorem Z4c{α R:Type}{stop:Option R}{go:α->List α->Option R}:Xc [] stop go=stop:=rfl
theorem Z4b{α R:Type}{gs:List α}{stop:Option R}{go:α->List α->Option R}{r:R}(hne:gs≠[])(h:∀i (hi:i<gs.length),go gs[i] (gs.eraseIdx i)=some r):Xc gs stop go=some r:=by
 cases gs with
 |nil=>exact absurd rfl hne
 |cons g l=>
  unfold Xc;simp only
  have b:∃r,∀i (hi:i<(g::l).length),go (g::l)[i] ((g::l).eraseIdx i)=some r:=⟨r,h⟩;rw[lf b]
  have c:=b.choose_spec 0 (by simp)
  grind
theorem IC{α:Type}[aN α]{gs:List (Int×List α)}{id it t5 t6 t7 ty6 ty7:Nat}{p6 p7:String}{af6 af7:Array Edge}(stop:gs=[]->Kn C nt ((t7,vb false)::E) ((it,.ext (Zu gs none))::S) (Q .normal))(go:∀ q l,(∃ i,∃ hi:i<gs.length,q=gs[i]/\l=gs.eraseIdx i)->Kn C nt ((t7,vb true)::E) ((it,.ext (Zu l (some q)))::S) (Q .normal))(hE:lk E t5=.v (.c (.own it)):=by kernel_rfl)(h6:(E.map (·.1)).contains t6=false:=by kernel_rfl)(hn:(Nat.blt t6 nt&&Nat.blt t7 nt && !(t6==t7))=true:=by kernel_rfl):
  AW P C nt (.region id #[{dst:=some t6,op:=.next (.tmp t5) false,type:=ty6,pos:=p6,after:=af6,guard:=none}, {dst:=some t7,op:=.extract (.tmp t6) 0,type:=ty7,pos:=p7,after:=af7,guard:=none}] false) E ((it,.ext (Zu gs none))::S) Q:=by
 simp only[dc,Nat.blt_eq,iE,l9]at hn;obtain⟨⟨n6,n7⟩,e9⟩:=hn
 intro R η a w hc;refine wp_region_list ?_
 have B:ls ((it,.ext (Zu gs none))::S) it=some (.ext (Zu gs none)):=by rw[Qo,av rfl]
 have e5:a.tmps.getD t5 undef=η it:=by have:=hc.ev t5;rw[hE]at this;exact Vm this
 have l6:lk E t6=.any:=by
  unfold lk
  grind
 have a9:=hc.st it _ B;have a8:∀b,b∈Y9 (η it)->dV (ls ((it,.ext (Zu gs none))::S)) η b:=λb hb=>⟨it,_,B,hb⟩
 have f1:∀x,x∈Y9 (η it)->C.M x\/C.w0.heap.size<=x:=λx m=>by
  rcases hc.ow it _ x B m with ⟨h1,_⟩|h1
  .cases h1
  .exact h1
 generalize hu:η it=u at a9
 cases a9 with
 |ext _ _ hp _ hlt=>
 obtain⟨r,b,Z,g,f,d,c0,rfl,g1,g2,g3,g4,g5,g6,g7,g8,g9,_⟩:=hp;have e7:r≠b:=λh=>by rw[h,g3]at g1;cases g1
 have a3:∀ (H:Bool) (W : List (Int×List α)) (V:Option (Int×List α)) (J:World) (G:Ξ) (R1:ξ) (η1:Nat->Value),G.getD 0 undef=.bool H->G.size≠0 ->
   aK C nt R1 η1 (ZN (some t6) .any (lk E)) (ls ((it,.ext (Zu W V))::S)) (a.put (some t6) (.tuple G)) J ->
   Kn C nt ((t7,vb H)::E) ((it,.ext (Zu W V))::S) (Q .normal) ->
   wpList P #[{dst:=some t6,op:=.next (.tmp t5) false,type:=ty6,pos:=p6,after:=af6,guard:=none}, {dst:=some t7,op:=.extract (.tmp t6) 0,type:=ty7,pos:=p7,after:=af7,guard:=none}] Q [{dst:=some t7,op:=.extract (.tmp t6) 0,type:=ty7,pos:=p7,after:=af7,guard:=none}] (a.put (some t6) (.tuple G)) J:=by
  intro H W V J G R1 η1 d0 b8 n kn;refine nC rfl λK hK=>?_
  have hv:(a.put (some t6) (.tuple G)).tmps.getD t6 undef=.tuple G:=by rw[CP a _ _ _ (by rw[hc.sz];intro x m;cases m;exact n6),av rfl]
  have h0:G[0]?=some (.bool H):=by
   have:0<G.size:=Nat.pos_of_ne_zero b8
   rw[hU,iD this]at d0
   grind
  have b7:(execOp (a.put (some t6) (.tuple G)).eval ({dst:=some t7,op:=.extract (.tmp t6) 0,type:=ty7,pos:=p7,after:=af7,guard:=none}:Oper)).run P J=.ok (.value (.bool H)) J:=by
   simp[execOp,Act.eval,hv,Instr.extract,h0]
  refine Dd b7 (hK _ _ ?_);have a4:=n.val (some t7) (λx m=>by cases m;exact n7) (vb H) (.bool H) λ_=>⟨Rc _ _,λj hj=>by cases hj⟩
  have he:SR.env {v:=vb H} (some t7) (ZN (some t6) .any (lk E))=lk ((t7,vb H)::E):=by
   funext t
   simp only[SR.env,ZN];rw[Me]
   grind
  rw[he]at a4;exact kn _ _ _ _ a4
 refine nC rfl λK hK=>?_
 have O:∀ {v:Value} {w' : World},(Instr.next (.pointer (some ⟨r,0,none⟩)) false ty6).run P w=.ok v w' ->
   (execOp a.eval ({dst:=some t6,op:=.next (.tmp t5) false,type:=ty6,pos:=p6,after:=af6,guard:=none}:Oper)).run P w=.ok (.value v) w':=λN=>by
  simp[execOp,Act.eval,e5,hu,N]
 rcases run_next_at (P:=P) w ty6 r b f c0 d Z g g1 g3 g7 g5 with ⟨h0,A⟩|⟨y,hy,J,D,A⟩
 .have c6:gs=[]:=iH (by rw[<-g8,h0])
  refine Dd (O A) (hK _ _ ?_);have n:=hc.val (some t6) (λx m=>by cases m;exact n6) .any (.tuple #[.bool false]) λ_=>⟨.any _,by simp[ai.refs]⟩
  exact a3 false gs none w #[.bool false] R η rfl (by simp) n (stop c6)
 .obtain ⟨i,hi,c5⟩:=eZ hy
  have c2 : i<(leftOf Z d).size:=by simpa using hi
  have T : (leftOf Z d)[i]?=some y:=by rw[iD c2];simpa using c5
  have a2:i<gs.length:=by omega
  have c9:=g9 i y gs[i] T (eG a2);have b2:y∈Z.toList:=by
   have:y∈(leftOf Z d).toList:=hy
   unfold leftOf at this
   grind
  refine Dd (O A) (hK _ _ ?_);have a0:J.heap=w.heap:=by rcases D with rfl|rfl<;>rfl
  have a6:J.heap[r]?=some (.mapIter (some b) f d c0):=by rw[a0];exact g1
  have F:aM (λx=>x=r) w (ChangeMaps.setBlock J r (.mapIter (some b) f (d.push y.born) g)):=by
   refine⟨?_,?_,?_,?_,λx m hn=>?_,?_⟩
   .rcases D with rfl|rfl<;>rfl
   .rcases D with rfl|rfl<;>rfl
   .rcases D with rfl|rfl<;>rfl
   .simp [ChangeMaps.setBlock,a0]
   .exact ((heap_set a6).2 x hn).trans (by rw[a0])
   .rcases D with rfl|rfl
    .exact di _
    .exact iA _
  have b4:r∈Y9 (η it):=by rw[hu];simp[Y9]
  have c4:∀(p:World->ξ->Value->Prop),SR.sto {v:=.any,upd:=some (it,.ext p)} (some t6) (ls ((it,.ext (Zu gs none))::S))=ls ((it,.ext p)::S):=λp=>by
   funext z
   simp only[SR.sto,List.contains_nil,iS,fC];rw[Qo,Qo]
   grind
  have U:SR.eta {v:=.any,upd:=some (it,.ext (Zu (gs.eraseIdx i) (some gs[i])))} (some t6) (.tuple #[.bool true,y.key,y.val]) η=η:=by funext z;simp[SR.eta]
  have hk:=JA (C:=C) (s:=ls ((it,.ext (Zu gs none))::S)) (η:=η) {v:=.any,upd:=some (it,.ext (Zu (gs.eraseIdx i) (some gs[i])))} (some t6) (.tuple #[.bool true,y.key,y.val]) (λx=>x=r) F (λx m=>by subst m;exact a8 _ b4) (λ_ _ N=>by cases N)
   (λk o N=>by cases N;rw[B];simp)
  have n:=hc.step (some t6) (λx m=>by cases m;exact n6) {v:=.any,upd:=some (it,.ext (Zu (gs.eraseIdx i) (some gs[i])))} (.tuple #[.bool true,y.key,y.val]) _ (λx=>x=r) F
   (λx m=>by
    grind)
   (λ_ _ N=>by cases N)
   (λk o N=>by
    cases N
    refine⟨⟨_,B,rfl⟩,rfl,by simp,by simp[Obj.refs],?_⟩;rw[U]at hk⊢
    rw[hu];have a7:=hk b (J4 g3) g2
    have b0:=IQ g4 T;refine .ext _ _ ⟨r,b,Z,g,f,d.push y.born,g,rfl,(heap_set a6).1,a7.2,a7.1.trans g3,g4,g6,g6,g7,?_,λj x q m Y=>?_,λq Y=>?_⟩ (xJ _) λx m=>?_
    .have:=congrArg List.length b0
     grind
    .have I:(leftOf Z (d.push y.born)).toList[j]?=some x:=by simpa using m
     rw[b0,uh]at I;rw[uh]at Y
     split at I
     .rename_i hj
      rw[av hj]at Y;exact(g9 j x q (by simpa using I) Y).mono hk
     .rename_i hj
      rw[an hj]at Y;exact(g9 (j+1) x q (by simpa using I) Y).mono hk
    .cases Y
     exact⟨y,b2,d,rfl,rfl,c9.mono hk⟩
    .simp only[Y9,dI]at m
     subst m;exact fH (J4 g1) F.size)
   (λ_=>⟨.any _,by simp[ai.refs]⟩)
  rw[c4,U]at n;have he:SR.env {v:=.any,upd:=some (it,.ext (Zu (gs.eraseIdx i) (some gs[i])))} (some t6) (lk E)=ZN (some t6) .any (lk E):=rfl
  rw[he]at n;exact a3 true (gs.eraseIdx i) (some gs[i]) _ #[.bool true,y.key,y.val] _ _ rfl (by simp) n (go gs[i] (gs.eraseIdx i) ⟨i,a2,rfl,rfl⟩)
end
section
open Go.MapKept
section
variable {α:Type}[aN α]
def z6(y:Int)(gs:List (Int×List α)):Nat:=gs.findIdx λe=>e.1==y
def gApp(y:Int)(m:List α)(gs:List (Int×List α)):List (Int×List α):=
 match gs[z6 y gs]? with
 |some e=>gs.set (z6 y gs) (e.1,e.2++m)
 |none=>gs++[(y,m)]
theorem KL{β:Type}(y:Int)(gs:List (Int×List β)):(z6 y gs<gs.length/\∃e,gs[z6 y gs]?=some e/\e.1=y)\/(z6 y gs=gs.length/\∀e∈gs,e.1≠y):=by
 unfold z6;rcases eK (gs.findIdx λe=>e.1==y) gs.length with h|h
 .left
  refine⟨h,_,eG h,?_⟩
  grind
 all_goals grind
theorem xa{β:Type}{gs:List (Int×List β)}(hnd:(gs.map (·.1)).Nodup){a b:Int×List β}(ha:gs[i]?=some a)(hb:gs[j]?=some b)(h:a.1=b.1):i=j:=by
 obtain⟨d,ha⟩:=lH.1 ha;obtain⟨c,hb⟩:=lH.1 hb
 exact(ma (h₀:=by simpa using d) (h₁:=by simpa using c) hnd).1 (by simp[ha,hb,h])
def UA(w:World)(X:ξ)(v:Value)(l:List α):Prop:=∀η C,db w X η C v (AO l)
def Yf(b:Nat)(rs:List Value):Ξ:=(Value.map (some b)::(rs++[.slice none 0 0])).toArray
structure eh (gs:List (Int×List α)) (pend:Option Nat) (w:World) (X:ξ) (b:Nat) (rs:List Value) (ents:Array MapEntry) (clock:Nat):Prop where
 heap:w.heap[b]?=some (.map ents clock)
 st:Stamped ents clock
 len:rs.length=gs.length
 nd:(gs.map (·.1)).Nodup
 rows:∀(i:Nat) (e:Int×List α) (v:Value),gs[i]?=some e->rs[i]?=some v->UA w X v e.2
 apart:∀(i j:Nat) (u v:Value) (x:Nat),rs[i]?=some u->rs[j]?=some v->x∈Y9 u->x∈Y9 v->i=j
 off:∀(i:Nat) (v:Value),rs[i]?=some v->b∉Y9 v
 ents:match pend with
  |none=>ents.size=gs.length/\∀(i:Nat) (e:Int×List α) (v:Value),gs[i]?=some e->rs[i]?=some v->∃bo,ents[i]?=some ⟨.int .i64 e.1,v,bo⟩
  |some j=>j<gs.length/\(ents.size=gs.length\/(ents.size+1=gs.length/\j=ents.size))/\∀(i:Nat) (e:Int×List α) (v:Value),i<ents.size->gs[i]?=some e->rs[i]?=some v->∃u bo,ents[i]?=some ⟨.int .i64 e.1,u,bo⟩/\(i≠j->u=v)
def ZC(gs:List (Int×List α))(pend:Option Nat)(w:World)(X:ξ)(us:List Value)(v:Value):Prop:=
 ∃b rs ents clock,us=[.map (some b)]/\v=.agg (Yf b rs)/\eh gs pend w X b rs ents clock
theorem UA.form{l:List α}(h:UA w X v l):∃ad n cap,v=.slice ad n cap/\BL v=Y9 v/\v.oneCell'=true:=by
 have:=h (λ_=>undef) (Qh [] w X λ_=>undef)
 unfold AO at this;generalize l.length=n at this
 cases this with
 |nil ad=>exact⟨_,_,_,rfl,by cases ad<;>rfl,rfl⟩
 |arr=>exact⟨_,_,_,rfl,rfl,rfl⟩
theorem UA.mono{l:List α}(h:UA w X v l)(hk:QP w w' X X')(hb:∀b∈Y9 v,w'.heap[b]?=w.heap[b]?):UA w' X' v l:=
 λη C=>(h η C).mono hk (λ_ _=>rfl) hb
theorem UA.lt{l:List α}(h:UA w X v l){b:Nat}(hb:b∈Y9 v):b<w.heap.size:=
 (h (λ_=>undef) (Qh [] w X λ_=>undef)).lt hb
theorem Wz{b x:Nat}(h1:∀v∈rs,BL v=Y9 v):x∈Y9 (.agg (Yf b rs))↔x=b\/∃v∈rs,x∈Y9 v:=by
 show x∈(Value.map (some b)::(rs++[.slice none 0 0])).flatMap BL↔_;rw[ir,dv,lC,dv,eE,eE]
 constructor
 .rintro (h|⟨v,hv,h⟩|⟨v,hv,h⟩)
  .exact .inl (dI.1 h)
  .grind
  .rw [dI.1 hv]at h;cases h
 .rintro (h|⟨v,hv,h⟩)
  .exact .inl (dI.2 h)
  all_goals grind
theorem eh.one{gs:List (Int×List α)}{b:Nat}(h:eh gs pend w X b rs ents clock):∀v∈rs,BL v=Y9 v:=λv g=>by
 obtain⟨i,d,rfl⟩:=eZ g;have c : i<gs.length:=by rw[<-h.len];exact d
 obtain⟨_,_,_,_,f,_⟩:=(h.rows i gs[i] rs[i] (eG c) (eG d)).form;exact f
theorem eh.mono{gs:List (Int×List α)}{b:Nat}(h:eh gs pend w X b rs ents clock)(hk:QP w w' X X')(hb:∀x∈Y9 (.agg (Yf b rs)),w'.heap[x]?=w.heap[x]?):eh gs pend w' X' b rs ents clock:=
 ⟨(hb b ((Wz h.one).2 (.inl rfl))).trans h.heap,h.st,h.len,h.nd,λi e v d c=>(h.rows i e v d c).mono hk λx f=>hb x ((Wz h.one).2 (.inr ⟨v,ii c,f⟩)),h.apart,h.off,h.ents⟩
theorem xS{gs:List (Int×List α)}(v:Value):BS (λw X v=>ZC gs pend w X us v) v:=by
 intro w m X X' j i h;obtain⟨b,l,d,c,g,rfl,f⟩:=h
 exact⟨b,l,d,c,g,rfl,f.mono j i⟩
theorem eh.lt{gs:List (Int×List α)}{b:Nat}(h:eh gs pend w X b rs ents clock){x:Nat}(hx:x∈Y9 (.agg (Yf b rs))):x<w.heap.size:=by
 rcases(Wz h.one).1 hx with rfl|⟨v,f,hx⟩
 .exact J4 h.heap
 .obtain ⟨i,d,rfl⟩:=eZ f
  have c : i<gs.length:=by rw[<-h.len];exact d
  exact(h.rows i gs[i] rs[i] (eG c) (eG d)).lt hx
end
def Xs(extra:υ)(ops:Array Oper)(o:Oper)(e:U5)(r:SR):eJ:= {rd:=Qs o++Qk ops o,ids:=WA e o++extra,v:=r.v,l:=r.l o.dst,news:=r.nw o.dst}
def xE(extra:υ)(r:SR):Array Oper->Oper->U5->eJ:=λops o e=>Xs extra ops o e r
section
variable {e:U5}
def gQ(P:Program)(C:da)(nt:Nat)(R:ξ)(η:Nat->Value)(e:U5)(s:U8)(a:Act)(w:World)(o:Oper)(r:SR):Prop:=
 ∃v u w',((execOp a.eval o).run P w=.ok (.value v) w' \/ ((execOp a.eval o).run P w=.ok .skip w' /\ v=undef)) /\
  aK C nt (r.rng o.dst R) (r.eta o.dst u η) (r.env o.dst e) (r.sto o.dst s) (a.put o.dst v) w'
theorem Qe.g{R:ξ}{a:Act}{r:SR}(h:Qe P C nt R η e s a w o r):gQ P C nt R η e s a w o r:=by
 obtain⟨v,d,b,c⟩:=h;exact⟨v,v,d,b,c⟩
theorem Sv(extra:υ)(hdo:QM nt o=true){r:SR}(hg:Ze ops e o=some true)(hsnd:∀ (R:ξ) (η:Nat->Value) (e0:U5) (s0:U8) (a:Act) (w:World),(∀ x ∈ o.op.operands.toList,Y3 e0 x=Y3 e x)->(∀ x ∈ o.op.operands.toList,∀ i ∈ (Y3 e x).refs,s0 i=s i)->(∀ i ∈ extra,s0 i=s i)->(∀ d,o.dst=some d->r.new≠none->¬ R d) ->
   aK C nt R η e0 s0 a w->gQ P C nt R η e0 s0 a w o r):WE P C nt ops o (Xs extra ops o e r) e s:=by
 intro R η e0 s0 a w j c F b K Q V;have q:∀x∈o.op.operands.toList,Y3 e0 x=Y3 e x:=by
  intro x q
  cases x with
  |tmp t=>exact j t (dv.2 (.inl (mG.2 ⟨_,q,rfl⟩)))
  |const v=>rfl
  |global g=>rfl
  |func f=>rfl
 have B:∀x∈o.op.operands.toList,∀i∈(Y3 e x).refs,s0 i=s i:=λx q i D=>c i (mq _ (eE.2 ⟨x,q,D⟩))
 have U:=UE (e:=e) b (λt O=>j t (dv.2 (.inr O))) hg;rw[av U]
 have M:=hsnd R η e0 s0 a w q B (λi D=>c i (mf _ D)) (λd N T=>F d (by
  obtain⟨W,H⟩:=dS.1 T;simp[Xs,SR.nw,H,N])) b
 have m:∀η' z p,aK C nt (r.rng o.dst R) η' (r.env o.dst e0) (r.sto o.dst s0) z p -> K z p:=λη' z p I=>by
  refine V η' z p ?_;have G:=I.wider (zI r o.dst R)
  have n:ZR (Xs extra ops o e r).l s0=r.sto o.dst s0:=zH r o.dst s0;rw[n]
  have h:ZN o.dst (Xs extra ops o e r).v e0=r.env o.dst e0:=rfl;rw[h]
  exact G
 obtain⟨v,u,p,A|⟨A,rfl⟩,J⟩:=M
 .exact Dd A (m _ _ _ J)
 .exact jz A (m _ _ _ J)
end
section
variable {R:ξ}{e:U5}{a:Act}
variable {α:Type}[aN α]
theorem FZ(h:aK C nt R η e s a w){g base:Nat}{gs:List (Int×List α)}{pend:Option Nat}(hs:s g=some (.exr [base] (ZC gs pend))):
  ∃b rs ents clock,η base=.map (some b)/\η g=.agg (Yf b rs)/\eh gs pend w (XS C s η) b rs ents clock:=by
 have c:=h.st g _ hs;generalize hu:η g=u at c
 cases c with
 |exr _ _ _ hp _ _=>
  obtain⟨b,rs,ents,clock,f,d,i⟩:=hp
  grind
theorem Z1o(hL:Qa P L)(h:aK C nt R η e s a w)(hd:o.dst=some d)(hdn:d<nt){tx:Nat}(hne:tx≠ty)(hop:o.op=.call { callee:=.builtin .append,args:= #[.tmp tx,.tmp ty],argTypes:= #[t,t] })(ht:L t=some ti)(hk:ti.kind=.slice el)(hte:L el=some te)(hes:te.size=aN.es α){l m:List α}(hx:UA w (XS C s η) (a.tmps.getD tx undef) l)(hX:∀ b ∈ Y9 (a.tmps.getD tx undef),XS C s η b)(hy:e ty=AL m)(hby:te.bytes<=8192)(hzl:te.zero.length=te.size)(hlim:l.length+m.length<=Y2):
  ∃v w',(execOp a.eval o).run P w=.ok (.value v) w' /\ aM (λb=>b∈Y9 (a.tmps.getD tx undef)) w w' /\ (∀b∈Y9 v,b∈Y9 (a.tmps.getD tx undef)\/w.heap.size<=b) /\
   ∀X',(∀b,b<w'.heap.size->X' b->(XS C s η b/\b∉Y9 (a.tmps.getD tx undef))\/b∈Y9 v)->UA w' X' v (l++m):=by
 generalize hv1:a.tmps.getD tx undef=v1 at *;have B:=h.xl
 let C0:da:= {w0:=w,D:=λb=>b∈Y9 v1,M:=λb=>b∈Y9 v1,X:=XS C s η,pin:=λ_=>none}
 let η0:Nat->Value:=λ_=>v1
 let s0:U8:=λi=>if i=nt then some (AO l)else none
 let e0:U5:=λt=>if t=tx then .v (.c (.own nt))else if t=ty then AL m else .any
 have G:XS C0 s0 η0=XS C s η:=by
  funext b
  apply propext;constructor
  .rintro (⟨U,_⟩|⟨i,A,p,u⟩)
   all_goals grind
  .intro u
   rcases ly (b∈Y9 v1)with N|N
   .exact .inr ⟨nt,AO l,by simp[s0],N⟩
   .exact .inl ⟨u,N⟩
 have J:∀i A,s0 i=some A -> i=nt/\A=AO l:=λi A p=>by
  grind
 have Z:aK C0 nt (λi=>i=nt) η0 e0 s0 a w:=by
  refine⟨⟨λb u=>u,λb u=>hX b u,B.lt,B.gl⟩,h.df,h.sz,λt=>?_,λt i p=>?_,λi A p=>?_,λi A p=>?_,λi j b p hj _ _=>?_,λi A b p u=>?_,aM.refl _ _,λi v p=>by cases p⟩
  .rw [G]
   simp only[e0];split
   .rename_i ht;subst ht
    rw[hv1];exact .v _ _ (.c _ _ (.own _ _ rfl hx.form.choose_spec.choose_spec.choose_spec.2.2))
   .split
    .rename_i _ ht;subst ht
     have:=h.ev t
     rw[hy]at this;unfold AL at this⊢
     generalize a.tmps.getD t undef=q at this⊢
     cases this with|v _ _ hh=>cases hh with|c _ _ hh=>cases hh with|d _ _ hh=>exact .v _ _ (.c _ _ (.d _ _ hh))
    .exact .any _
  .simp only[e0]at p
   split at p
   .simpa [ai.refs,TV.refs,CV.refs]using p
   .split at p
    .simp [AL,ai.refs,TV.refs,CV.refs]at p
    .simp [ai.refs]at p
  .obtain ⟨_,rfl⟩:=J i A p
   rw[G];exact hx _ _
  .obtain ⟨rfl,rfl⟩:=J i A p
   exact⟨rfl,λj hj=>by simp[AO,Obj.refs]at hj⟩
  all_goals grind
 have hR:¬(λi=>i=nt) d:=by show ¬d=nt;omega
 obtain⟨v,w',O,z⟩:=Sz (c:=True) hL Z hd hdn hR hop ht hk hte (k:=m.length) (g:=LF m) (by simp[Y3,e0,Ne.symm hne,AL,DL,WM])
  (del:=[nt]) (n:=l.length) (f:=LF l) (c0:=True) (by simp[Y3,e0,VV,s0,AO,hes]) trivial hby hzl hlim (λj hj=>by rw[hes];exact aN.len _)
 have H:(SR.sto {v:=.v (.c (.own d)),del:=[nt],new:=some (.arr te.size (l.length+m.length) (Qu l.length (LF l) (LF m))),cond:=True} o.dst s0)=λi=>if i=d then some (.arr te.size (l.length+m.length) (Qu l.length (LF l) (LF m)))else none:=by
  funext i
  simp only[SR.sto,hd]
  grind
 rw[H]at z;have F:(λi=>if i=d then some (Obj.arr te.size (l.length+m.length) (Qu l.length (LF l) (LF m)))else none) d=some (.arr te.size (l.length+m.length) (Qu l.length (LF l) (LF m))):=by simp
 have x:=z.st d _ F;have r:SR.eta {v:=.v (.c (.own d)),del:=[nt],new:=some (.arr te.size (l.length+m.length) (Qu l.length (LF l) (LF m))),cond:=True} o.dst v η0 d=v:=by simp[SR.eta,hd]
 have W:∀b,b∈Y9 v->b∈Y9 v1\/w.heap.size<=b:=λb u=>by
  rcases z.ow d _ b F (by rw[r];exact u)with ⟨U,_⟩|U|U
  all_goals grind
 rw[r]at x;have I:(execOp a.eval o).run P w=.ok (.value v) w':=by
  rcases O with O|⟨_,rfl⟩
  .exact O
  .have hu:(undef:Value)=.tuple #[]:=rfl
   rw[hu]at x;cases x
 refine⟨v,w',I,z.fr,W,λX' a1=>λη2 C2=>?_⟩
 .have a2:J2 (.arr te.size (l.length+m.length) (Qu l.length (LF l) (LF m))) (AO (l++m)):=by rw[hes];exact J2.is (Is.app (Is.refl l) (Is.refl m))
  have T:=a2.1 _ _ _ _ _ x;have h3:db w' (XS C0 (λi=>if i=d then some (Obj.arr te.size (l.length+m.length) (Qu l.length (LF l) (LF m)))else none) (SR.eta {v:=.v (.c (.own d)),del:=[nt],new:=some (.arr te.size (l.length+m.length) (Qu l.length (LF l) (LF m))),cond:=True} o.dst v η0)) η2 C2 v (AO (l++m)):=by
   unfold AO at T⊢;generalize (l++m).length=nn at T⊢
   cases T with
   |nil ad=>exact .nil ad _ _
   |arr b' _ cap' _ c' e' _ q1 q2 q3 q4 q5 q6 q7=>exact .arr b' _ cap' _ c' e' _ q1 q2 q3 q4 q5 q6 q7
  refine h3.mono (λb u a3=>⟨rfl,λV=>a3 ?_⟩) (λ_ _=>rfl) λ_ _=>rfl
  rcases a1 b u V with ⟨Y,h5⟩|Y
  .exact .inl ⟨Y,h5⟩
  .exact .inr ⟨d,_,F,by rw[r];exact Y⟩
theorem Mw(b:Nat)(rs:List Value)(i:Nat):(Yf b rs)[1+i]?=(rs++[.slice none 0 0])[i]?:=by
 simp[Yf,ln 1 i]
theorem eh.find{gs:List (Int×List α)}{b:Nat}(h:eh gs none w X b rs ents clock)(y:Int):
  (Instr.findNow (.int .i64) (.int .i64 y) ents.toList 0=some none/\z6 y gs=gs.length) \/
  ∃x:MapEntry,Instr.findNow (.int .i64) (.int .i64 y) ents.toList 0=some (some (z6 y gs,x.val))/\rs[z6 y gs]?=some x.val/\z6 y gs<gs.length:=by
 obtain⟨G,c⟩:=h.ents;have m:∀(j:Nat) (x:MapEntry),ents[j]?=some x->∃e v,gs[j]?=some e/\rs[j]?=some v/\x.key=.int .i64 e.1/\x.val=v:=λj x B=>by
  have t:j<ents.size:=(lD.1 B).1;have F:j<gs.length:=by omega
  have p:j<rs.length:=by rw[h.len];exact F
  obtain⟨N,D⟩:=c j gs[j] rs[j] (eG F) (eG p)
  grind
 have r:∀x∈ents.toList,IsKey (.int .i64) x.key:=λx B=>by
  obtain⟨j,t,rfl⟩:=eZ B;obtain⟨e,v,_,_,g,_⟩:=m j _ (by simp at t⊢;exact iD t)
  simp only[ou]at g⊢;rw[g];rfl
 rcases findNow_spec (d:=.int .i64) (k:=.int .i64 y) rfl ents.toList 0 r with ⟨n,q⟩|⟨j,x,n,q,M⟩
 .left
  refine⟨n,?_⟩;rcases KL y gs with ⟨i,e,o,f⟩|⟨H,_⟩
  .exfalso
   have p:z6 y gs<rs.length:=by rw[h.len];exact i
   obtain⟨N,D⟩:=c _ e _ o (eG p);exact q _ (by have:=nD D;simpa using this) (by rw[f])
  .exact H
 .right
  obtain⟨e,v,o,I,g,z⟩:=m j x (by simpa using q);rw[M]at g
  have f:e.1=y:=by cases g;rfl
  have A:z6 y gs=j:=by
   rcases KL y gs with ⟨i,O,u,l⟩|⟨_,J⟩
   .exact xa h.nd u o (by rw[f,l])
   all_goals grind
  rw[eH]at n;rw[A]
  exact⟨x,n,by rw[z];exact I,(lH.1 o).1⟩
def Bs(ops:Array Oper)(nt:Nat)(e:U5)(o:Oper):Bool:=QM nt o&&(Ze ops e o==some true)
theorem Z9E{gs:List (Int×List α)}{g:Nat}{m:Operand}(hz:∀w,(zeroValue eT).run P w=.ok (.slice none 0 0) w)(hk:Ql ds k=xE [g] {v:=.v (.c (.cp g (1+z6 y gs)))})(hop:(IT ops k).op=.lookup t m x false)(ht:P.underlying t=some (.map kT eT):=by kernel_rfl)(hkT:P.underlying kT=some (.int .i64):=by kernel_rfl)(hdo:Bs ops nt (No L ops ds e s k) (IT ops k)=true:=by kernel_rfl)(hm:Y3 (No L ops ds e s k) m=.v (.c (.own base)):=by kernel_rfl)(hx:Y3 (No L ops ds e s k) x=vi y:=by kernel_rfl)(hs:QC L ops ops.toList ds e s k g=some (.exr [base] (ZC gs none)):=by kernel_rfl):J9 P C nt L ops ds e s k:=by
 unfold J9;rw[hk]
 simp only[Bs,dc,eY]at hdo;obtain⟨A,M⟩:=hdo
 refine Sv [g] A M λR η Y V a w J N z Z f=>Qe.g ?_
 have O:m∈(IT ops k).op.operands.toList:=by rw[hop];simp[Op.operands]
 have U:x∈(IT ops k).op.operands.toList:=by rw[hop];simp[Op.operands]
 have o:=(K3 f m).1;rw[J m O,hm]at o
 have o:=Vm o;have u:=(K3 f x).1
 rw[J x U,hx]at u;have u:=jC u
 have r:V g=some (.exr [base] (ZC gs none)):=(z g (by simp)).trans hs;obtain⟨b,W,h,B,T,I,n⟩:=FZ f r
 rw [T] at o;have i:∀ v,(v=.slice none 0 0/\z6 y gs=gs.length/\Instr.findNow (.int .i64) (.int .i64 y) h.toList 0=some none)\/(W[z6 y gs]?=some v/\Instr.findNow (.int .i64) (.int .i64 y) h.toList 0=some (some (z6 y gs,v))) ->
   (execOp a.eval (IT ops k)).run P w=.ok (.value v) w:=by
  rintro v (⟨rfl,_,l⟩|⟨_,l⟩)
  .simp [execOp,hop,o,u,Instr.lookup,ef ht,lw n.heap,mS hkT (k:=.int .i64 y) (d:=.int .i64) rfl,mW hkT l,hz]
  .simp [execOp,hop,o,u,Instr.lookup,ef ht,lw n.heap,mS hkT (k:=.int .i64 y) (d:=.int .i64) rfl,mW hkT l]
 have H:∀j∈(ai.v (.c (.cp g (1+z6 y gs)))).refs,R j:=λj G=>by
  simp[ai.refs,TV.refs,CV.refs]at G
  subst G;exact(f.sr _ _ r).1
 rcases n.find y with ⟨l,F⟩|⟨q,l,D,p⟩
 .refine Zm f (YO A) (i _ (.inl ⟨rfl,F,l⟩)) (.v _ _ (.c _ _ (.cp _ _ _ _ I ?_ rfl))) H
  rw[Mw,F, <-n.len];simp
 .obtain ⟨e',he'⟩:∃e',gs[z6 y gs]?=some e':=⟨_,eG p⟩
  refine Zm f (YO A) (i _ (.inr ⟨D,l⟩)) (.v _ _ (.c _ _ (.cp _ _ _ _ I ?_ ((n.rows _ _ _ he' D).form.choose_spec.choose_spec.choose_spec.2.2)))) H;rw[Mw,iB (by rw[n.len];exact p)]
  exact D
end
end
section
open Go.MapKept
section
variable {R:ξ}{e:U5}{a:Act}
variable {α:Type}[aN α]
def gRow(y:Int)(gs:List (Int×List α)):List α:=match gs[z6 y gs]? with|some e=>e.2|none=>[]
theorem AC{β:Type}{m:List β}{gs:List (Int×List β)}{q:Int×List β}(h:gs[z6 y gs]?=some q):gApp y m gs=gs.set (z6 y gs) (q.1,q.2++m):=by unfold gApp;rw[h]
theorem uH{β:Type}{m:List β}{gs:List (Int×List β)}(h:z6 y gs=gs.length):gApp y m gs=gs++[(y,m)]:=by
 unfold gApp
 grind
def Jv{β:Type}(l:List β)(i:Nat)(x:β):List β:=if i<l.length then l.set i x else l++[x]
theorem HV{β:Type}{l:List β}{x:β}(h:i<=l.length):(Jv l i x).length=if i<l.length then l.length else l.length+1:=by
 unfold Jv;split<;>simp
theorem HW{β:Type}{l:List β}{x:β}(h:i<=l.length)(j:Nat):(Jv l i x)[j]?=if j=i then some x else l[j]?:=by
 unfold Jv
 grind
theorem Ld{β:Type}{m:List β}{gs:List (Int×List β)}:∃q,q.1=y/\q.2=gRow y gs++m/\gApp y m gs=Jv gs (z6 y gs) q/\z6 y gs<=gs.length:=by
 rcases KL y gs with ⟨c,q,d,f⟩|⟨b,_⟩
 .refine ⟨(q.1,q.2++m),f,by unfold gRow;rw[d],?_,by omega⟩
  rw[AC d];unfold Jv;rw[av c]
 .refine ⟨(y,m),rfl,?_,?_,by omega⟩
  .unfold gRow;rw[b,iO (di _)];simp
  .rw [uH b];unfold Jv;rw[b,an (Nat.lt_irrefl _)]
theorem Z6a{β:Type}{m:List β}{gs:List (Int×List β)}:∃q,(gApp y m gs)[z6 y gs]?=some q/\q.1=y:=by
 obtain⟨q,c,_,b,d⟩:=Ld (y:=y) (m:=m) (gs:=gs);refine⟨q,?_,c⟩
 rw[b];unfold Jv
 grind
theorem wq{β:Type}{m:List β}{gs:List (Int×List β)}(hnd:(gs.map (·.1)).Nodup):((gApp y m gs).map (·.1)).Nodup:=by
 rcases KL y gs with ⟨f,q,c,g⟩|⟨d,b⟩
 .rw [AC c,List.map_set]
  grind
 .rw [uH d,fe]
  grind
theorem Z9F(hL:Qa P L){gs:List (Int×List α)}{m:List α}{g:Nat}{t tx:Nat}(hT:Vj L t te)(hes:te.size=aN.es α)(hk:Ql ds k=xE [g] {v:=.v (.c (.cp d (1+z6 y gs))),del:=[g],new:=some (.exr [base] (ZC (Go.Ab.gApp y m gs) (some (z6 y gs))))})(hop:(IT ops k).op=.call {callee:=.builtin .append,args:= #[.tmp tx,.tmp ty],argTypes:= #[t,t]})(hby:te.bytes<=8192)(hlim:(gRow y gs).length+m.length<=Y2)(hdo:(Bs ops nt (No L ops ds e s k) (IT ops k)&&(IT ops k).dst==some d && !(tx==ty))=true:=by kernel_rfl)(hx:J0 L ops ops.toList ds e s k tx=.v (.c (.cp g (1+z6 y gs))):=by kernel_rfl)(hy:J0 L ops ops.toList ds e s k ty=AL m:=by kernel_rfl)(hs:QC L ops ops.toList ds e s k g=some (.exr [base] (ZC gs none)):=by kernel_rfl)(hzl:te.zero.length=te.size:=by kernel_rfl):J9 P C nt L ops ds e s k:=by
 obtain⟨ti,el,ht,e8,f6⟩:=hT;unfold J9
 rw[hk];simp only[Bs,dc,eY,iE,l9]at hdo
 obtain⟨⟨⟨h1,h2⟩,h3⟩,h4⟩:=hdo;refine Sv [g] h1 h2 λR η e0 s0 a w he i4 e2 hn n=>?_
 have ox:Operand.tmp tx∈(IT ops k).op.operands.toList:=by rw[hop];simp[Op.operands,Call.operands]
 have oy:Operand.tmp ty∈(IT ops k).op.operands.toList:=by rw[hop];simp[Op.operands,Call.operands]
 have ex:e0 tx=.v (.c (.cp g (1+z6 y gs))):=(he _ ox).trans hx;have ey:e0 ty=AL m:=(he _ oy).trans hy
 have B:s0 g=some (.exr [base] (ZC gs none)):=(e2 g (by simp)).trans hs;have c6:=YO h1 d h3
 have a9:¬R d:=hn d h3 (by simp);obtain⟨b,H,a4,W,hb,hg,f⟩:=FZ n B
 have h9:g≠d:=λh=>a9 (h ▸ (n.sr _ _ B).1)
 have b1:=n.ev tx;rw[ex]at b1
 generalize hv1e:a.tmps.getD tx undef=v1 at b1;have d5:(H++[.slice none 0 0])[z6 y gs]?=some v1:=by
  cases b1 with|v _ _ hh=>cases hh with|c _ _ hh=>cases hh with|cp _ _ _ vs q1 q2 _=>
  rw[hg]at q1;cases q1
  rwa [Mw]at q2
 obtain⟨q,i3,i2,Z,F⟩:=Ld (y:=y) (m:=m) (gs:=gs);have V : z6 y gs<=H.length:=by rw[f.len];exact F
 have I:∀x,x∈Y9 (.agg (Yf b H))->dV s0 η x:=λx hx=>⟨g,_,B,by rw[hg];exact hx⟩
 have c3:UA w (XS C s0 η) v1 (gRow y gs)/\(∀x∈Y9 v1,x∈Y9 (.agg (Yf b H)))/\b∉Y9 v1/\∀j u,j≠z6 y gs->H[j]?=some u->∀x∈Y9 u,x∉Y9 v1:=by
  rcases KL y gs with ⟨T,q',a7,e3⟩|⟨hl,_⟩
  .have D:H[z6 y gs]?=some v1:=by rwa [iB (by rw[f.len];exact T)]at d5
   refine⟨?_,λx hx=>(Wz f.one).2 (.inr ⟨v1,ii D,hx⟩),f.off _ _ D,λj u A hu x hx e7=>A (f.apart _ _ _ _ x hu D hx e7)⟩;unfold gRow;rw[a7]
   exact f.rows _ _ _ a7 D
  .have D:v1=.slice none 0 0:=by
    rw[hl, <-f.len,iY (di _),Nat.sub_self]at d5
    grind
   subst D;refine⟨?_,λx hx=>by simp[Y9]at hx,by simp[Y9],λj u _ _ x _ hx=>by simp[Y9]at hx⟩
   unfold gRow;rw[hl,iO (di _)]
   exact λη C=>.nil _ _ _
 obtain⟨f3,N,b4,c2⟩:=c3;obtain⟨v',w',c4,G,a0,d6⟩:=Z1o hL n h3 c6 h4 hop ht e8 f6 hes (l:=gRow y gs) (m:=m) (by rw[hv1e];exact f3) (λx hx=>by rw[hv1e]at hx;exact .inr (I x (N x hx))) ey hby hzl hlim
 rw[hv1e]at G a0 d6;have b3:∀x∈Y9 (.agg (Yf b H)),C.M x\/C.w0.heap.size<=x:=λx hx=>by
  rcases n.ow g _ x B (by rw[hg];exact hx)with ⟨h,_⟩|h
  .cases h
  .exact h
 have T:∀x∈Y9 (.agg (Yf b H)),x<w.heap.size:=λx hx=>f.lt hx
 let rs':=Jv H (z6 y gs) v'
 have z : ∀j,rs'[j]?=if j=z6 y gs then some v' else H[j]?:=λj=>HW V j
 have a5 : ∀j,(Go.Ab.gApp y m gs)[j]?=if j=z6 y gs then some q else gs[j]?:=λj=>by rw[Z];exact HW F j
 have Y:=(d6 (λ_=>False) λ_ _ h=>h.elim).form;have b0 : ∀v∈rs',BL v=Y9 v:=λv D=>by
  obtain⟨j,A⟩:=mL D;have b2:=z j
  rw[A]at b2
  by_cases h:j=z6 y gs
  .grind
  .rw [an h]at b2;exact f.one _ (ii b2.symm)
 have hu:∀x,x∈Y9 (.agg (Yf b rs'))->x=b\/x∈Y9 v' \/ ∃j u,j≠z6 y gs/\H[j]?=some u/\x∈Y9 u:=λx hx=>by
  rcases(Wz b0).1 hx with h|⟨v,D,hx⟩
  .exact .inl h
  .obtain ⟨j,A⟩:=mL D
   grind
 have e6:∀x,x∈Y9 (.agg (Yf b rs'))->w.heap.size<=x\/x∈Y9 (.agg (Yf b H)):=λx hx=>by
  rcases hu x hx with rfl|h|⟨j,u,_,h,hx⟩
  .exact .inr ((Wz f.one).2 (.inl rfl))
  .grind
  .exact .inr ((Wz f.one).2 (.inr ⟨u,ii h,hx⟩))
 let r:SR:= {v:=.v (.c (.cp d (1+z6 y gs))),del:=[g],new:=some (.exr [base] (ZC (Go.Ab.gApp y m gs) (some (z6 y gs))))}
 have c8:=JA (C:=C) (s:=s0) (η:=η) r (IT ops k).dst (.agg (Yf b rs')) (λx=>x∈Y9 v1) G (λx hx=>I x (N x hx)) (λo' dd _ _ x hx=>by
  grind) (λk o hh=>by cases hh)
 have J:∀i,r.eta (IT ops k).dst (.agg (Yf b rs')) η i=if i=d then .agg (Yf b rs')else η i:=λi=>by simp only[SR.eta,h3,r]
 have e1:w'.heap[b]?=w.heap[b]?:=G.block b (J4 f.heap) b4;have g5:∀x,x<w'.heap.size->XS C (r.sto (IT ops k).dst s0) (r.eta (IT ops k).dst (.agg (Yf b rs')) η) x->(XS C s0 η x/\x∉Y9 v1)\/x∈Y9 v':=by
  intro x hx hX;rcases hX with ⟨c7,c5⟩|⟨i,oi,p,U⟩
  .refine .inl ⟨.inl ⟨c7,c5⟩,λb6=>?_⟩
   rcases b3 x (N x b6)with h|h
   .exact c5 (n.ok.md x h)
   .have:=n.ok.lt x c7;omega
  .rcases zE r (IT ops k).dst i oi p with ⟨_,b5⟩|⟨e4,_⟩|⟨ho,g0,_,b5⟩
   .rw [h3]at b5;cases b5
    rw[J,av rfl]at U;rcases hu x U with rfl|h|⟨j,u,A,d7,O⟩
    .exact .inl ⟨.inr (I x ((Wz f.one).2 (.inl rfl))),b4⟩
    .exact .inr h
    .exact .inl ⟨.inr (I x ((Wz f.one).2 (.inr ⟨u,ii d7,O⟩))),c2 j u A d7 x O⟩
   .cases e4
   .have f5:i≠d:=fun h=>by
     grind
    rw[J,an f5]at U;refine .inl ⟨.inr ⟨i,oi,ho,U⟩,λb6=>?_⟩
    have:i=g:=n.ds i g x (by rw[ho];simp) (by rw[B];simp) U (by rw[hg];exact N x b6)
    grind
 have d4:eh (Go.Ab.gApp y m gs) (some (z6 y gs)) w' (XS C (r.sto (IT ops k).dst s0) (r.eta (IT ops k).dst (.agg (Yf b rs')) η)) b rs' a4 W:=by
  obtain⟨g7,d8⟩:=f.ents;refine⟨e1.trans f.heap,f.st,?_,wq f.nd,λi e' v p D=>?_,λi j u v x p A O a6=>?_,λi v p c9=>?_,?_,?_,λi e' v p a8 D=>?_⟩
  .rw [Z,HV F,HV V,f.len]
  .rw [a5]at p
   rw[z]at D
   by_cases h:i=z6 y gs
   .grind
   .rw [an h]at p D
    exact(f.rows i e' v p D).mono c8 λx hx=>G.block x (T x ((Wz f.one).2 (.inr ⟨v,ii D,hx⟩))) (c2 i v h D x hx)
  .rw [z]at p A
   by_cases h:i=z6 y gs<;>by_cases h' : j=z6 y gs
   .rw [h,h']
   .rw [av h]at p;rw[an h']at A
    cases p
    exfalso
    rcases a0 x O with h5|h5
    .grind
    .have:=T x ((Wz f.one).2 (.inr ⟨v,ii A,a6⟩));omega
   .rw [an h]at p;rw[av h']at A
    cases A
    exfalso
    rcases a0 x a6 with h5|h5
    .grind
    .have:=T x ((Wz f.one).2 (.inr ⟨u,ii p,O⟩));omega
   .rw [an h]at p;rw[an h']at A
    exact f.apart i j u v x p A O a6
  .rw [z]at p
   by_cases h:i=z6 y gs
   .rw [av h]at p
    cases p
    rcases a0 b c9 with h5|h5
    .exact b4 h5
    .have:=J4 f.heap;omega
   .rw [an h]at p
    exact f.off i v p c9
  .rw [Z,HV F];split<;>omega
  .rw [Z,HV F]
   grind
  .rw [a5]at a8
   rw[z]at D;have c1:i<gs.length:=by omega
   have f7:i<H.length:=by rw[f.len];exact c1
   obtain⟨bo,f1⟩:=d8 i gs[i] H[i] (eG c1) (eG f7)
   by_cases h:i=z6 y gs
   .rw [av h]at a8
    cases a8
    refine⟨H[i],bo,?_,λhh=>absurd h hh⟩;rw[f1]
    have:gs[i].1=q.1:=by
     rcases KL y gs with ⟨a3,q',a7,e3⟩|⟨hl,_⟩
     all_goals grind
    rw[this]
   all_goals grind
 refine⟨v',.agg (Yf b rs'),w',.inl c4,n.stepG (IT ops k).dst (λx hx=>by rw[h3]at hx;cases hx;exact c6) r v' (.agg (Yf b rs')) w' (λx=>x∈Y9 v1) G ?_ ?_ (λk o hh=>by cases hh) ?_⟩
 .intro x hx
  exact⟨⟨g,.inl (by simp[r]),by rw[B];simp,by rw[hg];exact N x hx⟩,b3 x (N x hx)⟩
 .intro o' dd e5 d2
  rw[h3]at d2;cases d2
  have e9:o'=.exr [base] (ZC (Go.Ab.gApp y m gs) (some (z6 y gs))):=by simpa[r]using e5.symm
  subst e9;refine⟨a9,rfl,λj A=>?_,?_,λx hx=>?_⟩
  .exact (n.sr g _ B).2 j A
  .have f2:base≠d:=λh=>a9 (h ▸ (n.sr g _ B).2 base (by simp[Obj.refs]))
   refine .exr _ _ _ ⟨b,rs',a4,W,?_,rfl,d4⟩ (xS _) λx hx=>d4.lt hx
   simp[J,f2,hb]
  .rcases e6 x hx with h|h
   .exact .inl h
   .exact .inr ⟨⟨g,by simp[r],by rw[B];simp,by rw[hg];exact h⟩,b3 x h⟩
 .intro _
  refine⟨.v _ _ (.c _ _ (.cp _ _ _ (Yf b rs') (by rw[J,av rfl]) ?_ Y.choose_spec.choose_spec.choose_spec.2.2)),λj A=>?_⟩
  .rw [Mw]
   have a3 : z6 y gs<rs'.length:=by
    grind
   rw[iB a3,z,av rfl]
  .simp [r,ai.refs,TV.refs,CV.refs]at A
   subst A;exact .inr ⟨by simp[r],h3⟩
theorem Or{gs:List (Int×List α)}{g:Nat}{m v:Operand}{q:Int×List α}(hk:Ql ds k=xE [] {upd:=some (g,.exr [base] (ZC gs none))})(hop:(IT ops k).op=.mapUpdate t m x v)(hq:gs[j]?=some q)(hqy:q.1=y)(ht:P.underlying t=some (.map kT eT):=by kernel_rfl)(hkT:P.underlying kT=some (.int .i64):=by kernel_rfl)(hdo:(Bs ops nt (No L ops ds e s k) (IT ops k)&&(IT ops k).dst.isNone)=true:=by kernel_rfl)(hm:Y3 (No L ops ds e s k) m=.v (.c (.own base)):=by kernel_rfl)(hx:Y3 (No L ops ds e s k) x=vi y:=by kernel_rfl)(hv:Y3 (No L ops ds e s k) v=.v (.c (.cp g (1+j))):=by kernel_rfl)(hs:QC L ops ops.toList ds e s k g=some (.exr [base] (ZC gs (some j))):=by kernel_rfl):J9 P C nt L ops ds e s k:=by
 unfold J9;rw[hk]
 simp only[Bs,dc,eY]at hdo;obtain⟨⟨h1,h2⟩,h3⟩:=hdo
 refine Sv [] h1 h2 λR η e0 s0 a w he c0 d4 hn A=>Qe.g ?_
 have om:m∈(IT ops k).op.operands.toList:=by rw[hop];simp[Op.operands]
 have ox:x∈(IT ops k).op.operands.toList:=by rw[hop];simp[Op.operands]
 have ov:v∈(IT ops k).op.operands.toList:=by rw[hop];simp[Op.operands]
 have Z:=(K3 A m).1;rw[he m om,hm]at Z
 have Z:=Vm Z;have ex:=(K3 A x).1
 rw[he x ox,hx]at ex;have ex:=jC ex
 have B:s0 g=some (.exr [base] (ZC gs (some j))):=(c0 v ov g (by rw[hv];simp[ai.refs,TV.refs,CV.refs])).trans hs;obtain⟨b,W,l,c2,hb,hg,n⟩:=FZ A B
 rw[hb]at Z;have ev:=(K3 A v).1
 rw[he v ov,hv]at ev;have b6:j<W.length:=by rw[n.len];exact(lH.1 hq).1
 have I:W[j]?=some (a.eval v):=by
  generalize a.eval v=v1 at ev
  cases ev with|v _ _ F=>cases F with|c _ _ F=>cases F with|cp _ _ _ vs q1 q2 _=>
  rw[hg]at q1;cases q1
  rw[Mw,iB b6]at q2;exact q2
 generalize hve:a.eval v=v1 at I;obtain⟨e4,a1,N⟩:=n.ents
 have a5:∀(i:Nat) (z:MapEntry),l[i]?=some z->∃H u,gs[i]?=some H /\ W[i]?=some u/\z.key=.int .i64 H.1/\(i≠j->z.val=u):=λi z U=>by
  have Y:i<l.size:=(lD.1 U).1;have b4:i<gs.length:=by omega
  have d7:i<W.length:=by rw[n.len];exact b4
  grind
 have b5:∀z∈l.toList,IsKey (.int .i64) z.key:=λz U=>by
  obtain⟨i,Y,rfl⟩:=eZ U;obtain⟨H,_,_,_,b8,_⟩:=a5 i l[i] (iD (by simpa using Y))
  simp only[ou];rw[b8];rfl
 have d9:b<w.heap.size:=J4 n.heap;have a6:∃(p : Array MapEntry) (f : Nat),(execOp a.eval (IT ops k)).run P w=.ok .skip {w with heap:=w.heap.setIfInBounds b (.map p f)} /\ Stamped p f /\ p.size=gs.length/\∀(i:Nat) (H : Int×List α) (u:Value),gs[i]?=some H -> W[i]?=some u->∃bo,p[i]?=some ⟨.int .i64 H.1,u,bo⟩:=by
  rcases findNow_spec (d:=.int .i64) (k:=.int .i64 y) rfl l.toList 0 b5 with ⟨f1,f2⟩|⟨i,z,f1,f2,f3⟩
  .refine ⟨_,_,?_,stamped_push (val:=v1) n.st f2,?_,λi H u D hu=>?_⟩
   .simp [execOp,hop,Z,ex,hve,Instr.mapUpdate,ef ht,lw n.heap,mS hkT (k:=.int .i64 y) (d:=.int .i64) rfl,mW hkT f1,mv _ n.heap]
   .rw [nI]
    rcases a1 with h|⟨h,_⟩
    .exfalso
     obtain⟨u,bo,V,_⟩:=N j q v1 (by omega) hq I;exact f2 _ (by have:=nD V;simpa using this) (by rw[hqy])
    .exact h
   .rcases a1 with h|⟨h,hj⟩
    .exfalso
     obtain⟨u,bo,V,_⟩:=N j q v1 (by omega) hq I;exact f2 _ (by have:=nD V;simpa using this) (by rw[hqy])
    .rw [nV]
     by_cases Y:i=l.size
     .rw [av Y]
      have T:i=j:=by omega
      subst T;rw[hq]at D;rw[I]at hu
      cases D;cases hu
      exact⟨_,by rw[hqy]⟩
     all_goals grind
  .have fz:l[i]?=some z:=by simpa using f2
   obtain⟨H,u,D,hu,a8,e1⟩:=a5 i z fz;have b7:H.1=y:=by rw[f3]at a8;cases a8;rfl
   have T:i=j:=xa n.nd D hq (by rw[b7,hqy]);subst T
   refine⟨_,_,?_,stamped_modify n.st i (λe=> {e with key:=.int .i64 y,val:=v1}) (λ_ _=>rfl) (λc1 _ J=>?_),?_,λi' c1 u' J b1=>?_⟩
   .simp [execOp,hop,Z,ex,hve,Instr.mapUpdate,ef ht,lw n.heap,mS hkT (k:=.int .i64 y) (d:=.int .i64) rfl,mW hkT f1,fz,f3,MapKept.run_keyThatStays (d:=.int .i64) (k:=.int .i64 y) rfl,mv _ n.heap]
   .grind
   .grind
   .rw [fV]
    by_cases Y:i=i'
    .subst Y
     rw[av rfl,fz];rw[hq]at J;rw[I]at b1
     cases J;cases b1
     exact⟨z.born,by rw[hqy];rfl⟩
    all_goals grind
 obtain⟨p,f,a2,a9,b3,O⟩:=a6;have M:aM (λx=>x=b) w {w with heap:=w.heap.setIfInBounds b (.map p f)} :=
  ⟨rfl,rfl,rfl,by simp,λx _ hx=>(heap_set n.heap).2 x hx,di _⟩
 have G:b∈Y9 (η g):=by rw[hg];exact(Wz n.one).2 (.inl rfl)
 have hd:(IT ops k).dst=none:=by simpa using h3
 let r:SR:= {upd:=some (g,.exr [base] (ZC gs none))}
 have a7:=JA (C:=C) (s:=s0) (η:=η) r (IT ops k).dst undef (λx=>x=b) M (λx hx=>by subst hx;exact⟨g,_,B,G⟩) (λ_ _ F=>by cases F) (λk o F=>by cases F;rw[B];simp);have b2:r.eta (IT ops k).dst undef η=η:=by funext i;simp[SR.eta,r]
 refine⟨undef,_,.inr ⟨a2,rfl⟩,A.step (IT ops k).dst (λx hx=>by rw[hd]at hx;cases hx) r undef _ (λx=>x=b) M (λx hx=>?_) (λ_ _ F=>by cases F) (λk' o' F=>?_) (λF=>absurd hd F)⟩
 .subst hx
  refine⟨⟨g,.inr ⟨_,rfl⟩,by rw[B];simp,G⟩,?_⟩;rcases A.ow g _ x B G with ⟨h,_⟩|h
  .cases h
  .exact h
 .cases F
  refine⟨⟨_,B,rfl⟩,rfl,by simp[r],λj hj=>(A.sr g _ B).2 j hj,?_⟩;rw[b2]at a7⊢
  rw[hg];have b0:eh gs none {w with heap:=w.heap.setIfInBounds b (.map p f)} (XS C (r.sto (IT ops k).dst s0) η) b W p f :=
   ⟨(heap_set n.heap).1,a9,n.len,n.nd,λi H u D hu=>(n.rows i H u D hu).mono a7 λz U=>(heap_set n.heap).2 z (λh=>by subst h;exact n.off i u hu U),n.apart,n.off,b3,O⟩
  exact .exr _ _ _ ⟨b,W,p,f,by simp[hb],rfl,b0⟩ (xS _) λz U=>b0.lt U
end
section
variable {α:Type}[aN α]
theorem Z9p(Fm:Fr P L C pins){o o' : Obj}(hp:pins.contains k=false)(hfr:((E.flatMap λp=>p.2.refs)++(((id,o)::S0).flatMap λp=>p.1::p.2.refs)).contains k=false)(hid:(S0.map (·.1)).contains id=false)(hro:o.ro=false)(hro' : o'.ro=false)(hrf:∀j∈o'.refs,j=id\/j∈o.refs)(hu:∀R η a w,aK C nt R η (lk E) (ls ((id,o)::S0)) a w->∃u,(∀b∈Y9 u,b∈Y9 (η id))/\∀X' η',QP w w (XS C (ls ((id,o)::S0)) η) X' -> (∀i,i≠k->η' i=η i)->db w X' η' C u o')(hk:Kn C nt E ((k,o')::S0) K):Kn C nt E ((id,o)::S0) K:=by
 intro R η a w m;have g:ls ((id,o)::S0) id=some o:=by rw[Qo,av rfl]
 obtain⟨u,r,H⟩:=hu R η a w m;have N:C.pin k=none:=by
  rcases hq:C.pin k with _|u
  .rfl
  .have:=Fm.pin k (by rw[hq];simp)
   grind
 have D:∀i∈(E.flatMap λp=>p.2.refs)++(((id,o)::S0).flatMap λp=>p.1::p.2.refs),i≠k:=by
  grind
 have a3:id≠k:=D id (by simp);have a5:∀j∈o.refs,j≠k:=λj n=>D j (by simp[n])
 have l:∀i o',ls S0 i=some o' -> i≠k/\i≠id/\(∀j∈o'.refs,j≠k)/\ls ((id,o)::S0) i=some o':=by
  intro i o' d;have hm:=y6 d
  have U:i≠id:=by
   grind
  refine⟨D i (dv.2 (.inr (eE.2 ⟨_,eB _ hm,by simp⟩))),U,λj n=>D j (dv.2 (.inr (eE.2 ⟨_,eB _ hm,by simp[n]⟩))),?_⟩;rw[Qo,an U];exact d
 have Y:∀u i,i∈(lk E u).refs->i≠k:=by
  intro u i d;rcases Bc (E:=E) (t:=u)with h0|h0
  .rw [h0]at d;cases d
  all_goals grind
 let η' : Nat->Value:=λi=>if i=k then u else η i
 have f : ∀i,i≠k->η' i=η i:=λi d=>by show(if i=k then u else η i)=_;rw[an d]
 have A:η' k=u:=by show(if k=k then u else η k)=_;rw[av rfl]
 have J:∀b,dV (ls ((k,o')::S0)) η' b->dV (ls ((id,o)::S0)) η b:=by
  rintro b ⟨i,q,d,B⟩;rw[Qo]at d
  by_cases c:i=k
  .subst c
   rw[A]at B;exact⟨id,_,g,r b B⟩
  .rw [an c]at d
   rw[f i c]at B;exact⟨i,q,(l i q d).2.2.2,B⟩
 have Z:QP w w (XS C (ls ((id,o)::S0)) η) (XS C (ls ((k,o')::S0)) η'):=by
  intro b O hn;refine⟨rfl,λT=>?_⟩
  rcases T with T|T
  .exact hn (.inl T)
  .exact hn (.inr (J b T))
 refine hk (λi=>R i\/i=k) η' a w ⟨m.ok,m.df,m.sz,λt=>?_,λt i d=>.inl (m.er t i d),λi q d=>?_,λi q d=>?_,λi j b d n x z=>?_,λi q b d O=>?_,m.fr,λi v d=>?_⟩
 .exact (m.ev t).mono Z λi d=>f i (Y t i d)
 .rw [Qo]at d
  by_cases c:i=k
  .subst c
   rw[av rfl]at d;cases d
   rw[A];exact H _ _ Z f
  .rw [an c]at d
   obtain⟨F,M,V,G⟩:=l i q d;rw[f i c]
   exact(m.st i q G).mono Z (λj n=>f j (V j n)) λ_ _=>rfl
 .rw [Qo]at d
  by_cases c:i=k
  .subst c
   rw[av rfl]at d;cases d
   refine⟨.inr rfl,λj n=>.inl ?_⟩;rcases hrf j n with rfl|h
   .exact (m.sr j _ g).1
   .exact (m.sr id _ g).2 j h
  .rw [an c]at d
   obtain⟨F,M,V,G⟩:=l i q d;have:=m.sr i q G
   exact⟨.inl this.1,λj n=>.inl (this.2 j n)⟩
 .rw [Qo]at d n
  by_cases c:i=k<;>by_cases hjk:j=k
  .rw [c,hjk]
  .exfalso
   rw[an hjk]at n;obtain⟨W,I⟩:=dS.1 n
   obtain⟨F,M,V,G⟩:=l j W I;rw[c,A]at x
   rw[f j hjk]at z;exact M (m.ds j id b (by rw[G];simp) (by rw[g];simp) z (r b x))
  .exfalso
   rw[an c]at d;obtain⟨q,I⟩:=dS.1 d
   obtain⟨F,M,V,G⟩:=l i q I;rw[hjk,A]at z
   rw[f i c]at x;exact M (m.ds i id b (by rw[G];simp) (by rw[g];simp) x (r b z))
  .rw [an c]at d
   rw[an hjk]at n;obtain⟨q,I⟩:=dS.1 d
   obtain⟨W,a0⟩:=dS.1 n;rw[f i c]at x
   rw[f j hjk]at z;exact m.ds i j b (by rw[(l i q I).2.2.2];simp) (by rw[(l j W a0).2.2.2];simp) x z
 .rw [Qo]at d
  by_cases c:i=k
  .subst c
   rw[av rfl]at d;cases d
   rw[A]at O;rcases m.ow id _ b g (r b O)with ⟨F,_⟩|F
   .rw [hro]at F;cases F
   .exact .inr F
  .rw [an c]at d
   rw[f i c]at O;exact m.ow i q b (l i q d).2.2.2 O
 .have c:i≠k:=by intro he;subst he;rw[N]at d;cases d
  have:=m.pn i v d
  exact⟨(f i c).trans this.1,.inl this.2⟩
theorem F6(Fm:Fr P L C pins)(α:Type)[aN α]{g:Nat}(hk:Kn C nt E ((g,.exr [d] (ZC ([]:List (Int×List α)) none))::S0) K)(hp:pins.contains g=false:=by kernel_rfl)(hfr:((E.flatMap λp=>p.2.refs)++(((d,Obj.ext (KG P kT eT []))::S0).flatMap λp=>p.1::p.2.refs)).contains g=false:=by kernel_rfl)(hd:(S0.map (·.1)).contains d=false:=by kernel_rfl):Kn C nt E ((d,.ext (KG P kT eT []))::S0) K:=by
 refine Z9p Fm hp hfr hd rfl rfl (λj D=>.inl (by simpa[Obj.refs]using D)) (λR η a w F=>?_) hk;have f:=F.st d _ (show ls ((d,.ext (KG P kT eT []))::S0) d=some (.ext (KG P kT eT [])) by rw[Qo,av rfl])
 generalize hη:η d=u at f
 cases f with
 |ext _ _ hp' _ hlt=>
  obtain⟨b,rfl,B,c,A,H,G,_⟩:=hp';have l:B=#[]:=AE (by simpa using G)
  subst l;refine⟨.agg (Yf b []),λx r=>?_,λX' η' I n=>?_⟩
  .have:=(Wz (rs:=[]) (λv m=>by cases m)).1 r
   rcases this with rfl|⟨v,m,_⟩
   .simp [Y9]
   .cases m
  .have q:d≠g:=fun h=>by
    grind
   have z:eh ([]:List (Int×List α)) none w X' b [] #[] c:=⟨A,⟨by simp,by simp,by simp⟩,rfl,by simp,λi e v t=>by simp at t,λi j u v x o=>by simp at o,λi v o=>by simp at o,rfl,λi e v t=>by simp at t⟩;exact .exr _ _ _ ⟨b,[], #[],c,by simp[n d q,hη],rfl,z⟩ (xS _) λx r=>z.lt r
theorem Iz{t g:Nat}{gs:List (Int×List α)}(hk:Kn C nt ((t,.v (.c (.d (MP gs))))::E0) S0 K)(hid:(S0.map (·.1)).contains g=false:=by kernel_rfl):Kn C nt ((t,.v (.c (.own d)))::E0) ((g,.exr [d] (ZC gs none))::S0) K:=by
 intro R η a w m;have G:ls ((g,.exr [d] (ZC gs none))::S0) g=some (.exr [d] (ZC gs none)):=by rw[Qo,av rfl]
 have p:∀i o,ls S0 i=some o->i≠g/\ls ((g,.exr [d] (ZC gs none))::S0) i=some o:=by
  intro i o h;have r:i≠g:=by
   intro he;subst he
   have:i∈S0.map (·.1):=eF.2 ⟨_,y6 h,rfl⟩
   grind
  exact⟨r,by rw[Qo,an r];exact h⟩
 obtain⟨b,A,J,H,hb,hg,B⟩:=FZ m G;have M:∀x,XS C (ls S0) η x->XS C (ls ((g,.exr [d] (ZC gs none))::S0)) η x:=λx z=>by
  rcases z with z|⟨i,o,h,D⟩
  .exact .inl z
  .exact .inr ⟨i,o,(p i o h).2,D⟩
 have hX:QP w w (XS C (ls ((g,.exr [d] (ZC gs none))::S0)) η) (XS C (ls S0) η):=λx _ hn=>⟨rfl,λz=>hn (M x z)⟩
 have N:∀x∈Y9 (η g),¬XS C (ls S0) η x:=λx z Y=>by
  rcases Y with ⟨Z,V⟩|⟨i,o,h,D⟩
  .rcases m.ow g _ x G z with ⟨I,_⟩|I|I
   .cases I
   .exact V (m.ok.md x I)
   .have:=m.ok.lt x Z;omega
  .exact (p i o h).1 (m.ds i g x (by rw[(p i o h).2];simp) (by rw[G];simp) D z)
 obtain⟨U,a3⟩:=B.ents;have hD:aA w (XS C (ls S0) η) (.map (some b)) (MP gs):=by
  refine .mp b J H gs.length _ (λi=>A.getD i undef) _ (N b (by rw[hg];exact(Wz B.one).2 (.inl rfl))) B.heap B.st U (λi h=>?_) λi h=>?_
  .have T:i<A.length:=by rw[B.len];exact h
   grind
  .have T:i<A.length:=by rw[B.len];exact h
   have e1:A.getD i undef=A[i]:=by simp[aY,T]
   have e2:gs.getD i (0,[])=gs[i]:=by simp[aY,h]
   simp only[e1,e2];have l:=B.rows i gs[i] A[i] (eG h) (eG T) η C
   have O:∀x∈Y9 A[i],¬XS C (ls S0) η x:=λx z=>N x (by rw[hg];exact(Wz B.one).2 (.inr ⟨A[i],fp T,z⟩))
   unfold AO at l;unfold DL
   generalize gs[i].2.length=n at l⊢;generalize LF gs[i].2=f at l⊢
   generalize A[i]=v at l O⊢
   cases l with
   |nil ad es f=>exact .nil ad 0 f
   |arr b n cap es c e f I h2 h3 h4 h5 h6 h7=>
    refine .lst b 0 n cap c e _ f _ (O b (by simp[Y9];omega)) I h3 (by rw[h2,eH];exact eu _ h3) h6 λi j h W=>?_
    rw[eH];exact(h7 i j h W).mono hX
 have r:∀i,ls S0 i≠none->ls ((g,.exr [d] (ZC gs none))::S0) i≠none:=λi h hn=>by
  obtain⟨o,ho⟩:=dS.1 h
  grind
 refine hk R η a w ⟨m.ok,m.df,m.sz,λu=>?_,λu i h=>?_,λi o h=>(m.st i o (p i o h).2).mono hX (λ_ _=>rfl) λ_ _=>rfl,λi o h=>m.sr i o (p i o h).2,λi j b h W=>m.ds i j b (r i h) (r j W),λi o b h=>m.ow i o b (p i o h).2,m.fr,m.pn⟩
 .rw [Me]
  have q:=m.ev u;rw[Me]at q
  by_cases hu:u=t
  .rw [av hu]at q⊢
   rw[Vm q,hb];exact .v _ _ (.c _ _ (.d _ _ hD))
  .rw [an hu]at q⊢
   exact q.mono hX λ_ _=>rfl
 .rw [Me]at h
  have F:=m.er u i;rw[Me]at F
  by_cases hu:u=t
  .rw [av hu]at h;cases h
  .rw [an hu]at h F
   exact F h
end
end
theorem cT{p:Prop}(h:p):p/\True:=⟨h,True.intro⟩
theorem cA{p:Prop}(h:p)(k:q):p/\q:=⟨h,k⟩
@[reducible] def lI {α:Type} (l:List α):Int:=((l.length:Nat):Int)
theorem Q2{t:Nat}{x y:Code}{R:Type}{u v:Option R}{r:R}(h:br b u v=some r)(ht:b=true->u=some r->AW P C nt x E S Q)(hf:b=false->v=some r->AW P C nt y E S Q)(hb:lk E t=vb b:=by kernel_rfl):AW P C nt (.cond (.tmp t) x y) E S Q:=
 UC (λq=>ht q (Z7X h q)) (λq=>hf q (Z7Z h q)) hb
theorem F9{R:Type}{u v:Option R}{r:R}(h:br b u v=some r):(b=true/\u=some r)\/(b=false/\v=some r):=by
 cases b
 .exact .inr ⟨rfl,h⟩
 .exact .inl ⟨rfl,h⟩
theorem gS{R:Type}{p:Prop}[Decidable p]{x:Option R}{r:R}(h:gd p x=some r):p/\x=some r:=Zf h
theorem bS{α R:Type}{x:Option α}{f:α->Option R}{r:R}(h:x.bind f=some r):∃z,x=some z/\f z=some r:=YQ h
theorem FI(hf:P.funcs[f]?=some fn)(hm:P.follows .mixedOrders=true)(hL:Qa P L)(h:∀C,Fr P L C (S.map (·.1))->AW P C fn.ntmps c (JN args) S (Wu P fn C r S'))(hb:fn.body=some c:=by rfl)(hn0:Nat.ble args.length fn.ntmps=true:=by kernel_rfl):J7 P f args S r S':=Z9Q hm hL hf hb hn0 h
section
variable {e:U5}
end
section
open Go.MapKept
section
variable {R:ξ}{e:U5}{a:Act}
end
end
section
open Go.MapKept
section
variable {e:U5}
end
end
section
variable {e:U5}
end
section
variable {e:U5}
end
def Yn(m:Int):ByteArray:=ByteArray.empty.push (UInt8.ofNat m.toNat)
section
variable {e:U5}
theorem BV{y:Operand}{b:ByteArray}(hk:Ql ds k=sE (.v (.c (.d (.str (a++b))))))(hop:(IT ops k).op=.binOp .add t x y t')(hc:a.size+b.size<=Y2)(hb:Un ops nt (No L ops ds e s k) (IT ops k) x y=true:=by kernel_rfl)(hx:Y3 (No L ops ds e s k) x=.v (.c (.d (.str a))):=by kernel_rfl)(hy:Y3 (No L ops ds e s k) y=.v (.c (.d (.str b))):=by kernel_rfl):J9 P C nt L ops ds e s k:=by
 unfold J9;rw[hk]
 simp only[Un,dc,eY]at hb;obtain⟨⟨⟨m,p⟩,q⟩,n⟩:=hb
 refine Kd rfl q n λR η r z u w g f=>?_
 have i:=(K3 f x).1;rw[ZL g m,hx]at i
 have i:=Gl i;have h:=(K3 f y).1
 rw[ZL g p,hy]at h;have h:=Gl h
 have j:¬(((a.size+b.size:Nat):Int) > IntKind.i64.max):=by
  have:IntKind.i64.max=9223372036854775807:=rfl
  rw[this];unfold Y2 at hc;omega
 refine⟨.string (a++b),?_,.v _ _ (.c _ _ (.d _ _ (.str _)))⟩;have o:(eqGuard .add t x y (.string a) (.string b)).run P w=.ok () w:=uF _ _ _ _ _ _ _
 have l:(binOp .add t (.string a) (.string b)).run P w=.ok (.string (a++b)) w:=by
  show(Op.stringOp .add a b).run P w=_;simp only[Op.stringOp]
  rw[an j];rfl
 simp only[execOp,hop,eX,i,h,o,l,fh,fB]
theorem qu{src dst el:TypeId}{m:Int}(hk:Ql ds k=sE (.v (.c (.d (.str (Yn m))))))(hop:(IT ops k).op=.convert src dst x)(hs:P.underlying src=some (.slice el):=by kernel_rfl)(he:P.underlying el=some (.int .u8):=by kernel_rfl)(hd:P.underlying dst=some .string:=by kernel_rfl)(hb:Un ops nt (No L ops ds e s k) (IT ops k) x x=true:=by kernel_rfl)(hx:Y3 (No L ops ds e s k) x=.v (.c (.d (.lst 1 (y7 1 [.int .u8 m])))):=by kernel_rfl):J9 P C nt L ops ds e s k:=by
 unfold J9;rw[hk]
 simp only[Un,dc,eY]at hb;obtain⟨⟨⟨q,J⟩,D⟩,z⟩:=hb
 refine Kd rfl D z λR η p I A w l o=>?_
 have g:=(K3 o x).1;rw[ZL l q,hx]at g
 generalize hu:A.eval x=u at g
 cases g with|v _ _ g=>cases g with|c _ _ g=>cases g with|d _ _ g=>
 cases g with|lst b off n cap c e' fz f es hX hheap hn ho hf hd' =>
 have r:=hf 0 (by omega);have i:es=1:=by rw[<-r];rfl
 subst i;have h:=hd' 0 0 (by omega) (by omega)
 have G:c.getD off undef=.int .u8 m:=by
  have p:off+(0*1+0)=off:=by omega
  rw[p]at h;have B:(y7 1 [aH.int .u8 m] 0).getD 0 .any=.int .u8 m:=rfl
  rw[B]at h;generalize c.getD off undef=u at h⊢
  cases h;rfl
 have t:=run_loadCells (P:=P) w ⟨b,off,none⟩ 1 (λj=>c.getD (off+j) undef) (λj H=>by rw[add_lit];exact MY hheap _ (by omega));refine⟨.string (Yn m),?_,.v _ _ (.c _ _ (.d _ _ (.str _)))⟩
 have F:c[off]?.getD undef=.int .u8 m:=by rw[<-G];simp
 simp[execOp,hop,hu,convert,ef hs,ef hd,ef he,Conv.bytesToString,t,F,Yn]
end
def sK(ks:υ)(S:ι)(n:ι):ι:=ks.map (λi=>(i,(ls S i).getD (.box false [])))++n
section
variable {y:Code}
theorem Y0i{x y:Code}(k:AW P C nt y E S Q):AW P C nt (.cond (.const (.bool false)) x y) E S Q:=λR η a w b=>nq rfl (k R η a w b)
end
theorem eI{k:IntKind}{e v:Int}(h:some e=some v):Z5 (.v (.c (.d (.int k e)))) (.v (.c (.d (.int k v)))):=by cases h;exact Z5.refl _
section
variable {α:Type}[aN α]
def Wx(l:List α)(i off:Nat)(ds:Ψ):Obj:=.arr (aN.es α) l.length λj=>if j=i then YH (LF l i) off ds else LF l j
def Qd(l m:List α):Obj:=.arr (aN.es α) (l.length+m.length) (Qu l.length (LF l) (LF m))
def CO(m:List α):Obj:=.arr (aN.es α) (0+m.length) (Qu 0 (λ_=>[]) (LF m))
theorem WK{l:List α}{ds:Ψ}{y:α}(hi:i<l.length)(hy:YH (LF l i) off ds=aN.cells y:=by kernel_rfl):J2 (Wx l i off ds) (AO (l.set i y)):=J2.is (Is.set (Is.refl l) hi y hy)
theorem Qf{l m:List α}:J2 (Qd l m) (AO (l++m)):=J2.is (Is.app (Is.refl l) (Is.refl m))
theorem vX{m:List α}:J2 (CO m) (AO ([]++m)):=J2.is (Is.app Is.nil (Is.refl m))
theorem z9(l:List α):∀j,j<l.length->(LF l j).length=aN.es α:=(Is.refl l).len
theorem QS(x:α):Z5 (.v (.c (.d (.lst 1 (y7 (aN.es α) (aN.cells x)))))) (AL [x]):=Z5.lst (.lit [x] (by
 show[y7 (aN.es α) (aN.cells x) 0]=[aN.cells x];unfold y7
 have:=aN.len x
 rw[mz,lJ,lz (by omega)]))
end
section
variable {e:U5}
theorem Z9C{y z:Operand}{a b c:Int}(hk:Ql ds k=sE (vi (y9 (y9 a b) c)))(hop:(IT ops k).op=.call {callee:=.builtin .max,args:= #[x,y,z],argTypes:=tys})(hb:Un ops nt (No L ops ds e s k) (IT ops k) x y=true:=by kernel_rfl)(hb2:Un ops nt (No L ops ds e s k) (IT ops k) z z=true:=by kernel_rfl)(hx:Y3 (No L ops ds e s k) x=vi a:=by kernel_rfl)(hy:Y3 (No L ops ds e s k) y=vi b:=by kernel_rfl)(hz:Y3 (No L ops ds e s k) z=vi c:=by kernel_rfl):J9 P C nt L ops ds e s k:=by
 unfold J9;rw[hk]
 simp only[Un,dc,eY]at hb hb2;obtain⟨⟨⟨j,n⟩,o⟩,l⟩:=hb
 obtain⟨⟨⟨m,_⟩,_⟩,_⟩:=hb2;refine Kd rfl o l λR η p r q w f d=>?_
 have i:=(K3 d x).1;rw[ZL f j,hx]at i
 have i:=Vr i;have g:=(K3 d y).1
 rw[ZL f n,hy]at g;have g:=Vr g
 have h:=(K3 d z).1;rw[ZL f m,hz]at h
 have h:=Vr h;refine⟨.int .i64 (y9 (y9 a b) c),?_,WY _ _ _⟩
 simp[execOp,hop,resolve,invoke,builtin,Builtin.max_,Builtin.max2,i,g,h,y9]
 rfl
end
theorem Z9Z(n:Nat)(h:AW P C nt c E S (Exit.then (λa w=>Code.rounds P c Q n a w) Q)):AW P C nt (.loop c) E S Q:=λR η a w b=>wp_loop_rounds (n+1) (h R η a w b)
theorem NV(h:AW P C nt c E S (Exit.then (λa w=>Code.rounds P c Q n a w) Q)):Kn C nt E S (λa w=>Code.rounds P c Q (n+1) a w):=λR η a w b=>h R η a w b
@[reducible] def gn {α:Type} [aN α] (l:List α) (i:Int):α:=gl l i.toNat
@[reducible] def jb (t:Nat) (z:Bool):Γ:=[(t,vb z)]
@[reducible] def nn {σ β:Type}:σ->List β:=fun _=>[]
@[reducible] def f0:CV:=.fl 0 fun _=>[]
def oD(a b:Nat)(e:Array Oper->Oper->U5->eJ):List dH:=List.replicate a .s++.k e::List.replicate b .s
@[reducible] def k1 (i:Nat) (K:ξ):Prop:=K i/\True
@[reducible] def k2 (i j:Nat) (K:ξ):Prop:=K i/\K j/\True
theorem gO{p:Prop}[Decidable p]{R:Type}{x:Option R}{r:R}(h:gd p x=some r)(k:p->x=some r->q):q:=k (gS h).1 (gS h).2
theorem bO{α R:Type}{x:Option α}{f:α->Option R}{r:R}(h:x.bind f=some r)(k:∀z,x=some z->f z=some r->q):q:=(bS h).elim λz e=>k z e.1 e.2
theorem V8{R:Type}{u v:Option R}{r:R}(h:br b u v=some r)(ht:b=true->u=some r->q)(hf:b=false->v=some r->q):q:=(F9 h).elim (λe=>ht e.1 e.2) λe=>hf e.1 e.2
theorem BZ(Fm:Fr P L C pins){R:Type}{a r:R}(h:some a=some r){g:R->ai}{G:R->ι}(hQ:Q .ret=Wu P fn C (g r) (G r) .ret:=by rfl)(hq:(Jr L (lk E) (ls S) fn.results.toList,(G a).map (λp=>ls S p.1))=(some (g a),(G a).map (λp=>some p.2)):=by kernel_rfl):AW P C nt .ret E S Q:=by
 cases h
 exact VX (hQ ▸ Zq Fm hq)
theorem Nd{σ R:Type}{r:R}{body:(σ->Option R)->σ->Option R}{z0:σ}(h:Y4 body n z0=some r)(E' : σ->Γ)(S' : σ->ι)(round:∀(again:σ->Option R) (z:σ) (J:Act->World->Prop),(∀z',again z'=some r->Kn C nt (E' z') (S' z') J)->body again z=some r->AW P C nt c (E' z) (S' z) (Exit.then J Q)):AW P C nt (.loop c) (E' z0) (S' z0) Q:=Iv E' S' round h
theorem G5(Fm:Fr P L C pins)(E' : Γ)(S' : ι)(h:Kn C nt E' S' K)(hq:(pins.all (λi=>J1 [] i==i),E'.map (λp=>lk E p.1),S'.map (λp=>ls S (J1 [] p.1)),Yr (S'.map λp=>J1 [] p.1))=(true,E'.map (λp=>p.2.ren (J1 [])),S'.map (λp=>some (p.2.ren (J1 []))),true):=by kernel_rfl):Kn C nt E S K:=tu Fm E' S' hq h
theorem gT{f:Δ}(E' : Γ)(S' : ι)(h:Kn C nt E' S' K)(hq:(E.map (λp=>(p.1,p.2.frz k n f)),S.map (λp=>(p.1,p.2.frz k n f)),(S.map (·.1)).contains k)=(E',S',false):=by kernel_rfl):Kn C nt E ((k,.arr es n f)::S) K:=Z9v E' S' (congrArg (·.1) hq) (congrArg (·.2.1) hq) (congrArg (·.2.2) hq) h
theorem QU(Fm:Fr P L C pins)(ρ:List (Nat×Nat))(E' : Γ)(S' : ι)(h:Kn C nt E' S' K)(hq:(pins.all (λi=>J1 ρ i==i),E'.map (λp=>lk E p.1),S'.map (λp=>ls S (J1 ρ p.1)),Yr (S'.map λp=>J1 ρ p.1))=(true,E'.map (λp=>p.2.ren (J1 ρ)),S'.map (λp=>some (p.2.ren (J1 ρ))),true):=by kernel_rfl):Kn C nt E S K:=
 gR Fm ρ E' S' (congrArg (·.1) hq) (congrArg (·.2.1) hq) (congrArg (·.2.2.1) hq) (congrArg (·.2.2.2) hq) h
abbrev YJ(pins:υ)(E:Γ)(S:ι)(E' : Γ)(S' : ι):Bool×List ai×List (Option Obj)×Bool:=(pins.all (λi=>J1 [] i==i),E'.map (λp=>lk E p.1),S'.map (λp=>ls S (J1 [] p.1)),Yr (S'.map λp=>J1 [] p.1))
abbrev YI(E' : Γ)(S' : ι):Bool×List ai×List (Option Obj)×Bool:=(true,E'.map (λp=>p.2.ren (J1 [])),S'.map (λp=>some (p.2.ren (J1 []))),true)
section
variable {y:Code}
end
section
variable {e:U5}
theorem z7(hspec:J7 P f args Si r So)(hcall:∀args w,(callFunc f args).run P w=.ok (.enter f args) w)(m:List (Nat×Nat))(extra:υ)(xs:List Operand)(hargs:Gd C nt (No L ops ds e s k) (OF L ops ds e s k) Si (J1 m) (Qs (IT ops k)++Qk ops (IT ops k)) (WA (No L ops ds e s k) (IT ops k)++(Si.map (λp=>J1 m p.1)++extra)) xs args)(hk:Ql ds k=cE m extra r Si So:=by rfl)(hq:(Go.Ab.callB ops nt (No L ops ds e s k) (IT ops k) f m r Si So,Si.map (λp=>QC L ops ops.toList ds e s k (J1 m p.1)),(Go.Ab.callXs (IT ops k)).toList)=(true,Si.map (λp=>some (p.2.ren (J1 m))),xs):=by kernel_rfl):J9 P C nt L ops ds e s k:=
 I7 hspec hcall m extra xs hk (congrArg (·.1) hq) (congrArg (·.2.1) hq) (congrArg (·.2.2) hq) hargs
theorem Qm(hcall:∀args w,(callFunc f args).run P w=.ok (.enter f args) w)(cs:List (List CV))(hspec:∀args r,F args r->J7 P f (args++WL cs) (ZK cs) r (ZK cs)/\r.closed=true)(cids:υ)(hbox:Rb s cids cs)(hx:Qt rd x=true:=by kernel_rfl)(hv:Y3 e x=.v (.c (.clo f cids)):=by kernel_rfl)(hnd:(Yr cids&&cs.all (λc=>c.all CV.closed)&&cids.all (λi=>ids.contains i))=true:=by kernel_rfl)(hsi:DP s Si m ids cids=true:=by kernel_rfl):YU C nt e s Si m rd ids x (YG P F):=Z9W hcall cs (λa r h=>(hspec a r h).1) (λa r h=>(hspec a r h).2) hx cids hv hnd hbox hsi
end
section
variable {R:ξ}{e:U5}{a:Act}
end
section
open Go.Sort Go.Proofs Go.Shelf
theorem Q9n{P:Program}{ρ:Ren}(Ly:SlLaysF.n6 P ρ)(F:(Int->Int->φ)->List ai->ai->Prop)(hF:∀ q x y z,q x y=some z->F q [vi x,vi y] (vi z)){x r:θ}{q:Int->Int->φ}(h:Ke x q=some r):
  J7 P (ρ.f 6) [.v (.c (.own 0)),YG P (F q)] [(0,AO (α:=Int) x)] .any [(0,AO (α:=Int) r)]:=by
 obtain⟨hl,B⟩:=Q9r h;have c3:SlLaysF0.n6 P ρ:= {Ly with}
 have U:r.length=x.length:=B.perm.length_eq;intro w X η vs hX a2 b5 j3 N T
 have N:vs.size=2:=N;have f5:vs.getD 0 undef=η 0:=Vm (C:=Qh [(0,AO (α:=Int) x)] w X η) (s:=ls [(0,AO (α:=Int) x)]) (by have:=T 0 (by simp);rw[PT a2];exact this)
 have f8:Qv P (F q) w (dV (ls [(0,AO (α:=Int) x)]) η) X (vs.getD 1 undef):=by
  have:=T 1 (by simp)
  change aQ w X η _ (vs.getD 1 undef) (YG P (F q))at this;generalize vs.getD 1 undef=u at this
  cases this with|v _ _ g=>cases g with|c _ _ g=>cases g with|sem _ _ g _=>exact g
 rw[qO N,f5];have ho:=b5 0 (AO x) (by rw[Qo,av rfl])
 have a4:∀b,b∈Y9 (η 0)->X b:=λb hb=>a2 b ⟨0,_,by rw[Qo,av rfl],hb⟩
 generalize hu:η 0=u at ho;unfold AO at ho
 generalize W:x.length=n at ho
 cases ho with
 |nil ad=>
  have hx:x=[]:=iH W;refine(AnyF.slices_SortFunc_none c3 ad 0 _ w).mono λe w' g=>?_
  obtain⟨he,hw⟩:=g;refine⟨_,η,he,?_⟩
  rw[hw];have hb:=gy (w:=w) (X:=X) (l:=x) hu hX.lt
  have hp:r=[]:=iH (by rw[U,W]);rw[hp];exact hb
 |arr b _ cap _ c e _ g1 g2 g3 g4 g5 g6 g7=>
  rename_i n
  have D:b∈Y9 (η 0):=by rw[hu];simp[Y9];omega
  rcases lA n with a5|a5
  .subst a5
   refine(AnyF.slices_SortFunc_none c3 (some ⟨b,0,none⟩) cap _ w).mono λe' w' g=>?_
   obtain⟨he,hw⟩:=g;refine⟨_,η,he,?_⟩
   rw[hw];exact qd (c':=c) (e:=e) (b:=b) (n:=0) (cap:=cap) hu g5 (aM.refl _ _) g1 g2 (by rw[U,W]) g3 g4 (λi j G=>absurd G (fy i)) hX.lt (a4 b D)
  obtain⟨c1,a3,h3,a8,c0⟩:=f8;rw[h3]
  letI inst:Inhabited (_root_.Fin n):=⟨⟨0,a5⟩⟩
  let aT:_root_.Fin n->Int:=λi=>x[i.val]'(by omega)
  have b4:∀i,aT i∈r:=λi=>B.perm.mem_iff.2 (fp _)
  have I:∀i,∃s,∃hs:s<r.length,r[s]=aT i:=λi=>by
   obtain⟨s,hs,e⟩:=eZ (b4 i);exact⟨s,hs,e⟩
  let pos:_root_.Fin n->Nat:=λi=>(I i).choose
  have a6:∀i,pos i<r.length:=λi=>(I i).choose_spec.choose
  have a0:∀i,r[pos i]'(a6 i)=aT i:=λi=>(I i).choose_spec.choose_spec
  have o:∀i j,(pos i<pos j->XN q (aT i) (aT j))/\(pos j<=pos i->XQ q (aT i) (aT j)):=λi j=>by
   have:=B.at (pos i) (pos j) (a6 i) (a6 j)
   rw[a0,a0]at this;exact this
  let cf:_root_.Fin n->_root_.Fin n->Int:=λi j=>(q (aT i) (aT j)).getD 0
  have hq:∀i j,q (aT i) (aT j)=some (cf i j):=by
   intro i j;rcases eK (pos i) (pos j)with V|V
   .obtain ⟨z,e,_⟩:=(o i j).1 V;show _=some ((q (aT i) (aT j)).getD 0);rw[e];rfl
   .obtain ⟨z,e,_⟩:=(o i j).2 V;show _=some ((q (aT i) (aT j)).getD 0);rw[e];rfl
  have b9:∀i j,ZH cf i j=true↔pos i<pos j:=by
   intro i j;unfold ZH
   rw[dT];rcases eK (pos i) (pos j)with V|V
   .obtain ⟨z,e,hz⟩:=(o i j).1 V
    have:=(hq i j).symm.trans e
    have:cf i j=z:=ic this
    omega
   .obtain ⟨z,e,hz⟩:=(o i j).2 V
    have:=(hq i j).symm.trans e
    have:cf i j=z:=ic this
    omega
  have hO:SWO (ZH cf):=Q8L pos b9;have c6:r.Nodup:=B.asc.imp_of_mem λ{a b} ha _ g e=>by subst e;exact g.1.not (B.self a ha)
  have b7:x.Nodup:=B.perm.nodup_iff.1 c6;have Y:∀i j,aT i=aT j->i=j:=λi j e=>by
   have:i.val=j.val:=(ma b7).1 e
   exact _root_.Fin.ext this
  have J:∀i j,pos i=pos j->i=j:=λi j e=>by
   apply Y;rw[<-a0 i, <-a0 j]
   simp only[e]
  let d:Array (_root_.Fin n):=(List.finRange n).toArray
  have hd:d.size=n:=by simp[d]
  have c5:∀i (G:i<n),d[i]! = ⟨i,G⟩:=λi G=>by
   rw[lV d i (by rw[hd];exact G)];simp[d]
  obtain⟨⟨A,_,c2⟩,c7⟩:=pdq_sorts (ZH cf) hO d 0 d.size (Lib.bitLen d.size) true true (dW _) (di _) (.inl rfl);generalize hpd:pdq (ZH cf) d 0 d.size (Lib.bitLen d.size) true true=p at A c2 c7
  have A:p.size=n:=A.trans hd;have O:p.toList.Perm (List.finRange n):=by
   have:(p.extract 0 d.size).toList.Perm (d.extract 0 d.size).toList:=c2
   have e1:p.extract 0 d.size=p:=by rw[hd.trans A.symm];exact Array.extract_size
   rw[e1,Array.extract_size]at this;exact this
  have a7:(List.finRange n).map aT=x:=by
   apply List.ext_getElem
   .simp [W]
   .intro i V h2;simp[aT]
  have d5:r=p.toList.map aT:=by
   refine B.uniq ⟨a7 ▸ O.map aT,?_,λa ha=>?_⟩
   .rw [mj,ie]
    intro i j G hj d8;have Z : i<p.size:=by simpa using G
    have c8 : j<p.size:=by simpa using hj
    have h5:ZH cf p[j]! p[i]! = false:=c7 i j (dW _) d8 (by rw[hd, <-A];exact c8);rw[lV p i Z,lV p j c8]at h5
    have h6:¬pos p[j]<pos p[i]:=λg=>by rw[(b9 _ _).2 g]at h5;cases h5
    have g0:p.toList.Nodup:=O.nodup_iff.2 (List.nodup_finRange n);have h7:pos p[i]≠pos p[j]:=λg=>by
     have h8:=J _ _ g;have:=(ma (i:=i) (j:=j) (h₀:=G) (h₁:=hj) g0).1 (by simpa using h8)
     omega
    have h8:pos p[i]<pos p[j]:=by omega
    simp only[ou];exact⟨(o _ _).1 h8,(o _ _).2 (by omega)⟩
   .obtain ⟨i,_,rfl⟩:=eF.1 ha
    exact(o i i).2 (di _)
  have f9:∀i:_root_.Fin n,(LF x i.val)=[.int .i64 (aT i)]:=λi=>by
   show aN.cells (x.getD i.val aN.d)=_;rw[Mx x i.val (by omega)];rfl
  have e4:∀i:_root_.Fin n,c.getD i.val undef=.int .i64 (aT i):=λi=>by
   have h0:=g7 i.val 0 i.isLt (by show 0<1;omega);rw[f9]at h0
   have e0:i.val*aN.es Int+0=i.val:=by show i.val*1+0=_;omega
   rw[e0]at h0;exact h0.lit rfl
  let enc:_root_.Fin n->Value:=λi=>.int .i64 (aT i)
  have g2:c.size=cap:=by rw[g2];show cap*1=cap;omega
  have hH:Holds enc w b 0 d:=by
   intro t ht;have a9 : t<n:=by rw[hd]at ht;exact ht
   have c4:t<c.size:=by omega
   refine⟨?_,by simp[World.frozen?,g1]⟩;rw[c5 t a9]
   have h2:=e4 ⟨t,a9⟩;simp only at h2
   simp only[eH,World.cell?,g1,oK,iS,fC,id];rw[iD c4]
   congr 1
   show _=Value.int .i64 (aT ⟨t,a9⟩);rw[<-h2];simp[c4]
  have V:OneCell enc:=λi=>rfl
  have b6:CmpLays1 P c1 a3 enc cf b 0 d.size w:=by
   intro m os dk j2 u v;have H:=HU enc w b 0 m dk os
   refine(c0 (grow (putRow enc (Go.Sort.ahead w m) b 0 dk) os) X #[enc u,enc v] _ _ (hF q (aT u) (aT v) (cf u v) (hq u v)) H.size (λy hy hD=>H.block y hy λe=>hD ?_)
    ⟨λy hy=>fH (hX.lt y hy) H.size,hX.gl.mono λy hy W=>⟨H.block y hy λe=>W (by rw[e];exact a4 b D),W⟩⟩ (λy _ _=>Iff.rfl) rfl (λj hj η C=>?_)).mono λe2 w2 g=>?_
   .rw [e];exact⟨0,_,by rw[Qo,av rfl],D⟩
   .have:j=0\/j=1:=by simp at hj;omega
    rcases this with rfl|rfl
    .exact .v _ _ (.c _ _ (.d _ _ (.int _ _)))
    .exact .v _ _ (.c _ _ (.d _ _ (.int _ _)))
   .obtain ⟨v',he,f7,hr⟩:=g
    have g9:=hr η (Qh [] w X η);have e3:v'=.int .i64 (cf u v):=by
     cases g9 with|v _ _ g=>cases g with|c _ _ g=>cases g with|d _ _ g=>cases g;rfl
    obtain⟨qq,e7,f4⟩:=cQ f7;exact⟨by rw[he,e3],qq,e7,f4⟩
  have M:=Any.slices_SortFunc_eq Ly enc V cf hO c1 a3 b 0 cap d w a8 b6 hH (J4 g1) (by rw[hd];simp only[Y2]at hl;omega);rw[hd]at M
  refine M.mono λe' w' g=>?_
  obtain⟨he,nn,os,hw⟩:=g;refine⟨_,η,he,?_⟩
  have e5:pdq (ltOf cf) d 0 n (Lib.bitLen n) true true=p:=by rw[<-hpd,hd];rfl
  rw[e5]at hw;have g8:w'=grow (putRow enc (Go.Sort.ahead w nn) b 0 p) os:=hw
  rw[g8];have H:=HU enc w b 0 nn p os
  refine qd (c':=putCells enc 0 p c) (e:=e) (b:=b) (n:=n) (cap:=cap) hu g5 H (vI _ _ _ _ _ _ _ g1) (by rw[zV,g2];show cap=cap*1;omega) (by rw[U,W]) g3 g4 (λi j G hj=>?_) hX.lt (a4 b D);have f1:j=0:=by have:j<1:=hj;omega
  subst f1;have e0:i*aN.es Int+0=i:=by show i*1+0=_;omega
  rw[e0,kb _ _ _ _ (by rw[A];exact G) (by rw[A,g2];exact g3)];have e6:LF r i=[.int .i64 (aT p[i]!)]:=by
   show aN.cells (r.getD i aN.d)=_;rw[Mx r i (by rw[U,W];exact G)]
   have Z : i<p.size:=by rw[A];exact G
   rw[lV p i Z];have:r[i]'(by rw[U,W];exact G)=(p.toList.map aT)[i]'(by simpa using Z):=by simp only[d5]
   rw[this];simp[aN.cells]
  rw[e6];exact .int _ _
end
def v5(ops:Array Oper):List Oper->υ->υ
 |[],_=>[]
 |o::os,d=>((Qs o++Qk ops o).filter λt=> !d.contains t)++v5 ops os (match o.guard,o.dst with|none,some x=>x::d|_,_=>d)
def rkK(o:Oper):Option Nat:=match o.guard with|none=>o.dst|some _=>none
def Pv:List ResultVar->υ
 |[]=>[]
 |.tmp t::r=>t::Pv r
 |.cell t _::r=>t::Pv r
def Pw:υ->υ
 |[]=>[]
 |x::l=>match (Pw l).contains x with|true=>Pw l|false=>x::Pw l
structure LV where
 out:υ
 ex:List (Nat×υ)
 rt:υ
def K6:Code->LV->υ
 |.skip,v=>v.out
 |.region _ ops _,v=>Pw (v5 ops ops.toList []++v.out.filter λt=> !(ops.toList.filterMap rkK).contains t)
 |.seq a b,v=>K6 a ⟨K6 b v,v.ex,v.rt⟩
 |.cond x a b,v=>Pw ((match x with|.tmp t=>[t]|_=>[])++(K6 a v++K6 b v))
 |.block i c,v=>K6 c ⟨v.out,(i,v.out)::v.ex,v.rt⟩
 |.loop c,v=>K6 c ⟨[],v.ex,v.rt⟩
 |.exit i,v=>(v.ex.lookup i).getD []
 |.ret,v=>v.rt
 |_,_=>[]
def Gz:Code->υ
 |.region _ ops _=>ops.toList.filterMap (·.dst)
 |.seq a b=>Gz a++Gz b
 |.cond _ a b=>Gz a++Gz b
 |.block _ c=>Gz c
 |.loop c=>Gz c
 |_=>[]
def Lv(v:LV)(Q:Exit->Act->World->Prop):Exit->Act->World->Prop:=Q
class Fz (P:outParam Program) (L:outParam dj) (C:da) (pins:outParam υ):Prop where
 b:Fr P L C pins
abbrev sN(n:Nat)(l:List dH):List dH:=List.replicate n .s++l
def pd(ops:Array Oper)(ds:List dH):List dH:=ds++List.replicate (ops.size-ds.length) .s
def uk(S:ι):Nat->υ->υ
 |0,l=>l
 |n+1,l=>uk S n (Pw (l++l.flatMap λi=>match ls S i with|some o=>o.refs|none=>[]))
def yn:ι->υ
 |[]=>[]
 |(i,.exr _ _)::S=>i::yn S
 |_::S=>yn S
def rkB(o:Oper):Bool:=match o.op with|.alloc _=>true|.call _=>true|_=>false
def YW(pins:υ)(ops:Array Oper)(ds:List dH)(E:Γ)(S:ι):ι:=
 match ds.isEmpty && !(ops.toList.any rkB)with
 |true=>S
 |false=>S.filter λp=>(uk S 3 (pins++(E.flatMap λp=>p.2.refs)++yn S)).contains p.1
def ZU(pins:υ)(L:dj)(ops:Array Oper)(ds:List dH)(E:Γ)(S:ι)(ts:υ):Γ:=
 ts.map λt=>(t,JH ops.toList (VW L ops ops.toList (pd ops ds) (lk E) (ls (YW pins ops ds E S))) (lk E) t)
def tW(L:dj)(ops:Array Oper)(ds:List dH)(E:Γ)(S:ι):ι:=
 (S.map (·.1)++YY (VW L ops ops.toList (pd ops ds) (lk E) (ls S))).filterMap λi=>(JG (VW L ops ops.toList (pd ops ds) (lk E) (ls S)) (ls S) i).map λo=>(i,o)
def QF(pins:υ)(L:dj)(ops:Array Oper)(ds:List dH)(E:Γ)(S:ι):ι:=tW L ops ds E (YW pins ops ds E S)
theorem th:J1 []=λi=>i:=by funext i;rfl
section
variable {v:LV}
variable {y:Code}
abbrev Yl(P:Program)(C:da)(nt:Nat)(L:dj)(pins:υ)(E:Γ)(S:ι)(ops:Array Oper)(draw:Bool)(ds:List dH):Bool×Prop:=
 (LX L pins nt ops draw (pd ops ds) E (YW pins ops ds E S) [] (QF pins L ops ds E S),KT P C nt L ops ops.toList (pd ops ds) (lk E) (ls (YW pins ops ds E S)))
theorem Fe{l:υ}{i:Nat}{o:Obj}:∀{S:ι},ls (S.filter λp=>l.contains p.1) i=some o->ls S i=some o
 |[],h=>h
 |(j,x)::S,h=>by
  rw[Qo];rw[iX]at h
  by_cases hj:l.contains j=true
  .rw [av hj,Qo]at h
   by_cases hij:i=j
   .rw [av hij]at h⊢;exact h
   .rw [an hij]at h⊢;exact Fe h
  .rw [an hj]at h
   by_cases hij:i=j
   .exfalso
    subst hij;have:=y6 h
    exact hj (by simpa using(fD.1 this).2)
   .rw [an hij];exact Fe h
theorem L7{l:υ}(h:Kn C nt E (S.filter λp=>l.contains p.1) K):Kn C nt E S K:=by
 intro R η a w c;refine h R (λi=>η i) a w (c.conv (λi=>i) (λt=>by rw[RB];exact Z5.refl _) (λi x b=>⟨x,Fe b,by rw[Rs];exact J2.refl _⟩) (λi j b g d=>d) c.er (λi x b=>c.sr i x (Fe b)) (λi b=>?_))
 obtain⟨v,f⟩:=dS.1 b;exact⟨rfl,(c.pn i v f).2⟩
theorem Z9u(h:Kn C nt E (YW pins ops ds E S) K):Kn C nt E S K:=by
 unfold YW at h;split at h
 .exact h
 .exact L7 h
theorem Z8[Fm:Fz P L C pins](ds:List dH)(c:ξ->Prop)(hc:c (J9 P C nt L ops (pd ops ds) (lk E) (ls (YW pins ops ds E S))))(k:Kn C nt (ZU pins L ops ds E S v.out) (QF pins L ops ds E S) (Q .normal))(h:Yl P C nt L pins E S ops draw ds=(true,c (J9 P C nt L ops (pd ops ds) (lk E) (ls (YW pins ops ds E S)))):=by kernel_rfl):AW P C nt (.region id ops draw) E S (Lv v Q):=by
 refine Z9u (pins:=pins) (ops:=ops) (ds:=ds) (ID Fm.b (pd ops ds) [] c (ZU pins L ops ds E S v.out) (QF pins L ops ds E S) hc (congrArg (·.1) h) (congrArg (·.2) h) ?_ ?_ k)
 .rw [th]
  unfold ZU;rw[i8,i8]
  exact iT λt _=>(RB _).symm
 .rw [th]
  refine iT λp d=>?_
  unfold QF tW at d;obtain⟨i,_,g⟩:=mG.1 d
  obtain⟨o,f,e⟩:=oM.1 g;rw[<-e]
  simp only[f,Rs]
theorem Q1{x:Code}(h:AW P C nt x E S (Lv ⟨K6 y v,v.ex,v.rt⟩ (Exit.then (y.wp P (Lv v Q)) (Lv v Q)))):AW P C nt (.seq x y) E S (Lv v Q):=B8 h
theorem Q9(h:AW P C nt c E S (Lv ⟨v.out,(i,v.out)::v.ex,v.rt⟩ (Exit.inBlock i (Lv v Q)))):AW P C nt (.block i c) E S (Lv v Q):=Y0j h
theorem QQ[Fm:Fz P L C pins](ds:List dH)(c:ξ->Prop)(hc:c (J9 P C nt L ops (pd ops ds) (lk E) (ls (YW pins ops ds E S))))(k:AW P C nt y (ZU pins L ops ds E S (K6 y v)) (QF pins L ops ds E S) (Lv v Q))(h:Yl P C nt L pins E S ops draw ds=(true,c (J9 P C nt L ops (pd ops ds) (lk E) (ls (YW pins ops ds E S)))):=by kernel_rfl):AW P C nt (.seq (.region id ops draw) y) E S (Lv v Q):=Q1 (Z8 ds c hc k h)
theorem Jh[Fm:Fz P L C pins](ds:List dH)(hc:q)(k:Kn C nt (ZU pins L ops ds E S v.out) (QF pins L ops ds E S) (Q .normal))(h:Yl P C nt L pins E S ops draw ds=(true,q):=by kernel_rfl):AW P C nt (.region id ops draw) E S (Lv v Q):=Z8 ds (λ_=>q) hc k h
theorem z8[Fm:Fz P L C pins](ds:List dH)(hc:q)(k:AW P C nt y (ZU pins L ops ds E S (K6 y v)) (QF pins L ops ds E S) (Lv v Q))(h:Yl P C nt L pins E S ops draw ds=(true,q):=by kernel_rfl):AW P C nt (.seq (.region id ops draw) y) E S (Lv v Q):=QQ ds (λ_=>q) hc k h
theorem Qi[Fm:Fz P L C pins](hc:q)(k:Kn C nt (ZU pins L ops [] E S v.out) (QF pins L ops [] E S) (Q .normal))(h:Yl P C nt L pins E S ops draw []=(true,q):=by kernel_rfl):AW P C nt (.region id ops draw) E S (Lv v Q):=Jh [] hc k h
theorem U7[Fm:Fz P L C pins](hc:q)(k:AW P C nt y (ZU pins L ops [] E S (K6 y v)) (QF pins L ops [] E S) (Lv v Q))(h:Yl P C nt L pins E S ops draw []=(true,q):=by kernel_rfl):AW P C nt (.seq (.region id ops draw) y) E S (Lv v Q):=z8 [] hc k h
theorem ZM[Fm:Fz P L C pins](k:Kn C nt (ZU pins L ops [] E S v.out) (QF pins L ops [] E S) (Q .normal))(h:Yl P C nt L pins E S ops draw []=(true,True):=by kernel_rfl):AW P C nt (.region id ops draw) E S (Lv v Q):=Jh [] True.intro k h
theorem Q0[Fm:Fz P L C pins](k:AW P C nt y (ZU pins L ops [] E S (K6 y v)) (QF pins L ops [] E S) (Lv v Q))(h:Yl P C nt L pins E S ops draw []=(true,True):=by kernel_rfl):AW P C nt (.seq (.region id ops draw) y) E S (Lv v Q):=z8 [] True.intro k h
theorem Y5[Fm:Fz P L C pins]{R:Type}{a r:R}(h:some a=some r){g:R->ai}{G:R->ι}(hQ:Q .ret=Wu P fn C (g r) (G r) .ret:=by rfl)(h1:Yl P C nt L pins E S ops draw []=(true,True):=by kernel_rfl)(hq:(Jr L (lk (ZU pins L ops [] E S (K6 .ret v))) (ls (QF pins L ops [] E S)) fn.results.toList,(G a).map (λp=>ls (QF pins L ops [] E S) p.1))=(some (g a),(G a).map (λp=>some p.2)):=by kernel_rfl):AW P C nt (.seq (.region id ops draw) .ret) E S (Lv v Q):=Q0 (BZ Fm.b h hQ hq) h1
def rp(N:ι)(S:ι):ι:=S.map λp=>(p.1,(N.lookup p.1).getD p.2)
def FX:ι->ι->Prop
 |(_,o)::W,(_,x)::N=>J2 o x/\FX W N
 |_,_=>True
theorem wS:∀{W N:ι},FX W N->W.map (·.1)=N.map (·.1)->∀{i:Nat} {x:Obj},N.lookup i=some x->∃o,W.lookup i=some o/\J2 o x
 |[],[],_,_,_,_,h=>by cases h
 |[],_::_,_,h,_,_,_=>by cases h
 |_::_,[],_,h,_,_,_=>by cases h
 |(k,o)::W,(j,z)::N,hf,b,i,x,h=>by
  simp only[eP,lB]at b;obtain⟨rfl,b⟩:=b
  rw[iw]at h⊢
  cases hik:i==k with
  |true=>rw[hik]at h;cases h;exact⟨o,rfl,hf.1⟩
  |false=>rw[hik]at h;exact wS hf.2 b h
theorem ud{W N:ι}(hf:FX W N)(hk:W.map (·.1)=N.map (·.1)):∀{S:ι},S.map (λp=>(W.lookup p.1).getD p.2)=S.map (·.2)->Rw S (rp N S)
 |[],_=>True.intro
 |(i,o)::S,h=>by
  simp only[eP,lB]at h;refine⟨rfl,?_,ud hf hk h.2⟩
  cases hl:N.lookup i with
  |none=>exact J2.refl _
  |some x=>
   obtain⟨d,c,f⟩:=wS hf hk hl;have b:=h.1
   rw[c]at b;have b:d=o:=b
   rw[<-b];exact f
theorem Z9n{W:ι}(hf:FX W N)(k:Kn C nt E (rp N S) K)(h:(W.map (·.1),S.map (λp=>(W.lookup p.1).getD p.2))=(N.map (·.1),S.map (·.2))):Kn C nt E S K:=
 Jf E _ (FE.refl _) (ud hf (congrArg (·.1) h) (congrArg (·.2) h)) k
theorem Zw[Fm:Fz P L C pins](ds:List dH)(c:ξ->Prop)(hc:c (J9 P C nt L ops (pd ops ds) (lk E) (ls (YW pins ops ds E S))))(W N:ι)(hW:FX W N)(k:Kn C nt (ZU pins L ops ds E S v.out) (rp N (QF pins L ops ds E S)) (Q .normal))(h:Yl P C nt L pins E S ops draw ds=(true,c (J9 P C nt L ops (pd ops ds) (lk E) (ls (YW pins ops ds E S)))):=by kernel_rfl)(h2:(W.map (·.1),(QF pins L ops ds E S).map (λp=>(W.lookup p.1).getD p.2))=(N.map (·.1),(QF pins L ops ds E S).map (·.2)):=by kernel_rfl):AW P C nt (.region id ops draw) E S (Lv v Q):=
 Z8 ds c hc (Z9n hW k h2) h
theorem JR[Fm:Fz P L C pins](ds:List dH)(c:ξ->Prop)(hc:c (J9 P C nt L ops (pd ops ds) (lk E) (ls (YW pins ops ds E S))))(W N:ι)(hW:FX W N)(k:AW P C nt y (ZU pins L ops ds E S (K6 y v)) (rp N (QF pins L ops ds E S)) (Lv v Q))(h:Yl P C nt L pins E S ops draw ds=(true,c (J9 P C nt L ops (pd ops ds) (lk E) (ls (YW pins ops ds E S)))):=by kernel_rfl)(h2:(W.map (·.1),(QF pins L ops ds E S).map (λp=>(W.lookup p.1).getD p.2))=(N.map (·.1),(QF pins L ops ds E S).map (·.2)):=by kernel_rfl):AW P C nt (.seq (.region id ops draw) y) E S (Lv v Q):=
 Q1 (Zw ds c hc W N hW k h h2)
theorem QD[Fm:Fz P L C pins](ds:List dH)(hc:q)(W N:ι)(hW:FX W N)(k:Kn C nt (ZU pins L ops ds E S v.out) (rp N (QF pins L ops ds E S)) (Q .normal))(h:Yl P C nt L pins E S ops draw ds=(true,q):=by kernel_rfl)(h2:(W.map (·.1),(QF pins L ops ds E S).map (λp=>(W.lookup p.1).getD p.2))=(N.map (·.1),(QF pins L ops ds E S).map (·.2)):=by kernel_rfl):AW P C nt (.region id ops draw) E S (Lv v Q):=Zw ds (λ_=>q) hc W N hW k h h2
theorem Yp[Fm:Fz P L C pins](ds:List dH)(hc:q)(W N:ι)(hW:FX W N)(k:AW P C nt y (ZU pins L ops ds E S (K6 y v)) (rp N (QF pins L ops ds E S)) (Lv v Q))(h:Yl P C nt L pins E S ops draw ds=(true,q):=by kernel_rfl)(h2:(W.map (·.1),(QF pins L ops ds E S).map (λp=>(W.lookup p.1).getD p.2))=(N.map (·.1),(QF pins L ops ds E S).map (·.2)):=by kernel_rfl):AW P C nt (.seq (.region id ops draw) y) E S (Lv v Q):=JR ds (λ_=>q) hc W N hW k h h2
theorem V9[Fm:Fz P L C pins](a:Nat)(hs:J7 P f args Si r So)(hc:∀ args w,(callFunc f args).run P w=.ok (.enter f args) w)(m:List (Nat×Nat))(k:Kn C nt (ZU pins L ops (oD a 0 (cE m [] r Si So)) E S v.out) (QF pins L ops (oD a 0 (cE m [] r Si So)) E S) (Q .normal))(hk:Ql (pd ops (oD a 0 (cE m [] r Si So))) a=cE m [] r Si So:=by kernel_rfl)(hq:(Go.Ab.callB ops nt (J0 L ops ops.toList (pd ops (oD a 0 (cE m [] r Si So))) (lk E) (ls (YW pins ops (oD a 0 (cE m [] r Si So)) E S)) a) (Y6 ops.toList a) f m r Si So,Si.map (fun p=>QC L ops ops.toList (pd ops (oD a 0 (cE m [] r Si So))) (lk E) (ls (YW pins ops (oD a 0 (cE m [] r Si So)) E S)) a (J1 m p.1)),
   (Go.Ab.callXs (Y6 ops.toList a)).toList.all (Qt (Qs (Y6 ops.toList a)++Qk ops (Y6 ops.toList a)))&&args.all ai.noSem,(Go.Ab.callXs (Y6 ops.toList a)).toList.map (Y3 (J0 L ops ops.toList (pd ops (oD a 0 (cE m [] r Si So))) (lk E) (ls (YW pins ops (oD a 0 (cE m [] r Si So)) E S)) a)))=(true,Si.map (λp=>some (p.2.ren (J1 m))),true,args.map (ai.ren (J1 m))):=by kernel_rfl)(h:Yl P C nt L pins E S ops draw (oD a 0 (cE m [] r Si So))=(true,J9 P C nt L ops (pd ops (oD a 0 (cE m [] r Si So))) (lk E) (ls (YW pins ops (oD a 0 (cE m [] r Si So)) E S)) a/\True):=by kernel_rfl):AW P C nt (.region id ops draw) E S (Lv v Q):=Z8 _ (k1 a) ⟨uz hs hc m hk hq,True.intro⟩ k h
theorem U2[Fm:Fz P L C pins](k:Kn C nt E2 S2 K)(hq:YJ pins E S E2 S2=YI E2 S2:=by kernel_rfl):Kn C nt E S K:=IZ Fm.b k hq
theorem U9[Fm:Fz P L C pins](ds:List dH)(hc:q)(k:Kn C nt E2 S2 (Q .normal))(h:Yl P C nt L pins E S ops draw ds=(true,q):=by kernel_rfl)(hq:YJ pins (ZU pins L ops ds E S v.out) (QF pins L ops ds E S) E2 S2=YI E2 S2:=by kernel_rfl):AW P C nt (.region id ops draw) E S (Lv v Q):=Jh ds hc (U2 k hq) h
theorem Yh[Fm:Fz P L C pins](hc:q)(k:Kn C nt E2 S2 (Q .normal))(h:Yl P C nt L pins E S ops draw []=(true,q):=by kernel_rfl)(hq:YJ pins (ZU pins L ops [] E S v.out) (QF pins L ops [] E S) E2 S2=YI E2 S2:=by kernel_rfl):AW P C nt (.region id ops draw) E S (Lv v Q):=U9 [] hc k h hq
theorem jj[Fm:Fz P L C pins](ds:List dH){c:Bool}(e:b=c)(k:Kn C nt E2 S2 (Q .normal))(h:Yl P C nt L pins E S ops draw ds=(true,Z5 (vb b) (vb c)/\True):=by kernel_rfl)(hq:YJ pins (ZU pins L ops ds E S v.out) (QF pins L ops ds E S) E2 S2=YI E2 S2:=by kernel_rfl):AW P C nt (.region id ops draw) E S (Lv v Q):=U9 ds (Go.Ab.cT (Z5.bool e)) k h hq
theorem K2[Fm:Fz P L C pins]{e:Int}{R:Type}{x:Option R}{r:R}(g:gd (Q7 (e+1)) x=some r)(k:x=some r->Kn C nt E2 S2 (Q .normal))(h:Yl P C nt L pins E S ops draw []=(true,(Q7 (e+1)/\True)/\True):=by kernel_rfl)(hq:YJ pins (ZU pins L ops [] E S v.out) (QF pins L ops [] E S) E2 S2=YI E2 S2:=by kernel_rfl):AW P C nt (.region id ops draw) E S (Lv v Q):=
 Yh (Go.Ab.cT (Go.Ab.cT (gS g).1)) (k (gS g).2) h hq
def QE(x:Code)(l:υ)(E n:Γ):Γ:=n++E.filter λp=>l.contains p.1 && !(Gz x).contains p.1
theorem Da{σ R:Type}(r:R){x:Code}(f:σ->Option R)(nE:σ->Γ)(kS:υ)(nS:σ->ι)(hy:∀z,f z=some r->AW P C nt y (QE x (K6 y v) E (nE z)) (sK kS S (nS z)) (Lv v Q))(hx:∀J:Act->World->Prop,(∀z,f z=some r->Kn C nt (QE x (K6 y v) E (nE z)) (sK kS S (nS z)) J)->AW P C nt x E S (Lv ⟨K6 y v,v.ex,v.rt⟩ (Exit.then J (Lv v Q)))):AW P C nt (.seq x y) E S (Lv v Q):=OH f _ _ hy hx
theorem IF[Fm:Fz P L C pins]{σ R:Type}{r:R}{body:(σ->Option R)->σ->Option R}{z0:σ}(h:Y4 body n z0=some r)(E' : σ->Γ)(S' : σ->ι)(round:∀(again:σ->Option R) (z:σ) (J:Act->World->Prop),(∀z',again z'=some r->Kn C nt (QE c (K6 (.loop c) v) E (E' z')) (S' z') J)->body again z=some r->AW P C nt c (QE c (K6 (.loop c) v) E (E' z)) (S' z) (Lv ⟨K6 (.loop c) v,v.ex,v.rt⟩ (Exit.then J (Lv v Q))))(hq:YJ pins E S (QE c (K6 (.loop c) v) E (E' z0)) (S' z0)=YI (QE c (K6 (.loop c) v) E (E' z0)) (S' z0):=by kernel_rfl):AW P C nt (.loop c) E S (Lv v Q):=U2 (Nd h (λz=>QE c (K6 (.loop c) v) E (E' z)) S' round) hq
def tI(S:ι)(k:Nat):Nat:=match ls S k with|some (.arr e _ _)=>e|_=>0
def Ts(S:ι)(k:Nat):Nat:=match ls S k with|some (.arr _ n _)=>n|_=>0
def Tt(S:ι)(k:Nat):Nat->Ψ:=match ls S k with|some (.arr _ _ f)=>f|_=>λ_=>[]
def Tr(S:ι)(k:Nat):ι:=S.filter λp=>p.1 != k
theorem G6[Fm:Fz P L C pins](k:Nat)(h:Kn C nt (E.map λp=>(p.1,p.2.frz k (Ts S k) (Tt S k))) ((Tr S k).map λp=>(p.1,p.2.frz k (Ts S k) (Tt S k))) K)(h1:YJ pins E S E ((k,.arr (tI S k) (Ts S k) (Tt S k))::Tr S k)=YI E ((k,.arr (tI S k) (Ts S k) (Tt S k))::Tr S k):=by kernel_rfl)(h2:((Tr S k).map (·.1)).contains k=false:=by kernel_rfl):Kn C nt E S K:=
 U2 (gT _ _ h (by rw[h2])) h1
theorem P5{α:Type}[aN α][Fm:Fz P L C pins](t:Nat)(k:Kn C nt ((t,AL ([]:List α))::E) S K)(h:YJ pins E S ((t,.v (.c f0))::E) S=YI ((t,.v (.c f0))::E) S:=by kernel_rfl):Kn C nt E S K:=
 U2 (Z9x (Z5.c (U6.fl .nil)) k) h
theorem J6{R:Type}{a r:R}(h:some a=some r){g:R->ai}{G:R->ι}(k:Kn C nt E S (Wu P fn C (g a) (G a) .ret))(hQ:Q .ret=Wu P fn C (g r) (G r) .ret:=by rfl):AW P C nt .ret E S Q:=by
 cases h
 exact VX (hQ ▸ k)
theorem G2[Fm:Fz P L C pins](hq:(Jr L (lk E) (ls S) fn.results.toList,S'.map (λp=>ls S p.1))=(some r,S'.map (λp=>some p.2)):=by kernel_rfl):Kn C nt E S (Wu P fn C r S' .ret):=v7 Fm.b hq
end
theorem GI(hf:P.funcs[f]?=some fn)(hm:P.follows .mixedOrders=true)(hL:Qa P L)(h:∀C,Fz P L C (S.map (·.1))->AW P C fn.ntmps c (JN args) S (Lv ⟨[],[],Pv fn.results.toList⟩ (Wu P fn C r S')))(hb:fn.body=some c:=by rfl)(hn0:Nat.ble args.length fn.ntmps=true:=by kernel_rfl):J7 P f args S r S':=FI hf hm hL (λC b=>h C ⟨b⟩) hb hn0
theorem pO{ops:Array Oper}:∀{ds:List dH} {k:Nat} {l:List dH},Nat.blt k ds.length=true->Ql (ds++l) k=Ql ds k
 |[],k,_,h=>by simp[Nat.blt]at h
 |d::ds,0,l,_=>by cases d<;>rfl
 |d::ds,k+1,l,h=>by
  have b:Nat.blt k ds.length=true:=by simp[Nat.blt]at h⊢;omega
  have:Ql ((d::ds)++l) (k+1)=Ql (ds++l) k:=by cases d<;>rfl
  rw[this,pO (ops:=ops) b]
  cases d<;>rfl
section
variable {e:U5}
theorem Z6(hspec:J7 P f args Si r So)(hcall:∀ args w,(callFunc f args).run P w=.ok (.enter f args) w)(m:List (Nat×Nat))(hk:Ql ds k=cE m [] r Si So:=by rfl)(hl:Nat.blt k ds.length=true:=by kernel_rfl)(hq:(Go.Ab.callB ops nt (J0 L ops ops.toList (pd ops ds) e s k) (IT ops k) f m r Si So,Si.map (fun p=>QC L ops ops.toList (pd ops ds) e s k (J1 m p.1)),
   (Go.Ab.callXs (IT ops k)).toList.all (Qt (Qs (IT ops k)++Qk ops (IT ops k)))&&args.all ai.noSem,(Go.Ab.callXs (IT ops k)).toList.map (Y3 (J0 L ops ops.toList (pd ops ds) e s k)))
   = (true,Si.map (λp=>some (p.2.ren (J1 m))),true,args.map (ai.ren (J1 m))):=by kernel_rfl):J9 P C nt L ops (pd ops ds) e s k:=uz hspec hcall m ((pO (ops:=ops) hl).trans hk) hq
end
section
variable {v:LV}
variable {y x c:Code}{R A B D G H:Type}
@[reducible] def n2 {σ τ β:Type}:σ->τ->List β:=fun _ _=>[]
@[reducible] def n3 {σ τ ρ β:Type}:σ->τ->ρ->List β:=fun _ _ _=>[]
theorem y4(r:R)(f:Option R)(nE:Γ)(kS:υ)(nS:ι)(hy:f=some r->AW P C nt y (QE x (K6 y v) E nE) (sK kS S nS) (Lv v Q))(hx:∀J:Act->World->Prop,(f=some r->Kn C nt (QE x (K6 y v) E nE) (sK kS S nS) J)->AW P C nt x E S (Lv ⟨K6 y v,v.ex,v.rt⟩ (Exit.then J (Lv v Q)))):AW P C nt (.seq x y) E S (Lv v Q):=
 Da r (λ_:Unit=>f) (λ_=>nE) kS (λ_=>nS) (λ_ h=>hy h) (λJ h=>hx J (h ()))
theorem Y7(r:R)(f:A->Option R)(nE:A->Γ)(kS:υ)(nS:A->ι)(hy:∀a,f a=some r->AW P C nt y (QE x (K6 y v) E (nE a)) (sK kS S (nS a)) (Lv v Q))(hx:∀J:Act->World->Prop,(∀{a},f a=some r->Kn C nt (QE x (K6 y v) E (nE a)) (sK kS S (nS a)) J)->AW P C nt x E S (Lv ⟨K6 y v,v.ex,v.rt⟩ (Exit.then J (Lv v Q)))):AW P C nt (.seq x y) E S (Lv v Q):=
 Da r f nE kS nS hy (λJ h=>hx J (h _))
theorem WO(r:R)(f:A->B->Option R)(nE:A->B->Γ)(kS:υ)(nS:A->B->ι)(hy:∀a b,f a b=some r->AW P C nt y (QE x (K6 y v) E (nE a b)) (sK kS S (nS a b)) (Lv v Q))(hx:∀J:Act->World->Prop,(∀{a b},f a b=some r->Kn C nt (QE x (K6 y v) E (nE a b)) (sK kS S (nS a b)) J)->AW P C nt x E S (Lv ⟨K6 y v,v.ex,v.rt⟩ (Exit.then J (Lv v Q)))):AW P C nt (.seq x y) E S (Lv v Q):=
 Da r (λz:A×B=>f z.1 z.2) (λz=>nE z.1 z.2) kS (λz=>nS z.1 z.2) (λz=>hy z.1 z.2) (λJ h=>hx J (h (_,_)))
theorem Ya(r:R)(f:A->B->D->Option R)(nE:A->B->D->Γ)(kS:υ)(nS:A->B->D->ι)(hy:∀a b c,f a b c=some r->AW P C nt y (QE x (K6 y v) E (nE a b c)) (sK kS S (nS a b c)) (Lv v Q))(hx:∀J:Act->World->Prop,(∀{a b c},f a b c=some r->Kn C nt (QE x (K6 y v) E (nE a b c)) (sK kS S (nS a b c)) J)->AW P C nt x E S (Lv ⟨K6 y v,v.ex,v.rt⟩ (Exit.then J (Lv v Q)))):AW P C nt (.seq x y) E S (Lv v Q):=
 WO r (λa (b:B×D)=>f a b.1 b.2) (λa b=>nE a b.1 b.2) kS (λa b=>nS a b.1 b.2) (λa b=>hy a b.1 b.2) (λJ h=>hx J (λ{_ b c}=>h (b:=(b,c))))
theorem jk(r:R)(f:A->B->D->G->Option R)(nE:A->B->D->G->Γ)(kS:υ)(nS:A->B->D->G->ι)(hy:∀a b c d,f a b c d=some r->AW P C nt y (QE x (K6 y v) E (nE a b c d)) (sK kS S (nS a b c d)) (Lv v Q))(hx:∀J:Act->World->Prop,(∀{a b c d},f a b c d=some r->Kn C nt (QE x (K6 y v) E (nE a b c d)) (sK kS S (nS a b c d)) J)->AW P C nt x E S (Lv ⟨K6 y v,v.ex,v.rt⟩ (Exit.then J (Lv v Q)))):AW P C nt (.seq x y) E S (Lv v Q):=
 Ya r (λa b (c:D×G)=>f a b c.1 c.2) (λa b c=>nE a b c.1 c.2) kS (λa b c=>nS a b c.1 c.2) (λa b c=>hy a b c.1 c.2) (λJ h=>hx J (λ{_ _ b c}=>h (c:=(b,c))))
theorem y8{r:R}{z0:A}{body:(A->Option R)->A->Option R}(h:Y4 body n z0=some r)(E' : A->Γ)(S' : A->ι)(round:∀(again:A->Option R) (z:A) (J:Act->World->Prop),(∀{z'},again z'=some r->Kn C nt (QE c (K6 (.loop c) v) E (E' z')) (S' z') J)->body again z=some r->AW P C nt c (QE c (K6 (.loop c) v) E (E' z)) (S' z) (Lv ⟨K6 (.loop c) v,v.ex,v.rt⟩ (Exit.then J (Lv v Q))))(hq:YJ pins E S (QE c (K6 (.loop c) v) E (E' z0)) (S' z0)=YI (QE c (K6 (.loop c) v) E (E' z0)) (S' z0):=by kernel_rfl)[Fm:Fz P L C pins]:AW P C nt (.loop c) E S (Lv v Q):=IF h E' S' (λg z J b=>round g z J (b _)) hq
theorem Qb{r:R}{z0:A×B}{body:(A×B->Option R)->A×B->Option R}(h:Y4 body n z0=some r)(E' : A->B->Γ)(S' : A->B->ι)(round:∀(again:A×B->Option R) (a:A) (b:B) (J:Act->World->Prop),(∀{a b},again (a,b)=some r->Kn C nt (QE c (K6 (.loop c) v) E (E' a b)) (S' a b) J)->body again (a,b)=some r->AW P C nt c (QE c (K6 (.loop c) v) E (E' a b)) (S' a b) (Lv ⟨K6 (.loop c) v,v.ex,v.rt⟩ (Exit.then J (Lv v Q))))(hq:YJ pins E S (QE c (K6 (.loop c) v) E (E' z0.1 z0.2)) (S' z0.1 z0.2)=YI (QE c (K6 (.loop c) v) E (E' z0.1 z0.2)) (S' z0.1 z0.2):=by kernel_rfl)[Fm:Fz P L C pins]:AW P C nt (.loop c) E S (Lv v Q):=
 y8 h (λz=>E' z.1 z.2) (λz=>S' z.1 z.2) (λg z J d=>round g z.1 z.2 J d) hq
theorem VZ{r:R}{z0:A×B×D}{body:(A×B×D->Option R)->A×B×D->Option R}(h:Y4 body n z0=some r)(E' : A->B->D->Γ)(S' : A->B->D->ι)(round:∀(again:A×B×D->Option R) (a:A) (b:B) (d:D) (J:Act->World->Prop),(∀{a b d},again (a,b,d)=some r->Kn C nt (QE c (K6 (.loop c) v) E (E' a b d)) (S' a b d) J)->body again (a,b,d)=some r->AW P C nt c (QE c (K6 (.loop c) v) E (E' a b d)) (S' a b d) (Lv ⟨K6 (.loop c) v,v.ex,v.rt⟩ (Exit.then J (Lv v Q))))(hq:YJ pins E S (QE c (K6 (.loop c) v) E (E' z0.1 z0.2.1 z0.2.2)) (S' z0.1 z0.2.1 z0.2.2)=YI (QE c (K6 (.loop c) v) E (E' z0.1 z0.2.1 z0.2.2)) (S' z0.1 z0.2.1 z0.2.2):=by kernel_rfl)[Fm:Fz P L C pins]:AW P C nt (.loop c) E S (Lv v Q):=
 Qb h (λa z=>E' a z.1 z.2) (λa z=>S' a z.1 z.2) (λg a z J f=>round g a z.1 z.2 J f) hq
theorem VY{r:R}{z0:A×B×D×G}{body:(A×B×D×G->Option R)->A×B×D×G->Option R}(h:Y4 body n z0=some r)(E' : A->B->D->G->Γ)(S' : A->B->D->G->ι)(round:∀(again:A×B×D×G->Option R) (a:A) (b:B) (d:D) (g:G) (J:Act->World->Prop),(∀{a b d g},again (a,b,d,g)=some r->Kn C nt (QE c (K6 (.loop c) v) E (E' a b d g)) (S' a b d g) J)->body again (a,b,d,g)=some r->AW P C nt c (QE c (K6 (.loop c) v) E (E' a b d g)) (S' a b d g) (Lv ⟨K6 (.loop c) v,v.ex,v.rt⟩ (Exit.then J (Lv v Q))))(hq:YJ pins E S (QE c (K6 (.loop c) v) E (E' z0.1 z0.2.1 z0.2.2.1 z0.2.2.2)) (S' z0.1 z0.2.1 z0.2.2.1 z0.2.2.2)=YI (QE c (K6 (.loop c) v) E (E' z0.1 z0.2.1 z0.2.2.1 z0.2.2.2)) (S' z0.1 z0.2.1 z0.2.2.1 z0.2.2.2):=by kernel_rfl)[Fm:Fz P L C pins]:AW P C nt (.loop c) E S (Lv v Q):=
 VZ h (λa b z=>E' a b z.1 z.2) (λa b z=>S' a b z.1 z.2) (λg a b z J f=>round g a b z.1 z.2 J f) hq
theorem qz{r:R}{z0:A×B×D×G×H}{body:(A×B×D×G×H->Option R)->A×B×D×G×H->Option R}(h:Y4 body n z0=some r)(E' : A->B->D->G->H->Γ)(S' : A->B->D->G->H->ι)(round:∀(again:A×B×D×G×H->Option R) (a:A) (b:B) (d:D) (g:G) (k:H) (J:Act->World->Prop),(∀{a b d g k},again (a,b,d,g,k)=some r->Kn C nt (QE c (K6 (.loop c) v) E (E' a b d g k)) (S' a b d g k) J)->body again (a,b,d,g,k)=some r->AW P C nt c (QE c (K6 (.loop c) v) E (E' a b d g k)) (S' a b d g k) (Lv ⟨K6 (.loop c) v,v.ex,v.rt⟩ (Exit.then J (Lv v Q))))(hq:YJ pins E S (QE c (K6 (.loop c) v) E (E' z0.1 z0.2.1 z0.2.2.1 z0.2.2.2.1 z0.2.2.2.2)) (S' z0.1 z0.2.1 z0.2.2.1 z0.2.2.2.1 z0.2.2.2.2)=YI (QE c (K6 (.loop c) v) E (E' z0.1 z0.2.1 z0.2.2.1 z0.2.2.2.1 z0.2.2.2.2)) (S' z0.1 z0.2.1 z0.2.2.1 z0.2.2.2.1 z0.2.2.2.2):=by kernel_rfl)[Fm:Fz P L C pins]:AW P C nt (.loop c) E S (Lv v Q):=
 VY h (λa b d z=>E' a b d z.1 z.2) (λa b d z=>S' a b d z.1 z.2) (λg a b d z J f=>round g a b d z.1 z.2 J f) hq
theorem AU(n:Nat)(h:AW P C nt c E S (Lv ⟨K6 (.loop c) v,v.ex,v.rt⟩ (Exit.then (λa w=>Code.rounds P c (Lv v Q) n a w) (Lv v Q)))):AW P C nt (.loop c) E S (Lv v Q):=Z9Z n h
theorem BU(h:AW P C nt c E S (Lv ⟨K6 (.loop c) v,v.ex,v.rt⟩ (Exit.then (λa w=>Code.rounds P c (Lv v Q) n a w) (Lv v Q)))):Kn C nt E S (λa w=>Code.rounds P c (Lv v Q) (n+1) a w):=NV h
theorem K9{p:Prop}[Decidable p][Decidable q]{R:Type}{x:Option R}{r:R}{G:Prop}(h:gd p (gd q x)=some r)(k:p->q->x=some r->G):G:=gO h λa h=>gO h (k a)
theorem VQ{p s:Prop}[Decidable p][Decidable q][Decidable s]{R:Type}{x:Option R}{r:R}{G:Prop}(h:gd p (gd q (gd s x))=some r)(k:p->q->s->x=some r->G):G:=gO h λa h=>K9 h (k a)
theorem JB{p s t:Prop}[Decidable p][Decidable q][Decidable s][Decidable t]{R:Type}{x:Option R}{r:R}{G:Prop}(h:gd p (gd q (gd s (gd t x)))=some r)(k:p->q->s->t->x=some r->G):G:=gO h λa h=>VQ h (k a)
theorem Xo{p s t u:Prop}[Decidable p][Decidable q][Decidable s][Decidable t][Decidable u]{R:Type}{x:Option R}{r:R}{G:Prop}(h:gd p (gd q (gd s (gd t (gd u x))))=some r)(k:p->q->s->t->u->x=some r->G):G:=gO h λa h=>JB h (k a)
end
section
variable {v:LV}
variable {y x c:Code}{R:Type}{r:R}{a:Option R}
theorem U3[Fm:Fz P L C pins](k:a=some r->Kn C nt E2 S2 (Q (.exit i)))(hq:YJ pins E S E2 S2=YI E2 S2:=by kernel_rfl):B->a=some r->AW P C nt (.exit i) E S Q:=λ_ h=>JS (U2 (k h) hq)
theorem Qn[Fm:Fz P L C pins](k:a=some r->Kn C nt E2 S2 (Q .normal))(hq:YJ pins E S E2 S2=YI E2 S2:=by kernel_rfl):B->a=some r->AW P C nt .skip E S Q:=λ_ h=>Q4 (U2 (k h) hq)
theorem Qr[Fm:Fz P L C pins](n:Nat){u w:Option R}(h:br b u w=some r)(k1:u=some r->Kn C nt E1 S1 (Q .normal))(k2:w=some r->Kn C nt E2 S2 (Q .normal))(h1:Yl P C nt L pins E S ops draw (sN n [.w (vb true)])=(true,Z5 (vb b) (vb true)/\True):=by kernel_rfl)(h2:Yl P C nt L pins E S ops draw (sN n [.w (vb false)])=(true,Z5 (vb b) (vb false)/\True):=by kernel_rfl)(q1:YJ pins (ZU pins L ops (sN n [.w (vb true)]) E S v.out) (QF pins L ops (sN n [.w (vb true)]) E S) E1 S1=YI E1 S1:=by kernel_rfl)(q2:YJ pins (ZU pins L ops (sN n [.w (vb false)]) E S v.out) (QF pins L ops (sN n [.w (vb false)]) E S) E2 S2=YI E2 S2:=by kernel_rfl):AW P C nt (.region id ops draw) E S (Lv v Q):=
 V8 h (λe g=>jj _ e (k1 g) h1 q1) (λe g=>jj _ e (k2 g) h2 q2)
theorem bJ[Fm:Fz P L C pins](n:Nat)(c:Bool)(k:a=some r->Kn C nt E2 S2 (Q .normal))(h:Yl P C nt L pins E S ops draw (sN n [.w (vb c)])=(true,Z5 (vb b) (vb c)/\True):=by kernel_rfl)(hq:YJ pins (ZU pins L ops (sN n [.w (vb c)]) E S v.out) (QF pins L ops (sN n [.w (vb c)]) E S) E2 S2=YI E2 S2:=by kernel_rfl):b=c->a=some r->AW P C nt (.region id ops draw) E S (Lv v Q):=λe g=>jj _ e (k g) h hq
theorem qR[Fm:Fz P L C pins]{a r:R}(h:some a=some r){g:R->ai}{G:R->ι}(hQ:Q .ret=Wu P fn C (g r) (G r) .ret:=by rfl)(hq:(Jr L (lk E) (ls S) fn.results.toList,(G a).map (λp=>ls S p.1))=(some (g a),(G a).map (λp=>some p.2)):=by kernel_rfl):AW P C nt .ret E S Q:=BZ Fm.b h hQ hq
theorem bT{c:Bool}(h:b=c):Z5 (vb b) (vb c):=Z5.bool h
theorem bA{c:Bool}(h:b=c)(k:q):Z5 (vb b) (vb c)/\q:=⟨Z5.bool h,k⟩
theorem bU{c:Bool}(h:b=c):Z5 (vb b) (vb c)/\True:=⟨Z5.bool h,True.intro⟩
theorem Yd(α:Type)[aN α][Fm:Fz P L C pins](t:Nat)(k:Kn C nt ((t,AL ([]:List α))::E) S K)(h:YJ pins E S ((t,.v (.c f0))::E) S=YI ((t,.v (.c f0))::E) S:=by kernel_rfl):Kn C nt E S K:=P5 t k h
theorem nA[Fm:Fz P L C pins](α:Type)[aN α](i:Nat)(k:AW P C nt y (ZU pins L ops [.m] E S (K6 y v)) (rp [(i,AO ([]:List α))] (QF pins L ops [.m] E S)) (Lv v Q))(h:Yl P C nt L pins E S ops draw [.m]=(true,True):=by kernel_rfl)(h2:([i],(QF pins L ops [.m] E S).map (λp=>(([(i,.arr (aN.es α) 0 nn)]:ι).lookup p.1).getD p.2))=([i],(QF pins L ops [.m] E S).map (·.2)):=by kernel_rfl):AW P C nt (.seq (.region id ops draw) y) E S (Lv v Q):=
 Yp [.m] True.intro [(i,.arr (aN.es α) 0 nn)] [(i,AO ([]:List α))] ⟨J2.is Is.nil,True.intro⟩ k h h2
end
section
variable {R:ξ}{e:U5}{a:Act}
abbrev Ub:Obj:=.ext λ_ _ _=>True
theorem X8{α:Type}[aN α](hL:Qa P L)(h:aK C nt R η e s a w)(hd:o.dst=some d)(hdn:d<nt)(hR:¬ R d){y:Operand}(hop:o.op=.call { callee:=.builtin .append,args:= #[x,y],argTypes:= #[t,t] })(ht:L t=some ti)(hk:ti.kind=.slice el)(hte:L el=some te){g:Δ}(hy:WM s (Y3 e y)=some (k,g)){del:υ}{f:Δ}(hx:VV s te.size k (Y3 e x)=some (del,n,f,c0))(hc0:c0)(hby:te.bytes<=8192)(hzl:te.zero.length=te.size){c:Prop}(hlim:n+k<=Y2)(hgl:∀ j,j<k->(g j).length=te.size){l:List α}(hi:Is (n+k) (Qu n f g) l):
  gQ P C nt R η e s a w o {v:=AL l,del:=del,new:=some Ub,cond:=c}:=by
 obtain⟨v,w',hr,p⟩:=Sz hL h hd hdn hR hop ht hk hte hy hx hc0 hby hzl (c:=c) hlim hgl;refine⟨v,.tuple #[],w',hr,?_⟩
 rw[hd]at p⊢;generalize hF:Qu n f g=G at p hi
 generalize he0:SR.env {v:=.v (.c (.own d)),del:=del,new:=some (.arr te.size (n+k) G),cond:=c} (some d) e=e0 at p;generalize hs0:SR.sto {v:=.v (.c (.own d)),del:=del,new:=some (.arr te.size (n+k) G),cond:=c} (some d) s=s0 at p
 generalize hη0:SR.eta {v:=.v (.c (.own d)),del:=del,new:=some (.arr te.size (n+k) G),cond:=c} (some d) v η=η0 at p;generalize he1:SR.env {v:=AL l,del:=del,new:=some Ub,cond:=c} (some d) e=Y
 generalize hs1:SR.sto {v:=AL l,del:=del,new:=some Ub,cond:=c} (some d) s=s1;generalize hη1:SR.eta {v:=AL l,del:=del,new:=some Ub,cond:=c} (some d) (.tuple #[]) η=η1
 have U:∀i,SR.rng {v:=.v (.c (.own d)),del:=del,new:=some (.arr te.size (n+k) G),cond:=c} (some d) R i->SR.rng {v:=AL l,del:=del,new:=some Ub,cond:=c} (some d) R i:=λi h=>h.imp id λh=>⟨by simp,h.2⟩
 have ed:e0 d=.v (.c (.own d)):=by rw[<-he0];simp[SR.env]
 have V:Y d=AL l:=by rw[<-he1];simp[SR.env]
 have Z:s0 d=some (.arr te.size (n+k) G):=by rw[<-hs0];simp[SR.sto]
 have T:s1 d=some Ub:=by rw[<-hs1];simp[SR.sto]
 have nd:η0 d=v:=by rw[<-hη0];simp[SR.eta]
 have F:η1 d=.tuple #[]:=by rw[<-hη1];simp[SR.eta]
 have ee:∀t,t≠d->Y t=e0 t/\e0 t=e t:=λt ht=>by rw[<-he0, <-he1];simp[SR.env,ht]
 have J:∀i,i≠d->s1 i=s0 i/\∀u,s0 i=some u -> s i=some u:=λi hi=>by
  rw[<-hs0, <-hs1];refine⟨by simp[SR.sto,hi],λu h=>?_⟩
  simp[SR.sto,hi]at h
  exact h.2
 have nn:∀i,i≠d->η1 i=η0 i:=λi hi=>by rw[<-hη0, <-hη1];simp[SR.eta,hi]
 have own:∀b,dV s1 η1 b->∃i u,i≠d/\s0 i=some u /\ b∈Y9 (η0 i):=by
  rintro b ⟨i,u,q,z⟩
  by_cases m:i=d
  .subst m
   rw[F]at z;simp[Y9]at z
  .exact ⟨i,u,m,by rw[<-(J i m).1];exact q,by rw[<-nn i m];exact z⟩
 have hX:∀b,XS C s1 η1 b->XS C s0 η0 b:=by
  rintro b (q|q)
  .exact .inl q
  .obtain ⟨i,u,_,z,O⟩:=own b q
   exact .inr ⟨i,u,z,O⟩
 have hK:QP w' w' (XS C s0 η0) (XS C s1 η1):=λb _ M=>⟨rfl,λh=>M (hX b h)⟩
 have rd:∀t,t≠d->∀i∈(e0 t).refs,i≠d:=λt ht i hi Y=>hR (h.er t d (by rw[<-(ee t ht).2];exact Y ▸ hi))
 have a5:∀b,b∈Y9 v->¬XS C s1 η1 b:=by
  intro b M hx;have W : b∈Y9 (η0 d):=by rw[nd];exact M
  rcases hx with ⟨hx,hD⟩|hx
  .rcases p.ow d _ b Z W with ⟨a1,_⟩|hM|hf
   .cases a1
   .exact hD (p.ok.md b hM)
   .have:=p.ok.lt b hx;omega
  .obtain ⟨i,u,q,z,O⟩:=own b hx
   exact q (p.ds i d b (by rw[z];simp) (by rw[Z];simp) O W)
 have a4:aA w' (XS C s1 η1) v (DL l):=by
  refine aA.is hi ?_;have:=p.st d _ Z
  rw[nd]at this;generalize n+k=N at this hi⊢
  cases this with
  |nil ad es f=>exact .nil ad 0 _
  |arr b n cap es c e f q z O h4 h5 h6 h7=>
   have M:¬XS C s1 η1 b:=a5 b (by simp[Y9];omega);refine .lst b 0 _ cap c e _ _ te.size M q O (by rw[z,eH];exact eu _ O) h6 λi j hi I=>?_
   rw[eH];exact(h7 i j hi I).mono hK
 have hv:(a.put (some d) v).tmps.getD d undef=v:=by
  rw[CP a (some d) v d λx hx=>by cases hx;rw[h.sz];exact hdn];simp
 refine⟨p.ok,p.df,p.sz,λt=>?_,λt i hi=>?_,λi u hi=>?_,λi u hi=>?_,λi j b hi I q z=>?_,λi u b hi q=>?_,p.fr,λi v' hp=>?_⟩
 .by_cases ht:t=d
  .subst ht
   rw[V,hv];exact .v _ _ (.c _ _ (.d _ _ a4))
  .rw [(ee t ht).1]
   exact(p.ev t).mono hK λi hi=>nn i (rd t ht i hi)
 .by_cases ht:t=d
  .subst ht
   rw[V]at hi;simp[AL,ai.refs,TV.refs,CV.refs]at hi
  .rw [(ee t ht).1]at hi
   exact U i (p.er t i hi)
 .by_cases m:i=d
  .subst m
   rw[T]at hi;cases hi
   rw[F];exact .ext _ _ trivial (λ_ _ _ _ _ _ _=>trivial) λb M=>by simp[Y9]at M
  .rw [(J i m).1]at hi
   rw[nn i m];refine(p.st i u hi).mono hK (λj I=>nn j λe=>?_) λb _=>rfl
   have:=(h.sr i u ((J i m).2 u hi)).2 j I
   exact hR (e ▸ this)
 .by_cases m:i=d
  .subst m
   rw[T]at hi;cases hi
   exact⟨U _ (p.sr i _ Z).1,λj I=>by simp[Obj.refs]at I⟩
  .rw [(J i m).1]at hi
   exact⟨U i (p.sr i u hi).1,λj I=>U j ((p.sr i u hi).2 j I)⟩
 .by_cases m:i=d
  .subst m;rw[F]at q;simp[Y9]at q
  .by_cases hjd:j=d
   .subst hjd;rw[F]at z;simp[Y9]at z
   .rw [nn i m]at q
    rw[nn j hjd]at z;rw[(J i m).1]at hi
    rw[(J j hjd).1]at I;exact p.ds i j b hi I q z
 .by_cases m:i=d
  .subst m;rw[F]at q;simp[Y9]at q
  .rw [(J i m).1]at hi
   rw[nn i m]at q;exact p.ow i u b hi q
 .have q:=p.pn i v' hp
  have m:i≠d:=λe=>hR (e ▸ (h.pn i v' hp).2)
  exact⟨by rw[nn i m];exact q.1,U i q.2⟩
end
section
variable {e:U5}
theorem Z9O{α:Type}[aN α](hL:Qa P L)(hT:Vj L t te){y:Operand}{q m:Nat}{f g:Δ}{l:List α}(hk:Ql ds k=rE {v:=AL l,del:=[q],new:=some Ub})(hop:(IT ops k).op=.call {callee:=.builtin .append,args:= #[x,y],argTypes:= #[t,t]})(hlim:n+m<=Y2)(hgl:∀j,j<m->(g j).length=te.size)(hi:Is (n+m) (Qu n f g) l)(hdo:(QM nt (IT ops k)&&(Ze ops (No L ops ds e s k) (IT ops k)==some true)&&(IT ops k).dst==some d&&Nat.ble te.bytes 8192&&te.zero.length==te.size)=true:=by kernel_rfl)(hx:Y3 (No L ops ds e s k) x=.v (.c (.own q)):=by kernel_rfl)(hq:QC L ops ops.toList ds e s k q=some (.arr te.size n f):=by kernel_rfl)(hy:WM (OF L ops ds e s k) (Y3 (No L ops ds e s k) y)=some (m,g):=by kernel_rfl):J9 P C nt L ops ds e s k:=by
 unfold J9;rw[hk]
 simp only[dc,eY]at hdo;obtain⟨⟨⟨⟨T,W⟩,J⟩,Z⟩,h5⟩:=hdo
 obtain⟨ti,el,Y,u,M⟩:=hT;have b:=Sv (P:=P) (C:=C) [] (o:=Y6 ops.toList k) (s:=QC L ops ops.toList ds e s k) T (r:= {v:=AL l,del:=[q],new:=some Ub}) W λR η O U a w V h _ hn F=>by
  have N:x∈(IT ops k).op.operands.toList:=by rw[hop];simp[Op.operands,Call.operands]
  have i:y∈(IT ops k).op.operands.toList:=by rw[hop];simp[Op.operands,Call.operands]
  have z:VV U te.size m (Y3 O x)=some ([q],n,f,True):=by
   have I:=h x N q (by rw[hx];simp[ai.refs,TV.refs,CV.refs]);rw[V x N,hx]
   simp only[VV];rw[I,hq]
   simp
  have p:WM U (Y3 O y)=some (m,g):=by rw[V y i,ql (h y i)];exact hy
  exact X8 hL F J (YO T d J) (hn d J (by simp)) hop Y u M p z trivial (mJ Z) h5 hlim hgl hi
 have e:Xs [] ops (IT ops k) (No L ops ds e s k) {v:=AL l,del:=[q],new:=some Ub}=Xu ops (IT ops k) (No L ops ds e s k) {v:=AL l,del:=[q],new:=some Ub} (AL l):=by
  simp[Xs,Xu]
 rw[e]at b;exact b
end
section
variable {c:Code}
end
section
variable {v:LV}
variable {c:Code}{R A B D:Type}
end
section
variable {es n:Nat}{fl:Δ}
end
theorem OT(hf:P.funcs[f]?=some fn)(hm:P.follows .mixedOrders=true)(hL:Qa P L)(h:∀C,C.w0.drawn=0->Fz P L C (S.map (·.1))->AW P C fn.ntmps c (JN args) S (Lv ⟨[],[],Pv fn.results.toList⟩ (Wu P fn C r S')))(hb:fn.body=some c:=by rfl)(hn0:Nat.ble args.length fn.ntmps=true:=by kernel_rfl):WN P f args S r S':=Z9R hm hL hf hb hn0 λC d b=>h C d ⟨b⟩
def bs(l:List UInt8):ByteArray:=⟨l.toArray⟩
def tl(s:ByteArray):List UInt8:=s.data.toList
theorem QR(l:List UInt8):tl (bs l)=l:=rfl
theorem MZ(s:ByteArray):bs (tl s)=s:=rfl
theorem Q8c(a b:ByteArray):tl (a++b)=tl a++tl b:=by simp[tl,ByteArray.data_append]
theorem XF(a b:List UInt8):bs a++bs b=bs (a++b):=by rw[<-MZ (bs a++bs b),Q8c,QR,QR]
theorem Yj(s:ByteArray):s.size=(tl s).length:=by unfold tl;rw[mn];rfl
theorem XZ{b:ByteArray}(h:tl a=tl b):a=b:=by rw[<-MZ a,h,MZ]
def Qw(s:ByteArray):Prop:=tl s≠[]/\∀c∈tl s,33<=c.toNat/\c.toNat<=126/\c≠35
def Zi:ε->List UInt8
 |[]=>[]
 |x::r=>32::(tl x++Zi r)
def Qy:ε->List UInt8
 |[]=>[]
 |x::r=>tl x++Zi r
def Yi(L:List ε):List UInt8:=L.flatMap λws=>Qy ws++[10]
def Yo(x:List UInt8×ε):Prop:=
 ((∃t,x.1=35::t)/\x.2=[]/\∀c∈x.1,32<=c.toNat/\c.toNat<=126)\/(x.2≠[]/\(∀s∈x.2,Qw s)/\x.1=Qy x.2)
def J5(L:List (List UInt8×ε)):List UInt8:=L.flatMap λx=>x.1++[10]
structure fX (L:List (List UInt8×ε)):Prop where
 one:∀x∈L,Yo x
 sz:(J5 L).length<=16384
 len:L.length<=400
 ne:L≠[]
open Classical in
def XV(_F:Nat)(L:List ε):Option (ByteArray×Int):=
 if(∀ws∈L,ws≠[]/\∀s∈ws,Qw s)/\(Yi L).length<=16384/\L.length<=400 then some (bs (Yi L),0)else none
open Classical in
def Vf(_F:Nat)(s:ByteArray):Option (List ε×Int):=
 if h:∃L,fX L/\s=bs (J5 L)then some (h.choose.map (·.2),0)else none
def strconv_Itoa(n:Int):Option ByteArray:=gd (Q7 n) (some (bs (Lib.itoa n)))
def Yy(_F:Nat)(s:ByteArray)(lo hi:Int):Option (Int×Bool):=
 match Lib.atoi (tl s)with
 |some n=>gd (s.size<=18/\Q7 n/\bs (Lib.itoa n)=s) (if lo<=n/\n<=hi then some (n,true)else some (0,false))
 |none=>none
def QH:List UInt8:=[112,103,99,102,108]
def G7(n:Nat):Nat->List UInt8
 |0=>[]
 |i+1=>G7 n i++if n.testBit i then[QH.getD i 0]else[]
def Zt(n:Nat):ByteArray:=bs (if G7 n 5=[]then[45]else G7 n 5)
def BA(_F:Nat)(n:Int):Option ByteArray:=gd (0<=n/\n<32) (some (Zt n.toNat))
def BB(_F:Nat)(s:ByteArray):φ:=
 match tl s with
 |[c]=>if c∈QH then some (2 ^ QH.idxOf c)else none
 |_=>none
def jN(s p:ByteArray):Option ByteArray:=some (bs (Lib.trimPrefix (tl s) (tl p)))
def gj(s p:ByteArray):Option ε:=gd (p.size=0/\s.size<=100/\∀c∈tl s,c.toNat<128) (some (Lib.charsB s))
