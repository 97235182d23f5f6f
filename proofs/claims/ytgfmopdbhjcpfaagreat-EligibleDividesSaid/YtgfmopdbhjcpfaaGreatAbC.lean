/- Abstract states over the model. -/
import Derived.Test.YtgfmopdbhjcpfaaGreatAbB
import Derived.Test.YtgfmopdbhjcpfaaGreatPuA
import Derived.Sort.AssemblyPlain
import Derived.Lib.BitFns
import Derived.Shelf.SortM.Plain
import Derived.Shelf.SortM.SortNone
import Derived.Shelf.SlSortCmp.WholeK
import Derived.Shelf.SlSortCmp.NoneTotal
import Derived.WalkKit
import Derived.ProofKit
import Derived.OpenShut
import Derived.Carry
import Derived.ChangeSame
import Derived.ChangeSlices
import Derived.Laws.Small
import Derived.Laws.Entries
import Derived.Shelf.Spec.SlicesGrow
import Derived.Deep.Slices
import Derived.ChangeArms
import Derived.Maps.Own
import Derived.Lib.SlKeysI
import Derived.Shelf.SlIterI.Nil
import Derived.Maps.RangeRun
import Derived.Laws.IdiomRangeMap
import Derived.ChangeKeysEq
import Derived.LoopN
set_option linter.unusedVariables false
set_option linter.unusedSimpArgs false
namespace Go.Ab
noncomputable section
section
section
variable {α:Type} [Emb α]
def clr(l:List α)(lo n:Nat):List α:=(List.range l.length).map fun i=>if lo<=i/\i<lo+n then Emb.d else gl l i
theorem Is.of_gl{f:Nat->List DVal}{N:Nat}(l:List α)(h:l.length=N)(hf:∀ i,i<N->f i=Emb.cells (gl l i)):Is N f l:=by
 subst h;refine ⟨rfl,fun i a=>?_⟩
 rw [hf i a];rfl
theorem Y5i(N:Nat)(f:Nat->α)(i:Nat)(h:i<N):gl ((List.range N).map f) i=f i:=by simp [gl,List.getD_eq_getElem?_getD,h]
theorem Is.clr{l:List α}(lo n:Nat){zd:List DVal}(hz:zd=Emb.cells (Emb.d:α)):Is l.length (fun i=>if lo<=i/\i<lo+n then (fun _=>zd) (i-lo) else LF l i) (clr l lo n):=by
 refine Is.of_gl _ (by simp [Go.Ab.clr]) fun i a=>?_
 rw [Go.Ab.clr,Y5i _ _ _ a]
 by_cases h:lo<=i/\i<lo+n
 .rw [if_pos h,if_pos h,hz]
 .rw [if_neg h,if_neg h];rfl
end
end
section
open Go.Sort
def Z7N(l:List Int):Option (List Int):=if l.length<=LIM then some (l.mergeSort fun x y=>decide (x<=y)) else none
theorem Y6L{l r:List Int}(h:Z7N l=some r):l.length<=LIM/\r=l.mergeSort fun x y=>decide (x<=y):=by
 unfold Z7N at h;split at h
 .cases h;exact ⟨‹_›,rfl⟩
 .cases h
def ltC{α:Type}(cf:α->α->Int)(x y:α):Bool:=decide (cf x y<0)
section
variable {α:Type} [Emb α]
def Q9c(cf:α->α->Int)(l:List α):List α:=(@pdq α ⟨Emb.d⟩ (ltC cf) l.toArray 0 l.length (Lib.bitLen l.length) true true).toList
open Classical in
noncomputable def Y0W(l:List α)(q:α->α->Option Int):Option (List α):=
 if h:l.length<=LIM/\∃ cf:α->α->Int,SWO (ltC cf)/\∀ x y,q x y=some (cf x y) then some (Q9c h.2.choose l) else none
theorem Y9B{l:List α}{q:α->α->Option Int}(cf:α->α->Int)(hl:l.length<=LIM)(hO:SWO (ltC cf))(hq:∀ x y,q x y=some (cf x y)):Y0W l q=some (Q9c cf l):=by
 have h:l.length<=LIM/\∃ cf:α->α->Int,SWO (ltC cf)/\∀ x y,q x y=some (cf x y):=⟨hl,cf,hO,hq⟩;unfold Y0W
 rw [dif_pos h];have e:h.2.choose=cf:=by
  funext x y
  have:=(h.2.choose_spec.2 x y).symm.trans (hq x y)
  exact Option.some.inj this
 rw [e]
theorem Y6N{l r:List α}{q:α->α->Option Int}(h:Y0W l q=some r):l.length<=LIM/\∃ cf:α->α->Int,SWO (ltC cf)/\(∀ x y,q x y=some (cf x y))/\r=Q9c cf l:=by
 unfold Y0W at h;split at h
 .rename_i a
  cases h
  exact ⟨a.1,a.2.choose,a.2.choose_spec.1,a.2.choose_spec.2,rfl⟩
 .cases h
end
section
variable {α:Type}
end
def Y1g{α:Type}(n:Int):Option (List α):=if 0<=n/\n<=LIM then some [] else none
end
section
open Go.Sort Go.Proofs Go.Shelf
theorem Y1c{α:Type}[Inhabited α](enc:α->Value)(w:World)(b off n:Nat)(d:Array α)(os:Array Go.Obj){c:Array Value}{e:TypeId}{fz:Nat×Nat}(hb:w.heap[b]?=some (.cells c e fz)):
  (grow (putRow enc (Go.Sort.ahead w n) b off d) os).heap[b]?=some (.cells (putCells enc off d c) e fz):=by
 have a:b<w.heap.size:=y7 hb;unfold grow
 rw [Array.getElem?_append];rw [if_pos (by simpa using a)]
 unfold putRow mapBlock;simp only [Array.getElem?_modify,if_true]
 show Option.map _ (w.heap[b]?)=_;rw [hb]
 rfl
theorem Z8x{α:Type}[Inhabited α](enc:α->Value)(w:World)(b off n:Nat)(d:Array α)(os:Array Go.Obj):Stp (fun x=>x=b) w (grow (putRow enc (Go.Sort.ahead w n) b off d) os):=by
 refine ⟨rfl,rfl,rfl,by simp [Go.Sort.ahead],fun x a c=>?_,Nat.le_add_right _ _⟩;unfold grow
 rw [Array.getElem?_append];rw [if_pos (by simpa [Go.Sort.ahead] using a)]
 unfold putRow mapBlock;simp only [Array.getElem?_modify]
 rw [if_neg (Ne.symm c)];rfl
theorem Z5J{α:Type}[Inhabited α](enc:α->Value)(off:Nat)(d:Array α)(c:Array Value):(putCells enc off d c).size=c.size:=by simp [putCells]
theorem Z8f{α:Type}[Inhabited α](enc:α->Value)(d:Array α)(c:Array Value)(j:Nat)(hj:j<d.size)(hs:d.size<=c.size):(putCells enc 0 d c).getD j undef=enc d[j]! := by
 have a:j<c.size:=by omega
 simp [putCells,a,hj]
theorem W1f(l:List Int)(i:Nat):LF l i=[.int .i64 (l.getD i 0)]:=rfl
theorem Y3u{w w' : World}{X:Nat->Prop}{η:Nat->Value}{α:Type}[Emb α]{l r:List α}{b n cap:Nat}{c' : Array Value}{e:TypeId}(hη:η 0=.slice (some ⟨b,0,none⟩) n cap)(h0:0<cap)(hstp:Stp (fun x=>x=b) w w')(hh:w'.heap[b]?=some (.cells c' e (0,0)))(hs:c'.size=cap*Emb.es α)(hr:r.length=n)(hn:n<=cap)(hm:cap<=maxLen)(hd:∀ i j,i<n->j<Emb.es α->DRep w' X (c'.getD (i*Emb.es α+j) undef) ((LF r i).getD j .any))(hX:∀ x,X x->x<w.heap.size)(hXb:X b):
  Behind (K6 [(0,AO l)] w X η) .any [(0,AO r)] (.tuple #[]) η w':=by
 subst hr;have d:∀ x,x ∈ W2 (η 0)↔x=b:=by intro x;rw [hη];simp [W2];omega
 have c:∀ i o,ls [(0,AO (α:=α) r)] i=some o->i=0/\o=AO r:=by
  intro i o a;rw [J2] at a
  by_cases h:i=0
  .rw [if_pos h] at a;cases a;exact ⟨h,rfl⟩
  .rw [if_neg h] at a;cases a
 have p:∀ x,x=b->(K6 [(0,AO (α:=α) l)] w X η).M x:=by
  rintro x rfl;exact ⟨0,AO l,by rw [J2,if_pos rfl],rfl,(d _).2 rfl⟩
 have k:∀ x,XS (K6 [(0,AO (α:=α) l)] w X η) (ls [(0,AO (α:=α) r)]) η x->X x:=by
  rintro x (⟨g,_⟩|⟨i,o,a,hib⟩)
  .exact g
  .obtain ⟨rfl,_⟩:=c i o a
   rw [(d x).1 hib];exact hXb
 refine ⟨hstp.mono fun x _ g=>p x g,.any _,fun i o a=>?_,fun i j x a f _ _=>?_,fun i o x a s=>?_,fun i v a=>?_⟩
 .obtain ⟨rfl,rfl⟩:=c i o a
  rw [hη];refine .arr b _ cap _ c' e _ hh hs hn hm h0 (Is.refl r).len fun i j a f=>?_
  exact (hd i j a f).mono fun x _ g=>⟨rfl,fun m=>g (k x m)⟩
 .obtain ⟨q,a⟩:=Option.ne_none_iff_exists'.1 a
  obtain ⟨t,f⟩:=Option.ne_none_iff_exists'.1 f;rw [(c i q a).1,(c j t f).1]
 .obtain ⟨rfl,rfl⟩:=c i o a
  exact .inr (.inl (p x ((d x).1 s)))
 .change (if ((List.lookup i [(0,AO (α:=α) l)]).isSome=true) then some (η i) else none)=some v at a
  split at a
  .cases a;rfl
  .cases a
theorem Y1k{w:World}{X:Nat->Prop}{η:Nat->Value}{α:Type}[Emb α]{l:List α}{ad:Option Addr}(hη:η 0=.slice ad 0 0)(hX:∀ x,X x->x<w.heap.size):
  Behind (K6 [(0,AO l)] w X η) .any [(0,AO ([]:List α))] (.tuple #[]) η w:=by
 have c:∀ x,x ∉ W2 (η 0):=by intro x;rw [hη];cases ad <;> simp [W2]
 have b:∀ i o,ls [(0,AO ([]:List α))] i=some o->i=0/\o=AO ([]:List α):=by
  intro i o a;rw [J2] at a
  by_cases h:i=0
  .rw [if_pos h] at a;cases a;exact ⟨h,rfl⟩
  .rw [if_neg h] at a;cases a
 refine ⟨Stp.refl _ _,.any _,fun i o a=>?_,fun i j x a d _ _=>?_,fun i o x a g=>?_,fun i v a=>?_⟩
 .obtain ⟨rfl,rfl⟩:=b i o a
  rw [hη];exact .nil _ _ _
 .obtain ⟨e,a⟩:=Option.ne_none_iff_exists'.1 a
  obtain ⟨f,d⟩:=Option.ne_none_iff_exists'.1 d;rw [(b i e a).1,(b j f d).1]
 .obtain ⟨rfl,rfl⟩:=b i o a
  exact absurd g (c x)
 .change (if ((List.lookup i [(0,AO (α:=α) l)]).isSome=true) then some (η i) else none)=some v at a
  split at a
  .cases a;rfl
  .cases a
theorem W2Q{vs:Array Value}(h:vs.size=1):vs=#[vs.getD 0 undef]:=by
 apply Array.ext
 .simpa using h
 .intro i a b
  have:i=0:=by omega
  subst this;simp [a]
theorem Y9s{vs:Array Value}(h:vs.size=2):vs=#[vs.getD 0 undef,vs.getD 1 undef]:=by
 apply Array.ext
 .simpa using h
 .intro i a b
  have:i=0\/i=1:=by omega
  rcases this with rfl|rfl <;> simp [a]
theorem Y5E{P:Program}{ρ:Ren}(Ly:SlLaysM.n5 P ρ){x r:List Int}(h:Z7N x=some r):K7 P (ρ.f 5) [.v (.c (.own 0))] [(0,AO (α:=Int) x)] .any [(0,AO (α:=Int) r)]:=by
 obtain ⟨T,rfl⟩:=Y6L h;intro w X η K M k p S g m
 have g:K.size=1:=g;have G:K.getD 0 undef=η 0:=Q6V (C:=K6 [(0,AO (α:=Int) x)] w X η) (s:=ls [(0,AO (α:=Int) x)]) (by have:=m 0 (by simp);rw [Y1O k];exact this)
 rw [W2Q g,G];have A:=p 0 (AO x) (by rw [J2,if_pos rfl])
 have F:∀ b,b ∈ W2 (η 0)->X b:=fun b I=>k b ⟨0,_,by rw [J2,if_pos rfl],I⟩
 generalize hu:η 0=u at A;unfold AO at A
 generalize hn:x.length=n at A
 cases A with
 | nil ad=>
  have W:x=[]:=List.eq_nil_of_length_eq_zero hn;refine (AnyM.slices_Sort_int_none Ly ad 0 w).mono fun e O B=>?_
  obtain ⟨Q,D⟩:=B;refine ⟨_,η,Q,?_⟩
  rw [D];have I:=Y1k (w:=w) (X:=X) (l:=x) hu M
  subst W;simpa using I
 | arr b _ cap _ c e _ h1 h2 h3 h4 h5 h6 h7=>
  have d:Emb.es Int=1:=rfl
  rename_i n
  have o:∀ j,j<n->c.getD j undef=.int .i64 (x.getD j 0):=by
   intro j t;have:=h7 j 0 t (by rw [d];omega)
   rw [d,Nat.mul_one,Nat.add_zero,W1f] at this;have L:DRep w X (c.getD j undef) (.int .i64 (x.getD j 0)):=this
   generalize c.getD j undef=u at L
   cases L;rfl
  have V:c.size=cap:=by rw [h2,d,Nat.mul_one]
  have N:Holds (Value.int .i64) w b 0 x.toArray:=by
   intro j t;have J : j<n:=by simpa [hn] using t
   have H:j<x.length:=by omega
   have z:j<c.size:=by omega
   refine ⟨?_,by simp [World.frozen?,h1]⟩;have:=o j J
   simp only [Nat.zero_add,World.cell?,h1,Option.isSome_none,Bool.false_eq_true,if_false];simp only [z,Array.getD,dite_true] at this
   rw [Array.getElem?_eq_getElem z];congr 1
   refine Eq.trans this ?_;simp [H]
  rw [<-hn];refine ((AnyM.slices_Sort_int Ly b 0 cap x w N (y7 h1) (by simp only [LIM] at T;omega)).mono fun Z O B=>?_)
  .obtain ⟨rfl,q,Y,D⟩:=B
   subst D;refine ⟨_,η,rfl,?_⟩
   have a:(x.mergeSort fun x y=>decide (x<=y)).length=n:=by rw [List.length_mergeSort];exact hn
   refine Y3u (c':=putCells (Value.int .i64) 0 (x.mergeSort fun x y=>decide (x<=y)).toArray c) (e:=e) (b:=b) (n:=n) (cap:=cap) hu h5 (Z8x _ _ _ _ _ _ _) (Y1c _ _ _ _ _ _ _ h1) (by rw [Z5J];exact h2) a h3 h4 (fun i j U t=>?_) M (F b (by rw [hu];simp [W2];omega));have E:j=0:=by rw [d] at t;omega
   subst E;rw [d,Nat.mul_one,Nat.add_zero,Z8f _ _ _ _ (by simpa [a] using U) (by simp only [List.size_toArray,a];omega),W1f]
   have:i<(x.mergeSort fun x y=>decide (x<=y)).length:=by omega
   have R:(x.mergeSort fun x y=>decide (x<=y)).toArray[i]! = (x.mergeSort fun x y=>decide (x<=y)).getD i 0:=by
    simp [List.getD_eq_getElem?_getD,this]
   rw [R];exact .int _ _
end
section
open Go.Sort Go.Proofs Go.Shelf
def DVal.lit:DVal->Bool
 | .int _ _=>true
 | .bool _=>true
 | .str _=>true
 | _=>false
def DVal.val:DVal->Value
 | .int k n=>.int k n
 | .bool b=>.bool b
 | .str s=>.string s
 | _=>undef
theorem DRep.lit{w:World}{X:Nat->Prop}{v:Value}{d:DVal}(h:DRep w X v d)(hd:d.lit=true):v=d.val:=by
 cases h <;> first|rfl|cases hd
theorem DVal.rep(w:World)(X:Nat->Prop){d:DVal}(hd:d.lit=true):DRep w X d.val d:=by
 cases d with
 | int k n=>exact .int k n
 | bool b=>exact .bool b
 | str s=>exact .str s
 | _=>cases hd
theorem DVal.val_one{d:DVal}(hd:d.lit=true):d.val.oneCell'=true:=by
 cases d <;> first|rfl|cases hd
theorem Y9v{w w' : World}(h:Stp (fun _=>False) w w'):∃ q os,w'=grow (w.drewN q) os:=by
 refine ⟨w'.drawn-w.drawn,w'.heap.extract w.heap.size w'.heap.size,?_⟩;have d:w'.heap=w.heap++w'.heap.extract w.heap.size w'.heap.size:=by
  apply Array.ext_getElem?;intro k
  rw [Array.getElem?_append];split
  .rename_i a;exact h.block k a fun c=>c
  .rename_i a
   rw [Array.getElem?_extract];have f:=h.size
   by_cases h2:k<w'.heap.size
   .rw [if_pos (by omega)];congr 1;omega
   .rw [if_neg (by omega),Array.getElem?_eq_none (by omega)]
 have e:=h.dr;have b:w'=⟨w'.heap,w'.tape,w'.drawn,w'.os,w'.output⟩:=rfl
 rw [b,h.tape,h.os,h.output];unfold grow World.drewN
 congr 1
 simp only
 omega
theorem Z9F{β:Type}(l:List β)(j:Nat)(h:j<l.length)(d:β):l.getD j d=l[j]:=by
 rw [List.getD_eq_getElem?_getD,List.getElem?_eq_getElem h];rfl
theorem Y4w{β:Type}[Inhabited β](l:List β)(j:Nat)(h:j<l.length)(d:β):l.getD j d=l[j]! := by
 rw [Z9F l j h d,getElem!_pos l j h]
theorem Z6F(l:List DVal)(j:Nat)(h:j<l.length):(l.map DVal.val).getD j undef=(l[j]).val:=by
 rw [Z9F _ j (by simpa using h)];simp
theorem Y5F{α:Type}[Emb α]{P:Program}{L:Lay}(hL:LOk P L){ρ:Ren}(Ly:SlLaysF0.n6 P ρ)(hlit:∀ x:α,(Emb.cells x).all DVal.lit=true){te:TI}(hte:L (ρ.t 24)=some te)(hagg:te.kind.agg=true)(hsz:te.size=Emb.es α)(F:(α->α->Option Int)->List AVal->AVal->Prop)(hF:∀ q x y z,q x y=some z->F q [.v (.g ((Emb.cells x).map .d)),.v (.g ((Emb.cells y).map .d))] (vi z)){x r:List α}{q:α->α->Option Int}(h:Y0W x q=some r):
  K7 P (ρ.f 6) [.v (.c (.own 0)),Z5z P (F q)] [(0,AO (α:=α) x)] .any [(0,AO (α:=α) r)]:=by
 obtain ⟨hl,k,hO,hq,rfl⟩:=Y6N h;obtain ⟨ti,td,tz,a2⟩:=hL _ _ hte
 letI inst:Inhabited α:=⟨Emb.d⟩
 let enc:α->List Value:=fun x=>(Emb.cells x).map DVal.val
 have hk:∀ x,(enc x).length=Emb.es α:=fun x=>by simp [enc,Emb.len]
 have h1:∀ x,∀ v ∈ enc x,v.oneCell'=true:=by
  intro x v hv;obtain ⟨d,hd,rfl⟩:=List.mem_map.1 hv
  exact DVal.val_one (List.all_eq_true.1 (hlit x) d hd)
 intro w X η T hX H R d9 D B;have D:T.size=2:=D
 have c0:T.getD 0 undef=η 0:=Q6V (C:=K6 [(0,AO (α:=α) x)] w X η) (s:=ls [(0,AO (α:=α) x)]) (by have:=B 0 (by simp);rw [Y1O H];exact this);have c3:Q0B P (F q) w (Own (ls [(0,AO (α:=α) x)]) η) X (T.getD 1 undef):=by
  have:=B 1 (by simp)
  change ARep w X η _ (T.getD 1 undef) (Z5z P (F q)) at this;generalize T.getD 1 undef=u at this
  cases this with|v _ _ p=>cases p with|c _ _ p=>cases p with|sem _ _ p _=>exact p
 rw [Y9s D,c0];have ho:=R 0 (AO x) (by rw [J2,if_pos rfl])
 have a8:∀ b,b ∈ W2 (η 0)->X b:=fun b hb=>H b ⟨0,_,by rw [J2,if_pos rfl],hb⟩
 generalize hu:η 0=u at ho;have o:(Q9c k x).length=x.length:=by
  have:=(pdq_sorts (ltC k) hO x.toArray 0 x.length (Lib.bitLen x.length) true true (Nat.zero_le _) (by simp) (.inl rfl)).1.1
  unfold Q9c;simpa using this
 unfold AO at ho;generalize hn:x.length=n at ho
 cases ho with
 | nil ad=>
  have hx:x=[]:=List.eq_nil_of_length_eq_zero hn;refine (AnyF.slices_SortFunc_none Ly ad 0 _ w).mono fun e w' p=>?_
  obtain ⟨U,hw⟩:=p;refine ⟨_,η,U,?_⟩
  rw [hw];have hb:=Y1k (w:=w) (X:=X) (l:=x) hu hX
  have hp:Q9c k x=[]:=List.eq_nil_of_length_eq_zero (by rw [o,hn]);rw [hp];exact hb
 | arr b _ cap _ c e _ g1 g2 g3 g4 g5 g6 g7=>
  rename_i n
  obtain ⟨a0,E,b7,N,a1⟩:=c3;rw [b7]
  have c6:∀ i,i<n->(LF x i)=Emb.cells (x.getD i Emb.d):=fun i _=>rfl
  have Q:∀ i j,i<n->j<Emb.es α->c.getD (i*Emb.es α+j) undef=(enc (x.getD i Emb.d)).getD j undef:=by
   intro i j hi A;have h0:=g7 i j hi A
   have a : j<(Emb.cells (x.getD i Emb.d)).length:=by rw [Emb.len];exact A
   have e1:(LF x i).getD j .any=(Emb.cells (x.getD i Emb.d))[j]:=Z9F _ _ a _;rw [e1] at h0
   have h2:=h0.lit (List.all_eq_true.1 (hlit _) _ (List.getElem_mem a));rw [h2]
   exact (Z6F _ _ a).symm
  have M:∀ t,t<n*Emb.es α->c.getD t undef=(flatK enc (Emb.es α) x.toArray)[t]! := by
   intro t W;have V:0<Emb.es α:=by
    rcases Nat.eq_zero_or_pos (Emb.es α) with hz|hz
    .rw [hz,Nat.mul_zero] at W;omega
    .exact hz
   have p1:t / Emb.es α<n:=Nat.div_lt_of_lt_mul (by rw [Nat.mul_comm];exact W);have p2:t % Emb.es α<Emb.es α:=Nat.mod_lt _ V
   have:=Q _ _ p1 p2
   rw [show t / Emb.es α*Emb.es α+t % Emb.es α=t from by rw [Nat.mul_comm];exact Nat.div_add_mod t _] at this;rw [this,get_flatK _ _ _ _ (by simpa [hn] using W)]
   have e2:x.toArray[t / Emb.es α]! = x.getD (t / Emb.es α) Emb.d:=by
    have:t / Emb.es α<x.length:=by omega
    simp [List.getD_eq_getElem?_getD,this]
   rw [e2];have:t % Emb.es α<(enc (x.getD (t / Emb.es α) Emb.d)).length:=by rw [hk];exact p2
   exact Y4w _ _ this _
  have hH:HoldsK enc (Emb.es α) w b 0 x.toArray:=by
   intro t W;have c1 : t<n*Emb.es α:=by simpa [hn] using W
   have S:t<c.size:=by
    have:n*Emb.es α<=cap*Emb.es α:=Nat.mul_le_mul_right _ g3
    omega
   refine ⟨?_,by simp [World.frozen?,g1]⟩;have:=M t c1
   simp only [Nat.zero_add,World.cell?,g1,Option.isSome_none,Bool.false_eq_true,if_false,id];rw [Array.getElem?_eq_getElem S]
   congr 1
   rw [<-this];simp [S]
  have J:b ∈ W2 (η 0):=by rw [hu];simp [W2];omega
  have Y:CmpLays P a0 E enc (Emb.es α) k b 0 x.toArray.size w:=by
   intro m os dk g0 u v;have O:=Z8x id w b 0 m (flatK enc (Emb.es α) dk) os
   have G:∀ (w1:World) (z:α) η C,ARep w1 X η C (.agg (enc z).toArray) (.v (.g ((Emb.cells z).map .d))):=by
    intro w1 z η' C';refine .v _ _ (.g _ _ ⟨by simp [enc],fun j A=>?_⟩)
    have a : j<(Emb.cells z).length:=by simpa using A
    have e1:(enc z).toArray.getD j undef=((Emb.cells z)[j]).val:=by
     have:(enc z).toArray.getD j undef=(enc z).getD j undef:=by simp [List.getD_eq_getElem?_getD]
     rw [this];exact Z6F _ _ a
    have e2:((Emb.cells z).map CV.d).getD j (.d .any)=.d ((Emb.cells z)[j]):=by rw [Z9F _ j (by simpa using a)];simp
    rw [e1,e2];exact .d _ _ (DVal.rep _ _ (List.all_eq_true.1 (hlit z) _ (List.getElem_mem a)))
   refine (a1 (grow (putRow id (Go.Sort.ahead w m) b 0 (flatK enc (Emb.es α) dk)) os) X #[.agg (enc u).toArray,.agg (enc v).toArray] _ _ (hF q u v (k u v) (hq u v)) O.size (fun y hy hD=>O.block y hy fun e=>hD ?_)
    (fun y hy=>Nat.lt_of_lt_of_le (hX y hy) O.size) (fun y _ _=>Iff.rfl) rfl (fun j A η C=>?_)).mono fun e2 w2 p=>?_
   .rw [e];exact ⟨0,_,by rw [J2,if_pos rfl],J⟩
   .have:j=0\/j=1:=by simp at A;omega
    rcases this with rfl|rfl
    .exact G _ _ _ _
    .exact G _ _ _ _
   .obtain ⟨v',U,a7,hr⟩:=p
    have b8:=hr η (K6 [] w X η);have e3:v'=.int .i64 (k u v):=by
     cases b8 with|v _ _ p=>cases p with|c _ _ p=>cases p with|d _ _ p=>cases p;rfl
    obtain ⟨qq,b6,b9⟩:=Y9v a7;exact ⟨by rw [U,e3],qq,b6,b9⟩
  rw [<-hn];have K:=AnyQ.slices_SortFunc_eq Ly (Emb.es α) (fun w=>by rw [Z6X a2 w,hagg]) (fun w=>by rw [y6 a2,hsz]) enc hk h1 k hO a0 E b 0 cap x.toArray w N Y hH (y7 g1) (by simp only [List.size_toArray];simp only [LIM] at hl;omega)
  refine K.mono fun e' w' p=>?_
  obtain ⟨U,nn,os,hw⟩:=p;refine ⟨_,η,U,?_⟩
  have b5:w'=grow (putRow id (Go.Sort.ahead w nn) b 0 (flatK enc (Emb.es α) (Q9c k x).toArray)) os:=hw;rw [b5]
  refine Y3u (c':=putCells id 0 (flatK enc (Emb.es α) (Q9c k x).toArray) c) (e:=e) (b:=b) (n:=n) (cap:=cap) hu g5 (Z8x _ _ _ _ _ _ _) (Y1c _ _ _ _ _ _ _ g1) (by rw [Z5J];exact g2) (by rw [o,hn]) g3 g4 (fun i j hi A=>?_) hX (a8 b J);have Z:i*Emb.es α+j<n*Emb.es α:=by
   have:(i+1)*Emb.es α<=n*Emb.es α:=Nat.mul_le_mul_right _ hi
   rw [Nat.add_mul,Nat.one_mul] at this;omega
  have I:(flatK enc (Emb.es α) (Q9c k x).toArray).size=n*Emb.es α:=by simp [o,hn]
  rw [Z8f _ _ _ _ (by rw [I];exact Z) (by rw [I,g2];exact Nat.mul_le_mul_right _ g3)];rw [get_flatK _ _ _ _ (by simpa [o,hn] using Z)]
  have d1:(i*Emb.es α+j) / Emb.es α=i:=by
   rw [Nat.add_comm,Nat.add_mul_div_right _ _ (by omega),Nat.div_eq_of_lt A,Nat.zero_add]
  have d2:(i*Emb.es α+j) % Emb.es α=j:=by rw [Nat.add_comm,Nat.add_mul_mod_self_right,Nat.mod_eq_of_lt A]
  rw [d1,d2];have e4:(Q9c k x).toArray[i]! = (Q9c k x).getD i Emb.d:=by
   have:i<(Q9c k x).length:=by omega
   simp [List.getD_eq_getElem?_getD,this]
  rw [e4];have a : j<(Emb.cells ((Q9c k x).getD i Emb.d)).length:=by rw [Emb.len];exact A
  have e5:(enc ((Q9c k x).getD i Emb.d))[j]! = ((Emb.cells ((Q9c k x).getD i Emb.d))[j]).val:=by
   rw [<-Y4w (enc ((Q9c k x).getD i Emb.d)) j (by rw [hk];exact A) undef];exact Z6F _ _ a
  have e6:(LF (Q9c k x) i).getD j .any=(Emb.cells ((Q9c k x).getD i Emb.d))[j]:=Z9F _ _ a _;rw [e5,e6]
  exact DVal.rep _ _ (List.all_eq_true.1 (hlit _) _ (List.getElem_mem a))
end
section
open Go.ChangeShapes Go.WideShapes Go.ChangeAt Go.RowKit
theorem Y6v{w:World}{a:Addr}{v:Value}(h:w.cell? a=some v):a.spot=none/\∃ c e fz,w.heap[a.block]?=some (.cells c e fz)/\a.off<c.size/\c.getD a.off undef=v:=by
 unfold World.cell? at h;split at h
 .rename_i c e fz f
  split at h
  .cases h
  .rename_i g
   obtain ⟨b,d⟩:=Array.getElem?_eq_some_iff.1 h;exact ⟨by simpa using g,c,e,fz,f,b,by simp [b,d]⟩
 .cases h
theorem W1c(b o i:Nat):(⟨b,o,none⟩:Addr).add i=⟨b,o+i,none⟩:=add_lit b o i
theorem Y9f{w:World}{a:Addr}{len cap:Nat}{zs:List Int}(hl:len<=cap)(hz:len<=zs.length)(hc:∀ i,i<zs.length->w.cell? (a.add i)=some (.int .i64 (zs.getD i 0))):
  DRep w (fun _=>False) (.slice (some a) len cap) (DL (α:=Int) (zs.take len)):=by
 have q:(zs.take len).length=len:=by simp;omega
 unfold DL;rw [q]
 by_cases h0:len=0
 .subst h0;exact .nil _ _ _
 .have o:a.spot=none:=by
   have:=(Y6v (hc 0 (by omega))).1
   cases hsp:a.spot with
   | none=>rfl
   | some s=>simp [Addr.add,hsp] at this
  obtain ⟨b,d,y⟩:=a;simp only at o
  subst o;have g : ∀ i,i<zs.length->∃ c e m,w.heap[b]?=some (.cells c e m)/\d+i<c.size/\c.getD (d+i) undef=.int .i64 (zs.getD i 0):=by
   intro i f;have:=hc i f
   rw [W1c] at this;exact (Y6v this).2
  obtain ⟨c,e,m,n,_,_⟩:=g 0 (by omega);have l:∀ i,i<zs.length->d+i<c.size/\c.getD (d+i) undef=.int .i64 (zs.getD i 0):=by
   intro i f;obtain ⟨z,A,u,k,p,v⟩:=g i f
   rw [n] at k;cases k
   exact ⟨p,v⟩
  refine .lst b d len cap c e m _ 1 (fun h=>h) n hl (by have:=(l (len-1) (by omega)).1;omega) (fun i _=>rfl) fun i j f x=>?_
  have:j=0:=by omega
  subst this;rw [Nat.mul_one,Nat.add_zero,(l i (by omega)).2]
  have t:((LF (zs.take len) i).getD 0 .any)=.int .i64 ((zs.take len).getD i 0):=rfl;rw [t]
  have r:(zs.take len).getD i 0=zs.getD i 0:=by simp [List.getD_eq_getElem?_getD,List.getElem?_take,f]
  rw [r];exact .int _ _
theorem Y7f{H:Type}{enc:TypeId×Value->H}{P:Program}{W:World}{t e:TypeId}{v:Value}{d:DataW H}{ps:List MemPlace}(ht:P.underlying t=some (.slice e))(he:P.underlying e=some (.int .i64))(hc:P.cellsOf e=1){r:Reach}{b0:Nat}(hv:Value.okWide P W r b0 t v)(hd:DataW.Trod enc P W 0 (fun _=>true) true t v d ps):∃ l:List Int,DRep W (fun _=>False) v (DL l)/\∀ n ∈ l,(Lit.int .i64 n).wf=true:=by
 obtain ⟨k,p⟩:=hd;obtain ⟨w,g,q,rfl⟩:=okWide_slice ht hv
 rcases open_ints ht he hc p with ⟨b,s⟩|⟨a,i,j,zs,b,u,m,x,o,s,c,h⟩
 .simp [Value.cells] at b
  obtain ⟨rfl,rfl,rfl⟩:=b;exact ⟨[],.nil _ _ _,fun n f=>by cases f⟩
 .simp [Value.cells] at b
  obtain ⟨rfl,rfl,rfl⟩:=b;simp only [if_true] at o
  exact ⟨zs.take g,Y9f m (by omega) c,fun n f=>h n (List.mem_of_mem_take f)⟩
theorem Z7J{H:Type}{enc:TypeId×Value->H}{P:Program}(hl:laidOutB P=true){W W' : World}(hb:Below W.heap.size W W'):∀ {ts:List TypeId} {vs:List Value} {ds:List (DataW H)} {ps:List MemPlace},
  ts.all (fun t=>P.readableRec t&&decide (t<P.types.size))=true->DataW.TrodAll enc P W 0 (fun _=>true) true ts vs ds ps->(∀ x ∈ ps,x.block<W.heap.size)->∀ sp:Nat->Bool,(∀ x ∈ ps,sp x.block=true)->DataW.TrodAll enc P W' 0 sp true ts vs ds ps
 | [],[],[],_,_,h,_,_,_=>h
 | t::ts,v::vs,d::ds,ps,hr,⟨p,q,h1,h2,e⟩,hlt,sp,hs=>by
  simp only [List.all_cons,Bool.and_eq_true,decide_eq_true_eq] at hr;subst e
  exact ⟨p,q,WideElems.Trod_stays hl hr.1.1 hr.1.2 h1 (fun x a=>hb.same (hlt x (List.mem_append_left _ a))) (fun x a=>hs x (List.mem_append_left _ a)),
   Z7J hl hb hr.2 h2 (fun x a=>hlt x (List.mem_append_right _ a)) sp (fun x a=>hs x (List.mem_append_right _ a)),rfl⟩
theorem Y7d{H:Type}{enc:TypeId×Value->H}{P:Program}(hl:laidOutB P=true){fn:Func}{s:ChangeSpec}{W W' : World}{args:Array Value}{ds gs:List (DataW H)}{before:List MemPlace}{apart fresh handsOn again:Bool}(hW:DataW.Whole enc P fn.params.toList s.vars apart W args.toList ds gs before)(hv:s.vars=[])(hs:s.fn H (ds++gs)={ results:=[.lit (.bool true)],args:=ds })(hr:fn.params.toList.all (fun t=>P.readableRec t&&decide (t<P.types.size))=true){t:TypeId}(hres:fn.resultTypes=#[t])(ht:P.underlying t=some .bool)(hb:Below W.heap.size W W'):s.post enc P fn apart fresh handsOn again W args (.bool true) W':=by
 have g:=hW.lt;have l:=hW
 obtain ⟨p,q,w,u,v,A,C⟩:=hW;rw [hv] at u
 obtain ⟨rfl,rfl⟩:=trodVars_none u;rw [List.append_nil] at v
 subst v;have n:∀ (j:Nat) (t' : TypeId) (r:Value),fn.resultTypes[j]?=some t' -> ((Value.bool true).resultList fn.resultTypes.size)[j]?=some r->Value.okWide P W' .any 0 t' r:=ok_one hres rfl (okWide_bool_mk ht _)
 have k:∀ x ∈ before,(fun b=>decide (b<W.heap.size)) x.block=true:=fun x e=>by simpa using g x e
 have f:∀ a:Nat->Bool,(∀ x ∈ before,a x.block=true)->DataW.TrodAll enc P W' 0 a true fn.params.toList args.toList (s.fn H (ds++[])).args before:=fun a m=>by
  rw [hs];exact Z7J hl hb hr w g a m
 have c:∀ (b:Nat) (a:Nat->Bool) (o:Bool),DataW.TrodAll enc P W' b a o fn.resultTypes.toList ((Value.bool true).resultList fn.resultTypes.size) (s.fn H (ds++[])).results []:=fun b a o=>by
  rw [hs,hres];exact trodAll_cons_mk (shut_bool ht _) trodAll_mk0
 have d:∀ a:Nat->Bool,DataW.TrodVars enc P W' a s.vars (s.fn H (ds++[])).vars []:=fun a=>by
  rw [hs,hv];exact rfl
 refine ⟨ds,_,before,[],before,[],l,c _ _ _,f _ k,d _,World.keptBut_mono (fun x e=>⟨e,by simpa using e⟩) (hb.frame (· ∈ before)),fun _=>⟨n,?_⟩⟩;obtain ⟨_,_,_,_,_,z,B⟩:=l
 refine ⟨_,_,([]++before)++[],⟨[]++before,[],trodAll_append (f _ fun _ _=>rfl) (c _ _ _),d _,rfl,fun b i e=>?_,fun y=>?_⟩,fun x e _=>?_⟩
 .have h:MemPlace.cell b i ∈ before:=by simpa using e
  rw [hb.frozen (g _ h)];exact z b i h
 .simpa using B y
 .simpa using e
theorem Y8M{H:Type}{enc:TypeId×Value->H}{P:Program}(hl:laidOutB P=true){fn:Func}{s:ChangeSpec}{W W' : World}{args:Array Value}{ds gs:List (DataW H)}{before:List MemPlace}{apart fresh handsOn again:Bool}(hW:DataW.Whole enc P fn.params.toList s.vars apart W args.toList ds gs before)(hv:s.vars=[])(hs:s.fn H (ds++gs)={ results:=[.lit (.bool true)],args:=ds })(hr:fn.params.toList.all (fun t=>P.readableRec t&&decide (t<P.types.size))=true){t:TypeId}(hres:fn.resultTypes=#[t])(ht:P.underlying t=some .bool)(hstp:Stp (fun _=>False) W W'):s.post enc P fn apart fresh handsOn again W args (.bool true) W' :=
 Y7d hl hW hv hs hr hres ht (hstp.below _ (Nat.le_refl _) fun _ _ h=>h)
end
section
section
variable {P:Program} {C:Ctx} {nt:Nat} {L:Lay} {ops:Array Oper} {ds:List Dir} {e:Env} {s:Sto}
end
end
section
def ci(n:Int):CV:=.d (.int .i64 n)
def gC{α:Type}[Emb α](x:α):List CV:=(Emb.cells x).map .d
def gE{α:Type}[Emb α](x:α):AVal:=.v (.g (gC x))
def ss(n:Nat):List Dir:=List.replicate n .s
abbrev ckL(P:Program)(C:Ctx)(nt:Nat)(L:Lay)(pins:List Nat)(E:List (Nat×AVal))(S:List (Nat×Obj))(ops:Array Oper)(draw:Bool)(ds:List Dir)(E' : List (Nat×AVal))(S' : List (Nat×Obj)):Bool×Prop×List AVal×List (Option Obj):=
 (W2u L pins nt ops draw ds E S [] S',Y1l P C nt L ops ops.toList ds (lk E) (ls S),E'.map (fun p=>Y5n ops.toList (Z6N L ops ops.toList ds (lk E) (ls S)) (lk E) p.1),S'.map (fun p=>Y5m (Z6N L ops ops.toList ds (lk E) (ls S)) (ls S) (J6 [] p.1)))
abbrev ckR(q:Prop)(E' : List (Nat×AVal))(S' : List (Nat×Obj)):Bool×Prop×List AVal×List (Option Obj):=(true,q,E'.map (fun p=>p.2.ren (J6 [])),S'.map (fun p=>some (p.2.ren (J6 []))))
section
variable {P:Program} {C:Ctx} {nt:Nat} {L:Lay} {pins:List Nat} {E:List (Nat×AVal)} {S:List (Nat×Obj)} {Q:Exit->Act->World->Prop}
theorem AW.g(Fm:Fr P L C pins){id:Nat}{ops:Array Oper}{draw:Bool}(ds:List Dir)(c:(Nat->Prop)->Prop)(E' : List (Nat×AVal))(S' : List (Nat×Obj))(hc:c (KAt P C nt L ops ds (lk E) (ls S)))(h:ckL P C nt L pins E S ops draw ds E' S'=ckR (c (KAt P C nt L ops ds (lk E) (ls S))) E' S')(k:Kn C nt E' S' (Q .normal)):AW P C nt (.region id ops draw) E S Q:=
 W2z Fm ds [] c E' S' hc (congrArg (·.1) h) (congrArg (·.2.1) h) (congrArg (·.2.2.1) h) (congrArg (·.2.2.2) h) k
theorem W1m(Fm:Fr P L C pins){id:Nat}{ops:Array Oper}{draw:Bool}{y:Code}(ds:List Dir)(c:(Nat->Prop)->Prop)(E' : List (Nat×AVal))(S' : List (Nat×Obj))(hc:c (KAt P C nt L ops ds (lk E) (ls S)))(h:ckL P C nt L pins E S ops draw ds E' S'=ckR (c (KAt P C nt L ops ds (lk E) (ls S))) E' S')(k:AW P C nt y E' S' Q):AW P C nt (.seq (.region id ops draw) y) E S Q:=
 AW.seq (AW.g Fm ds c E' S' hc h k)
theorem W2N(Fm:Fr P L C pins){id:Nat}{ops:Array Oper}{draw:Bool}(n:Nat)(E' : List (Nat×AVal))(S' : List (Nat×Obj))(h:ckL P C nt L pins E S ops draw (ss n) E' S'=ckR True E' S')(k:Kn C nt E' S' (Q .normal)):AW P C nt (.region id ops draw) E S Q:=AW.g Fm (ss n) (fun _=>True) E' S' True.intro h k
theorem W1l(Fm:Fr P L C pins){id:Nat}{ops:Array Oper}{draw:Bool}{y:Code}(n:Nat)(E' : List (Nat×AVal))(S' : List (Nat×Obj))(h:ckL P C nt L pins E S ops draw (ss n) E' S'=ckR True E' S')(k:AW P C nt y E' S' Q):AW P C nt (.seq (.region id ops draw) y) E S Q:=AW.seq (W2N Fm n E' S' h k)
variable {K:Act->World->Prop}
theorem W3p(Fm:Fr P L C pins)(E' : List (Nat×AVal))(S' : List (Nat×Obj))(hq:(pins.all (fun i=>J6 [] i==i),E'.map (fun p=>lk E p.1),S'.map (fun p=>ls S (J6 [] p.1)),Q3h (S'.map fun p=>J6 [] p.1))=(true,E'.map (fun p=>p.2.ren (J6 [])),S'.map (fun p=>some (p.2.ren (J6 []))),true))(h:Kn C nt E' S' K):Kn C nt E S K:=
 Kn.re Fm [] E' S' (congrArg (·.1) hq) (congrArg (·.2.1) hq) (congrArg (·.2.2.1) hq) (congrArg (·.2.2.2) hq) h
theorem Q3p(Fm:Fr P L C pins){fn:Func}{r:AVal}{S' : List (Nat×Obj)}(hq:(Y6Z L (lk E) (ls S) fn.results.toList,S'.map (fun p=>ls S p.1))=(some r,S'.map (fun p=>some p.2))):Kn C nt E S (Y5P P fn C r S' .ret):=
 Kn.done Fm (congrArg (·.1) hq) (congrArg (·.2) hq)
end
section
variable {P:Program} {C:Ctx} {nt:Nat} {L:Lay} {ops:Array Oper} {ds:List Dir} {e:Env} {s:Sto}
theorem W3r{k:Nat}{f:Nat}{args:List AVal}{Si:List (Nat×Obj)}{r:AVal}{So:List (Nat×Obj)}(hspec:K7 P f args Si r So)(hcall:∀ args w,(callFunc f args).run P w=.ok (.enter f args) w)(m:List (Nat×Nat))(hk:Q1V ds k=cE m [] r Si So)(hq:(Go.Ab.callB ops nt (V5 L ops ops.toList ds e s k) (Y9 ops.toList k) f m r Si So,Si.map (fun p=>Q2s L ops ops.toList ds e s k (J6 m p.1)),
   (Go.Ab.callXs (Y9 ops.toList k)).toList.all (Q5E (Q0l (Y9 ops.toList k)++U4 ops (Y9 ops.toList k)))&&args.all AVal.noSem,(Go.Ab.callXs (Y9 ops.toList k)).toList.map (aev (V5 L ops ops.toList ds e s k)))
   = (true,Si.map (fun p=>some (p.2.ren (J6 m))),true,args.map (AVal.ren (J6 m)))):KAt P C nt L ops ds e s k:=
 KAt.call hspec hcall m hk (congrArg (·.1) hq) (congrArg (·.2.1) hq) (congrArg (·.2.2.1) hq) (congrArg (·.2.2.2) hq)
end
end
section
open Go.Proofs Go.Shelf
theorem Y1f{α:Type}[Emb α]{P:Program}{L:Lay}(hL:LOk P L){ρ:Ren}(Ly:Lays8.n4 P ρ){te:TI}(hte:L (ρ.t 25)=some te)(hsz:te.size=Emb.es α)(hpos:0<te.size)(hby:te.bytes<=8192)(hzl:te.zero.length=te.size){n:Int}{r:List α}(h:Y1g n=some r):K7 P (ρ.f 4) [.v (.c (.fl 0 fun _=>[])),vi n] [] (.v (.c (.own 100))) [(100,AO (α:=α) r)]:=by
 unfold Y1g at h;split at h
 case isFalse=>cases h
 rename_i hn
 cases h
 obtain ⟨J,d0,I,k⟩:=hL _ _ hte;intro w X η A hX W V a0 q p
 have q:A.size=2:=q;have B:∃ D,A.getD 0 undef=.slice D 0 0:=by
  have:=p 0 (by simp)
  change ARep w X η _ (A.getD 0 undef) (.v (.c (.fl 0 fun _=>[]))) at this;generalize A.getD 0 undef=u at this
  cases this with|v _ _ l=>cases l with|c _ _ l=>cases l with|fl a _ _ _=>exact ⟨a,rfl⟩
 have U:A.getD 1 undef=.int .i64 n:=by
  have:=p 1 (by simp)
  change ARep w X η _ (A.getD 1 undef) (.v (.c (.d (.int .i64 n)))) at this;generalize A.getD 1 undef=u at this
  cases this with|v _ _ l=>cases l with|c _ _ l=>cases l with|d _ _ l=>cases l;rfl
 obtain ⟨D,B⟩:=B;rw [Y9s q,B,U]
 obtain ⟨m,rfl⟩:∃ m:Nat,n=m:=⟨n.toNat,by omega⟩;have T:m<=LIM:=by omega
 have g:∀ i o,ls [(100,AO (α:=α) [])] i=some o->i=100/\o=AO (α:=α) []:=by
  intro i o b;rw [J2] at b
  by_cases h:i=100
  .rw [if_pos h] at b;cases b;exact ⟨h,rfl⟩
  .rw [if_neg h] at b;cases b
 rcases Nat.eq_zero_or_pos m with Y|Y
 .subst Y
  refine (Any8.slices_Grow_room Ly D 0 0 0 w (Nat.le_refl _) (by omega) (by omega) (Nat.le_refl _)).mono fun e Z l=>?_
  obtain ⟨O,N⟩:=l;refine ⟨_,fun _=>.slice D 0 0,O,?_⟩
  rw [N];have y:∀ x,x ∉ W2 (.slice D 0 0):=by intro x;cases D <;> simp [W2]
  refine ⟨Stp.refl _ _,.v _ _ (.c _ _ (.own _ _ rfl rfl)),fun i o b=>?_,fun i j x b F z _=>absurd z (y x),fun i o x b z=>absurd z (y x),fun i v b=>?_⟩
  .obtain ⟨rfl,rfl⟩:=g i o b
   exact .nil _ _ _
  .change (if ((List.lookup i ([]:List (Nat×Obj))).isSome=true) then some (η i) else none)=some v at b
   cases b
 .have H:(0+m)*J.bytes<=140737488355328:=by
   have h1:(0+m)*J.bytes<=4294967296*8192:=Nat.mul_le_mul (by simp only [LIM] at T;omega) (by rw [k.bytes];exact hby);omega
  refine (Any8.slices_Grow_grow Ly J I k.info k.zero (by rw [k.size];exact hpos) D 0 0 m [] w (Nat.le_refl _) (by omega) H (by simp only [LIM] at T;omega) (by simp) (fun _=>rfl) (fun _ _ _ _ F=>by simp at F)).mono fun e Z l=>?_
  obtain ⟨O,N⟩:=l;have hG:m<=grownCap w (0+m) 0 (ρ.t 25):=by have:=grownCap_ge w (0+m) 0 (ρ.t 25);omega
  have R:=grownCap_le_maxLen w (0+m) 0 (ρ.t 25) (by simp only [LIM] at T;simp only [maxLen];omega);generalize grownCap w (0+m) 0 (ρ.t 25)=G at *
  refine ⟨_,fun _=>.slice (some ⟨w.heap.size,0,none⟩) 0 G,O,?_⟩;rw [N]
  have M:I.cells.size=J.size:=by rw [(k.zrep w (fun _=>False) η (K6 [] w X η)).1,hzl,k.size]
  refine ⟨(Stp.drew _ _).trans (Stp.alloc _ _ _),.v _ _ (.c _ _ (.own _ _ rfl rfl)),fun i o b=>?_,fun i j x b F _ _=>?_,fun i o x b z=>?_,fun i v b=>?_⟩
  .obtain ⟨rfl,rfl⟩:=g i o b
   refine .arr w.heap.size 0 G _ (([]:List Value).toArray++Builtin.zeroCells I.cells (0+m-0)++Builtin.zeroCells I.cells (G-(0+m))) (ρ.t 25) _ (heap_alloc_new w.drew _) ?_ (Nat.zero_le _) R (by omega) (fun i b=>absurd b (Nat.not_lt_zero i)) fun i j b=>absurd b (Nat.not_lt_zero i)
   rw [Array.size_append,Array.size_append,size_zeroCells,size_zeroCells,M,k.size, <-hsz];have e1:(([]:List Value).toArray).size=0:=rfl
   rw [e1,Nat.zero_add, <-Nat.add_mul];congr 1
   omega
  .obtain ⟨oi,b⟩:=Option.ne_none_iff_exists'.1 b
   obtain ⟨oj,F⟩:=Option.ne_none_iff_exists'.1 F;rw [(g i oi b).1,(g j oj F).1]
  .have:x=w.heap.size:=by
    have z:x ∈ W2 (.slice (some ⟨w.heap.size,0,none⟩) 0 G):=z;simp [W2] at z
    exact z.2
   subst this;exact .inr (.inr (Nat.le_refl _))
  .change (if ((List.lookup i ([]:List (Nat×Obj))).isSome=true) then some (η i) else none)=some v at b
   cases b
end
section
def Y9m(P:Program)(x:CV):Prop:=x.closed=true\/∃ F,x=.sem (Q0B P F)
section
variable {w:World} {X:Nat->Prop} {η η' : Nat->Value} {C C' : Ctx} {P:Program}
theorem Q0e.port{vs:Array Value}{cs:List CV}(h:Q0e w X η C vs cs)(H:∀ F v,Q0B P F C.w0 C.D C.X v->Q0B P F C'.w0 C'.D C'.X v)(hx:∀ x ∈ cs,Y9m P x):Q0e w X η' C' vs cs:=by
 refine ⟨h.1,fun j g=>?_⟩;have c:=h.2 j g
 rcases hx _ (Q0R (d:=.d .any) g) with a|⟨F,a⟩
 .simp only [CV.closed,Bool.and_eq_true,List.isEmpty_iff] at a
  exact (c.mono (fun b _ k=>⟨rfl,k⟩) (fun i f=>by rw [a.1] at f;cases f)).ctx a.2
 .rw [a] at c ⊢
  generalize vs.getD j undef=u at c ⊢
  cases c with|sem _ _ g1 g2=>exact .sem _ _ (H F _ g1) g2
end
section
variable {P:Program} {C:Ctx} {nt:Nat} {e:Env} {s:Sto}
theorem Q0i.cloP{f:Nat}(hcall:∀ args w,(callFunc f args).run P w=.ok (.enter f args) w){F:List AVal->AVal->Prop}{cs:List (List CV)}(hspec:∀ args r,F args r->K7 P f (args++Z8P cs) (Z0g cs) r (Z0g cs))(hres:∀ args r,F args r->r.closed=true){Si:List (Nat×Obj)}{m:Nat->Nat}{rd ids:List Nat}{x:Operand}(hx:Q5E rd x=true){cids:List Nat}(hv:aev e x=.v (.c (.clo f cids)))(hlen:cids.length=cs.length)(hnd:Q3h cids=true)(hbox:∀ k,k<cs.length->∃ ro,s (cids.getD k 0)=some (.box ro (cs.getD k [])))(hcl:∀ c ∈ cs,∀ x ∈ c,Y9m P x)(hsi:∀ p ∈ Si,∃ o1,s (m p.1)=some o1)(hin:∀ p ∈ Si,m p.1 ∈ ids)(hcin:∀ i ∈ cids,i ∈ ids)(hapart:∀ p ∈ Si,m p.1 ∉ cids):Q0i C nt e s Si m rd ids x (Z5z P F):=by
 intro R η e0 s0 a w e6 J H;have b5:=(W8 H x).1
 rw [K4 e6 hx,hv] at b5;have b6:=Z9N b5
 refine .v _ _ (.c _ _ (.sem _ _ ⟨f,_,b6,hcall,?_⟩ (by rw [b6];rfl)));intro w1 X1 vs args r hF c9 V c0 a5 d4 a6
 have T : w.heap.size<=w1.heap.size:=c9;have N:∀ k,k<cs.length->cids.getD k 0 ∈ cids:=fun k G=>Q0R (by omega)
 have z:∀ k,k<cs.length->∃ ro,s0 (cids.getD k 0)=some (.box ro (cs.getD k [])):=by
  intro k G;obtain ⟨ro,h⟩:=hbox k G
  exact ⟨ro,by rw [J _ (hcin _ (N k G))];exact h⟩
 have M:∀ k,k<cs.length->∃ b c' e',η (cids.getD k 0)=.pointer (some ⟨b,0,none⟩)/\w.heap[b]?=some (.cells c' e' (0,0))/\Q0e w (XS C s0 η) η C c' (cs.getD k []):=by
  intro k G;obtain ⟨ro,h⟩:=z k G
  have:=H.st _ _ h
  generalize η (cids.getD k 0)=u at this
  cases this with
  | box b _ c' e' _ y hcs=>exact ⟨b,c',e',rfl,y,hcs⟩
 have W:∀ k,k<cs.length->∀ b,b ∈ W2 (η (cids.getD k 0))->¬ Own (ls Si) (fun i=>η (m i)) b:=by
  rintro k G b y ⟨i,B,l,n⟩;obtain ⟨ro,h⟩:=z k G
  obtain ⟨o1,h2⟩:=hsi _ (J1 l);have d6 : s0 (m i)=some o1:=by rw [J _ (hin _ (J1 l))];exact h2
  have:=H.ds _ _ b (by rw [h];simp) (by rw [d6];simp) y n
  exact hapart _ (J1 l) (this ▸ N k G)
 have c4:∀ b,Own (ls Si) (fun i=>η (m i)) b->XS C s0 η b:=by
  rintro b ⟨i,B,l,n⟩;obtain ⟨o1,h2⟩:=hsi _ (J1 l)
  exact .inr ⟨m i,o1,by rw [J _ (hin _ (J1 l))];exact h2,n⟩
 have G:Q7o w w1 (XS C s0 η) X1:=by
  intro b y hX;have b7:¬ Own (ls Si) (fun i=>η (m i)) b:=fun ho=>hX (c4 b ho)
  exact ⟨V b y b7,fun hx=>hX ((a5 b y b7).1 hx)⟩
 have A:∀ k o,ls (Z0g cs) k=some o->k<cs.length/\o=.box true (cs.getD k []):=by
  intro k o G;rw [Y8r] at G
  rcases Nat.lt_or_ge k cs.length with h|h
  .rw [List.getElem?_eq_getElem h] at G
   cases G
   exact ⟨h,by rw [List.getD_eq_getElem?_getD,List.getElem?_eq_getElem h];rfl⟩
  .rw [List.getElem?_eq_none h] at G;cases G
 have O:∀ b,Own (ls (Z0g cs)) (fun k=>η (cids.getD k 0)) b->X1 b:=by
  rintro b ⟨k,B,Y,Z⟩;obtain ⟨t,_⟩:=A k B Y
  obtain ⟨ro,h⟩:=z k t;have e4:b<w.heap.size:=(H.st _ _ h).lt Z
  exact (a5 b e4 (W k t b Z)).2 (.inr ⟨_,_,h,Z⟩)
 have a7:∀ F' v,Q0B P F' C.w0 C.D C.X v->Q0B P F' w1 (Own (ls (Z0g cs)) fun k=>η (cids.getD k 0)) X1 v:=by
  rintro F' v ⟨g,gc,g1,g2,g3⟩;refine ⟨g,gc,g1,g2,fun w2 X2 us e3 q hq s1 s2 s3 s4 s5 s6=>?_⟩
  have b8:∀ b,b<C.w0.heap.size->¬ C.D b->¬ Own (ls Si) (fun i=>η (m i)) b:=by
   rintro b y I ⟨i,B,l,n⟩;obtain ⟨o1,h⟩:=hsi _ (J1 l)
   rcases H.ow (m i) o1 b (by rw [J _ (hin _ (J1 l))];exact h) n with ⟨_,h⟩|h|h
   .exact I h
   .exact I (H.ok.md b h)
   .omega
  have b3:∀ b,b<C.w0.heap.size->¬ C.D b->¬ Own (ls (Z0g cs)) (fun k=>η (cids.getD k 0)) b:=by
   rintro b y I ⟨k,B,Y,Z⟩;obtain ⟨t,_⟩:=A k B Y
   obtain ⟨ro,h⟩:=z k t;rcases H.ow _ _ b h Z with ⟨_,h⟩|h|h
   .exact I h
   .exact I (H.ok.md b h)
   .omega
  refine g3 w2 X2 us e3 q hq (Nat.le_trans H.fr.size (Nat.le_trans T s1)) (fun b y I=>?_) s3 (fun b y I=>?_) s5 s6
  .have U:b<w.heap.size:=Nat.lt_of_lt_of_le y H.fr.size
   exact ((s2 b (Nat.lt_of_lt_of_le U T) (b3 b y I)).trans (V b U (b8 b y I))).trans (H.fr.block b y fun hM=>I (H.ok.md b hM))
  .have U:b<w.heap.size:=Nat.lt_of_lt_of_le y H.fr.size
   rw [s4 b (Nat.lt_of_lt_of_le U T) (b3 b y I),a5 b U (b8 b y I)];constructor
   .rintro (⟨hx,_⟩|⟨i,B,l,n⟩)
    .exact hx
    .rcases H.ow i B b l n with ⟨_,h⟩|h|h
     .exact absurd h I
     .exact absurd (H.ok.md b h) I
     .omega
   .exact fun hx=>.inl ⟨hx,I⟩
 have d2:=hspec args r hF w1 X1 (fun k=>η (cids.getD k 0)) (vs++(cids.map η).toArray) c0 O
  (fun k o Y=>by
   obtain ⟨t,rfl⟩:=A k o Y;obtain ⟨b,c',e',h,h2,h3⟩:=M k t
   have d8:=W k t b (by rw [h];simp [W2]);show ORep w1 X1 _ _ (η (cids.getD k 0)) _
   rw [h];have d1:∀ x ∈ cs.getD k [],Y9m P x:=hcl _ (Q0R (d:=[]) t)
   exact .box b true c' e' _ ((V b (y7 h2) d8).trans h2) ((h3.mono (η':=η) G (fun _ _=>rfl)).port a7 d1))
  (fun i j b l hj d7 c8=>by
   obtain ⟨oi,l⟩:=Option.ne_none_iff_exists'.1 l;obtain ⟨oj,hj⟩:=Option.ne_none_iff_exists'.1 hj
   obtain ⟨c5,_⟩:=A i oi l;obtain ⟨d3,_⟩:=A j oj hj
   obtain ⟨r1,h⟩:=z i c5;obtain ⟨r2,h2⟩:=z j d3
   have b1:=H.ds _ _ b (by rw [h];simp) (by rw [h2];simp) d7 c8;have hn:=Q4C hnd
   have c2:i<cids.length:=by omega
   have c3:j<cids.length:=by omega
   rw [List.getD_eq_getElem?_getD,List.getD_eq_getElem?_getD,List.getElem?_eq_getElem c2,List.getElem?_eq_getElem c3] at b1;exact (List.getElem_inj hn).1 (by simpa using b1))
  (by simp [d4,Z8P,hlen])
  (fun j hj=>by
   rw [List.length_append] at hj
   by_cases hja:j<args.length
   .have e1:(vs++(cids.map η).toArray).getD j undef=vs.getD j undef:=by
     have:j<vs.size:=by omega
     simp [Array.getD_eq_getD_getElem?,Array.getElem?_append,this]
    have e2:(args++Z8P cs).getD j .any=args.getD j .any:=by simp [List.getD_eq_getElem?_getD,List.getElem?_append,hja]
    rw [e1,e2];exact a6 j hja _ _
   .have t:j-args.length<cs.length:=by simp [Z8P] at hj;omega
    obtain ⟨b,c',e',h,h2,h3⟩:=M _ t;have e1:(vs++(cids.map η).toArray).getD j undef=η (cids.getD (j-args.length) 0):=by
     have g1:¬ j<vs.size:=by omega
     have g2:j-vs.size<cids.length:=by omega
     have g3:j-args.length<cids.length:=by omega
     have:j-vs.size=j-args.length:=by omega
     simp [Array.getD_eq_getD_getElem?,Array.getElem?_append,g1,List.getD_eq_getElem?_getD,this,g3]
    have e2:(args++Z8P cs).getD j .any=.v (.c (.ptr (j-args.length) 0)):=by
     simp [List.getD_eq_getElem?_getD,List.getElem?_append,hja,Z8P,t]
    rw [e1,e2,h];exact .v _ _ (.c _ _ (.ptr b _ 0 h)))
 refine d2.mono fun en w' hh=>?_
 obtain ⟨v,η',rfl,y⟩:=hh;refine ⟨v,rfl,y.stp.mono fun b _ hM=>?_,fun η2 C2=>?_⟩
 .obtain ⟨i,B,l,d5,_⟩:=hM
  obtain ⟨_,rfl⟩:=A i B l;cases d5
 .have hX:∀ b,XS (K6 (Z0g cs) w1 X1 fun k=>η (cids.getD k 0)) (ls (Z0g cs)) η' b↔X1 b:=by
   have a2:∀ i B,ls (Z0g cs) i=some B -> η' i=η (cids.getD i 0):=by
    intro i B l;refine y.pn i _ ?_
    unfold ls at l;simp [K6,l]
   intro b;constructor
   .rintro (⟨hx,_⟩|⟨i,B,l,n⟩)
    .exact hx
    .rw [a2 i B l] at n
     exact O b ⟨i,B,l,n⟩
   .intro hx
    rcases Classical.em (Own (ls (Z0g cs)) (fun k=>η (cids.getD k 0)) b) with ho|ho
    .obtain ⟨i,B,l,n⟩:=ho
     exact .inr ⟨i,B,l,by rw [a2 i B l];exact n⟩
    .exact .inl ⟨hx,ho⟩
  exact (y.res.mono (η':=η') (fun b _ hx=>⟨rfl,fun c6=>hx ((hX b).2 c6)⟩) (fun _ _=>rfl)).free (hres args r hF)
def Y9N(P:Program):List CV->Prop
 | []=>True
 | c::cs=>Y9m P c/\Y9N P cs
def Y7e(P:Program):List (List CV)->Prop
 | []=>True
 | c::cs=>Y9N P c/\Y7e P cs
theorem Y9M{cs:List CV}(h:Y9N P cs):∀ x ∈ cs,Y9m P x:=by
 induction cs with
 | nil=>intro x a;cases a
 | cons c cs ih=>
  intro x a;rcases List.mem_cons.1 a with rfl|a
  .exact h.1
  .exact ih h.2 x a
theorem Y8N{cs:List (List CV)}(h:Y7e P cs):∀ c ∈ cs,∀ x ∈ c,Y9m P x:=by
 induction cs with
 | nil=>intro x a;cases a
 | cons c cs ih=>
  intro x a;rcases List.mem_cons.1 a with rfl|a
  .exact Y9M h.1
  .exact ih h.2 x a
theorem Q0i.cloXP{f:Nat}(hcall:∀ args w,(callFunc f args).run P w=.ok (.enter f args) w){F:List AVal->AVal->Prop}(cs:List (List CV))(hspec:∀ args r,F args r->K7 P f (args++Z8P cs) (Z0g cs) r (Z0g cs))(hres:∀ args r,F args r->r.closed=true){Si:List (Nat×Obj)}{m:Nat->Nat}{rd ids:List Nat}{x:Operand}(hx:Q5E rd x=true)(cids:List Nat)(hv:aev e x=.v (.c (.clo f cids)))(hnd:(Q3h cids&&cids.all (fun i=>ids.contains i))=true)(hp:Y7e P cs)(hbox:W0S s cids cs)(hsi:siB s Si m ids cids=true):Q0i C nt e s Si m rd ids x (Z5z P F):=by
 simp only [Bool.and_eq_true] at hnd;obtain ⟨b,d⟩:=Y8t hbox
 exact Q0i.cloP hcall hspec hres hx hv b hnd.1 d (Y8N hp) (Z5K hsi).1 (Z5K hsi).2.1 (fun i a=>by simpa using List.all_eq_true.1 hnd.2 i a) (Z5K hsi).2.2
end
end
section
section
variable {P:Program} {C:Ctx} {nt:Nat} {L:Lay} {pins:List Nat} {K:Act->World->Prop}
theorem Y1Y(Fm:Fr P L C pins){E:List (Nat×AVal)}{S0:List (Nat×Obj)}{i k es j:Nat}{cs:List CV}{f f' : Nat->List DVal}(hp:pins.contains k=false)(hfr:((E.flatMap fun p=>p.2.refs)++(((i,Obj.box false cs)::S0).flatMap fun p=>p.1::p.2.refs)).contains k=false)(hj:j<cs.length)(hc0:cs.getD j (.d .any)=.fl 0 f)(hk:Kn C nt E ((k,.arr es 0 f')::(i,.box false (cs.set j (.own k)))::S0) K):Kn C nt E ((i,.box false cs)::S0) K:=by
 intro R η a w D;have F:ls ((i,Obj.box false cs)::S0) i=some (.box false cs):=by rw [J2,if_pos rfl]
 have U:=D.st i _ F;obtain ⟨b0,c',e',hη0,hb0,hcs⟩:∃ b c' e',η i=.pointer (some ⟨b,0,none⟩)/\w.heap[b]?=some (.cells c' e' (0,0))/\Q0e w (XS C (ls ((i,Obj.box false cs)::S0)) η) η C c' cs:=by
  generalize η i=u at U
  cases U with|box b _ c' e' _ T h=>exact ⟨b,c',e',rfl,T,h⟩
 obtain ⟨ad,hv⟩:∃ ad,c'.getD j undef=.slice ad 0 0:=by
  have:=hcs.2 j hj
  rw [hc0] at this;generalize c'.getD j undef=u at this
  cases this with|fl ad _ _ _=>exact ⟨ad,rfl⟩
 have W:C.pin k=none:=by
  rcases Z:C.pin k with _|u
  .rfl
  .have:=Fm.pin k (by rw [Z];simp)
   rw [List.contains_iff_mem.2 this] at hp;cases hp
 have M:∀ x ∈ (E.flatMap fun p=>p.2.refs)++(((i,Obj.box false cs)::S0).flatMap fun p=>p.1::p.2.refs),x≠k:=by
  intro x c he;subst he
  rw [List.contains_iff_mem.2 c] at hfr;cases hfr
 have hS:∀ x o,ls ((i,Obj.box false cs)::S0) x=some o->x≠k/\∀ y ∈ o.refs,y≠k:=by
  intro x o c;have hm:=J1 c
  exact ⟨M x (List.mem_append.2 (.inr (List.mem_flatMap.2 ⟨_,hm,by simp⟩))),fun y A=>M y (List.mem_append.2 (.inr (List.mem_flatMap.2 ⟨_,hm,by simp [A]⟩)))⟩
 have a3:i≠k:=(hS i _ F).1;have hE:∀ u x,x ∈ (lk E u).refs->x≠k:=by
  intro u x c;rcases Y0w (E:=E) (t:=u) with h0|h0
  .rw [h0] at c;cases c
  .exact M x (List.mem_append.2 (.inl (List.mem_flatMap.2 ⟨_,h0,c⟩)))
 let η' : Nat->Value:=fun x=>if x=k then .slice ad 0 0 else η x
 have l : ∀ x,x≠k->η' x=η x:=fun x c=>by show (if x=k then Value.slice ad 0 0 else η x)=_;rw [if_neg c]
 have J:η' k=.slice ad 0 0:=by show (if k=k then Value.slice ad 0 0 else η k)=_;rw [if_pos rfl]
 have n:∀ b,b ∉ W2 (η' k):=by intro b;rw [J];cases ad <;> simp [W2]
 have G:∀ x o,ls ((k,Obj.arr es 0 f')::(i,.box false (cs.set j (.own k)))::S0) x=some o->(x=k/\o=.arr es 0 f')\/(x=i/\o=.box false (cs.set j (.own k)))\/(x≠k/\x≠i/\ls ((i,Obj.box false cs)::S0) x=some o):=by
  intro x o c;rw [J2] at c
  by_cases m:x=k
  .rw [if_pos m] at c;cases c;exact .inl ⟨m,rfl⟩
  .rw [if_neg m,J2] at c
   by_cases B:x=i
   .rw [if_pos B] at c;cases c;exact .inr (.inl ⟨B,rfl⟩)
   .rw [if_neg B] at c
    exact .inr (.inr ⟨m,B,by rw [J2,if_neg B];exact c⟩)
 have r:∀ x o,ls ((k,Obj.arr es 0 f')::(i,.box false (cs.set j (.own k)))::S0) x=some o->x≠k->∃ O,ls ((i,Obj.box false cs)::S0) x=some O /\ O.ro=o.ro:=by
  intro x o c g;rcases G x o c with ⟨m,_⟩|⟨m,B⟩|⟨_,_,N⟩
  .exact absurd m g
  .subst m;subst B;exact ⟨_,F,rfl⟩
  .exact ⟨o,N,rfl⟩
 have Y:∀ b,Own (ls ((k,Obj.arr es 0 f')::(i,.box false (cs.set j (.own k)))::S0)) η' b->Own (ls ((i,Obj.box false cs)::S0)) η b:=by
  rintro b ⟨x,o,c,v⟩
  by_cases g:x=k
  .subst g;exact absurd v (n b)
  .obtain ⟨O,m,_⟩:=r x o c g
   exact ⟨x,O,m,by rw [<-l x g];exact v⟩
 have hX:Q7o w w (XS C (ls ((i,Obj.box false cs)::S0)) η) (XS C (ls ((k,Obj.arr es 0 f')::(i,.box false (cs.set j (.own k)))::S0)) η'):=by
  intro b T hn;refine ⟨rfl,fun c=>?_⟩
  rcases c with c|c
  .exact hn (.inl c)
  .exact hn (.inr (Y b c))
 refine hk (fun x=>R x\/x=k) η' a w ⟨D.ok,D.df,D.sz,fun u=>(D.ev u).mono hX fun x c=>l x (hE u x c),fun u x c=>.inl (D.er u x c),fun x o c=>?_,fun x o c=>?_,fun x y b c A v H=>?_,fun x o b c T=>?_,D.fr,fun x u c=>?_⟩
 .rcases G x o c with ⟨rfl,rfl⟩|⟨rfl,rfl⟩|⟨m,B,N⟩
  .rw [J];exact .nil _ _ _
  .rw [l x a3,hη0]
   refine .box b0 false c' e' _ hb0 ⟨by rw [hcs.1];simp,fun q Z=>?_⟩;have I : q<cs.length:=by simpa using Z
   by_cases hqj:q=j
   .subst hqj
    have:(cs.set q (.own k)).getD q (.d .any)=.own k:=by simp [List.getD_eq_getElem?_getD,I]
    rw [this,hv];exact .own _ _ J.symm rfl
   .have:(cs.set j (.own k)).getD q (.d .any)=cs.getD q (.d .any):=by
     simp [List.getD_eq_getElem?_getD,List.getElem?_set,Ne.symm hqj]
    rw [this];refine (hcs.2 q I).mono hX fun y A=>l y ((hS x _ F).2 y ?_)
    exact List.mem_flatMap.2 ⟨_,Q0R I,A⟩
  .rw [l x m]
   exact (D.st x o N).mono hX (fun y A=>l y ((hS x o N).2 y A)) fun _ _=>rfl
 .rcases G x o c with ⟨rfl,rfl⟩|⟨rfl,rfl⟩|⟨m,B,N⟩
  .exact ⟨.inr rfl,by simp [Obj.refs]⟩
  .have:=D.sr x _ F
   refine ⟨.inl this.1,fun y A=>?_⟩;obtain ⟨z,hz,V⟩:=List.mem_flatMap.1 A
   rcases List.mem_or_eq_of_mem_set hz with h4|h4
   .exact .inl (this.2 y (List.mem_flatMap.2 ⟨z,h4,V⟩))
   .subst h4
    exact .inr (by simpa [CV.refs] using V)
  .have:=D.sr x o N
   exact ⟨.inl this.1,fun y A=>.inl (this.2 y A)⟩
 .obtain ⟨ox,c⟩:=Option.ne_none_iff_exists'.1 c
  obtain ⟨oy,A⟩:=Option.ne_none_iff_exists'.1 A
  by_cases g:x=k
  .subst g;exact absurd v (n b)
  .by_cases hyk:y=k
   .subst hyk;exact absurd H (n b)
   .obtain ⟨o1,m,_⟩:=r x ox c g
    obtain ⟨o2,B,_⟩:=r y oy A hyk;rw [l x g] at v
    rw [l y hyk] at H;exact D.ds x y b (by rw [m];simp) (by rw [B];simp) v H
 .by_cases g:x=k
  .subst g;exact absurd T (n b)
  .obtain ⟨O,m,B⟩:=r x o c g
   rw [l x g] at T;rw [<-B]
   exact D.ow x O b m T
 .have g:x≠k:=by intro h;subst h;rw [W] at c;cases c
  have:=D.pn x u c
  exact ⟨by rw [l x g];exact this.1,.inl this.2⟩
end
end
theorem K7.list{α:Type}[Emb α]{P:Program}{f:Nat}{args:List AVal}{r:List α}(h:K7 P f args [] (.v (.c (.own 100))) [(100,AO r)]):K7 P f args [] (AL r) []:=by
 intro w X η I H q t F y m;refine (h w X η I H q t F y m).mono fun e R p=>?_
 obtain ⟨v,η',N,l⟩:=p;refine ⟨v,η',N,?_⟩
 have g:∀ i o,ls ([]:List (Nat×Obj)) i=some o->False:=fun i o a=>by cases a
 have B:=l.objs 100 (AO r) (by rw [J2,if_pos rfl]);have M:v=η' 100:=by
  have:=l.res
  cases this with|v _ _ p=>cases p with|c _ _ p=>cases p with|own _ _ k _=>exact k
 have z:∀ b,b ∈ W2 (η' 100)->¬ XS (K6 [] w X η) (ls []) η' b:=by
  intro b D O;have G:w.heap.size<=b:=by
   rcases l.ow 100 (AO r) b (by rw [J2,if_pos rfl]) D with ⟨k,_⟩|⟨i,o,a,_⟩|k
   .cases k
   .exact (g i o a).elim
   .exact k
  rcases O with ⟨k,_⟩|⟨i,o,a,_⟩
  .have:=H b k
   omega
  .exact (g i o a).elim
 have x:∀ b,¬ XS (K6 [] w X η) (ls [(100,AO r)]) η' b->¬ XS (K6 [] w X η) (ls []) η' b:=by
  intro b k A;rcases A with A|⟨i,o,a,_⟩
  .exact k (.inl A)
  .exact (g i o a).elim
 refine ⟨l.stp,?_,fun i o a=>(g i o a).elim,fun i j b a=>?_,fun i o b a=>(g i o a).elim,l.pn⟩
 .rw [M]
  refine .v _ _ (.c _ _ (.d _ _ ?_));show DRep _ _ _ (.lst r.length (LF r))
  unfold AO at B;generalize η' 100=u at B z
  generalize hn:r.length=n at B
  cases B with
  | nil ad=>exact .nil _ _ _
  | arr b n cap es c e f k A h3 h4 h5 h6 h7=>
   refine .lst b 0 n cap c e _ _ _ (z b (by simp [W2];omega)) k h3 ?_ h6 fun i j a J=>?_
   .rw [A,Nat.zero_add];exact Nat.mul_le_mul_right _ h3
   .rw [Nat.zero_add]
    exact (h7 i j a J).mono fun b _ l=>⟨rfl,x b (by unfold AO;rw [hn];exact l)⟩
 .exact absurd rfl a
section
def apP(es n:Nat)(f:Nat->List DVal)(w:World)(X:Nat->Prop)(u:Value):Prop:=
 (∃ ad,u=.tuple #[.slice ad n n]/\DRep w X (.slice ad n n) (.lst n f))\/∀ η C,ORep w X η C u (.arr es n f)
def AP{α:Type}[Emb α](l:List α):Obj:=.ext (apP (Emb.es α) l.length (LF l))
theorem W0X{w:World}{X:Nat->Prop}{η:Nat->Value}{C:Ctx}{v:Value}{es n:Nat}{f:Nat->List DVal}(h:ORep w X η C v (.arr es n f))(η' : Nat->Value)(C' : Ctx):ORep w X η' C' v (.arr es n f):=by
 cases h with
 | nil ad=>exact .nil ad _ _
 | arr b _ cap _ c e _ h1 h2 h3 h4 h5 h6 h7=>exact .arr b _ cap _ c e _ h1 h2 h3 h4 h5 h6 h7
theorem Y6B(es n:Nat)(f:Nat->List DVal)(u:Value):Y4F (apP es n f) u:=by
 intro w g X i a d h;rcases h with ⟨b,e,c⟩|h
 .exact .inl ⟨b,e,c.mono a⟩
 .exact .inr fun η C=>(h η C).mono (η':=η) a (fun _ _=>rfl) d
theorem CLe.ap(k:Nat):CLe (.own k) (.ap k):=⟨fun w X η C v b=>by cases b with|own _ _ h h1=>exact .ap _ _ (.inl h.symm) h1,fun i a=>a⟩
theorem OLe.ap(es n:Nat)(f:Nat->List DVal):OLe (.arr es n f) (.ext (apP es n f)):=
 ⟨fun w X η C v a=>.ext _ _ (.inr fun η' C'=>W0X a η' C') (Y6B es n f v) fun b d=>a.lt d,rfl,fun i c=>by cases c⟩
def sbC(k:Nat)(y:CV):CV->CV
 | .ap i=>if i=k then y else .ap i
 | x=>x
def TV.sb(k:Nat)(y:CV):TV->TV
 | .c x=>.c (sbC k y x)
 | .g xs=>.g (xs.map (sbC k y))
def AVal.sb(k:Nat)(y:CV):AVal->AVal
 | .any=>.any
 | .v x=>.v (x.sb k y)
 | .t xs=>.t (xs.map (TV.sb k y))
def Obj.sb(k:Nat)(y:CV):Obj->Obj
 | .box ro cs=>.box ro (cs.map (sbC k y))
 | o=>o
section
variable {w:World} {X X' : Nat->Prop} {η:Nat->Value} {C:Ctx} {k:Nat} {y:CV}
theorem CRep.sb{v:Value}{x:CV}(h:CRep w X η C v x)(hX:∀ b,¬ X b->¬ X' b)(hk:∀ v,CRep w X η C v (.ap k)->CRep w X' η C v y):CRep w X' η C v (sbC k y x):=by
 have a:Q7o w w X X':=fun b _ d=>⟨rfl,hX b d⟩
 cases x with
 | ap i=>
  simp only [sbC];split
  .rename_i c;subst c;exact hk v h
  .exact h.mono a fun _ _=>rfl
 | _=>exact h.mono a fun _ _=>rfl
theorem Q0e.sb{vs:Array Value}{cs:List CV}(h:Q0e w X η C vs cs)(hX:∀ b,¬ X b->¬ X' b)(hk:∀ v,CRep w X η C v (.ap k)->CRep w X' η C v y):Q0e w X' η C vs (cs.map (sbC k y)):=by
 refine ⟨by simpa using h.1,fun j c=>?_⟩;have a : j<cs.length:=by simpa using c
 have:=(h.2 j a).sb hX hk
 rw [List.getD_eq_getElem?_getD,List.getElem?_map,List.getElem?_eq_getElem a];rw [List.getD_eq_getElem?_getD,List.getElem?_eq_getElem a] at this
 exact this
theorem TRep.sb{v:Value}{x:TV}(h:TRep w X η C v x)(hX:∀ b,¬ X b->¬ X' b)(hk:∀ v,CRep w X η C v (.ap k)->CRep w X' η C v y):TRep w X' η C v (x.sb k y):=by
 cases h with
 | c _ _ h=>exact .c _ _ (h.sb hX hk)
 | g _ _ h=>exact .g _ _ (h.sb hX hk)
theorem ARep.sb{v:Value}{x:AVal}(h:ARep w X η C v x)(hX:∀ b,¬ X b->¬ X' b)(hk:∀ v,CRep w X η C v (.ap k)->CRep w X' η C v y):ARep w X' η C v (x.sb k y):=by
 cases h with
 | any=>exact .any v
 | v _ _ h=>exact .v _ _ (h.sb hX hk)
 | t us xs h1 h2=>
  refine .t us _ (by simpa using h1) fun j c=>?_
  have a : j<xs.length:=by simpa using c
  have:=(h2 j a).sb hX hk
  rw [List.getD_eq_getElem?_getD,List.getElem?_map,List.getElem?_eq_getElem a];rw [List.getD_eq_getElem?_getD,List.getElem?_eq_getElem a] at this
  exact this
theorem ORep.sb{v:Value}{o:Obj}(h:ORep w X η C v o)(hX:∀ b,¬ X b->¬ X' b)(hk:∀ v,CRep w X η C v (.ap k)->CRep w X' η C v y):ORep w X' η C v (o.sb k y):=by
 cases o with
 | box ro cs=>cases h with|box b _ c e _ h1 h2=>exact .box b ro c e _ h1 (h2.sb hX hk)
 | arr es n f=>exact h.mono (fun b _ a=>⟨rfl,hX b a⟩) (fun _ _=>rfl) fun _ _=>rfl
 | ext p=>exact h.mono (fun b _ a=>⟨rfl,hX b a⟩) (fun _ _=>rfl) fun _ _=>rfl
 | exr refs p=>exact h.mono (fun b _ a=>⟨rfl,hX b a⟩) (fun _ _=>rfl) fun _ _=>rfl
theorem CV.sb_refs(hy:∀ i ∈ y.refs,i=k)(x:CV):∀ j ∈ (sbC k y x).refs,j ∈ x.refs:=by
 cases x <;> simp only [sbC] <;> try exact fun j a=>a
 split
 .rename_i b;intro j a;rw [hy j a,b];simp [CV.refs]
 .exact fun j a=>a
theorem TV.sb_refs(hy:∀ i ∈ y.refs,i=k)(x:TV):∀ j ∈ (x.sb k y).refs,j ∈ x.refs:=by
 cases x with
 | c x=>exact CV.sb_refs hy x
 | g xs=>exact Q4x (CV.sb_refs hy)
theorem AVal.sb_refs(hy:∀ i ∈ y.refs,i=k)(x:AVal):∀ j ∈ (x.sb k y).refs,j ∈ x.refs:=by
 cases x with
 | any=>exact fun j a=>a
 | v x=>exact TV.sb_refs hy x
 | t xs=>exact Q4x (TV.sb_refs hy)
theorem Obj.sb_refs(hy:∀ i ∈ y.refs,i=k)(o:Obj):∀ j ∈ (o.sb k y).refs,j ∈ o.refs:=by
 cases o with
 | box ro cs=>exact Q4x (CV.sb_refs hy)
 | arr es n f=>exact fun j a=>a
 | ext p=>exact fun j a=>a
 | exr refs p=>exact fun j a=>a
theorem Obj.sb_ro(o:Obj):(o.sb k y).ro=o.ro:=by cases o <;> rfl
end
section
variable {P:Program} {C:Ctx} {nt:Nat} {L:Lay} {pins:List Nat} {K:Act->World->Prop} {E:List (Nat×AVal)} {S:List (Nat×Obj)}
theorem Conc.sb{R:Nat->Prop}{η:Nat->Value}{a:Act}{w:World}{S0:List (Nat×Obj)}{k:Nat}{y:CV}(hc:Conc C nt R η (lk E) (ls S0) a w)(s' : Sto)(hy:∀ i ∈ y.refs,i=k)(hs:∀ i o',s' i=some o' -> ∃ o,ls S0 i=some o/\(o'=o.sb k y\/(o'.refs=[]/\o'.ro=o.ro/\ORep w (XS C s' η) η C (η i) o')))(hrep:∀ v,CRep w (XS C (ls S0) η) η C v (.ap k)->CRep w (XS C s' η) η C v y):Conc C nt R η (lk (E.map fun p=>(p.1,p.2.sb k y))) s' a w:=by
 have r:∀ b,¬ XS C (ls S0) η b->¬ XS C s' η b:=by
  intro b l q;rcases q with q|⟨i,o',c,n⟩
  .exact l (.inl q)
  .obtain ⟨o,d,_⟩:=hs i o' c
   exact l (.inr ⟨i,o,d,n⟩)
 have m:∀ i,s' i≠none->ls S0 i≠none:=by
  intro i c;obtain ⟨o',c⟩:=Option.ne_none_iff_exists'.1 c
  obtain ⟨o,d,_⟩:=hs i o' c;rw [d];simp
 refine ⟨hc.ok,hc.df,hc.sz,fun t=>?_,fun t i c=>?_,fun i o' c=>?_,fun i o' c=>?_,fun i j b c f=>hc.ds i j b (m i c) (m j f),fun i o' b c l=>?_,hc.fr,hc.pn⟩
 .rw [Y5f (g:=AVal.sb k y) rfl];exact (hc.ev t).sb r hrep
 .rw [Y5f (g:=AVal.sb k y) rfl] at c;exact hc.er t i (AVal.sb_refs hy _ i c)
 .obtain ⟨o,d,h|⟨_,_,h⟩⟩:=hs i o' c
  .rw [h];exact (hc.st i o d).sb r hrep
  .exact h
 .obtain ⟨o,d,h|⟨h,_,_⟩⟩:=hs i o' c
  .have:=hc.sr i o d
   exact ⟨this.1,fun j f=>this.2 j (by rw [h] at f;exact Obj.sb_refs hy o j f)⟩
  .exact ⟨(hc.sr i o d).1,fun j f=>by rw [h] at f;cases f⟩
 .obtain ⟨o,d,h|⟨_,h,_⟩⟩:=hs i o' c
  .have:=hc.ow i o b d l
   rw [h,Obj.sb_ro];exact this
  .have:=hc.ow i o b d l
   rw [h];exact this
theorem Z2W{k es n:Nat}{f:Nat->List DVal}(hk:(S.map (·.1)).contains k=false)(h1:Kn C nt (E.map fun p=>(p.1,p.2.sb k (.own k))) ((k,.arr es n f)::S.map fun p=>(p.1,p.2.sb k (.own k))) K)(h2:Kn C nt (E.map fun p=>(p.1,p.2.sb k (.fl n f))) (S.map fun p=>(p.1,p.2.sb k (.fl n f))) K):Kn C nt E ((k,.ext (apP es n f))::S) K:=by
 intro R η a w D;have r:ls ((k,.ext (apP es n f))::S) k=some (.ext (apP es n f)):=by rw [J2,if_pos rfl]
 have B:ls S k=none:=by
  cases j:ls S k with
  | none=>rfl
  | some o=>
   have:k ∈ S.map (·.1):=List.mem_map.2 ⟨_,J1 j,rfl⟩
   rw [List.contains_iff_mem.2 this] at hk;cases hk
 have g:∀ i o,ls S i=some o->ls ((k,.ext (apP es n f))::S) i=some o:=by
  intro i o c;have H:i≠k:=by intro h;rw [h,B] at c;cases c
  rw [J2,if_neg H];exact c
 have z:=D.st k _ r;have A:apP es n f w (XS C (ls ((k,.ext (apP es n f))::S)) η) (η k):=by
  generalize η k=u at z
  cases z with|ext _ _ h _ _=>exact h
 rcases A with ⟨J,e,I⟩|j
 .refine h2 R η a w (D.sb _ (by simp [CV.refs]) (fun i F c=>?_) fun v d=>?_)
  .rw [Z4z] at c
   cases j:ls S i with
   | none=>rw [j] at c;cases c
   | some o=>rw [j] at c;cases c;exact ⟨o,g i o j,.inl rfl⟩
  .have G:∀ b,¬ XS C (ls ((k,.ext (apP es n f))::S)) η b->¬ XS C (ls (S.map fun p=>(p.1,p.2.sb k (.fl n f)))) η b:=by
    intro b m t;rcases t with t|⟨i,F,c,q⟩
    .exact m (.inl t)
    .rw [Z4z] at c
     cases j:ls S i with
     | none=>rw [j] at c;cases c
     | some o=>exact m (.inr ⟨i,o,g i o j,q⟩)
   cases d with|ap _ _ d h1=>
   rw [e] at d;rcases d with rfl|d|⟨l,d⟩
   .cases h1
   .cases d;exact .fl _ _ _ (I.mono fun b _ m=>⟨rfl,G b m⟩)
   .cases d
 .have G:∀ b,¬ XS C (ls ((k,.ext (apP es n f))::S)) η b->¬ XS C (ls ((k,.arr es n f)::S.map fun p=>(p.1,p.2.sb k (.own k)))) η b:=by
   intro b m t;rcases t with t|⟨i,F,c,q⟩
   .exact m (.inl t)
   .rw [J2] at c
    split at c
    .rename_i x;subst x;exact m (.inr ⟨i,_,r,q⟩)
    .rw [Z4z] at c
     cases j:ls S i with
     | none=>rw [j] at c;cases c
     | some o=>exact m (.inr ⟨i,o,g i o j,q⟩)
  refine h1 R η a w (D.sb _ (by simp [CV.refs]) (fun i F c=>?_) fun v d=>?_)
  .rw [J2] at c
   split at c
   .rename_i x
    cases c
    subst x;exact ⟨_,r,.inr ⟨rfl,rfl,(j η C).mono (fun b _ m=>⟨rfl,G b m⟩) (fun _ _=>rfl) fun _ _=>rfl⟩⟩
   .rw [Z4z] at c
    cases ho' : ls S i with
    | none=>rw [ho'] at c;cases c
    | some o=>rw [ho'] at c;cases c;exact ⟨o,g i o ho',.inl rfl⟩
  .cases d with|ap _ _ d h1=>
   have:=j η C
   rcases d with d|d|⟨l,d⟩
   .exact .own _ _ d.symm h1
   .rw [d] at this;cases this
   .rw [d] at this;cases this
theorem Y7I(Fm:Fr P L C pins){S0:List (Nat×Obj)}{ro:Bool}{i k es n j:Nat}{cs:List CV}{f:Nat->List DVal}(hp:pins.contains k=false)(hfr:((E.flatMap fun p=>p.2.refs)++(((i,Obj.box ro cs)::S0).flatMap fun p=>p.1::p.2.refs)).contains k=false)(hj:j<cs.length)(hc0:cs.getD j (.d .any)=.fl n f)(hk:Kn C nt E ((k,.ext (apP es n f))::(i,.box ro (cs.set j (.ap k)))::S0) K):Kn C nt E ((i,.box ro cs)::S0) K:=by
 intro R η a w F;have G:ls ((i,Obj.box ro cs)::S0) i=some (.box ro cs):=by rw [J2,if_pos rfl]
 have V:=F.st i _ G;obtain ⟨b0,c',e',hη0,hb0,hcs⟩:∃ b c' e',η i=.pointer (some ⟨b,0,none⟩)/\w.heap[b]?=some (.cells c' e' (0,0))/\Q0e w (XS C (ls ((i,Obj.box ro cs)::S0)) η) η C c' cs:=by
  generalize η i=u at V
  cases V with|box b _ c' e' _ I h=>exact ⟨b,c',e',rfl,I,h⟩
 obtain ⟨ad,hv,hdr⟩:∃ ad,c'.getD j undef=.slice ad n n/\DRep w (XS C (ls ((i,Obj.box ro cs)::S0)) η) (.slice ad n n) (.lst n f):=by
  have:=hcs.2 j hj
  rw [hc0] at this;generalize c'.getD j undef=u at this
  cases this with|fl ad _ _ h=>exact ⟨ad,rfl,h⟩
 have Y:C.pin k=none:=by
  rcases hq:C.pin k with _|u
  .rfl
  .have:=Fm.pin k (by rw [hq];simp)
   rw [List.contains_iff_mem.2 this] at hp;cases hp
 have O:∀ x ∈ (E.flatMap fun p=>p.2.refs)++(((i,Obj.box ro cs)::S0).flatMap fun p=>p.1::p.2.refs),x≠k:=by
  intro x c he;subst he
  rw [List.contains_iff_mem.2 c] at hfr;cases hfr
 have hS:∀ x o,ls ((i,Obj.box ro cs)::S0) x=some o->x≠k/\∀ y ∈ o.refs,y≠k:=by
  intro x o c;have hm:=J1 c
  exact ⟨O x (List.mem_append.2 (.inr (List.mem_flatMap.2 ⟨_,hm,by simp⟩))),fun y B=>O y (List.mem_append.2 (.inr (List.mem_flatMap.2 ⟨_,hm,by simp [B]⟩)))⟩
 have a4:i≠k:=(hS i _ G).1;have hE:∀ u x,x ∈ (lk E u).refs->x≠k:=by
  intro u x c;rcases Y0w (E:=E) (t:=u) with h0|h0
  .rw [h0] at c;cases c
  .exact O x (List.mem_append.2 (.inl (List.mem_flatMap.2 ⟨_,h0,c⟩)))
 let η' : Nat->Value:=fun x=>if x=k then .tuple #[.slice ad n n] else η x
 have l : ∀ x,x≠k->η' x=η x:=fun x c=>by show (if x=k then Value.tuple #[.slice ad n n] else η x)=_;rw [if_neg c]
 have N:η' k=.tuple #[.slice ad n n]:=by show (if k=k then Value.tuple #[.slice ad n n] else η k)=_;rw [if_pos rfl]
 have r:∀ b,b ∉ W2 (η' k):=by intro b;rw [N];simp [W2]
 have H:∀ x o,ls ((k,Obj.ext (apP es n f))::(i,.box ro (cs.set j (.ap k)))::S0) x=some o->(x=k/\o=.ext (apP es n f))\/(x=i/\o=.box ro (cs.set j (.ap k)))\/(x≠k/\x≠i/\ls ((i,Obj.box ro cs)::S0) x=some o):=by
  intro x o c;rw [J2] at c
  by_cases m:x=k
  .rw [if_pos m] at c;cases c;exact .inl ⟨m,rfl⟩
  .rw [if_neg m,J2] at c
   by_cases D:x=i
   .rw [if_pos D] at c;cases c;exact .inr (.inl ⟨D,rfl⟩)
   .rw [if_neg D] at c
    exact .inr (.inr ⟨m,D,by rw [J2,if_neg D];exact c⟩)
 have v:∀ x o,ls ((k,Obj.ext (apP es n f))::(i,.box ro (cs.set j (.ap k)))::S0) x=some o->x≠k->∃ U,ls ((i,Obj.box ro cs)::S0) x=some U /\ U.ro=o.ro:=by
  intro x o c g;rcases H x o c with ⟨m,_⟩|⟨m,D⟩|⟨_,_,T⟩
  .exact absurd m g
  .subst m;subst D;exact ⟨_,G,rfl⟩
  .exact ⟨o,T,rfl⟩
 have Z:∀ b,Own (ls ((k,Obj.ext (apP es n f))::(i,.box ro (cs.set j (.ap k)))::S0)) η' b->Own (ls ((i,Obj.box ro cs)::S0)) η b:=by
  rintro b ⟨x,o,c,A⟩
  by_cases g:x=k
  .subst g;exact absurd A (r b)
  .obtain ⟨U,m,_⟩:=v x o c g
   exact ⟨x,U,m,by rw [<-l x g];exact A⟩
 have hX:Q7o w w (XS C (ls ((i,Obj.box ro cs)::S0)) η) (XS C (ls ((k,Obj.ext (apP es n f))::(i,.box ro (cs.set j (.ap k)))::S0)) η'):=by
  intro b I hn;refine ⟨rfl,fun c=>?_⟩
  rcases c with c|c
  .exact hn (.inl c)
  .exact hn (.inr (Z b c))
 refine hk (fun x=>R x\/x=k) η' a w ⟨F.ok,F.df,F.sz,fun u=>(F.ev u).mono hX fun x c=>l x (hE u x c),fun u x c=>.inl (F.er u x c),fun x o c=>?_,fun x o c=>?_,fun x y b c B A J=>?_,fun x o b c I=>?_,F.fr,fun x u c=>?_⟩
 .rcases H x o c with ⟨rfl,rfl⟩|⟨rfl,rfl⟩|⟨m,D,T⟩
  .refine .ext _ _ ?_ (Y6B es n f _) (fun b I=>absurd I (r b))
   rw [N];exact .inl ⟨ad,rfl,hdr.mono hX⟩
  .rw [l x a4,hη0]
   refine .box b0 ro c' e' _ hb0 ⟨by rw [hcs.1];simp,fun q hq=>?_⟩;have M : q<cs.length:=by simpa using hq
   by_cases hqj:q=j
   .subst hqj
    have:(cs.set q (.ap k)).getD q (.d .any)=.ap k:=by simp [List.getD_eq_getElem?_getD,M]
    rw [this,hv];exact .ap _ _ (.inr (.inl N)) rfl
   .have:(cs.set j (.ap k)).getD q (.d .any)=cs.getD q (.d .any):=by
     simp [List.getD_eq_getElem?_getD,List.getElem?_set,Ne.symm hqj]
    rw [this];refine (hcs.2 q M).mono hX fun y B=>l y ((hS x _ G).2 y ?_)
    exact List.mem_flatMap.2 ⟨_,Q0R M,B⟩
  .rw [l x m]
   exact (F.st x o T).mono hX (fun y B=>l y ((hS x o T).2 y B)) fun _ _=>rfl
 .rcases H x o c with ⟨rfl,rfl⟩|⟨rfl,rfl⟩|⟨m,D,T⟩
  .exact ⟨.inr rfl,by simp [Obj.refs]⟩
  .have:=F.sr x _ G
   refine ⟨.inl this.1,fun y B=>?_⟩;obtain ⟨z,hz,W⟩:=List.mem_flatMap.1 B
   rcases List.mem_or_eq_of_mem_set hz with h4|h4
   .exact .inl (this.2 y (List.mem_flatMap.2 ⟨z,h4,W⟩))
   .subst h4
    exact .inr (by simpa [CV.refs] using W)
  .have:=F.sr x o T
   exact ⟨.inl this.1,fun y B=>.inl (this.2 y B)⟩
 .obtain ⟨ox,c⟩:=Option.ne_none_iff_exists'.1 c
  obtain ⟨oy,B⟩:=Option.ne_none_iff_exists'.1 B
  by_cases g:x=k
  .subst g;exact absurd A (r b)
  .by_cases hyk:y=k
   .subst hyk;exact absurd J (r b)
   .obtain ⟨o1,m,_⟩:=v x ox c g
    obtain ⟨o2,D,_⟩:=v y oy B hyk;rw [l x g] at A
    rw [l y hyk] at J;exact F.ds x y b (by rw [m];simp) (by rw [D];simp) A J
 .by_cases g:x=k
  .subst g;exact absurd I (r b)
  .obtain ⟨U,m,D⟩:=v x o c g
   rw [l x g] at I;rw [<-D]
   exact F.ow x U b m I
 .have g:x≠k:=by intro h;subst h;rw [Y] at c;cases c
  have:=F.pn x u c
  exact ⟨by rw [l x g];exact this.1,.inl this.2⟩
end
end
section
section
variable {P:Program} {C:Ctx} {nt:Nat} {L:Lay} {ops:Array Oper} {ds:List Dir} {e:Env} {s:Sto}
def Y7A(caps:List Nat):List AVal:=caps.map fun c=>.v (.c (.ptr c 0))
theorem Y8D{f:Nat}(hcall:∀ args w,(callFunc f args).run P w=.ok (.enter f args) w){o:Oper}{fx:Operand}{xs:Array Operand}{tys:Array TypeId}(hop:o.op=.call { callee:=.value fx,args:=xs,argTypes:=tys }){args:List AVal}{Si:List (Nat×Obj)}{r:AVal}{So:List (Nat×Obj)}{m:Nat->Nat}{caps:List Nat}(hfx:aev e fx=.v (.c (.clo f (caps.map m))))(hrf:Q5E (Q0l o++U4 ops o) fx=true)(hspec:K7 P f (args++Y7A caps) Si r So)(hbox:∀ c ∈ caps,∃ ro cs,ls Si c=some (.box ro cs))(hlen:xs.size=args.length)(extra:List Nat)(hargs:∀ j,j<args.length->Q0i C nt e s Si m (Q0l o++U4 ops o) (Z2T e o++(Si.map (fun p=>m p.1)++extra)) (xs.toList.getD j (.const undef)) (args.getD j .any))(hsi:∀ p ∈ Si,∃ o1,s (m p.1)=some o1/\OLe o1 (p.2.ren m))(hchk:Q7a m r Si So=true)(hdo:Q1M nt o=true)(hg:Q8s ops e o=some true):StT P C nt ops o (Y5q ops o e m extra r Si So) e s:=by
 intro R η e0 G a w D x W n K Q hK;have hw:=Q5N (e:=e) n (fun t ht=>D t (List.mem_append.2 (.inr ht))) hg
 rw [if_pos hw];have J:=(W8 n fx).1
 rw [K4 D hrf,hfx] at J;have M:=Z9N J
 have a3:=Z7o (w:=w) hop M hcall;have g:∀ p ∈ Si,∃ o1,G (m p.1)=some o1/\OLe o1 (p.2.ren m):=by
  intro p hp;rw [x (m p.1) (List.mem_append.2 (.inr (List.mem_append.2 (.inl (List.mem_map.2 ⟨p,hp,rfl⟩)))))]
  exact hsi p hp
 simp only [Q7a,Bool.and_eq_true] at hchk;have z:=hchk
 obtain ⟨⟨⟨⟨⟨⟨⟨⟨⟨c1,c2⟩,c3⟩,c4⟩,c5⟩,c6⟩,c7⟩,c8⟩,c9⟩,b9⟩:=hchk;have O:∀ b,XS C G η b->b<w.heap.size:=by
  rintro b (⟨hx,_⟩|hx)
  .exact Nat.lt_of_lt_of_le (n.ok.lt b hx) n.fr.size
  .exact n.lt hx
 have N:∀ i l,ls Si i=some l -> l.noSem=true:=fun i l h=>List.all_eq_true.1 c7 _ (J1 h)
 have q:∀ i l,ls Si i=some l -> ORep w (XS C G η) (fun i=>η (m i)) (K6 Si w (XS C G η) fun i=>η (m i)) (η (m i)) l:=fun i l h=>by
  obtain ⟨o1,I,a4⟩:=g _ (J1 h);exact (ORep.unren (a4.1 _ _ _ _ _ (n.st _ o1 I))).ctx (N i l h)
 have a2:=hspec w (XS C G η) (fun i=>η (m i)) (xs.map a.eval++((caps.map m).map η).toArray) O
  (fun b ⟨i,l,h,hib⟩=>by obtain ⟨o1,I,_⟩:=g _ (J1 h);exact .inr ⟨m i,o1,I,hib⟩)
  q
  (fun i j b h B U Z=>by
   obtain ⟨oi,h⟩:=Option.ne_none_iff_exists'.1 h;obtain ⟨oj,B⟩:=Option.ne_none_iff_exists'.1 B
   obtain ⟨o1,I,_⟩:=g _ (J1 h);obtain ⟨o2,h2,_⟩:=g _ (J1 B)
   have H:m i=m j:=n.ds _ _ b (by rw [I];simp) (by rw [h2];simp) U Z;have n3:=Q4C c3
   rw [List.nodup_append] at n3;exact Y7n (ρ:=m) n3.2.1 (by rw [h];simp) (by rw [B];simp) H)
  (by simp [hlen,Y7A])
  (fun j B=>by
   rw [List.length_append] at B
   by_cases hja:j<args.length
   .have a1 : j<xs.size:=by omega
    have e1:(xs.map a.eval++((caps.map m).map η).toArray).getD j undef=a.eval (xs.toList.getD j (.const undef)):=by
     simp [List.getD_eq_getElem?_getD,a1,Array.getD_eq_getD_getElem?,Array.getElem?_append]
    have V:(args++Y7A caps).getD j .any=args.getD j .any:=by simp [List.getD_eq_getElem?_getD,List.getElem?_append,hja]
    rw [e1,V];exact hargs j hja R η e0 G a w D x n
   .have F:j-args.length<caps.length:=by simp [Y7A] at B;omega
    have g1:¬ j<xs.size:=by omega
    have g2:j-xs.size=j-args.length:=by omega
    have e1:(xs.map a.eval++((caps.map m).map η).toArray).getD j undef=η (m (caps.getD (j-args.length) 0)):=by
     simp [Array.getD_eq_getD_getElem?,Array.getElem?_append,g1,g2,F,List.getD_eq_getElem?_getD]
    have V:(args++Y7A caps).getD j .any=.v (.c (.ptr (caps.getD (j-args.length) 0) 0)):=by
     simp [List.getD_eq_getElem?_getD,List.getElem?_append,hja,Y7A,F]
    rw [e1,V];obtain ⟨ro,cs,Y⟩:=hbox _ (Q0R (d:=0) F)
    have:=q _ _ Y
    generalize hu:η (m (caps.getD (j-args.length) 0))=u at this
    cases this with|box b _ c e' _ _ _=>exact .v _ _ (.c _ _ (.ptr b _ 0 hu)))
 unfold Oper.wp;rw [a3]
 show Calls P f _ w _;refine a2.mono fun en w' hh=>?_
 obtain ⟨v,η',rfl,Y⟩:=hh;have A:Q7a m r Si So=true:=by simp only [Q7a,Bool.and_eq_true];exact z
 obtain ⟨η1,T⟩:=n.call (Q5I hdo) A g W Y;exact hK η1 _ w' T
def Y7m(f:Nat)(ids:List Nat):AVal->Bool
 | .v (.c (.clo g is))=>g==f&&is==ids
 | _=>false
theorem Y8Z{f:Nat}{ids:List Nat}{x:AVal}(h:Y7m f ids x=true):x=.v (.c (.clo f ids)):=by
 unfold Y7m at h;split at h
 .rename_i g a;simp at h;rw [h.1,h.2]
 .cases h
def W0Q(Si:List (Nat×Obj))(caps:List Nat):Bool:=caps.all fun c=>match ls Si c with|some (.box _ _)=>true|_=>false
theorem Y9j{Si:List (Nat×Obj)}{caps:List Nat}(h:W0Q Si caps=true):∀ c ∈ caps,∃ ro cs,ls Si c=some (.box ro cs):=by
 intro c a;have:=List.all_eq_true.1 h c a
 split at this
 .rename_i ro cs b;exact ⟨ro,cs,b⟩
 .cases this
def W0O(ops:Array Oper)(nt:Nat)(e:Env)(o:Oper)(f:Nat)(m:List (Nat×Nat))(caps:List Nat)(r:AVal)(Si So:List (Nat×Obj)):Bool:=
 Y0B o&&Y7m f (caps.map (J6 m)) (aev e (callX o))&&Q5E (Q0l o++U4 ops o) (callX o)&&Q7a (J6 m) r Si So&&Q1M nt o&&(Q8s ops e o==some true)&&W0Q Si caps
theorem Z7s{k:Nat}{f:Nat}{args:List AVal}{Si:List (Nat×Obj)}{r:AVal}{So:List (Nat×Obj)}{caps:List Nat}(hspec:K7 P f (args++Y7A caps) Si r So)(hcall:∀ args w,(callFunc f args).run P w=.ok (.enter f args) w)(m:List (Nat×Nat))(hk:Q1V ds k=cE m [] r Si So)(hq:(W0O ops nt (V5 L ops ops.toList ds e s k) (Y9 ops.toList k) f m caps r Si So,Si.map (fun p=>Q2s L ops ops.toList ds e s k (J6 m p.1)),
   (Go.Ab.callXs (Y9 ops.toList k)).toList.all (Q5E (Q0l (Y9 ops.toList k)++U4 ops (Y9 ops.toList k)))&&args.all AVal.noSem,(Go.Ab.callXs (Y9 ops.toList k)).toList.map (aev (V5 L ops ops.toList ds e s k)))
   = (true,Si.map (fun p=>some (p.2.ren (J6 m))),true,args.map (AVal.ren (J6 m)))):KAt P C nt L ops ds e s k:=by
 unfold KAt;rw [hk]
 have d:=congrArg (·.1) hq;have c:=congrArg (·.2.1) hq
 have b:=congrArg (·.2.2.1) hq;have a:=congrArg (·.2.2.2) hq
 simp only at d c b a;simp only [W0O,Bool.and_eq_true] at d
 obtain ⟨⟨⟨⟨⟨⟨x,i⟩,A⟩,o⟩,z⟩,l⟩,q⟩:=d;obtain ⟨n,g⟩:=Z7g x
 rw [Bool.and_eq_true] at b;obtain ⟨v,t⟩:=(Z6P.plains (C:=C) (nt:=nt) (s:=Q2s L ops ops.toList ds e s k) (Si:=Si) (ids:=Z2T (V5 L ops ops.toList ds e s k) (Y9 ops.toList k)++(Si.map (fun p=>J6 m p.1)++[])) b.1 b.2 a).spec
 exact Y8D hcall g (Y8Z i) A hspec (Y9j q) (by simpa using v) [] (fun j h=>t j h) (fun p u=>⟨_,Q1T c p u,OLe.refl _⟩) o z (by simpa using l)
end
end
section
open Go.Sort Go.Proofs Go.Shelf
section
variable {α:Type} [Emb α]
end
end
section
section
variable {P:Program} {C:Ctx} {nt:Nat} {L:Lay} {R:Nat->Prop} {η:Nat->Value} {e:Env} {s:Sto} {a:Act} {w:World}
theorem Snd.upd_le{o:Oper}{x:AVal}{id:Nat}{ob ob' : Obj}{c:Prop}(h:Snd P C nt R η e s a w o { v:=x,upd:=some (id,ob),cond:=c })(hle:OLe ob ob'):Snd P C nt R η e s a w o { v:=x,upd:=some (id,ob'),cond:=c }:=by
 obtain ⟨v,p,r,g⟩:=h;refine ⟨v,p,r,?_⟩
 have d:∀ q i,SR.sto { v:=x,upd:=some (id,q),cond:=c } o.dst s i=if i=id then some q else s i:=by
  intro q i;unfold SR.sto
  simp
 have n:=g.conv (R':=SR.rng { v:=x,upd:=some (id,ob'),cond:=c } o.dst R) (e':=SR.env { v:=x,upd:=some (id,ob'),cond:=c } o.dst e) (s':=SR.sto { v:=x,upd:=some (id,ob'),cond:=c } o.dst s) (fun i=>i)
  (fun t=>by rw [AVal.ren_id];exact ALe.refl _) (fun i l f=>by
   rw [Obj.ren_id];rw [d] at f ⊢
   split at f
   .rename_i b;cases f;exact ⟨ob,by rw [if_pos b],hle⟩
   .rename_i b;exact ⟨l,by rw [if_neg b];exact f,OLe.refl _⟩) (fun i j _ _ h=>h) (fun t i f=>g.er t i f) (fun i l f=>by
   rw [d] at f;split at f
   .rename_i b
    cases f
    have:=g.sr i ob (by rw [d,if_pos b])
    exact ⟨this.1,fun j m=>this.2 j (hle.2.2 j m)⟩
   .rename_i b
    exact g.sr i l (by rw [d,if_neg b];exact f)) (fun i f=>⟨rfl,by
   obtain ⟨v,u⟩:=Option.ne_none_iff_exists'.1 f;exact (g.pn i v u).2⟩)
 exact n
variable {ops:Array Oper} {ds:List Dir} {k:Nat}
theorem KAt.upd(hL:LOk P L){id:Nat}{ob ob' : Obj}{c:Prop}(hk:Q1V ds k=rE { v:=.any,upd:=some (id,ob') })(hdo:(Q1M nt (Y9 ops.toList k)&&(Q8s ops (V5 L ops ops.toList ds e s k) (Y9 ops.toList k)==some true))=true)(hr:Q9s L false (V5 L ops ops.toList ds e s k) (Q2s L ops ops.toList ds e s k) (Y9 ops.toList k)=some { v:=.any,upd:=some (id,ob),cond:=c })(hc:c)(hle:OLe ob ob'):KAt P C nt L ops ds e s k:=by
 unfold KAt;rw [hk]
 simp only [Bool.and_eq_true,beq_iff_eq] at hdo;have b:∀ t x y,(Y9 ops.toList k).op=.store t x y->(Y9 ops.toList k).dst=none:=by
  intro t x y i;have:=hdo.1
  simp only [Q1M,i,Bool.and_eq_true] at this;simpa using this.2
 refine Z1c hdo.1 hdo.2 fun R η p o a w l g j h=>?_
 have f:=(Y3y (L:=L) (e:=V5 L ops ops.toList ds e s k) (s:=Q2s L ops ops.toList ds e s k) false (Y9 ops.toList k) l g).trans hr;exact (Y8y hL h false _ (fun x m=>Q5I hdo.1 x m) f hc (fun d n j=>absurd rfl j) b).upd_le hle
theorem Y6E(hL:LOk P L){te:TI}{t:TypeId}(hT:slT L t te){x y:Operand}{d n m:Nat}{f g:Nat->List DVal}(hk:Q1V ds k=rE { v:=.v (.c (.own d)),new:=some (.arr te.size (n+m) (Q5L n f g)) })(hop:(Y9 ops.toList k).op=.call { callee:=.builtin .append,args:= #[x,y],argTypes:= #[t,t] })(hdo:(Q1M nt (Y9 ops.toList k)&&(Q8s ops (V5 L ops ops.toList ds e s k) (Y9 ops.toList k)==some true)&&(Y9 ops.toList k).dst==some d&&Nat.ble te.bytes 8192&&te.zero.length==te.size)=true)(hx:aev (V5 L ops ops.toList ds e s k) x=.v (.c (.fl n f)))(hy:asL (Q2s L ops ops.toList ds e s k) (aev (V5 L ops ops.toList ds e s k) y)=some (m,g))(hm:0<m)(hlim:n+m<=LIM)(hgl:∀ j,j<m->(g j).length=te.size)(hfl:∀ j,j<n->(f j).length=te.size):KAt P C nt L ops ds e s k:=by
 unfold KAt;rw [hk]
 simp only [Bool.and_eq_true,beq_iff_eq] at hdo;obtain ⟨⟨⟨⟨A,H⟩,l⟩,I⟩,D⟩:=hdo
 obtain ⟨N,M,G,q,p⟩:=hT;refine Z1c A H fun R η z u a w B i F o=>?_
 have J:x ∈ (Y9 ops.toList k).op.operands.toList:=by rw [hop];simp [Op.operands,Call.operands]
 have b:y ∈ (Y9 ops.toList k).op.operands.toList:=by rw [hop];simp [Op.operands,Call.operands]
 have h:Z9S u te.size m (aev z x)=some ([],n,f,∀ j,j<n->(f j).length=te.size):=by
  rw [B x J,hx];simp only [Z9S]
  rw [if_pos (.inr hm)]
 have r:asL u (aev z y)=some (m,g):=by rw [B y b,Y0S (i y b)];exact hy
 exact Z8p hL o l (Q5I A d l) (F d l (by simp)) hop G q p r h hfl (Nat.le_of_ble_eq_true I) D hlim hgl
end
end
section
open Go.ChangeShapes Go.WideShapes Go.ChangeAt Go.RowKit
end
section
@[reducible] def ow (n:Nat):AVal:=.v (.c (.own n))
@[reducible] def pt (n:Nat):AVal:=.v (.c (.ptr n 0))
@[reducible] def bx (l:List CV):Obj:=.box false l
section
variable {P:Program} {C:Ctx} {nt:Nat} {L:Lay} {pins:List Nat} {E:List (Nat×AVal)} {S:List (Nat×Obj)} {Q:Exit->Act->World->Prop}
theorem W3Z(Fm:Fr P L C pins){id:Nat}{ops:Array Oper}{draw:Bool}(ds:List Dir)(c:(Nat->Prop)->Prop)(E' : List (Nat×AVal))(S' : List (Nat×Obj))(hc:c (KAt P C nt L ops ds (lk E) (ls S)))(k:Kn C nt E' S' (Q .normal))(h:ckL P C nt L pins E S ops draw ds E' S'=ckR (c (KAt P C nt L ops ds (lk E) (ls S))) E' S':=by kernel_rfl):AW P C nt (.region id ops draw) E S Q:=AW.g Fm ds c E' S' hc h k
theorem Y5v(Fm:Fr P L C pins){id:Nat}{ops:Array Oper}{draw:Bool}{y:Code}(n:Nat)(E' : List (Nat×AVal))(S' : List (Nat×Obj))(k:AW P C nt y E' S' Q)(h:ckL P C nt L pins E S ops draw (ss n) E' S'=ckR True E' S':=by kernel_rfl):AW P C nt (.seq (.region id ops draw) y) E S Q:=W1l Fm n E' S' h k
variable {K:Act->World->Prop}
theorem Kn.R(Fm:Fr P L C pins){E' : List (Nat×AVal)}{S' : List (Nat×Obj)}(h:Kn C nt E' S' K)(hq:(pins.all (fun i=>J6 [] i==i),E'.map (fun p=>lk E p.1),S'.map (fun p=>ls S (J6 [] p.1)),Q3h (S'.map fun p=>J6 [] p.1))=(true,E'.map (fun p=>p.2.ren (J6 [])),S'.map (fun p=>some (p.2.ren (J6 []))),true):=by kernel_rfl):Kn C nt E S K:=W3p Fm E' S' hq h
theorem Q0U(Fm:Fr P L C pins)(ρ:List (Nat×Nat)){E' : List (Nat×AVal)}{S' : List (Nat×Obj)}(h:Kn C nt E' S' K)(hp:pins.all (fun i=>J6 ρ i==i)=true:=by kernel_rfl)(hE:E'.map (fun p=>lk E p.1)=E'.map (fun p=>p.2.ren (J6 ρ)):=by kernel_rfl)(hS:S'.map (fun p=>ls S (J6 ρ p.1))=S'.map (fun p=>some (p.2.ren (J6 ρ))):=by kernel_rfl)(hinj:Q3h (S'.map fun p=>J6 ρ p.1)=true:=by kernel_rfl):Kn C nt E S K:=Kn.re Fm ρ E' S' hp hE hS hinj h
theorem Kn.D(Fm:Fr P L C pins){fn:Func}{r:AVal}{S' : List (Nat×Obj)}(hq:(Y6Z L (lk E) (ls S) fn.results.toList,S'.map (fun p=>ls S p.1))=(some r,S'.map (fun p=>some p.2)):=by kernel_rfl):Kn C nt E S (Y5P P fn C r S' .ret):=Q3p Fm hq
end
section
variable {P:Program} {C:Ctx} {nt:Nat} {L:Lay} {ops:Array Oper} {ds:List Dir} {e:Env} {s:Sto}
theorem Q3{k:Nat}{f:Nat}{args:List AVal}{Si:List (Nat×Obj)}{r:AVal}{So:List (Nat×Obj)}(hspec:K7 P f args Si r So)(hcall:∀ args w,(callFunc f args).run P w=.ok (.enter f args) w)(m:List (Nat×Nat))(hk:Q1V ds k=cE m [] r Si So:=by rfl)(hq:(Go.Ab.callB ops nt (V5 L ops ops.toList ds e s k) (Y9 ops.toList k) f m r Si So,Si.map (fun p=>Q2s L ops ops.toList ds e s k (J6 m p.1)),
   (Go.Ab.callXs (Y9 ops.toList k)).toList.all (Q5E (Q0l (Y9 ops.toList k)++U4 ops (Y9 ops.toList k)))&&args.all AVal.noSem,(Go.Ab.callXs (Y9 ops.toList k)).toList.map (aev (V5 L ops ops.toList ds e s k)))
   = (true,Si.map (fun p=>some (p.2.ren (J6 m))),true,args.map (AVal.ren (J6 m))):=by kernel_rfl):KAt P C nt L ops ds e s k:=W3r hspec hcall m hk hq
end
section
variable {C:Ctx} {nt:Nat} {e:Env} {s:Sto}
theorem Q0i.p{Si:List (Nat×Obj)}{m:Nat->Nat}{rd ids:List Nat}{x:Operand}{y:AVal}(hx:Q5E rd x=true:=by kernel_rfl)(hle:aev e x=y.ren m:=by kernel_rfl)(hs:y.noSem=true:=by kernel_rfl):Q0i C nt e s Si m rd ids x y:=Q0i.plain hx (ALe.of_eq hle) hs
end
end
section
open Go.Maps (Keyed)
open Go.WideElems (Fit rd rg pl rd_val elemAt)
open Go.ChangeMaps Go.MapKept
def W3R(ks:List Int):DataW Unit:=ks.foldl (fun D k=>D.put (.int .i64 k) (.lit (.bool true))) (.map [])
def Y3R(P:Program)(kT eT:TypeId)(ks:List Int)(w:World)(_:Nat->Prop)(v:Value):Prop:=∃ b,v=.map (some b)/\w.ownsMap P kT (plainElem P eT) b ks.length (W3R ks)
theorem Y8V{P:Program}{kT eT:TypeId}{ks:List Int}(v:Value):Y4F (Y3R P kT eT ks) v:=by
 intro w m X X' _ i l;obtain ⟨b,rfl,j,c,h,g,d,f⟩:=l
 exact ⟨b,rfl,j,c,(i b (by simp [W2])).trans h,g,d,f⟩
end
section
section
variable {P:Program} {C:Ctx} {nt:Nat} {L:Lay} {R:Nat->Prop} {η:Nat->Value} {e:Env} {s:Sto} {a:Act} {w:World}
theorem Y9t{X:Nat->Prop}{v:Value}{n:Int}(h:ARep w X η C v (vi n)):v=.int .i64 n:=by
 cases h with|v _ _ hh=>cases hh with|c _ _ hh=>cases hh with|d _ _ hh=>cases hh;rfl
theorem Y6S(h:Conc C nt R η e s a w){o:Oper}{d:Nat}(hd:o.dst=some d)(hdn:d<nt)(hR:¬ R d){p:World->(Nat->Prop)->Value->Prop}{v:Value}{w' : World}(hrun:(execOp a.eval o).run P w=.ok (.value v) w')(hstep:Stp (fun _=>False) w w')(hone:v.oneCell'=true)(hv:∀ b,b ∈ W2 v->w.heap.size<=b)(hob:∀ X' η',ORep w' X' η' C v (.ext p)):
  Snd P C nt R η e s a w o { v:=.v (.c (.own d)),new:=some (.ext p) }:=by
 have r:=Q5X (C:=C) (s:=s) (η:=η) { v:=.v (.c (.own d)),new:=some (.ext p) } o.dst v (fun _=>False) hstep (fun b f=>f.elim) (fun _ _ _ _ b f=>.inl (hv b f)) (fun k o l=>by cases l);refine ⟨v,w',.inl hrun,h.step o.dst (fun x n=>by rw [hd] at n;cases n;exact hdn) _ _ _ (fun _=>False) hstep (fun b f=>f.elim) ?_ (fun k o l=>by cases l) ?_⟩
 .intro q dd i g
  cases i
  rw [hd] at g;cases g
  exact ⟨hR,rfl,by simp [Obj.refs],hob _ _,fun b f=>.inl (hv b f)⟩
 .intro _
  refine ⟨.v _ _ (.c _ _ (.own _ _ (by simp [SR.eta,hd]) hone)),fun j m=>?_⟩;simp [AVal.refs,TV.refs,CV.refs] at m
  exact .inr ⟨by simp,by rw [hd,m]⟩
variable {ops:Array Oper} {ds:List Dir} {k:Nat}
theorem Y9n{kT eT t:TypeId}{d:Nat}(hk:Q1V ds k=rE { v:=.v (.c (.own d)),new:=some (.ext (Y3R P kT eT [])) })(hop:(Y9 ops.toList k).op=.makeMap t none)(hdo:(Q1M nt (Y9 ops.toList k)&&(Q8s ops (V5 L ops ops.toList ds e s k) (Y9 ops.toList k)==some true)&&(Y9 ops.toList k).dst==some d)=true):KAt P C nt L ops ds e s k:=by
 unfold KAt;rw [hk]
 simp only [Bool.and_eq_true,beq_iff_eq] at hdo;obtain ⟨⟨i,m⟩,g⟩:=hdo
 refine Z1c i m fun R η o n a w p j l h=>?_
 refine Y6S h g (Q5I i d g) (l d g (by simp)) (v:=.map (some w.heap.size)) (w':=w.alloc (.map #[] 0)) ?_ (Stp.alloc _ w _) rfl (fun b f=>by simp [W2] at f;omega) fun X' η'=>?_
 .simp [execOp,hop,Instr.makeMap]
 .refine .ext _ _ ⟨_,rfl,World.ownsMap_made w P kT _⟩ (Y8V _) fun b f=>?_
  simp only [W2,List.mem_singleton] at f;subst f
  show w.heap.size<(w.heap.push _).size;rw [Array.size_push];omega
end
end
section
open Go.Sort Go.Proofs Go.Shelf Go.Maps
end
section
section
variable {P:Program} {L:Lay}
end
section
variable {P:Program} {C:Ctx} {nt:Nat} {L:Lay} {ops:Array Oper} {ds:List Dir} {e:Env} {s:Sto}
end
end
section
open Go.Sort Go.Proofs Go.Shelf Go.Maps
end
section
def sAt(s:ByteArray)(i:Int):Int:=(((s[i.toNat]?).getD 0).toNat:Nat)
def sEq(a b:ByteArray):Bool:=a.toList==b.toList
def sLt(a b:ByteArray):Bool:=Op.bytesLess a.toList b.toList
def W2U(op:BinOp)(a b:ByteArray):Option Bool:=
 match op with
 | .eql=>some (sEq a b)
 | .neq=>some (!sEq a b)
 | .lss=>some (sLt a b)
 | .leq=>some (sLt a b||sEq a b)
 | .gtr=>some (!(sLt a b||sEq a b))
 | .geq=>some (!sLt a b)
 | _=>none
section
variable {P:Program} {C:Ctx} {nt:Nat} {L:Lay} {ops:Array Oper} {ds:List Dir} {e:Env} {s:Sto}
theorem Z4V(op:BinOp)(t:TypeId)(x y:Operand)(a b:ByteArray)(w:World):(eqGuard op t x y (.string a) (.string b)).run P w=.ok () w:=by
 unfold eqGuard;split <;> rfl
theorem W1J(op:BinOp)(t:TypeId)(a b:ByteArray){c:Bool}(h:W2U op a b=some c)(w:World):(binOp op t (.string a) (.string b)).run P w=.ok (.bool c) w:=by
 cases op <;> simp only [W2U,Option.some.injEq,reduceCtorEq] at h <;> subst h <;> simp [binOp,Op.stringOp,sEq,sLt]
def Y2T(ops:Array Oper)(nt:Nat)(e:Env)(o:Oper)(x y:Operand):Bool:=Q5E (Q0l o++U4 ops o) x&&Q5E (Q0l o++U4 ops o) y&&Q1M nt o&&(Q8s ops e o==some true)
theorem Z9U{k:Nat}{op:BinOp}{t t' : TypeId}{x y:Operand}{a b:ByteArray}{c:Bool}(hk:Q1V ds k=sE (vb c))(hop:(Y9 ops.toList k).op=.binOp op t x y t')(hb:Y2T ops nt (V5 L ops ops.toList ds e s k) (Y9 ops.toList k) x y=true)(hx:aev (V5 L ops ops.toList ds e s k) x=.v (.c (.d (.str a))))(hy:aev (V5 L ops ops.toList ds e s k) y=.v (.c (.d (.str b))))(hc:W2U op a b=some c):KAt P C nt L ops ds e s k:=by
 unfold KAt;rw [hk]
 simp only [Y2T,Bool.and_eq_true,beq_iff_eq] at hb;obtain ⟨⟨⟨m,j⟩,n⟩,l⟩:=hb
 refine Z1H rfl n l fun R η q o p w f g=>?_
 have i:=(W8 g x).1;rw [K4 f m,hx] at i
 have i:=Z4n i;have h:=(W8 g y).1
 rw [K4 f j,hy] at h;have h:=Z4n h
 exact ⟨_,by simp only [execOp,hop,Sem.run_bind,i,h,Z4V,W1J op t a b hc,Result.andThen_ok,Sem.run_pure],Z9P _ _⟩
theorem Q0d{k:Nat}{t:TypeId}(ht:P.underlying t=some .string){x y:Operand}{a:ByteArray}{m:Int}(hk:Q1V ds k=sE (.v (.c (.d (.int .u8 (sAt a m))))))(hop:(Y9 ops.toList k).op=.index t x y)(hb:Y2T ops nt (V5 L ops ops.toList ds e s k) (Y9 ops.toList k) x y=true)(hx:aev (V5 L ops ops.toList ds e s k) x=.v (.c (.d (.str a))))(hy:asI (aev (V5 L ops ops.toList ds e s k) y)=some m)(hc:0<=m/\m<((a.size:Nat):Int)):KAt P C nt L ops ds e s k:=by
 unfold KAt;rw [hk]
 simp only [Y2T,Bool.and_eq_true,beq_iff_eq] at hb;obtain ⟨⟨⟨n,j⟩,q⟩,l⟩:=hb
 refine Z1H rfl q l fun R η A u z w b f=>?_
 have g:=(W8 f x).1;rw [K4 b n,hx] at g
 have g:=Z4n g;rw [<-K4 b j] at hy
 obtain ⟨r,o⟩:=Y0T f hy;have h:m.toNat<a.size:=by omega
 have i:a[m.toNat]?=some a[m.toNat]:=by
  exact getElem?_pos a m.toNat h
 have p:sAt a m=((a[m.toNat].toNat:Nat):Int):=by unfold sAt;rw [i];rfl
 rw [p];refine ⟨.int .u8 (a[m.toNat].toNat:Nat),?_,Q5e _ _ _⟩
 simp [execOp,hop,g,o,Instr.index,asIntOf,run_underlying ht,hc.1,i]
end
theorem Is.subv{α:Type}[Emb α]{l:List α}{lo n:Nat}(h:lo+n<=l.length):Is n (fun j=>LF l (lo+j)) ((l.drop lo).take n):=by
 have c:((l.drop lo).take n).length=n:=by rw [List.length_take,List.length_drop];omega
 refine Is.of_gl _ c fun i b=>?_
 have e:gl l (lo+i)=gl ((l.drop lo).take n) i:=by simp [gl,List.getD_eq_getElem?_getD,b]
 show Emb.cells (gl l (lo+i))=_;rw [e]
end
section
open Go.MapKept
def MP{α:Type}[Emb α](gs:List (Int×List α)):DVal:=.mp gs.length (fun i=>(gs.getD i (0,[])).1) fun i=>DL (gs.getD i (0,[])).2
def Y9q{α:Type}[Emb α](w:World)(X:Nat->Prop)(x:MapEntry)(e:Int×List α):Prop:=x.key=.int .i64 e.1/\DRep w X x.val (DL e.2)
def itP{α:Type}[Emb α](left:List (Int×List α))(cur:Option (Int×List α))(w:World)(X:Nat->Prop)(v:Value):Prop:=
 ∃ (r b:Nat) (es:Array MapEntry) (clock since:Nat) (seen:Array Nat) (c0:Nat),v=.pointer (some ⟨r,0,none⟩)/\w.heap[r]?=some (.mapIter (some b) since seen c0)/\¬ X b/\w.heap[b]?=some (.map es clock)/\Stamped es clock/\since<=c0/\since<=clock/\(∀ x ∈ es.toList,x.born<since) /\
  (leftOf es seen).size=left.length/\(∀ (i:Nat) (x:MapEntry) (e:Int×List α),(leftOf es seen)[i]?=some x->left[i]?=some e->Y9q w X x e) /\
  ∀ e,cur=some e->∃ x ∈ es.toList,∃ seen' : Array Nat,seen=seen'.push x.born/\c0=clock/\Y9q w X x e
theorem Y9q.mono{α:Type}[Emb α]{w w' : World}{X X' : Nat->Prop}{x:MapEntry}{e:Int×List α}(h:Y9q w X x e)(hk:Q7o w w' X X'):Y9q w' X' x e:=⟨h.1,h.2.mono hk⟩
theorem Y2Y{α:Type}[Emb α]{left:List (Int×List α)}{cur:Option (Int×List α)}(v:Value):Y4F (itP left cur) v:=by
 intro w O X X' m z h;obtain ⟨r,b,A,c,d,f,N,rfl,u,I,o,J,q,D,p,M,F,j⟩:=h
 have n:=m b (y7 o) I;exact ⟨r,b,A,c,d,f,N,rfl,(z r (by simp [W2])).trans u,n.2,n.1.trans o,J,q,D,p,M,fun i x e l g=>(F i x e l g).mono m,fun e g=>by
  obtain ⟨x,l,H,G,B,t⟩:=j e g;exact ⟨x,l,H,G,B,t.mono m⟩⟩
theorem W0j{α:Type}[Emb α](left:List (Int×List α))(cur:Option (Int×List α)):OLe (.ext (itP left cur)) (.ext (itP left none)):=by
 refine ⟨fun w X η C v n=>?_,rfl,fun i o=>by cases o⟩
 cases n with
 | ext _ _ h1 h2 h3=>
  obtain ⟨r,b,l,c,d,f,z,e,p,m,g,u,A,t,h,x,j,_⟩:=h1;exact .ext _ _ ⟨r,b,l,c,d,f,z,e,p,m,g,u,A,t,h,x,j,fun e q=>by cases q⟩ (Y2Y _) h3
section
variable {P:Program} {C:Ctx} {nt:Nat} {L:Lay} {R:Nat->Prop} {η:Nat->Value} {e:Env} {s:Sto} {a:Act} {w:World}
theorem Y5J(h:Conc C nt R η e s a w){o:Oper}{d:Nat}(hd:o.dst=some d)(hdn:d<nt)(hR:¬ R d){p:World->(Nat->Prop)->Value->Prop}{v:Value}{w' : World}(hrun:(execOp a.eval o).run P w=.ok (.value v) w')(hstep:Stp (fun _=>False) w w')(hone:v.oneCell'=true)(hv:∀ b,b ∈ W2 v->w.heap.size<=b)(hob:∀ X' η',Q7o w w' (XS C s η) X' -> ORep w' X' η' C v (.ext p)):
  Snd P C nt R η e s a w o { v:=.v (.c (.own d)),new:=some (.ext p) }:=by
 have q:=Q5X (C:=C) (s:=s) (η:=η) { v:=.v (.c (.own d)),new:=some (.ext p) } o.dst v (fun _=>False) hstep (fun b f=>f.elim) (fun _ _ _ _ b f=>.inl (hv b f)) (fun k o l=>by cases l);refine ⟨v,w',.inl hrun,h.step o.dst (fun x n=>by rw [hd] at n;cases n;exact hdn) _ _ _ (fun _=>False) hstep (fun b f=>f.elim) ?_ (fun k o l=>by cases l) ?_⟩
 .intro r dd i g
  cases i
  rw [hd] at g;cases g
  exact ⟨hR,rfl,by simp [Obj.refs],hob _ _ q,fun b f=>.inl (hv b f)⟩
 .intro _
  refine ⟨.v _ _ (.c _ _ (.own _ _ (by simp [SR.eta,hd]) hone)),fun j m=>?_⟩;simp [AVal.refs,TV.refs,CV.refs] at m
  exact .inr ⟨by simp,by rw [hd,m]⟩
theorem W3o{α:Type}[Emb α]{X:Nat->Prop}{v:Value}{gs:List (Int×List α)}(h:ARep w X η C v (.v (.c (.d (MP gs))))):
  ∃ (b:Nat) (es:Array MapEntry) (clock:Nat),v=.map (some b)/\¬ X b/\w.heap[b]?=some (.map es clock)/\Stamped es clock/\es.size=gs.length/\∀ (i:Nat) (x:MapEntry) (e:Int×List α),es[i]?=some x->gs[i]?=some e->Y9q w X x e:=by
 cases h with|v _ _ h=>cases h with|c _ _ h=>cases h with|d _ _ h=>
 unfold MP at h
 cases h with|mp b es clock _ _ Q8L _ h1 h2 h3 h4 h5 h6=>
 refine ⟨b,es,clock,rfl,h1,h2,h3,h4,fun i x e j g=>?_⟩;obtain ⟨f,m⟩:=List.getElem?_eq_some_iff.1 g
 obtain ⟨p,o⟩:=h5 i f;have n:gs.getD i (0,[])=e:=by rw [List.getD_eq_getElem?_getD,g];rfl
 have l:=h6 i f;rw [o] at j
 cases j
 simp only [n] at l ⊢;exact ⟨rfl,l⟩
variable {ops:Array Oper} {ds:List Dir} {k:Nat}
theorem KAt.range{α:Type}[Emb α]{gs:List (Int×List α)}{t kT eT:TypeId}(ht:P.underlying t=some (.map kT eT)){d:Nat}{x:Operand}(hk:Q1V ds k=rE { v:=.v (.c (.own d)),new:=some (.ext (itP gs none)) })(hop:(Y9 ops.toList k).op=.range t x)(hdo:(Q1M nt (Y9 ops.toList k)&&(Q8s ops (V5 L ops ops.toList ds e s k) (Y9 ops.toList k)==some true)&&(Y9 ops.toList k).dst==some d)=true)(hx:aev (V5 L ops ops.toList ds e s k) x=.v (.c (.d (MP gs)))):KAt P C nt L ops ds e s k:=by
 unfold KAt;rw [hk]
 simp only [Bool.and_eq_true,beq_iff_eq] at hdo;obtain ⟨⟨B,N⟩,r⟩:=hdo
 refine Z1c B N fun R η V U a w G D H l=>?_
 have O:x ∈ (Y9 ops.toList k).op.operands.toList:=by rw [hop];simp [Op.operands]
 have A:=(W8 l x).1;rw [G x O,hx] at A
 obtain ⟨b,n,f,F,J,p,z,M,T⟩:=W3o A;refine Y5J l r (Q5I B d r) (H d r (by simp)) (v:=.pointer (some ⟨w.heap.size,0,none⟩)) (w':=w.alloc (.mapIter (some b) f #[] f)) ?_ (Stp.alloc _ w _) rfl (fun b I=>by simp [W2] at I;omega) fun X' η' h=>?_
 .simp [execOp,hop,F,run_range_map w t kT eT b n f ht p]
 .have j:=h b (y7 p) J
  have g:leftOf n #[]=n:=by simp [leftOf]
  refine .ext _ _ ⟨w.heap.size,b,n,f,f, #[],f,rfl,by show (w.heap.push _)[w.heap.size]?=_;exact Array.getElem?_push_size,j.2,j.1.trans p,z,Nat.le_refl _,Nat.le_refl _,z.1,by rw [g,M],fun i y q u o=>?_,fun q o=>by cases o⟩ (Y2Y _) fun W m=>?_
  .rw [g] at u
   exact (T i y q u o).mono h
  .simp only [W2,List.mem_singleton] at m
   subst m;show w.heap.size<(w.heap.push _).size
   rw [Array.size_push];omega
theorem KAt.entry{α:Type}[Emb α]{gs:List (Int×List α)}{q:Int×List α}{id:Nat}{x:Operand}(hk:Q1V ds k=rE { v:=.t [.c (.d (.int .i64 q.1)),.c (.d (DL q.2))] })(hop:(Y9 ops.toList k).op=.entry x)(hdo:(Q1M nt (Y9 ops.toList k)&&(Q8s ops (V5 L ops ops.toList ds e s k) (Y9 ops.toList k)==some true))=true)(hx:aev (V5 L ops ops.toList ds e s k) x=.v (.c (.own id)))(hs:Q2s L ops ops.toList ds e s k id=some (.ext (itP gs (some q)))):KAt P C nt L ops ds e s k:=by
 unfold KAt;rw [hk]
 simp only [Bool.and_eq_true,beq_iff_eq] at hdo;obtain ⟨A,T⟩:=hdo
 refine Z1c A T fun R η e0 J a w M p Z g=>?_
 have B:x ∈ (Y9 ops.toList k).op.operands.toList:=by rw [hop];simp [Op.operands]
 have i:=(W8 g x).1;rw [M x B,hx] at i
 have i:=Q6V i;have o:J id=some (.ext (itP gs (some q))):=(p x B id (by rw [hx];simp [AVal.refs,TV.refs,CV.refs])).trans hs
 have h:=g.st id _ o;generalize hu:η id=u at h
 cases h with
 | ext _ _ hp _ _=>
  obtain ⟨r,b,D,n,f,F,G,rfl,V,g2,I,O,Y,g6,W,g8,g9,z⟩:=hp;obtain ⟨y,H,N,rfl,rfl,m,l⟩:=z q rfl
  refine y8 g (Q5I A) (v:=.tuple #[y.key,y.val]) ?_ ?_ (by simp [AVal.refs,TV.refs,CV.refs])
  .simp [execOp,hop,i,hu,run_entry_at w r b f N D G y V I H ((stamped_iff D G).1 O).2.1]
  .refine .t _ _ rfl fun j U=>?_
   have:j=0\/j=1:=by simp at U;omega
   rcases this with rfl|rfl
   .exact .c _ _ (.d _ _ (by show DRep w _ y.key _;rw [m];exact .int _ _))
   .exact .c _ _ (.d _ _ l)
end
theorem Y6b{es:Array MapEntry}{clock:Nat}(hst:Stamped es clock){seen:Array Nat}{i:Nat}{x:MapEntry}(hx:(leftOf es seen)[i]?=some x):(leftOf es (seen.push x.born)).toList=(leftOf es seen).toList.eraseIdx i:=by
 have c:((leftOf es seen).toList.map (·.born)).Nodup:=by
  unfold leftOf;rw [Array.toList_filter]
  exact (List.filter_sublist.map _).nodup hst.2.1
 have d:(leftOf es (seen.push x.born)).toList=(leftOf es seen).toList.filter fun y=>y.born != x.born:=by
  unfold leftOf;rw [Array.toList_filter,Array.toList_filter,List.filter_filter]
  refine List.filter_congr fun y _=>?_
  rw [Array.contains_push,Bool.not_or,bne,Bool.and_comm]
 rw [d];have b : (leftOf es seen).toList[i]?=some x:=by simpa using hx
 generalize (leftOf es seen).toList=l at c b
 clear hx d
 induction l generalizing i with
 | nil=>simp at b
 | cons y l ih=>
  rw [List.map_cons,List.nodup_cons] at c
  cases i with
  | zero=>
   simp at b
   subst b;rw [List.eraseIdx_zero,List.filter_cons,if_neg (by simp)]
   rw [List.tail_cons];refine List.filter_eq_self.2 fun z f=>?_
   simp only [bne_iff_ne,ne_eq];intro h
   exact c.1 (h ▸ List.mem_map_of_mem f)
  | succ i=>
   simp at b
   rw [List.eraseIdx_cons_succ,List.filter_cons,if_pos,ih c.2 b];simp only [bne_iff_ne,ne_eq]
   intro h;exact c.1 (h ▸ List.mem_map_of_mem (List.mem_of_getElem? b))
noncomputable def nextM{α R:Type}(gs:List α)(stop:Option R)(go:α->List α->Option R):Option R:=
 open Classical in
 match gs with
 | []=>stop
 | g::l=>if h:∃ r,∀ i (hi:i<(g::l).length),go (g::l)[i] ((g::l).eraseIdx i)=some r then some h.choose else none
theorem Y7g{α R:Type}{gs:List α}{stop:Option R}{go:α->List α->Option R}{r:R}(h:nextM gs stop go=some r)(hg:gs=[]):stop=some r:=by subst hg;exact h
theorem Y9X{α R:Type}{gs:List α}{stop:Option R}{go:α->List α->Option R}{r:R}(h:nextM gs stop go=some r){x:α}{l:List α}(hx:∃ i,∃ hi:i<gs.length,x=gs[i]/\l=gs.eraseIdx i):go x l=some r:=by
 obtain ⟨i,hi,rfl,rfl⟩:=hx
 cases gs with
 | nil=>exact absurd hi (Nat.not_lt_zero _)
 | cons g l=>
  unfold nextM at h;simp only at h
  split at h
  .rename_i b
   obtain rfl:=Option.some.inj h;exact b.choose_spec i hi
  .cases h
theorem Y8S{α R:Type}{stop:Option R}{go:α->List α->Option R}:nextM [] stop go=stop:=rfl
theorem Y7h{α R:Type}{gs:List α}{stop:Option R}{go:α->List α->Option R}{r:R}(hne:gs≠[])(h:∀ i (hi:i<gs.length),go gs[i] (gs.eraseIdx i)=some r):nextM gs stop go=some r:=by
 cases gs with
 | nil=>exact absurd rfl hne
 | cons g l=>
  unfold nextM;simp only
  have c:∃ r,∀ i (hi:i<(g::l).length),go (g::l)[i] ((g::l).eraseIdx i)=some r:=⟨r,h⟩;rw [dif_pos c]
  have b:=c.choose_spec 0 (by simp);rw [h 0 (by simp)] at b
  exact b.symm
section
variable {P:Program} {C:Ctx} {nt:Nat} {L:Lay} {pins:List Nat} {E:List (Nat×AVal)} {S:List (Nat×Obj)} {Q:Exit->Act->World->Prop}
theorem W1o{α:Type}[Emb α]{gs:List (Int×List α)}{id it t5 t6 t7 ty6 ty7:Nat}{p6 p7:String}{af6 af7:Array Edge}(hE:lk E t5=.v (.c (.own it)))(h6:(E.map (·.1)).contains t6=false)(hn:(Nat.blt t6 nt&&Nat.blt t7 nt && !(t6==t7))=true)(stop:gs=[]->Kn C nt ((t7,vb false)::E) ((it,.ext (itP gs none))::S) (Q .normal))(go:∀ q l,(∃ i,∃ hi:i<gs.length,q=gs[i]/\l=gs.eraseIdx i)->Kn C nt ((t7,vb true)::E) ((it,.ext (itP l (some q)))::S) (Q .normal)):
  AW P C nt (.region id #[{ dst:=some t6,op:=.next (.tmp t5) false,type:=ty6,pos:=p6,after:=af6,guard:=none }, { dst:=some t7,op:=.extract (.tmp t6) 0,type:=ty7,pos:=p7,after:=af7,guard:=none }] false) E ((it,.ext (itP gs none))::S) Q:=by
 simp only [Bool.and_eq_true,Nat.blt_eq,Bool.not_eq_true',beq_eq_false_iff_ne] at hn;obtain ⟨⟨n6,n7⟩,e9⟩:=hn
 intro R η a w hc;refine wp_region_list ?_
 have A:ls ((it,.ext (itP gs none))::S) it=some (.ext (itP gs none)):=by rw [J2,if_pos rfl]
 have e5:a.tmps.getD t5 undef=η it:=by have:=hc.ev t5;rw [hE] at this;exact Q6V this
 have l6:lk E t6=.any:=by
  unfold lk;have:E.lookup t6=none:=by
   rw [List.lookup_eq_none_iff];intro p hp
   have hm:p.1 ∈ E.map (·.1):=List.mem_map_of_mem hp;have c7 : t6 ∉ E.map (·.1):=by simpa using h6
   have c2:t6≠p.1:=fun h=>c7 (h ▸ hm)
   simpa using c2
  rw [this];rfl
 have b0:=hc.st it _ A;have a8:∀ b,b ∈ W2 (η it)->Own (ls ((it,.ext (itP gs none))::S)) η b:=fun b hb=>⟨it,_,A,hb⟩
 have d0:∀ x,x ∈ W2 (η it)->C.M x\/C.w0.heap.size<=x:=fun x m=>by
  rcases hc.ow it _ x A m with ⟨h1,_⟩|h1
  .cases h1
  .exact h1
 generalize hu:η it=u at b0
 cases b0 with
 | ext _ _ hp _ hlt=>
 obtain ⟨r,b,es,f,g,d,c0,rfl,g1,g2,g3,g4,g5,g6,g7,g8,g9,_⟩:=hp;have e3:r≠b:=fun h=>by rw [h,g3] at g1;cases g1
 have a5:∀ (J:Bool) (a1 : List (Int×List α)) (Z:Option (Int×List α)) (N:World) (H:Array Value) (R1:Nat->Prop) (η1:Nat->Value),H.getD 0 undef=.bool J->H.size≠0 ->
   Conc C nt R1 η1 (Z0r (some t6) .any (lk E)) (ls ((it,.ext (itP a1 Z))::S)) (a.put (some t6) (.tuple H)) N ->
   Kn C nt ((t7,vb J)::E) ((it,.ext (itP a1 Z))::S) (Q .normal) ->
   wpList P #[{ dst:=some t6,op:=.next (.tmp t5) false,type:=ty6,pos:=p6,after:=af6,guard:=none }, { dst:=some t7,op:=.extract (.tmp t6) 0,type:=ty7,pos:=p7,after:=af7,guard:=none }] Q [{ dst:=some t7,op:=.extract (.tmp t6) 0,type:=ty7,pos:=p7,after:=af7,guard:=none }] (a.put (some t6) (.tuple H)) N:=by
  intro J a1 Z N H R1 η1 b3 c6 n kn;refine wpList_plain rfl fun K hK=>?_
  have hv:(a.put (some t6) (.tuple H)).tmps.getD t6 undef=.tuple H:=by rw [Y2O a _ _ _ (by rw [hc.sz];intro x m;cases m;exact n6),if_pos rfl]
  have h0:H[0]?=some (.bool J):=by
   have:0<H.size:=Nat.pos_of_ne_zero c6
   rw [Array.getD_eq_getD_getElem?,Array.getElem?_eq_getElem this] at b3;rw [Array.getElem?_eq_getElem this]
   simpa using b3
  have d4:(execOp (a.put (some t6) (.tuple H)).eval ({ dst:=some t7,op:=.extract (.tmp t6) 0,type:=ty7,pos:=p7,after:=af7,guard:=none }:Oper)).run P N=.ok (.value (.bool J)) N:=by
   simp [execOp,Act.eval,hv,Instr.extract,h0]
  refine Z5x d4 (hK _ _ ?_);have a6:=n.val (some t7) (fun x m=>by cases m;exact n7) (vb J) (.bool J) fun _=>⟨Z9P _ _,fun j hj=>by cases hj⟩
  have he:SR.env { v:=vb J } (some t7) (Z0r (some t6) .any (lk E))=lk ((t7,vb J)::E):=by
   funext t
   simp only [SR.env,Z0r];rw [Z9B]
   by_cases h:t=t7
   .rw [if_pos h,if_pos h]
   .rw [if_neg h,if_neg h]
    by_cases h' : t=t6
    .rw [if_pos h',h',l6]
    .rw [if_neg h']
  rw [he] at a6;exact kn _ _ _ _ a6
 refine wpList_plain rfl fun K hK=>?_
 have T:∀ {v:Value} {w' : World},(Instr.next (.pointer (some ⟨r,0,none⟩)) false ty6).run P w=.ok v w' ->
   (execOp a.eval ({ dst:=some t6,op:=.next (.tmp t5) false,type:=ty6,pos:=p6,after:=af6,guard:=none }:Oper)).run P w=.ok (.value v) w':=fun I=>by
  simp [execOp,Act.eval,e5,hu,I]
 rcases run_next_at (P:=P) w ty6 r b g c0 d es f g1 g3 g7 g5 with ⟨h0,G⟩|⟨y,hy,N,D,G⟩
 .have c3:gs=[]:=List.eq_nil_of_length_eq_zero (by rw [<-g8,h0])
  refine Z5x (T G) (hK _ _ ?_);have n:=hc.val (some t6) (fun x m=>by cases m;exact n6) .any (.tuple #[.bool false]) fun _=>⟨.any _,by simp [AVal.refs]⟩
  exact a5 false gs none w #[.bool false] R η rfl (by simp) n (stop c3)
 .obtain ⟨i,hi,b8⟩:=List.getElem_of_mem hy
  have c5 : i<(leftOf es d).size:=by simpa using hi
  have V : (leftOf es d)[i]?=some y:=by rw [Array.getElem?_eq_getElem c5];simpa using b8
  have Y:i<gs.length:=by omega
  have c4:=g9 i y gs[i] V (List.getElem?_eq_getElem Y);have b1:y ∈ es.toList:=by
   have:y ∈ (leftOf es d).toList:=hy
   unfold leftOf at this;rw [Array.toList_filter] at this
   exact (List.mem_filter.1 this).1
  refine Z5x (T G) (hK _ _ ?_);have W:N.heap=w.heap:=by rcases D with rfl|rfl <;> rfl
  have a4:N.heap[r]?=some (.mapIter (some b) g d c0):=by rw [W];exact g1
  have B:Stp (fun x=>x=r) w (ChangeMaps.setBlock N r (.mapIter (some b) g (d.push y.born) f)):=by
   refine ⟨?_,?_,?_,?_,fun x m hn=>?_,?_⟩
   .rcases D with rfl|rfl <;> rfl
   .rcases D with rfl|rfl <;> rfl
   .rcases D with rfl|rfl <;> rfl
   .simp [ChangeMaps.setBlock,W]
   .exact ((heap_set a4).2 x hn).trans (by rw [W])
   .rcases D with rfl|rfl
    .exact Nat.le_refl _
    .exact Nat.le_succ _
  have F:r ∈ W2 (η it):=by rw [hu];simp [W2]
  have c1:∀ (p:World->(Nat->Prop)->Value->Prop),SR.sto { v:=.any,upd:=some (it,.ext p) } (some t6) (ls ((it,.ext (itP gs none))::S))=ls ((it,.ext p)::S):=fun p=>by
   funext z
   simp only [SR.sto,List.contains_nil,Bool.false_eq_true,if_false];rw [J2,J2]
   by_cases h:z=it
   .rw [if_pos h,if_pos h]
   .rw [if_neg h,if_neg h,if_neg h]
  have U:SR.eta { v:=.any,upd:=some (it,.ext (itP (gs.eraseIdx i) (some gs[i]))) } (some t6) (.tuple #[.bool true,y.key,y.val]) η=η:=by funext z;simp [SR.eta]
  have hk:=Q5X (C:=C) (s:=ls ((it,.ext (itP gs none))::S)) (η:=η) { v:=.any,upd:=some (it,.ext (itP (gs.eraseIdx i) (some gs[i]))) } (some t6) (.tuple #[.bool true,y.key,y.val]) (fun x=>x=r) B (fun x m=>by subst m;exact a8 _ F) (fun _ _ I=>by cases I)
   (fun k o I=>by cases I;rw [A];simp)
  have n:=hc.step (some t6) (fun x m=>by cases m;exact n6) { v:=.any,upd:=some (it,.ext (itP (gs.eraseIdx i) (some gs[i]))) } (.tuple #[.bool true,y.key,y.val]) _ (fun x=>x=r) B
   (fun x m=>by
    subst m;exact ⟨⟨it,.inr ⟨_,rfl⟩,by rw [A];simp,F⟩,d0 _ F⟩)
   (fun _ _ I=>by cases I)
   (fun k o I=>by
    cases I
    refine ⟨⟨_,A,rfl⟩,rfl,by simp,by simp [Obj.refs],?_⟩;rw [U] at hk ⊢
    rw [hu];have b4:=hk b (y7 g3) g2
    have b2:=Y6b g4 V;refine .ext _ _ ⟨r,b,es,f,g,d.push y.born,f,rfl,(heap_set a4).1,b4.2,b4.1.trans g3,g4,g6,g6,g7,?_,fun j x q m hq=>?_,fun q hq=>?_⟩ (Y2Y _) fun x m=>?_
    .have:=congrArg List.length b2
     rw [Array.length_toList,List.length_eraseIdx_of_lt (by simpa using hi),Array.length_toList] at this;rw [this,List.length_eraseIdx_of_lt Y,g8]
    .have O:(leftOf es (d.push y.born)).toList[j]?=some x:=by simpa using m
     rw [b2,List.getElem?_eraseIdx] at O;rw [List.getElem?_eraseIdx] at hq
     split at O
     .rename_i hj
      rw [if_pos hj] at hq;exact (g9 j x q (by simpa using O) hq).mono hk
     .rename_i hj
      rw [if_neg hj] at hq;exact (g9 (j+1) x q (by simpa using O) hq).mono hk
    .cases hq
     exact ⟨y,b1,d,rfl,rfl,c4.mono hk⟩
    .simp only [W2,List.mem_singleton] at m
     subst m;exact Nat.lt_of_lt_of_le (y7 g1) B.size)
   (fun _=>⟨.any _,by simp [AVal.refs]⟩)
  rw [c1,U] at n;have he:SR.env { v:=.any,upd:=some (it,.ext (itP (gs.eraseIdx i) (some gs[i]))) } (some t6) (lk E)=Z0r (some t6) .any (lk E):=rfl
  rw [he] at n;exact a5 true (gs.eraseIdx i) (some gs[i]) _ #[.bool true,y.key,y.val] _ _ rfl (by simp) n (go gs[i] (gs.eraseIdx i) ⟨i,Y,rfl,rfl⟩)
end
end
section
open Go.MapKept
section
variable {α:Type} [Emb α]
def Q0S(y:Int)(gs:List (Int×List α)):Nat:=gs.findIdx fun e=>e.1==y
def gApp(y:Int)(m:List α)(gs:List (Int×List α)):List (Int×List α):=
 match gs[Q0S y gs]? with
 | some e=>gs.set (Q0S y gs) (e.1,e.2++m)
 | none=>gs++[(y,m)]
theorem Q7y{β:Type}(y:Int)(gs:List (Int×List β)):(Q0S y gs<gs.length/\∃ e,gs[Q0S y gs]?=some e/\e.1=y)\/(Q0S y gs=gs.length/\∀ e ∈ gs,e.1≠y):=by
 unfold Q0S;rcases Nat.lt_or_ge (gs.findIdx fun e=>e.1==y) gs.length with h|h
 .left
  refine ⟨h,_,List.getElem?_eq_getElem h,?_⟩;have:=List.findIdx_getElem (p:=fun e:Int×List β=>e.1==y) (w:=h)
  simpa using this
 .right
  have c:=List.findIdx_le_length (p:=fun e:Int×List β=>e.1==y) (xs:=gs);refine ⟨by omega,fun e b=>?_⟩
  have:=List.findIdx_eq_length.1 (show (gs.findIdx fun e:Int×List β=>e.1==y)=gs.length by omega) e b
  simpa using this
theorem Y0t{β:Type}{gs:List (Int×List β)}(hnd:(gs.map (·.1)).Nodup){i j:Nat}{a b:Int×List β}(ha:gs[i]?=some a)(hb:gs[j]?=some b)(h:a.1=b.1):i=j:=by
 obtain ⟨c,ha⟩:=List.getElem?_eq_some_iff.1 ha;obtain ⟨d,hb⟩:=List.getElem?_eq_some_iff.1 hb
 exact (List.getElem_inj (h₀:=by simpa using c) (h₁:=by simpa using d) hnd).1 (by simp [ha,hb,h])
def Y3E(w:World)(X:Nat->Prop)(v:Value)(l:List α):Prop:=∀ η C,ORep w X η C v (AO l)
def Q5H(b:Nat)(rs:List Value):Array Value:=(Value.map (some b)::(rs++[.slice none 0 0])).toArray
structure GrpAt (gs:List (Int×List α)) (pend:Option Nat) (w:World) (X:Nat->Prop) (b:Nat) (rs:List Value) (ents:Array MapEntry) (clock:Nat):Prop where
 heap:w.heap[b]?=some (.map ents clock)
 st:Stamped ents clock
 len:rs.length=gs.length
 nd:(gs.map (·.1)).Nodup
 rows:∀ (i:Nat) (e:Int×List α) (v:Value),gs[i]?=some e->rs[i]?=some v->Y3E w X v e.2
 apart:∀ (i j:Nat) (u v:Value) (x:Nat),rs[i]?=some u->rs[j]?=some v->x ∈ W2 u->x ∈ W2 v->i=j
 off:∀ (i:Nat) (v:Value),rs[i]?=some v->b ∉ W2 v
 ents:match pend with
  | none=>ents.size=gs.length/\∀ (i:Nat) (e:Int×List α) (v:Value),gs[i]?=some e->rs[i]?=some v->∃ bo,ents[i]?=some ⟨.int .i64 e.1,v,bo⟩
  | some j=>j<gs.length/\(ents.size=gs.length\/(ents.size+1=gs.length/\j=ents.size))/\∀ (i:Nat) (e:Int×List α) (v:Value),i<ents.size->gs[i]?=some e->rs[i]?=some v->∃ u bo,ents[i]?=some ⟨.int .i64 e.1,u,bo⟩/\(i≠j->u=v)
def Q8B(gs:List (Int×List α))(pend:Option Nat)(w:World)(X:Nat->Prop)(us:List Value)(v:Value):Prop:=
 ∃ b rs ents clock,us=[.map (some b)]/\v=.agg (Q5H b rs)/\GrpAt gs pend w X b rs ents clock
theorem Y3E.form{w:World}{X:Nat->Prop}{v:Value}{l:List α}(h:Y3E w X v l):∃ ad n cap,v=.slice ad n cap/\Y4E v=W2 v/\v.oneCell'=true:=by
 have:=h (fun _=>undef) (K6 [] w X fun _=>undef)
 unfold AO at this;generalize l.length=n at this
 cases this with
 | nil ad=>exact ⟨_,_,_,rfl,by cases ad <;> rfl,rfl⟩
 | arr=>exact ⟨_,_,_,rfl,rfl,rfl⟩
theorem Y3E.mono{w w' : World}{X X' : Nat->Prop}{v:Value}{l:List α}(h:Y3E w X v l)(hk:Q7o w w' X X')(hb:∀ b ∈ W2 v,w'.heap[b]?=w.heap[b]?):Y3E w' X' v l:=
 fun η C=>(h η C).mono hk (fun _ _=>rfl) hb
theorem Y3E.lt{w:World}{X:Nat->Prop}{v:Value}{l:List α}(h:Y3E w X v l){b:Nat}(hb:b ∈ W2 v):b<w.heap.size:=
 (h (fun _=>undef) (K6 [] w X fun _=>undef)).lt hb
theorem Q0V{b x:Nat}{rs:List Value}(h1:∀ v ∈ rs,Y4E v=W2 v):x ∈ W2 (.agg (Q5H b rs))↔x=b\/∃ v ∈ rs,x ∈ W2 v:=by
 show x ∈ (Value.map (some b)::(rs++[.slice none 0 0])).flatMap Y4E↔_;rw [List.flatMap_cons,List.mem_append,List.flatMap_append,List.mem_append,List.mem_flatMap,List.mem_flatMap]
 constructor
 .rintro (h|⟨v,hv,h⟩|⟨v,hv,h⟩)
  .exact .inl (List.mem_singleton.1 h)
  .exact .inr ⟨v,hv,by rw [<-h1 v hv];exact h⟩
  .rw [List.mem_singleton.1 hv] at h;cases h
 .rintro (h|⟨v,hv,h⟩)
  .exact .inl (List.mem_singleton.2 h)
  .exact .inr (.inl ⟨v,hv,by rw [h1 v hv];exact h⟩)
theorem GrpAt.one{gs:List (Int×List α)}{pend:Option Nat}{w:World}{X:Nat->Prop}{b:Nat}{rs:List Value}{ents:Array MapEntry}{clock:Nat}(h:GrpAt gs pend w X b rs ents clock):∀ v ∈ rs,Y4E v=W2 v:=fun v f=>by
 obtain ⟨i,d,rfl⟩:=List.getElem_of_mem f;have c : i<gs.length:=by rw [<-h.len];exact d
 obtain ⟨_,_,_,_,g,_⟩:=(h.rows i gs[i] rs[i] (List.getElem?_eq_getElem c) (List.getElem?_eq_getElem d)).form;exact g
theorem GrpAt.mono{gs:List (Int×List α)}{pend:Option Nat}{w w' : World}{X X' : Nat->Prop}{b:Nat}{rs:List Value}{ents:Array MapEntry}{clock:Nat}(h:GrpAt gs pend w X b rs ents clock)(hk:Q7o w w' X X')(hb:∀ x ∈ W2 (.agg (Q5H b rs)),w'.heap[x]?=w.heap[x]?):GrpAt gs pend w' X' b rs ents clock:=
 ⟨(hb b ((Q0V h.one).2 (.inl rfl))).trans h.heap,h.st,h.len,h.nd,fun i e v d c=>(h.rows i e v d c).mono hk fun x f=>hb x ((Q0V h.one).2 (.inr ⟨v,List.mem_of_getElem? c,f⟩)),h.apart,h.off,h.ents⟩
theorem Y0G{gs:List (Int×List α)}{pend:Option Nat}{us:List Value}(v:Value):Y4F (fun w X v=>Q8B gs pend w X us v) v:=by
 intro w m X X' i l h;obtain ⟨b,f,d,c,j,rfl,g⟩:=h
 exact ⟨b,f,d,c,j,rfl,g.mono i l⟩
theorem GrpAt.lt{gs:List (Int×List α)}{pend:Option Nat}{w:World}{X:Nat->Prop}{b:Nat}{rs:List Value}{ents:Array MapEntry}{clock:Nat}(h:GrpAt gs pend w X b rs ents clock){x:Nat}(hx:x ∈ W2 (.agg (Q5H b rs))):x<w.heap.size:=by
 rcases (Q0V h.one).1 hx with rfl|⟨v,f,hx⟩
 .exact y7 h.heap
 .obtain ⟨i,d,rfl⟩:=List.getElem_of_mem f
  have c : i<gs.length:=by rw [<-h.len];exact d
  exact (h.rows i gs[i] rs[i] (List.getElem?_eq_getElem c) (List.getElem?_eq_getElem d)).lt hx
end
def W0B(extra:List Nat)(ops:Array Oper)(o:Oper)(e:Env)(r:SR):Eff:= { rd:=Q0l o++U4 ops o,ids:=Z2T e o++extra,v:=r.v,l:=r.l o.dst,news:=r.nw o.dst }
def xE(extra:List Nat)(r:SR):Array Oper->Oper->Env->Eff:=fun ops o e=>W0B extra ops o e r
section
variable {P:Program} {C:Ctx} {nt:Nat} {L:Lay} {ops:Array Oper} {ds:List Dir} {e:Env} {s:Sto}
def W3G(P:Program)(C:Ctx)(nt:Nat)(R:Nat->Prop)(η:Nat->Value)(e:Env)(s:Sto)(a:Act)(w:World)(o:Oper)(r:SR):Prop:=
 ∃ v u w',((execOp a.eval o).run P w=.ok (.value v) w' \/ ((execOp a.eval o).run P w=.ok .skip w' /\ v=undef)) /\
  Conc C nt (r.rng o.dst R) (r.eta o.dst u η) (r.env o.dst e) (r.sto o.dst s) (a.put o.dst v) w'
theorem Snd.g{R:Nat->Prop}{η:Nat->Value}{a:Act}{w:World}{o:Oper}{r:SR}(h:Snd P C nt R η e s a w o r):W3G P C nt R η e s a w o r:=by
 obtain ⟨v,b,d,c⟩:=h;exact ⟨v,v,b,d,c⟩
theorem Y2n(extra:List Nat){o:Oper}(hdo:Q1M nt o=true){r:SR}(hg:Q8s ops e o=some true)(hsnd:∀ (R:Nat->Prop) (η:Nat->Value) (e0:Env) (s0:Sto) (a:Act) (w:World),(∀ x ∈ o.op.operands.toList,aev e0 x=aev e x)->(∀ x ∈ o.op.operands.toList,∀ i ∈ (aev e x).refs,s0 i=s i)->(∀ i ∈ extra,s0 i=s i)->(∀ d,o.dst=some d->r.new≠none->¬ R d) ->
   Conc C nt R η e0 s0 a w->W3G P C nt R η e0 s0 a w o r):StT P C nt ops o (W0B extra ops o e r) e s:=by
 intro R η e0 s0 a w p c H b K Q U;have q:∀ x ∈ o.op.operands.toList,aev e0 x=aev e x:=by
  intro x q
  cases x with
  | tmp t=>exact p t (List.mem_append.2 (.inl (List.mem_filterMap.2 ⟨_,q,rfl⟩)))
  | const v=>rfl
  | global g=>rfl
  | func f=>rfl
 have A:∀ x ∈ o.op.operands.toList,∀ i ∈ (aev e x).refs,s0 i=s i:=fun x q i I=>c i (List.mem_append_left _ (List.mem_flatMap.2 ⟨x,q,I⟩))
 have N:=Q5N (e:=e) b (fun t V=>p t (List.mem_append.2 (.inr V))) hg;rw [if_pos N]
 have O:=hsnd R η e0 s0 a w q A (fun i I=>c i (List.mem_append_right _ I)) (fun d M T=>H d (by
  obtain ⟨W,G⟩:=Option.ne_none_iff_exists'.1 T;simp [W0B,SR.nw,G,M])) b
 have j:∀ η' z h,Conc C nt (r.rng o.dst R) η' (r.env o.dst e0) (r.sto o.dst s0) z h -> K z h:=fun η' z h B=>by
  refine U η' z h ?_;have F:=B.wider (Y6K r o.dst R)
  have m:upS (W0B extra ops o e r).l s0=r.sto o.dst s0:=Y6J r o.dst s0;rw [m]
  have n:Z0r o.dst (W0B extra ops o e r).v e0=r.env o.dst e0:=rfl;rw [n]
  exact F
 obtain ⟨v,u,h,D|⟨D,rfl⟩,J⟩:=O
 .exact Z5x D (j _ _ _ J)
 .exact Y5x D (j _ _ _ J)
end
section
variable {P:Program} {C:Ctx} {nt:Nat} {L:Lay} {R:Nat->Prop} {η:Nat->Value} {e:Env} {s:Sto} {a:Act} {w:World}
variable {α:Type} [Emb α]
theorem Y1R(h:Conc C nt R η e s a w){g base:Nat}{gs:List (Int×List α)}{pend:Option Nat}(hs:s g=some (.exr [base] (Q8B gs pend))):
  ∃ b rs ents clock,η base=.map (some b)/\η g=.agg (Q5H b rs)/\GrpAt gs pend w (XS C s η) b rs ents clock:=by
 have c:=h.st g _ hs;generalize hu:η g=u at c
 cases c with
 | exr _ _ _ hp _ _=>
  obtain ⟨b,rs,ents,clock,i,f,d⟩:=hp;exact ⟨b,rs,ents,clock,by simpa using i,f,d⟩
theorem Y6X(hL:LOk P L)(h:Conc C nt R η e s a w){o:Oper}{d:Nat}(hd:o.dst=some d)(hdn:d<nt){t:TypeId}{tx ty:Nat}(hne:tx≠ty)(hop:o.op=.call { callee:=.builtin .append,args:= #[.tmp tx,.tmp ty],argTypes:= #[t,t] }){ti:TI}(ht:L t=some ti){el:Nat}(hk:ti.kind=.slice el){te:TI}(hte:L el=some te)(hes:te.size=Emb.es α){l m:List α}(hx:Y3E w (XS C s η) (a.tmps.getD tx undef) l)(hX:∀ b ∈ W2 (a.tmps.getD tx undef),XS C s η b)(hy:e ty=AL m)(hby:te.bytes<=8192)(hzl:te.zero.length=te.size)(hlim:l.length+m.length<=LIM):
  ∃ v w',(execOp a.eval o).run P w=.ok (.value v) w' /\ Stp (fun b=>b ∈ W2 (a.tmps.getD tx undef)) w w' /\ (∀ b ∈ W2 v,b ∈ W2 (a.tmps.getD tx undef)\/w.heap.size<=b) /\
   ∀ X',(∀ b,b<w'.heap.size->X' b->(XS C s η b/\b ∉ W2 (a.tmps.getD tx undef))\/b ∈ W2 v)->Y3E w' X' v (l++m):=by
 generalize hv1:a.tmps.getD tx undef=v1 at *;have O:∀ b,XS C s η b->b<w.heap.size:=by
  rintro b (⟨hx,_⟩|hx)
  .exact Nat.lt_of_lt_of_le (h.ok.lt b hx) h.fr.size
  .exact h.lt hx
 let C0:Ctx:= { w0:=w,D:=fun b=>b ∈ W2 v1,M:=fun b=>b ∈ W2 v1,X:=XS C s η,pin:=fun _=>none }
 let η0:Nat->Value:=fun _=>v1
 let s0:Sto:=fun i=>if i=nt then some (AO l) else none
 let e0:Env:=fun t=>if t=tx then .v (.c (.own nt)) else if t=ty then AL m else .any
 have I:XS C0 s0 η0=XS C s η:=by
  funext b
  apply propext;constructor
  .rintro (⟨F,_⟩|⟨i,B,p,r⟩)
   .exact F
   .exact hX b r
  .intro r
   rcases Classical.em (b ∈ W2 v1) with hm|hm
   .exact .inr ⟨nt,AO l,by simp [s0],hm⟩
   .exact .inl ⟨r,hm⟩
 have A:∀ i B,s0 i=some B -> i=nt/\B=AO l:=fun i B p=>by
  simp only [s0] at p;split at p
  .cases p;exact ⟨by assumption,rfl⟩
  .cases p
 have a3:Conc C0 nt (fun i=>i=nt) η0 e0 s0 a w:=by
  refine ⟨⟨fun b r=>r,fun b r=>hX b r,O⟩,h.df,h.sz,fun t=>?_,fun t i p=>?_,fun i B p=>?_,fun i B p=>?_,fun i j b p H _ _=>?_,fun i B b p r=>?_,Stp.refl _ _,fun i v p=>by cases p⟩
  .rw [I]
   simp only [e0];split
   .rename_i ht;subst ht
    rw [hv1];exact .v _ _ (.c _ _ (.own _ _ rfl hx.form.choose_spec.choose_spec.choose_spec.2.2))
   .split
    .rename_i _ ht;subst ht
     have:=h.ev t
     rw [hy] at this;unfold AL at this ⊢
     generalize a.tmps.getD t undef=q at this ⊢
     cases this with|v _ _ hh=>cases hh with|c _ _ hh=>cases hh with|d _ _ hh=>exact .v _ _ (.c _ _ (.d _ _ hh))
    .exact .any _
  .simp only [e0] at p
   split at p
   .simpa [AVal.refs,TV.refs,CV.refs] using p
   .split at p
    .simp [AL,AVal.refs,TV.refs,CV.refs] at p
    .simp [AVal.refs] at p
  .obtain ⟨_,rfl⟩:=A i B p
   rw [I];exact hx _ _
  .obtain ⟨rfl,rfl⟩:=A i B p
   exact ⟨rfl,fun j H=>by simp [AO,Obj.refs] at H⟩
  .obtain ⟨oi,p⟩:=Option.ne_none_iff_exists'.1 p
   obtain ⟨oj,H⟩:=Option.ne_none_iff_exists'.1 H;rw [(A i oi p).1,(A j oj H).1]
  .exact .inr (.inl r)
 have hR:¬ (fun i=>i=nt) d:=by show ¬ d=nt;omega
 obtain ⟨v,w',Y,x⟩:=Z8p (c:=True) hL a3 hd hdn hR hop ht hk hte (k:=m.length) (g:=LF m) (by simp [aev,e0,Ne.symm hne,AL,DL,asL])
  (del:=[nt]) (n:=l.length) (f:=LF l) (c0:=True) (by simp [aev,e0,Z9S,s0,AO,hes]) trivial hby hzl hlim (fun j H=>by rw [hes];exact Emb.len _)
 have J:(SR.sto { v:=.v (.c (.own d)),del:=[nt],new:=some (.arr te.size (l.length+m.length) (Q5L l.length (LF l) (LF m))),cond:=True } o.dst s0)=fun i=>if i=d then some (.arr te.size (l.length+m.length) (Q5L l.length (LF l) (LF m))) else none:=by
  funext i
  simp only [SR.sto,hd]
  by_cases p:i=d
  .rw [if_pos p,if_pos p]
  .rw [if_neg p,if_neg p]
   by_cases hn:i=nt
   .simp [hn]
   .simp [hn,s0]
 rw [J] at x;have G:(fun i=>if i=d then some (Obj.arr te.size (l.length+m.length) (Q5L l.length (LF l) (LF m))) else none) d=some (.arr te.size (l.length+m.length) (Q5L l.length (LF l) (LF m))):=by simp
 have z:=x.st d _ G;have u:SR.eta { v:=.v (.c (.own d)),del:=[nt],new:=some (.arr te.size (l.length+m.length) (Q5L l.length (LF l) (LF m))),cond:=True } o.dst v η0 d=v:=by simp [SR.eta,hd]
 have T:∀ b,b ∈ W2 v->b ∈ W2 v1\/w.heap.size<=b:=fun b r=>by
  rcases x.ow d _ b G (by rw [u];exact r) with ⟨F,_⟩|F|F
  .cases F
  .exact .inl F
  .exact .inr F
 rw [u] at z;have N:(execOp a.eval o).run P w=.ok (.value v) w':=by
  rcases Y with Y|⟨_,rfl⟩
  .exact Y
  .have hu:(undef:Value)=.tuple #[]:=rfl
   rw [hu] at z;cases z
 refine ⟨v,w',N,x.fr,T,fun X' a0=>fun η2 C2=>?_⟩
 .have a2:OLe (.arr te.size (l.length+m.length) (Q5L l.length (LF l) (LF m))) (AO (l++m)):=by rw [hes];exact OLe.is (Is.app (Is.refl l) (Is.refl m))
  have V:=a2.1 _ _ _ _ _ z;have h3:ORep w' (XS C0 (fun i=>if i=d then some (Obj.arr te.size (l.length+m.length) (Q5L l.length (LF l) (LF m))) else none) (SR.eta { v:=.v (.c (.own d)),del:=[nt],new:=some (.arr te.size (l.length+m.length) (Q5L l.length (LF l) (LF m))),cond:=True } o.dst v η0)) η2 C2 v (AO (l++m)):=by
   unfold AO at V ⊢;generalize (l++m).length=nn at V ⊢
   cases V with
   | nil ad=>exact .nil ad _ _
   | arr b' _ cap' _ c' e' _ q1 q2 q3 q4 q5 q6 q7=>exact .arr b' _ cap' _ c' e' _ q1 q2 q3 q4 q5 q6 q7
  refine h3.mono (fun b r U=>⟨rfl,fun Z=>U ?_⟩) (fun _ _=>rfl) fun _ _=>rfl
  rcases a0 b r Z with ⟨W,h5⟩|W
  .exact .inl ⟨W,h5⟩
  .exact .inr ⟨d,_,G,by rw [u];exact W⟩
theorem Z6D(b:Nat)(rs:List Value)(i:Nat):(Q5H b rs)[1+i]?=(rs++[.slice none 0 0])[i]?:=by
 simp [Q5H,Nat.add_comm 1 i]
theorem GrpAt.find{gs:List (Int×List α)}{X:Nat->Prop}{b:Nat}{rs:List Value}{ents:Array MapEntry}{clock:Nat}(h:GrpAt gs none w X b rs ents clock)(y:Int):
  (Instr.findNow (.int .i64) (.int .i64 y) ents.toList 0=some none/\Q0S y gs=gs.length) \/
  ∃ x:MapEntry,Instr.findNow (.int .i64) (.int .i64 y) ents.toList 0=some (some (Q0S y gs,x.val))/\rs[Q0S y gs]?=some x.val/\Q0S y gs<gs.length:=by
 obtain ⟨N,f⟩:=h.ents;have m:∀ (j:Nat) (x:MapEntry),ents[j]?=some x->∃ e v,gs[j]?=some e/\rs[j]?=some v/\x.key=.int .i64 e.1/\x.val=v:=fun j x r=>by
  have u:j<ents.size:=(Array.getElem?_eq_some_iff.1 r).1;have G:j<gs.length:=by omega
  have q:j<rs.length:=by rw [h.len];exact G
  obtain ⟨I,p⟩:=f j gs[j] rs[j] (List.getElem?_eq_getElem G) (List.getElem?_eq_getElem q);rw [r] at p
  cases p
  exact ⟨gs[j],rs[j],List.getElem?_eq_getElem G,List.getElem?_eq_getElem q,rfl,rfl⟩
 have t:∀ x ∈ ents.toList,IsKey (.int .i64) x.key:=fun x r=>by
  obtain ⟨j,u,rfl⟩:=List.getElem_of_mem r;obtain ⟨e,v,_,_,n,_⟩:=m j _ (by simp at u ⊢;exact Array.getElem?_eq_getElem u)
  simp only [Array.getElem_toList] at n ⊢;rw [n];rfl
 rcases findNow_spec (d:=.int .i64) (k:=.int .i64 y) rfl ents.toList 0 t with ⟨o,F⟩|⟨j,x,o,F,M⟩
 .left
  refine ⟨o,?_⟩;rcases Q7y y gs with ⟨g,e,l,c⟩|⟨H,_⟩
  .exfalso
   have q:Q0S y gs<rs.length:=by rw [h.len];exact g
   obtain ⟨I,p⟩:=f _ e _ l (List.getElem?_eq_getElem q);exact F _ (by have:=Array.mem_of_getElem? p;simpa using this) (by rw [c])
  .exact H
 .right
  obtain ⟨e,v,l,J,n,A⟩:=m j x (by simpa using F);rw [M] at n
  have c:e.1=y:=by cases n;rfl
  have D:Q0S y gs=j:=by
   rcases Q7y y gs with ⟨g,O,z,i⟩|⟨_,B⟩
   .exact Y0t h.nd z l (by rw [c,i])
   .exact absurd c (B e (List.mem_of_getElem? l))
  rw [Nat.zero_add] at o;rw [D]
  exact ⟨x,o,by rw [A];exact J,(List.getElem?_eq_some_iff.1 l).1⟩
variable {ops:Array Oper} {ds:List Dir} {k:Nat}
def gOk(ops:Array Oper)(nt:Nat)(e:Env)(o:Oper):Bool:=Q1M nt o&&(Q8s ops e o==some true)
theorem Y9o{gs:List (Int×List α)}{base g:Nat}{t kT eT:TypeId}{m x:Operand}{y:Int}(ht:P.underlying t=some (.map kT eT))(hkT:P.underlying kT=some (.int .i64))(hz:∀ w,(zeroValue eT).run P w=.ok (.slice none 0 0) w)(hk:Q1V ds k=xE [g] { v:=.v (.c (.cp g (1+Q0S y gs))) })(hop:(Y9 ops.toList k).op=.lookup t m x false)(hdo:gOk ops nt (V5 L ops ops.toList ds e s k) (Y9 ops.toList k)=true)(hm:aev (V5 L ops ops.toList ds e s k) m=.v (.c (.own base)))(hx:aev (V5 L ops ops.toList ds e s k) x=vi y)(hs:Q2s L ops ops.toList ds e s k g=some (.exr [base] (Q8B gs none))):KAt P C nt L ops ds e s k:=by
 unfold KAt;rw [hk]
 simp only [gOk,Bool.and_eq_true,beq_iff_eq] at hdo;obtain ⟨A,V⟩:=hdo
 refine Y2n [g] A V fun R η Y N a w I T D Z f=>Snd.g ?_
 have U:m ∈ (Y9 ops.toList k).op.operands.toList:=by rw [hop];simp [Op.operands]
 have W:x ∈ (Y9 ops.toList k).op.operands.toList:=by rw [hop];simp [Op.operands]
 have o:=(W8 f m).1;rw [I m U,hm] at o
 have o:=Q6V o;have u:=(W8 f x).1
 rw [I x W,hx] at u;have u:=Y9t u
 have r:N g=some (.exr [base] (Q8B gs none)):=(D g (by simp)).trans hs;obtain ⟨b,M,i,z,O,J,n⟩:=Y1R f r
 rw [O] at o;have h:∀ v,(v=.slice none 0 0/\Q0S y gs=gs.length/\Instr.findNow (.int .i64) (.int .i64 y) i.toList 0=some none)\/(M[Q0S y gs]?=some v/\Instr.findNow (.int .i64) (.int .i64 y) i.toList 0=some (some (Q0S y gs,v))) ->
   (execOp a.eval (Y9 ops.toList k)).run P w=.ok (.value v) w:=by
  rintro v (⟨rfl,_,l⟩|⟨_,l⟩)
  .simp [execOp,hop,o,u,Instr.lookup,run_underlying ht,MapKept.run_getObj_map n.heap,MapKept.run_checkKey hkT (k:=.int .i64 y) (d:=.int .i64) rfl,MapKept.run_findKey hkT l,hz]
  .simp [execOp,hop,o,u,Instr.lookup,run_underlying ht,MapKept.run_getObj_map n.heap,MapKept.run_checkKey hkT (k:=.int .i64 y) (d:=.int .i64) rfl,MapKept.run_findKey hkT l]
 have H:∀ j ∈ (AVal.v (.c (.cp g (1+Q0S y gs)))).refs,R j:=fun j F=>by
  simp [AVal.refs,TV.refs,CV.refs] at F
  subst F;exact (f.sr _ _ r).1
 rcases n.find y with ⟨l,G⟩|⟨q,l,B,p⟩
 .refine y8 f (Q5I A) (h _ (.inl ⟨rfl,G,l⟩)) (.v _ _ (.c _ _ (.cp _ _ _ _ J ?_ rfl))) H
  rw [Z6D,G, <-n.len];simp
 .obtain ⟨e',he'⟩:∃ e',gs[Q0S y gs]?=some e':=⟨_,List.getElem?_eq_getElem p⟩
  refine y8 f (Q5I A) (h _ (.inr ⟨B,l⟩)) (.v _ _ (.c _ _ (.cp _ _ _ _ J ?_ ((n.rows _ _ _ he' B).form.choose_spec.choose_spec.choose_spec.2.2)))) H;rw [Z6D,List.getElem?_append_left (by rw [n.len];exact p)]
  exact B
end
end
section
open Go.MapKept
section
variable {P:Program} {C:Ctx} {nt:Nat} {L:Lay} {R:Nat->Prop} {η:Nat->Value} {e:Env} {s:Sto} {a:Act} {w:World}
variable {α:Type} [Emb α] {ops:Array Oper} {ds:List Dir} {k:Nat}
def gRow(y:Int)(gs:List (Int×List α)):List α:=match gs[Q0S y gs]? with|some e=>e.2|none=>[]
theorem Y3c{β:Type}{y:Int}{m:List β}{gs:List (Int×List β)}{q:Int×List β}(h:gs[Q0S y gs]?=some q):gApp y m gs=gs.set (Q0S y gs) (q.1,q.2++m):=by unfold gApp;rw [h]
theorem Y6j{β:Type}{y:Int}{m:List β}{gs:List (Int×List β)}(h:Q0S y gs=gs.length):gApp y m gs=gs++[(y,m)]:=by
 unfold gApp;rw [h,List.getElem?_eq_none (Nat.le_refl _)]
def Y4V{β:Type}(l:List β)(i:Nat)(x:β):List β:=if i<l.length then l.set i x else l++[x]
theorem Z6p{β:Type}{l:List β}{i:Nat}{x:β}(h:i<=l.length):(Y4V l i x).length=if i<l.length then l.length else l.length+1:=by
 unfold Y4V;split <;> simp
theorem Z9v{β:Type}{l:List β}{i:Nat}{x:β}(h:i<=l.length)(j:Nat):(Y4V l i x)[j]?=if j=i then some x else l[j]?:=by
 unfold Y4V;split
 .rename_i b
  rw [List.getElem?_set]
  by_cases hj:i=j
  .subst hj;rw [if_pos rfl,if_pos rfl,if_pos b]
  .rw [if_neg hj,if_neg (fun h=>hj h.symm)]
 .have b:i=l.length:=by omega
  subst b
  by_cases hj:j=l.length
  .subst hj;rw [if_pos rfl];simp
  .rw [if_neg hj]
   rcases Nat.lt_or_ge j l.length with c|c
   .rw [List.getElem?_append_left c]
   .rw [List.getElem?_append_right c,List.getElem?_eq_none (by omega:l.length<=j)]
    have:j-l.length=(j-l.length-1)+1:=by omega
    rw [this];rfl
theorem Z9G{β:Type}{y:Int}{m:List β}{gs:List (Int×List β)}:∃ q,q.1=y/\q.2=gRow y gs++m/\gApp y m gs=Y4V gs (Q0S y gs) q/\Q0S y gs<=gs.length:=by
 rcases Q7y y gs with ⟨c,q,d,f⟩|⟨b,_⟩
 .refine ⟨(q.1,q.2++m),f,by unfold gRow;rw [d],?_,by omega⟩
  rw [Y3c d];unfold Y4V;rw [if_pos c]
 .refine ⟨(y,m),rfl,?_,?_,by omega⟩
  .unfold gRow;rw [b,List.getElem?_eq_none (Nat.le_refl _)];simp
  .rw [Y6j b];unfold Y4V;rw [b,if_neg (Nat.lt_irrefl _)]
theorem W2c{β:Type}{y:Int}{m:List β}{gs:List (Int×List β)}:∃ q,(gApp y m gs)[Q0S y gs]?=some q/\q.1=y:=by
 obtain ⟨q,c,_,b,d⟩:=Z9G (y:=y) (m:=m) (gs:=gs);refine ⟨q,?_,c⟩
 rw [b];unfold Y4V
 split
 .rename_i h;rw [List.getElem?_set_self h]
 .have:Q0S y gs=gs.length:=by omega
  rw [this,List.getElem?_append_right (Nat.le_refl _),Nat.sub_self];rfl
theorem Y4x{β:Type}{y:Int}{m:List β}{gs:List (Int×List β)}(hnd:(gs.map (·.1)).Nodup):((gApp y m gs).map (·.1)).Nodup:=by
 rcases Q7y y gs with ⟨c,q,b,l⟩|⟨h,d⟩
 .rw [Y3c b,List.map_set]
  have:(gs.map (·.1)).set (Q0S y gs) q.1=gs.map (·.1):=by
   apply List.ext_getElem?;intro j
   rw [List.getElem?_set];split
   .rename_i g;subst g
    rw [if_pos (by simpa using c),List.getElem?_map,b];rfl
   .rfl
  rw [this];exact hnd
 .rw [Y6j h,List.map_append]
  refine List.nodup_append.2 ⟨hnd,by simp,?_⟩;intro x i z f
  obtain ⟨q,b,rfl⟩:=List.mem_map.1 i;simp at f
  subst f;exact d q b
theorem KAt.gApp(hL:LOk P L){gs:List (Int×List α)}{m:List α}{base g d:Nat}{y:Int}{t tx ty:Nat}{te:TI}(hT:slT L t te)(hes:te.size=Emb.es α)(hk:Q1V ds k=xE [g] { v:=.v (.c (.cp d (1+Q0S y gs))),del:=[g],new:=some (.exr [base] (Q8B (Go.Ab.gApp y m gs) (some (Q0S y gs)))) })(hop:(Y9 ops.toList k).op=.call { callee:=.builtin .append,args:= #[.tmp tx,.tmp ty],argTypes:= #[t,t] })(hdo:(gOk ops nt (V5 L ops ops.toList ds e s k) (Y9 ops.toList k)&&(Y9 ops.toList k).dst==some d && !(tx==ty))=true)(hx:V5 L ops ops.toList ds e s k tx=.v (.c (.cp g (1+Q0S y gs))))(hy:V5 L ops ops.toList ds e s k ty=AL m)(hs:Q2s L ops ops.toList ds e s k g=some (.exr [base] (Q8B gs none)))(hby:te.bytes<=8192)(hzl:te.zero.length=te.size)(hlim:(gRow y gs).length+m.length<=LIM):KAt P C nt L ops ds e s k:=by
 obtain ⟨ti,el,ht,f3,f5⟩:=hT;unfold KAt
 rw [hk];simp only [gOk,Bool.and_eq_true,beq_iff_eq,Bool.not_eq_true',beq_eq_false_iff_ne] at hdo
 obtain ⟨⟨⟨h1,h2⟩,h3⟩,h4⟩:=hdo;refine Y2n [g] h1 h2 fun R η e0 s0 a w he i6 g0 hn A=>?_
 have ox:Operand.tmp tx ∈ (Y9 ops.toList k).op.operands.toList:=by rw [hop];simp [Op.operands,Call.operands]
 have oy:Operand.tmp ty ∈ (Y9 ops.toList k).op.operands.toList:=by rw [hop];simp [Op.operands,Call.operands]
 have ex:e0 tx=.v (.c (.cp g (1+Q0S y gs))):=(he _ ox).trans hx;have ey:e0 ty=AL m:=(he _ oy).trans hy
 have F:s0 g=some (.exr [base] (Q8B gs none)):=(g0 g (by simp)).trans hs;have c9:=Q5I h1 d h3
 have c0:¬ R d:=hn d h3 (by simp);obtain ⟨b,O,b3,W,hb,hg,f⟩:=Y1R A F
 have i3:g≠d:=fun h=>c0 (h ▸ (A.sr _ _ F).1)
 have c2:=A.ev tx;rw [ex] at c2
 generalize hv1e:a.tmps.getD tx undef=v1 at c2;have b8:(O++[.slice none 0 0])[Q0S y gs]?=some v1:=by
  cases c2 with|v _ _ hh=>cases hh with|c _ _ hh=>cases hh with|cp _ _ _ vs q1 q2 _=>
  rw [hg] at q1;cases q1
  rwa [Z6D] at q2
 obtain ⟨q,f6,f7,a9,I⟩:=Z9G (y:=y) (m:=m) (gs:=gs);have Y : Q0S y gs<=O.length:=by rw [f.len];exact I
 have H:∀ x,x ∈ W2 (.agg (Q5H b O))->Own s0 η x:=fun x hx=>⟨g,_,F,by rw [hg];exact hx⟩
 have e2:Y3E w (XS C s0 η) v1 (gRow y gs)/\(∀ x ∈ W2 v1,x ∈ W2 (.agg (Q5H b O)))/\b ∉ W2 v1/\∀ j u,j≠Q0S y gs->O[j]?=some u->∀ x ∈ W2 u,x ∉ W2 v1:=by
  rcases Q7y y gs with ⟨a1,q',a4,c6⟩|⟨hl,_⟩
  .have B:O[Q0S y gs]?=some v1:=by rwa [List.getElem?_append_left (by rw [f.len];exact a1)] at b8
   refine ⟨?_,fun x hx=>(Q0V f.one).2 (.inr ⟨v1,List.mem_of_getElem? B,hx⟩),f.off _ _ B,fun j u D hu x hx e8=>D (f.apart _ _ _ _ x hu B hx e8)⟩;unfold gRow;rw [a4]
   exact f.rows _ _ _ a4 B
  .have B:v1=.slice none 0 0:=by
    rw [hl, <-f.len,List.getElem?_append_right (Nat.le_refl _),Nat.sub_self] at b8;simpa using b8.symm
   subst B;refine ⟨?_,fun x hx=>by simp [W2] at hx,by simp [W2],fun j u _ _ x _ hx=>by simp [W2] at hx⟩
   unfold gRow;rw [hl,List.getElem?_eq_none (Nat.le_refl _)]
   exact fun η C=>.nil _ _ _
 obtain ⟨e5,J,b7,a3⟩:=e2;obtain ⟨v',w',e1,G,Z,c1⟩:=Y6X hL A h3 c9 h4 hop ht f3 f5 hes (l:=gRow y gs) (m:=m) (by rw [hv1e];exact e5) (fun x hx=>by rw [hv1e] at hx;exact .inr (H x (J x hx))) ey hby hzl hlim
 rw [hv1e] at G Z c1;have b5:∀ x ∈ W2 (.agg (Q5H b O)),C.M x\/C.w0.heap.size<=x:=fun x hx=>by
  rcases A.ow g _ x F (by rw [hg];exact hx) with ⟨h,_⟩|h
  .cases h
  .exact h
 have a1:∀ x ∈ W2 (.agg (Q5H b O)),x<w.heap.size:=fun x hx=>f.lt hx
 let rs':=Y4V O (Q0S y gs) v'
 have n : ∀ j,rs'[j]?=if j=Q0S y gs then some v' else O[j]?:=fun j=>Z9v Y j
 have b1 : ∀ j,(Go.Ab.gApp y m gs)[j]?=if j=Q0S y gs then some q else gs[j]?:=fun j=>by rw [a9];exact Z9v I j
 have U:=(c1 (fun _=>False) fun _ _ h=>h.elim).form;have b4 : ∀ v ∈ rs',Y4E v=W2 v:=fun v B=>by
  obtain ⟨j,D⟩:=List.getElem?_of_mem B;have p:=n j
  rw [D] at p
  by_cases h:j=Q0S y gs
  .rw [if_pos h] at p;cases p;exact U.choose_spec.choose_spec.choose_spec.2.1
  .rw [if_neg h] at p;exact f.one _ (List.mem_of_getElem? p.symm)
 have hu:∀ x,x ∈ W2 (.agg (Q5H b rs'))->x=b\/x ∈ W2 v' \/ ∃ j u,j≠Q0S y gs/\O[j]?=some u/\x ∈ W2 u:=fun x hx=>by
  rcases (Q0V b4).1 hx with h|⟨v,B,hx⟩
  .exact .inl h
  .obtain ⟨j,D⟩:=List.getElem?_of_mem B
   have p:=n j;rw [D] at p
   by_cases h:j=Q0S y gs
   .rw [if_pos h] at p;cases p;exact .inr (.inl hx)
   .rw [if_neg h] at p;exact .inr (.inr ⟨j,_,h,p.symm,hx⟩)
 have d3:∀ x,x ∈ W2 (.agg (Q5H b rs'))->w.heap.size<=x\/x ∈ W2 (.agg (Q5H b O)):=fun x hx=>by
  rcases hu x hx with rfl|h|⟨j,u,_,h,hx⟩
  .exact .inr ((Q0V f.one).2 (.inl rfl))
  .rcases Z x h with h|h
   .exact .inr (J x h)
   .exact .inl h
  .exact .inr ((Q0V f.one).2 (.inr ⟨u,List.mem_of_getElem? h,hx⟩))
 let r:SR:= { v:=.v (.c (.cp d (1+Q0S y gs))),del:=[g],new:=some (.exr [base] (Q8B (Go.Ab.gApp y m gs) (some (Q0S y gs)))) }
 have d1:=Q5X (C:=C) (s:=s0) (η:=η) r (Y9 ops.toList k).dst (.agg (Q5H b rs')) (fun x=>x ∈ W2 v1) G (fun x hx=>H x (J x hx)) (fun o' dd _ _ x hx=>by
  rcases d3 x hx with h|h
  .exact .inl h
  .exact .inr (H x h)) (fun k o hh=>by cases hh)
 have T:∀ i,r.eta (Y9 ops.toList k).dst (.agg (Q5H b rs')) η i=if i=d then .agg (Q5H b rs') else η i:=fun i=>by simp only [SR.eta,h3,r]
 have f4:w'.heap[b]?=w.heap[b]?:=G.block b (y7 f.heap) b7;have d0:∀ x,x<w'.heap.size->XS C (r.sto (Y9 ops.toList k).dst s0) (r.eta (Y9 ops.toList k).dst (.agg (Q5H b rs')) η) x->(XS C s0 η x/\x ∉ W2 v1)\/x ∈ W2 v':=by
  intro x hx hX;rcases hX with ⟨d9,d8⟩|⟨i,oi,z,a0⟩
  .refine .inl ⟨.inl ⟨d9,d8⟩,fun b9=>?_⟩
   rcases b5 x (J x b9) with h|h
   .exact d8 (A.ok.md x h)
   .have:=A.ok.lt x d9;omega
  .rcases Y0e r (Y9 ops.toList k).dst i oi z with ⟨_,a5⟩|⟨e9,_⟩|⟨ho,d4,_,a5⟩
   .rw [h3] at a5;cases a5
    rw [T,if_pos rfl] at a0;rcases hu x a0 with rfl|h|⟨j,u,D,c7,N⟩
    .exact .inl ⟨.inr (H x ((Q0V f.one).2 (.inl rfl))),b7⟩
    .exact .inr h
    .exact .inl ⟨.inr (H x ((Q0V f.one).2 (.inr ⟨u,List.mem_of_getElem? c7,N⟩))),a3 j u D c7 x N⟩
   .cases e9
   .have e7:i≠d:=fun h=>by
     subst h;rcases a5 with h|h
     .cases h
     .exact h h3
    rw [T,if_neg e7] at a0;refine .inl ⟨.inr ⟨i,oi,ho,a0⟩,fun b9=>?_⟩
    have:i=g:=A.ds i g x (by rw [ho];simp) (by rw [F];simp) a0 (by rw [hg];exact J x b9)
    subst this;exact d4 (by simp [r])
 have d2:GrpAt (Go.Ab.gApp y m gs) (some (Q0S y gs)) w' (XS C (r.sto (Y9 ops.toList k).dst s0) (r.eta (Y9 ops.toList k).dst (.agg (Q5H b rs')) η)) b rs' b3 W:=by
  obtain ⟨f2,c5⟩:=f.ents;refine ⟨f4.trans f.heap,f.st,?_,Y4x f.nd,fun i e' v z B=>?_,fun i j u v x z D N a7=>?_,fun i v z c8=>?_,?_,?_,fun i e' v z V B=>?_⟩
  .rw [a9,Z6p I,Z6p Y,f.len]
  .rw [b1] at z
   rw [n] at B
   by_cases h:i=Q0S y gs
   .rw [if_pos h] at z B
    cases z;cases B
    rw [f7];exact c1 _ d0
   .rw [if_neg h] at z B
    exact (f.rows i e' v z B).mono d1 fun x hx=>G.block x (a1 x ((Q0V f.one).2 (.inr ⟨v,List.mem_of_getElem? B,hx⟩))) (a3 i v h B x hx)
  .rw [n] at z D
   by_cases h:i=Q0S y gs <;> by_cases h' : j=Q0S y gs
   .rw [h,h']
   .rw [if_pos h] at z;rw [if_neg h'] at D
    cases z
    exfalso
    rcases Z x N with h5|h5
    .exact a3 j v h' D x a7 h5
    .have:=a1 x ((Q0V f.one).2 (.inr ⟨v,List.mem_of_getElem? D,a7⟩));omega
   .rw [if_neg h] at z;rw [if_pos h'] at D
    cases D
    exfalso
    rcases Z x a7 with h5|h5
    .exact a3 i u h z x N h5
    .have:=a1 x ((Q0V f.one).2 (.inr ⟨u,List.mem_of_getElem? z,N⟩));omega
   .rw [if_neg h] at z;rw [if_neg h'] at D
    exact f.apart i j u v x z D N a7
  .rw [n] at z
   by_cases h:i=Q0S y gs
   .rw [if_pos h] at z
    cases z
    rcases Z b c8 with h5|h5
    .exact b7 h5
    .have:=y7 f.heap;omega
   .rw [if_neg h] at z
    exact f.off i v z c8
  .rw [a9,Z6p I];split <;> omega
  .rw [a9,Z6p I]
   split
   .exact .inl f2
   .exact .inr ⟨by omega,by omega⟩
  .rw [b1] at V
   rw [n] at B;have a6:i<gs.length:=by omega
   have d7:i<O.length:=by rw [f.len];exact a6
   obtain ⟨bo,d6⟩:=c5 i gs[i] O[i] (List.getElem?_eq_getElem a6) (List.getElem?_eq_getElem d7)
   by_cases h:i=Q0S y gs
   .rw [if_pos h] at V
    cases V
    refine ⟨O[i],bo,?_,fun hh=>absurd h hh⟩;rw [d6]
    have:gs[i].1=q.1:=by
     rcases Q7y y gs with ⟨b2,q',a4,c6⟩|⟨hl,_⟩
     .have h6:gs[i]?=some q':=by rw [h];exact a4
      rw [List.getElem?_eq_getElem a6] at h6;cases h6
      rw [c6,f6]
     .omega
    rw [this]
   .rw [if_neg h] at V B
    rw [List.getElem?_eq_getElem a6] at V;rw [List.getElem?_eq_getElem d7] at B
    cases V;cases B
    exact ⟨_,bo,d6,fun _=>rfl⟩
 refine ⟨v',.agg (Q5H b rs'),w',.inl e1,A.stepG (Y9 ops.toList k).dst (fun x hx=>by rw [h3] at hx;cases hx;exact c9) r v' (.agg (Q5H b rs')) w' (fun x=>x ∈ W2 v1) G ?_ ?_ (fun k o hh=>by cases hh) ?_⟩
 .intro x hx
  exact ⟨⟨g,.inl (by simp [r]),by rw [F];simp,by rw [hg];exact J x hx⟩,b5 x (J x hx)⟩
 .intro o' dd e6 e3
  rw [h3] at e3;cases e3
  have f1:o'=.exr [base] (Q8B (Go.Ab.gApp y m gs) (some (Q0S y gs))):=by simpa [r] using e6.symm
  subst f1;refine ⟨c0,rfl,fun j D=>?_,?_,fun x hx=>?_⟩
  .exact (A.sr g _ F).2 j D
  .have f9:base≠d:=fun h=>c0 (h ▸ (A.sr g _ F).2 base (by simp [Obj.refs]))
   refine .exr _ _ _ ⟨b,rs',b3,W,?_,rfl,d2⟩ (Y0G _) fun x hx=>d2.lt hx
   simp [T,f9,hb]
  .rcases d3 x hx with h|h
   .exact .inl h
   .exact .inr ⟨⟨g,by simp [r],by rw [F];simp,by rw [hg];exact h⟩,b5 x h⟩
 .intro _
  refine ⟨.v _ _ (.c _ _ (.cp _ _ _ (Q5H b rs') (by rw [T,if_pos rfl]) ?_ U.choose_spec.choose_spec.choose_spec.2.2)),fun j D=>?_⟩
  .rw [Z6D]
   have b2 : Q0S y gs<rs'.length:=by
    have:=n (Q0S y gs)
    rw [if_pos rfl] at this;exact (List.getElem?_eq_some_iff.1 this).1
   rw [List.getElem?_append_left b2,n,if_pos rfl]
  .simp [r,AVal.refs,TV.refs,CV.refs] at D
   subst D;exact .inr ⟨by simp [r],h3⟩
theorem W1i{gs:List (Int×List α)}{base g j:Nat}{t kT eT:TypeId}{m x v:Operand}{y:Int}{q:Int×List α}(ht:P.underlying t=some (.map kT eT))(hkT:P.underlying kT=some (.int .i64))(hk:Q1V ds k=xE [] { upd:=some (g,.exr [base] (Q8B gs none)) })(hop:(Y9 ops.toList k).op=.mapUpdate t m x v)(hdo:(gOk ops nt (V5 L ops ops.toList ds e s k) (Y9 ops.toList k)&&(Y9 ops.toList k).dst.isNone)=true)(hm:aev (V5 L ops ops.toList ds e s k) m=.v (.c (.own base)))(hx:aev (V5 L ops ops.toList ds e s k) x=vi y)(hv:aev (V5 L ops ops.toList ds e s k) v=.v (.c (.cp g (1+j))))(hs:Q2s L ops ops.toList ds e s k g=some (.exr [base] (Q8B gs (some j))))(hq:gs[j]?=some q)(hqy:q.1=y):KAt P C nt L ops ds e s k:=by
 unfold KAt;rw [hk]
 simp only [gOk,Bool.and_eq_true,beq_iff_eq] at hdo;obtain ⟨⟨h1,h2⟩,h3⟩:=hdo
 refine Y2n [] h1 h2 fun R η e0 s0 a w he d2 e8 hn G=>Snd.g ?_
 have om:m ∈ (Y9 ops.toList k).op.operands.toList:=by rw [hop];simp [Op.operands]
 have ox:x ∈ (Y9 ops.toList k).op.operands.toList:=by rw [hop];simp [Op.operands]
 have ov:v ∈ (Y9 ops.toList k).op.operands.toList:=by rw [hop];simp [Op.operands]
 have em:=(W8 G m).1;rw [he m om,hm] at em
 have em:=Q6V em;have ex:=(W8 G x).1
 rw [he x ox,hx] at ex;have ex:=Y9t ex
 have H:s0 g=some (.exr [base] (Q8B gs (some j))):=(d2 v ov g (by rw [hv];simp [AVal.refs,TV.refs,CV.refs])).trans hs;obtain ⟨b,V,l,c2,hb,hg,A⟩:=Y1R G H
 rw [hb] at em;have ev:=(W8 G v).1
 rw [he v ov,hv] at ev;have c5:j<V.length:=by rw [A.len];exact (List.getElem?_eq_some_iff.1 hq).1
 have O:V[j]?=some (a.eval v):=by
  generalize a.eval v=v1 at ev
  cases ev with|v _ _ I=>cases I with|c _ _ I=>cases I with|cp _ _ _ vs q1 q2 _=>
  rw [hg] at q1;cases q1
  rw [Z6D,List.getElem?_append_left c5] at q2;exact q2
 generalize hve:a.eval v=v1 at O;obtain ⟨e3,U,D⟩:=A.ents
 have a8:∀ (i:Nat) (z:MapEntry),l[i]?=some z->∃ J u,gs[i]?=some J /\ V[i]?=some u/\z.key=.int .i64 J.1/\(i≠j->z.val=u):=fun i z Z=>by
  have T:i<l.size:=(Array.getElem?_eq_some_iff.1 Z).1;have a0:i<gs.length:=by omega
  have a7:i<V.length:=by rw [A.len];exact a0
  obtain ⟨u,W,n,M⟩:=D i gs[i] V[i] T (List.getElem?_eq_getElem a0) (List.getElem?_eq_getElem a7);rw [Z] at n
  cases n
  exact ⟨gs[i],V[i],List.getElem?_eq_getElem a0,List.getElem?_eq_getElem a7,rfl,M⟩
 have c1:∀ z ∈ l.toList,IsKey (.int .i64) z.key:=fun z Z=>by
  obtain ⟨i,T,rfl⟩:=List.getElem_of_mem Z;obtain ⟨J,_,_,_,c7,_⟩:=a8 i l[i] (Array.getElem?_eq_getElem (by simpa using T))
  simp only [Array.getElem_toList];rw [c7];rfl
 have e7:b<w.heap.size:=y7 A.heap;have b6:∃ (B : Array MapEntry) (f : Nat),(execOp a.eval (Y9 ops.toList k)).run P w=.ok .skip { w with heap:=w.heap.setIfInBounds b (.map B f) } /\ Stamped B f /\ B.size=gs.length/\∀ (i:Nat) (J : Int×List α) (u:Value),gs[i]?=some J -> V[i]?=some u->∃ W,B[i]?=some ⟨.int .i64 J.1,u,W⟩:=by
  rcases findNow_spec (d:=.int .i64) (k:=.int .i64 y) rfl l.toList 0 c1 with ⟨f1,f2⟩|⟨i,z,f1,f2,f3⟩
  .refine ⟨_,_,?_,stamped_push (val:=v1) A.st f2,?_,fun i J u F hu=>?_⟩
   .simp [execOp,hop,em,ex,hve,Instr.mapUpdate,run_underlying ht,MapKept.run_getObj_map A.heap,MapKept.run_checkKey hkT (k:=.int .i64 y) (d:=.int .i64) rfl,MapKept.run_findKey hkT f1,MapKept.run_setObj_map _ A.heap]
   .rw [Array.size_push]
    rcases U with h|⟨h,_⟩
    .exfalso
     obtain ⟨u,W,n,_⟩:=D j q v1 (by omega) hq O;exact f2 _ (by have:=Array.mem_of_getElem? n;simpa using this) (by rw [hqy])
    .exact h
   .rcases U with h|⟨h,hj⟩
    .exfalso
     obtain ⟨u,W,n,_⟩:=D j q v1 (by omega) hq O;exact f2 _ (by have:=Array.mem_of_getElem? n;simpa using this) (by rw [hqy])
    .rw [Array.getElem?_push]
     by_cases T:i=l.size
     .rw [if_pos T]
      have a1:i=j:=by omega
      subst a1;rw [hq] at F;rw [O] at hu
      cases F;cases hu
      exact ⟨_,by rw [hqy]⟩
     .rw [if_neg T]
      have c6:i<gs.length:=(List.getElem?_eq_some_iff.1 F).1;obtain ⟨u',W,n,M⟩:=D i J u (by omega) F hu
      rw [M (by omega)] at n;exact ⟨W,n⟩
  .have fz:l[i]?=some z:=by simpa using f2
   obtain ⟨J,u,F,hu,a9,e9⟩:=a8 i z fz;have d1:J.1=y:=by rw [f3] at a9;cases a9;rfl
   have a1:i=j:=Y0t A.nd F hq (by rw [d1,hqy]);subst a1
   refine ⟨_,_,?_,stamped_modify A.st i (fun e=> { e with key:=.int .i64 y,val:=v1 }) (fun _ _=>rfl) (fun b9 _ p=>?_),?_,fun i' b9 u' p a3=>?_⟩
   .simp [execOp,hop,em,ex,hve,Instr.mapUpdate,run_underlying ht,MapKept.run_getObj_map A.heap,MapKept.run_checkKey hkT (k:=.int .i64 y) (d:=.int .i64) rfl,MapKept.run_findKey hkT f1,fz,f3,MapKept.run_keyThatStays (d:=.int .i64) (k:=.int .i64 y) rfl,MapKept.run_setObj_map _ A.heap]
   .rw [fz] at p;cases p;exact f3.symm
   .rw [Array.size_modify]
    rcases U with h|⟨h,hj⟩
    .exact h
    .have:i<l.size:=(Array.getElem?_eq_some_iff.1 fz).1
     omega
   .rw [Array.getElem?_modify]
    by_cases T:i=i'
    .subst T
     rw [if_pos rfl,fz];rw [hq] at p;rw [O] at a3
     cases p;cases a3
     exact ⟨z.born,by rw [hqy];rfl⟩
    .rw [if_neg T]
     have c6:i' < gs.length:=(List.getElem?_eq_some_iff.1 p).1;have e2:i<l.size:=(Array.getElem?_eq_some_iff.1 fz).1
     obtain ⟨e4,W,n,M⟩:=D i' b9 u' (by rcases U with h|⟨h,hj⟩ <;> omega) p a3;rw [M (fun h=>T h.symm)] at n
     exact ⟨W,n⟩
 obtain ⟨B,f,b7,b4,b3,a2⟩:=b6;have Y:Stp (fun x=>x=b) w { w with heap:=w.heap.setIfInBounds b (.map B f) } :=
  ⟨rfl,rfl,rfl,by simp,fun x _ hx=>(heap_set A.heap).2 x hx,Nat.le_refl _⟩
 have N:b ∈ W2 (η g):=by rw [hg];exact (Q0V A.one).2 (.inl rfl)
 have hd:(Y9 ops.toList k).dst=none:=by simpa using h3
 let r:SR:= { upd:=some (g,.exr [base] (Q8B gs none)) }
 have b5:=Q5X (C:=C) (s:=s0) (η:=η) r (Y9 ops.toList k).dst undef (fun x=>x=b) Y (fun x hx=>by subst hx;exact ⟨g,_,H,N⟩) (fun _ _ I=>by cases I) (fun k o I=>by cases I;rw [H];simp);have b0:r.eta (Y9 ops.toList k).dst undef η=η:=by funext i;simp [SR.eta,r]
 refine ⟨undef,_,.inr ⟨b7,rfl⟩,G.step (Y9 ops.toList k).dst (fun x hx=>by rw [hd] at hx;cases hx) r undef _ (fun x=>x=b) Y (fun x hx=>?_) (fun _ _ I=>by cases I) (fun k' o' I=>?_) (fun I=>absurd hd I)⟩
 .subst hx
  refine ⟨⟨g,.inr ⟨_,rfl⟩,by rw [H];simp,N⟩,?_⟩;rcases G.ow g _ x H N with ⟨h,_⟩|h
  .cases h
  .exact h
 .cases I
  refine ⟨⟨_,H,rfl⟩,rfl,by simp [r],fun j hj=>(G.sr g _ H).2 j hj,?_⟩;rw [b0] at b5 ⊢
  rw [hg];have b2:GrpAt gs none { w with heap:=w.heap.setIfInBounds b (.map B f) } (XS C (r.sto (Y9 ops.toList k).dst s0) η) b V B f :=
   ⟨(heap_set A.heap).1,b4,A.len,A.nd,fun i J u F hu=>(A.rows i J u F hu).mono b5 fun z Z=>(heap_set A.heap).2 z (fun h=>by subst h;exact A.off i u hu Z),A.apart,A.off,b3,a2⟩
  exact .exr _ _ _ ⟨b,V,B,f,by simp [hb],rfl,b2⟩ (Y0G _) fun z Z=>b2.lt Z
end
section
variable {P:Program} {C:Ctx} {nt:Nat} {L:Lay} {pins:List Nat} {K:Act->World->Prop} {α:Type} [Emb α]
theorem W1g(Fm:Fr P L C pins){E:List (Nat×AVal)}{S0:List (Nat×Obj)}{id k:Nat}{o o' : Obj}(hp:pins.contains k=false)(hfr:((E.flatMap fun p=>p.2.refs)++(((id,o)::S0).flatMap fun p=>p.1::p.2.refs)).contains k=false)(hid:(S0.map (·.1)).contains id=false)(hro:o.ro=false)(hro' : o'.ro=false)(hrf:∀ j ∈ o'.refs,j=id\/j ∈ o.refs)(hu:∀ R η a w,Conc C nt R η (lk E) (ls ((id,o)::S0)) a w->∃ u,(∀ b ∈ W2 u,b ∈ W2 (η id))/\∀ X' η',Q7o w w (XS C (ls ((id,o)::S0)) η) X' -> (∀ i,i≠k->η' i=η i)->ORep w X' η' C u o')(hk:Kn C nt E ((k,o')::S0) K):Kn C nt E ((id,o)::S0) K:=by
 intro R η a w m;have g:ls ((id,o)::S0) id=some o:=by rw [J2,if_pos rfl]
 obtain ⟨u,r,H⟩:=hu R η a w m;have J:C.pin k=none:=by
  rcases hq:C.pin k with _|u
  .rfl
  .have:=Fm.pin k (by rw [hq];simp)
   rw [List.contains_iff_mem.2 this] at hp;cases hp
 have B:∀ i ∈ (E.flatMap fun p=>p.2.refs)++(((id,o)::S0).flatMap fun p=>p.1::p.2.refs),i≠k:=by
  intro i d I;subst I
  rw [List.contains_iff_mem.2 d] at hfr;cases hfr
 have a5:id≠k:=B id (by simp);have a6:∀ j ∈ o.refs,j≠k:=fun j n=>B j (by simp [n])
 have l:∀ i o',ls S0 i=some o' -> i≠k/\i≠id/\(∀ j ∈ o'.refs,j≠k)/\ls ((id,o)::S0) i=some o':=by
  intro i o' d;have hm:=J1 d
  have N:i≠id:=by
   intro I;subst I
   have:i ∈ S0.map (·.1):=List.mem_map.2 ⟨_,hm,rfl⟩
   rw [List.contains_iff_mem.2 this] at hid;cases hid
  refine ⟨B i (List.mem_append.2 (.inr (List.mem_flatMap.2 ⟨_,List.mem_cons_of_mem _ hm,by simp⟩))),N,fun j n=>B j (List.mem_append.2 (.inr (List.mem_flatMap.2 ⟨_,List.mem_cons_of_mem _ hm,by simp [n]⟩))),?_⟩;rw [J2,if_neg N];exact d
 have Y:∀ u i,i ∈ (lk E u).refs->i≠k:=by
  intro u i d;rcases Y0w (E:=E) (t:=u) with h0|h0
  .rw [h0] at d;cases d
  .exact B i (List.mem_append.2 (.inl (List.mem_flatMap.2 ⟨_,h0,d⟩)))
 let η' : Nat->Value:=fun i=>if i=k then u else η i
 have f : ∀ i,i≠k->η' i=η i:=fun i d=>by show (if i=k then u else η i)=_;rw [if_neg d]
 have A:η' k=u:=by show (if k=k then u else η k)=_;rw [if_pos rfl]
 have T:∀ b,Own (ls ((k,o')::S0)) η' b->Own (ls ((id,o)::S0)) η b:=by
  rintro b ⟨i,q,d,D⟩;rw [J2] at d
  by_cases c:i=k
  .subst c
   rw [A] at D;exact ⟨id,_,g,r b D⟩
  .rw [if_neg c] at d
   rw [f i c] at D;exact ⟨i,q,(l i q d).2.2.2,D⟩
 have hX:Q7o w w (XS C (ls ((id,o)::S0)) η) (XS C (ls ((k,o')::S0)) η'):=by
  intro b U hn;refine ⟨rfl,fun V=>?_⟩
  rcases V with V|V
  .exact hn (.inl V)
  .exact hn (.inr (T b V))
 refine hk (fun i=>R i\/i=k) η' a w ⟨m.ok,m.df,m.sz,fun t=>?_,fun t i d=>.inl (m.er t i d),fun i q d=>?_,fun i q d=>?_,fun i j b d n x z=>?_,fun i q b d U=>?_,m.fr,fun i v d=>?_⟩
 .exact (m.ev t).mono hX fun i d=>f i (Y t i d)
 .rw [J2] at d
  by_cases c:i=k
  .subst c
   rw [if_pos rfl] at d;cases d
   rw [A];exact H _ _ hX f
  .rw [if_neg c] at d
   obtain ⟨F,M,W,G⟩:=l i q d;rw [f i c]
   exact (m.st i q G).mono hX (fun j n=>f j (W j n)) fun _ _=>rfl
 .rw [J2] at d
  by_cases c:i=k
  .subst c
   rw [if_pos rfl] at d;cases d
   refine ⟨.inr rfl,fun j n=>.inl ?_⟩;rcases hrf j n with rfl|h
   .exact (m.sr j _ g).1
   .exact (m.sr id _ g).2 j h
  .rw [if_neg c] at d
   obtain ⟨F,M,W,G⟩:=l i q d;have:=m.sr i q G
   exact ⟨.inl this.1,fun j n=>.inl (this.2 j n)⟩
 .rw [J2] at d n
  by_cases c:i=k <;> by_cases hjk:j=k
  .rw [c,hjk]
  .exfalso
   rw [if_neg hjk] at n;obtain ⟨oj,O⟩:=Option.ne_none_iff_exists'.1 n
   obtain ⟨F,M,W,G⟩:=l j oj O;rw [c,A] at x
   rw [f j hjk] at z;exact M (m.ds j id b (by rw [G];simp) (by rw [g];simp) z (r b x))
  .exfalso
   rw [if_neg c] at d;obtain ⟨q,O⟩:=Option.ne_none_iff_exists'.1 d
   obtain ⟨F,M,W,G⟩:=l i q O;rw [hjk,A] at z
   rw [f i c] at x;exact M (m.ds i id b (by rw [G];simp) (by rw [g];simp) x (r b z))
  .rw [if_neg c] at d
   rw [if_neg hjk] at n;obtain ⟨q,O⟩:=Option.ne_none_iff_exists'.1 d
   obtain ⟨oj,Z⟩:=Option.ne_none_iff_exists'.1 n;rw [f i c] at x
   rw [f j hjk] at z;exact m.ds i j b (by rw [(l i q O).2.2.2];simp) (by rw [(l j oj Z).2.2.2];simp) x z
 .rw [J2] at d
  by_cases c:i=k
  .subst c
   rw [if_pos rfl] at d;cases d
   rw [A] at U;rcases m.ow id _ b g (r b U) with ⟨F,_⟩|F
   .rw [hro] at F;cases F
   .exact .inr F
  .rw [if_neg c] at d
   rw [f i c] at U;exact m.ow i q b (l i q d).2.2.2 U
 .have c:i≠k:=by intro I;subst I;rw [J] at d;cases d
  have:=m.pn i v d
  exact ⟨(f i c).trans this.1,.inl this.2⟩
theorem W2y(Fm:Fr P L C pins)(α:Type)[Emb α]{E:List (Nat×AVal)}{S0:List (Nat×Obj)}{d g:Nat}{kT eT:TypeId}(hp:pins.contains g=false)(hfr:((E.flatMap fun p=>p.2.refs)++(((d,Obj.ext (Y3R P kT eT []))::S0).flatMap fun p=>p.1::p.2.refs)).contains g=false)(hd:(S0.map (·.1)).contains d=false)(hk:Kn C nt E ((g,.exr [d] (Q8B ([]:List (Int×List α)) none))::S0) K):Kn C nt E ((d,.ext (Y3R P kT eT []))::S0) K:=by
 refine W1g Fm hp hfr hd rfl rfl (fun j D=>.inl (by simpa [Obj.refs] using D)) (fun R η a w G=>?_) hk;have f:=G.st d _ (show ls ((d,.ext (Y3R P kT eT []))::S0) d=some (.ext (Y3R P kT eT [])) by rw [J2,if_pos rfl])
 generalize hη:η d=u at f
 cases f with
 | ext _ _ hp' _ hlt=>
  obtain ⟨b,rfl,F,c,A,H,B,_⟩:=hp';have n:F=#[]:=Array.eq_empty_of_size_eq_zero (by simpa using B)
  subst n;refine ⟨.agg (Q5H b []),fun x t=>?_,fun X' η' I o=>?_⟩
  .have:=(Q0V (rs:=[]) (fun v q=>by cases q)).1 t
   rcases this with rfl|⟨v,q,_⟩
   .simp [W2]
   .cases q
  .have m:d≠g:=fun h=>by
    subst h;have:((E.flatMap fun p=>p.2.refs)++(((d,Obj.ext (Y3R P kT eT []))::S0).flatMap fun p=>p.1::p.2.refs)).contains d=true:=by simp
    rw [this] at hfr;cases hfr
   have z:GrpAt ([]:List (Int×List α)) none w X' b [] #[] c:=⟨A,⟨by simp,by simp,by simp⟩,rfl,by simp,fun i e v l=>by simp at l,fun i j u v x r=>by simp at r,fun i v r=>by simp at r,rfl,fun i e v l=>by simp at l⟩;exact .exr _ _ _ ⟨b,[], #[],c,by simp [o d m,hη],rfl,z⟩ (Y0G _) fun x t=>z.lt t
theorem W3q{E0:List (Nat×AVal)}{S0:List (Nat×Obj)}{t d g:Nat}{gs:List (Int×List α)}(hid:(S0.map (·.1)).contains g=false)(hk:Kn C nt ((t,.v (.c (.d (MP gs))))::E0) S0 K):Kn C nt ((t,.v (.c (.own d)))::E0) ((g,.exr [d] (Q8B gs none))::S0) K:=by
 intro R η a w m;have H:ls ((g,.exr [d] (Q8B gs none))::S0) g=some (.exr [d] (Q8B gs none)):=by rw [J2,if_pos rfl]
 have p:∀ i o,ls S0 i=some o->i≠g/\ls ((g,.exr [d] (Q8B gs none))::S0) i=some o:=by
  intro i o h;have q:i≠g:=by
   intro he;subst he
   have:i ∈ S0.map (·.1):=List.mem_map.2 ⟨_,J1 h,rfl⟩
   rw [List.contains_iff_mem.2 this] at hid;cases hid
  exact ⟨q,by rw [J2,if_neg q];exact h⟩
 obtain ⟨b,z,T,F,hb,hg,B⟩:=Y1R m H;have U:∀ x,XS C (ls S0) η x->XS C (ls ((g,.exr [d] (Q8B gs none))::S0)) η x:=fun x A=>by
  rcases A with A|⟨i,o,h,D⟩
  .exact .inl A
  .exact .inr ⟨i,o,(p i o h).2,D⟩
 have hX:Q7o w w (XS C (ls ((g,.exr [d] (Q8B gs none))::S0)) η) (XS C (ls S0) η):=fun x _ V=>⟨rfl,fun A=>V (U x A)⟩
 have N:∀ x ∈ W2 (η g),¬ XS C (ls S0) η x:=fun x A a1=>by
  rcases a1 with ⟨Z,Y⟩|⟨i,o,h,D⟩
  .rcases m.ow g _ x H A with ⟨I,_⟩|I|I
   .cases I
   .exact Y (m.ok.md x I)
   .have:=m.ok.lt x Z;omega
  .exact (p i o h).1 (m.ds i g x (by rw [(p i o h).2];simp) (by rw [H];simp) D A)
 obtain ⟨a2,M⟩:=B.ents;have hD:DRep w (XS C (ls S0) η) (.map (some b)) (MP gs):=by
  refine .mp b T F gs.length _ (fun i=>z.getD i undef) _ (N b (by rw [hg];exact (Q0V B.one).2 (.inl rfl))) B.heap B.st a2 (fun i h=>?_) fun i h=>?_
  .have J:i<z.length:=by rw [B.len];exact h
   obtain ⟨bo,W⟩:=M i gs[i] z[i] (List.getElem?_eq_getElem h) (List.getElem?_eq_getElem J);exact ⟨bo,by rw [W];simp [List.getD_eq_getElem?_getD,h,J]⟩
  .have J:i<z.length:=by rw [B.len];exact h
   have e1:z.getD i undef=z[i]:=by simp [List.getD_eq_getElem?_getD,J]
   have e2:gs.getD i (0,[])=gs[i]:=by simp [List.getD_eq_getElem?_getD,h]
   simp only [e1,e2];have l:=B.rows i gs[i] z[i] (List.getElem?_eq_getElem h) (List.getElem?_eq_getElem J) η C
   have O:∀ x ∈ W2 z[i],¬ XS C (ls S0) η x:=fun x A=>N x (by rw [hg];exact (Q0V B.one).2 (.inr ⟨z[i],List.getElem_mem J,A⟩))
   unfold AO at l;unfold DL
   generalize gs[i].2.length=n at l ⊢;generalize LF gs[i].2=f at l ⊢
   generalize z[i]=v at l O ⊢
   cases l with
   | nil ad es f=>exact .nil ad 0 f
   | arr b n cap es c e f I h2 h3 h4 h5 h6 h7=>
    refine .lst b 0 n cap c e _ f _ (O b (by simp [W2];omega)) I h3 (by rw [h2,Nat.zero_add];exact Nat.mul_le_mul_right _ h3) h6 fun i j h hj=>?_
    rw [Nat.zero_add];exact (h7 i j h hj).mono hX
 have q:∀ i,ls S0 i≠none->ls ((g,.exr [d] (Q8B gs none))::S0) i≠none:=fun i h V=>by
  obtain ⟨o,ho⟩:=Option.ne_none_iff_exists'.1 h;rw [(p i o ho).2] at V;cases V
 refine hk R η a w ⟨m.ok,m.df,m.sz,fun u=>?_,fun u i h=>?_,fun i o h=>(m.st i o (p i o h).2).mono hX (fun _ _=>rfl) fun _ _=>rfl,fun i o h=>m.sr i o (p i o h).2,fun i j b h hj=>m.ds i j b (q i h) (q j hj),fun i o b h=>m.ow i o b (p i o h).2,m.fr,m.pn⟩
 .rw [Z9B]
  have r:=m.ev u;rw [Z9B] at r
  by_cases hu:u=t
  .rw [if_pos hu] at r ⊢
   rw [Q6V r,hb];exact .v _ _ (.c _ _ (.d _ _ hD))
  .rw [if_neg hu] at r ⊢
   exact r.mono hX fun _ _=>rfl
 .rw [Z9B] at h
  have G:=m.er u i;rw [Z9B] at G
  by_cases hu:u=t
  .rw [if_pos hu] at h;cases h
  .rw [if_neg hu] at h G
   exact G h
end
end
section
def ov:List (Nat×Obj)->List (Nat×Obj)->List (Nat×Obj)
 | [],S=>S
 | _::_,[]=>[]
 | (k,o)::W,(i,x)::S=>match Nat.beq k i with
  | true=>(i,o)::ov W S
  | false=>(i,x)::ov ((k,o)::W) S
def FW:List (Nat×Obj)->List (Nat×Obj)->Prop
 | [],_=>True
 | _::_,[]=>True
 | (k,o)::W,(i,x)::S=>match Nat.beq k i with
  | true=>OLe o x/\FW W S
  | false=>FW ((k,o)::W) S
theorem Y7T:∀ {W S:List (Nat×Obj)},FW W S->FSl (ov W S) S
 | [],S,_=>by cases S <;> exact FSl.refl _
 | _::_,[],_=>True.intro
 | (k,o)::W,(i,x)::S,h=>by
  unfold ov;unfold FW at h
  cases e:Nat.beq k i with
  | true=>rw [e] at h;exact ⟨rfl,h.1,Y7T h.2⟩
  | false=>rw [e] at h;exact ⟨rfl,OLe.refl _,Y7T h⟩
section
variable {P:Program} {C:Ctx} {nt:Nat} {L:Lay} {pins:List Nat} {E:List (Nat×AVal)} {S:List (Nat×Obj)} {Q:Exit->Act->World->Prop}
theorem W1q(Fm:Fr P L C pins){id:Nat}{ops:Array Oper}{draw:Bool}(ds:List Dir)(c:(Nat->Prop)->Prop)(E' : List (Nat×AVal))(S' : List (Nat×Obj))(hc:c (KAt P C nt L ops ds (lk E) (ls S)))(W:List (Nat×Obj))(hW:FW W S')(k:Kn C nt E' S' (Q .normal))(h:ckL P C nt L pins E S ops draw ds E' (ov W S')=ckR (c (KAt P C nt L ops ds (lk E) (ls S))) E' (ov W S'):=by kernel_rfl):AW P C nt (.region id ops draw) E S Q:=
 AW.g Fm ds c E' (ov W S') hc h (Q6I E' S' (FE.refl _) (Y7T hW) k)
theorem W2O(Fm:Fr P L C pins){id:Nat}{ops:Array Oper}{draw:Bool}{y:Code}(ds:List Dir)(c:(Nat->Prop)->Prop)(E' : List (Nat×AVal))(S' : List (Nat×Obj))(hc:c (KAt P C nt L ops ds (lk E) (ls S)))(W:List (Nat×Obj))(hW:FW W S')(k:AW P C nt y E' S' Q)(h:ckL P C nt L pins E S ops draw ds E' (ov W S')=ckR (c (KAt P C nt L ops ds (lk E) (ls S))) E' (ov W S'):=by kernel_rfl):AW P C nt (.seq (.region id ops draw) y) E S Q:=
 W1m Fm ds c E' (ov W S') hc h (Q6I E' S' (FE.refl _) (Y7T hW) k)
theorem W1n(Fm:Fr P L C pins){id:Nat}{ops:Array Oper}{draw:Bool}(ds:List Dir)(E' : List (Nat×AVal))(S' : List (Nat×Obj)){q:Prop}(hc:q)(k:Kn C nt E' S' (Q .normal))(h:ckL P C nt L pins E S ops draw ds E' S'=ckR q E' S':=by kernel_rfl):AW P C nt (.region id ops draw) E S Q:=AW.g Fm ds (fun _=>q) E' S' hc h k
theorem W3Q(Fm:Fr P L C pins){id:Nat}{ops:Array Oper}{draw:Bool}{y:Code}(ds:List Dir)(E' : List (Nat×AVal))(S' : List (Nat×Obj)){q:Prop}(hc:q)(k:AW P C nt y E' S' Q)(h:ckL P C nt L pins E S ops draw ds E' S'=ckR q E' S':=by kernel_rfl):AW P C nt (.seq (.region id ops draw) y) E S Q:=W1m Fm ds (fun _=>q) E' S' hc h k
theorem W3O(Fm:Fr P L C pins){id:Nat}{ops:Array Oper}{draw:Bool}(ds:List Dir)(E' : List (Nat×AVal))(S' : List (Nat×Obj)){q:Prop}(hc:q)(W:List (Nat×Obj))(hW:FW W S')(k:Kn C nt E' S' (Q .normal))(h:ckL P C nt L pins E S ops draw ds E' (ov W S')=ckR q E' (ov W S'):=by kernel_rfl):AW P C nt (.region id ops draw) E S Q:=W1q Fm ds (fun _=>q) E' S' hc W hW k h
theorem W3P(Fm:Fr P L C pins){id:Nat}{ops:Array Oper}{draw:Bool}{y:Code}(ds:List Dir)(E' : List (Nat×AVal))(S' : List (Nat×Obj)){q:Prop}(hc:q)(W:List (Nat×Obj))(hW:FW W S')(k:AW P C nt y E' S' Q)(h:ckL P C nt L pins E S ops draw ds E' (ov W S')=ckR q E' (ov W S'):=by kernel_rfl):AW P C nt (.seq (.region id ops draw) y) E S Q:=W2O Fm ds (fun _=>q) E' S' hc W hW k h
theorem cT{p:Prop}(h:p):p/\True:=⟨h,True.intro⟩
theorem cA{p q:Prop}(h:p)(k:q):p/\q:=⟨h,k⟩
@[reducible] def lI {α:Type} (l:List α):Int:=((l.length:Nat):Int)
theorem Q1{t:Nat}{x y:Code}{b:Bool}{R:Type}{u v:Option R}{r:R}(h:br b u v=some r)(ht:b=true->u=some r->AW P C nt x E S Q)(hf:b=false->v=some r->AW P C nt y E S Q)(hb:lk E t=vb b:=by kernel_rfl):AW P C nt (.cond (.tmp t) x y) E S Q:=
 AW.cond hb (fun q=>ht q (W3W h q)) (fun q=>hf q (W3X h q))
theorem W3E{b:Bool}{R:Type}{u v:Option R}{r:R}(h:br b u v=some r):(b=true/\u=some r)\/(b=false/\v=some r):=by
 cases b
 .exact .inr ⟨rfl,h⟩
 .exact .inl ⟨rfl,h⟩
theorem gS{R:Type}{p:Prop}[Decidable p]{x:Option R}{r:R}(h:gd p x=some r):p/\x=some r:=Y8e h
theorem bS{α R:Type}{x:Option α}{f:α->Option R}{r:R}(h:x.bind f=some r):∃ z,x=some z/\f z=some r:=W2v h
theorem FI{f:Nat}{fn:Func}{c:Code}(hf:P.funcs[f]?=some fn)(hm:P.follows .mixedOrders=true)(hL:LOk P L){args:List AVal}{S:List (Nat×Obj)}{r:AVal}{S' : List (Nat×Obj)}(h:∀ C,Fr P L C (S.map (·.1))->AW P C fn.ntmps c (Y6A args) S (Y5P P fn C r S'))(hb:fn.body=some c:=by rfl)(hn0:Nat.ble args.length fn.ntmps=true:=by kernel_rfl):K7 P f args S r S':=K7.intro hm hL hf hb hn0 h
end
end
section
section
variable {P:Program} {C:Ctx} {nt:Nat} {L:Lay} {ops:Array Oper} {ds:List Dir} {e:Env} {s:Sto} {k:Nat}
end
end
section
open Go.MapKept
section
variable {P:Program} {C:Ctx} {nt:Nat} {L:Lay} {R:Nat->Prop} {η:Nat->Value} {e:Env} {s:Sto} {a:Act} {w:World}
variable {ops:Array Oper} {ds:List Dir} {k:Nat}
end
section
variable {P:Program} {C:Ctx} {nt:Nat} {L:Lay} {pins:List Nat} {E:List (Nat×AVal)} {S:List (Nat×Obj)} {Q:Exit->Act->World->Prop}
end
end
section
open Go.MapKept
section
variable {P:Program} {C:Ctx} {nt:Nat} {L:Lay} {ops:Array Oper} {ds:List Dir} {e:Env} {s:Sto} {k:Nat}
end
section
variable {P:Program} {C:Ctx} {nt:Nat} {K:Act->World->Prop}
end
end
section
section
variable {P:Program} {C:Ctx} {nt:Nat} {L:Lay} {ops:Array Oper} {ds:List Dir} {e:Env} {s:Sto} {k:Nat}
end
end
section
section
variable {P:Program} {C:Ctx} {nt:Nat} {L:Lay} {ops:Array Oper} {ds:List Dir} {e:Env} {s:Sto}
end
end
section
def bOf(m:Int):ByteArray:=ByteArray.empty.push (UInt8.ofNat m.toNat)
section
variable {P:Program} {C:Ctx} {nt:Nat} {L:Lay} {ops:Array Oper} {ds:List Dir} {e:Env} {s:Sto}
theorem Z9V{k:Nat}{t t' : TypeId}{x y:Operand}{a b:ByteArray}(hk:Q1V ds k=sE (.v (.c (.d (.str (a++b))))))(hop:(Y9 ops.toList k).op=.binOp .add t x y t')(hb:Y2T ops nt (V5 L ops ops.toList ds e s k) (Y9 ops.toList k) x y=true)(hx:aev (V5 L ops ops.toList ds e s k) x=.v (.c (.d (.str a))))(hy:aev (V5 L ops ops.toList ds e s k) y=.v (.c (.d (.str b))))(hc:a.size+b.size<=LIM):KAt P C nt L ops ds e s k:=by
 unfold KAt;rw [hk]
 simp only [Y2T,Bool.and_eq_true,beq_iff_eq] at hb;obtain ⟨⟨⟨n,l⟩,q⟩,m⟩:=hb
 refine Z1H rfl q m fun R η z r u w f g=>?_
 have i:=(W8 g x).1;rw [K4 f n,hx] at i
 have i:=Z4n i;have h:=(W8 g y).1
 rw [K4 f l,hy] at h;have h:=Z4n h
 have j:¬ (((a.size+b.size:Nat):Int) > IntKind.i64.max):=by
  have:IntKind.i64.max=9223372036854775807:=rfl
  rw [this];unfold LIM at hc;omega
 refine ⟨.string (a++b),?_,.v _ _ (.c _ _ (.d _ _ (.str _)))⟩;have o:(eqGuard .add t x y (.string a) (.string b)).run P w=.ok () w:=Z4V _ _ _ _ _ _ _
 have p:(binOp .add t (.string a) (.string b)).run P w=.ok (.string (a++b)) w:=by
  show (Op.stringOp .add a b).run P w=_;simp only [Op.stringOp]
  rw [if_neg j];rfl
 simp only [execOp,hop,Sem.run_bind,i,h,o,p,Result.andThen_ok,Sem.run_pure]
theorem Y1Z{k:Nat}{src dst el:TypeId}(hs:P.underlying src=some (.slice el))(he:P.underlying el=some (.int .u8))(hd:P.underlying dst=some .string){x:Operand}{m:Int}(hk:Q1V ds k=sE (.v (.c (.d (.str (bOf m))))))(hop:(Y9 ops.toList k).op=.convert src dst x)(hb:Y2T ops nt (V5 L ops ops.toList ds e s k) (Y9 ops.toList k) x x=true)(hx:aev (V5 L ops ops.toList ds e s k) x=.v (.c (.d (.lst 1 (Z0F 1 [.int .u8 m]))))):KAt P C nt L ops ds e s k:=by
 unfold KAt;rw [hk]
 simp only [Y2T,Bool.and_eq_true,beq_iff_eq] at hb;obtain ⟨⟨⟨B,I⟩,G⟩,r⟩:=hb
 refine Z1H rfl G r fun R η p J D w l o=>?_
 have g:=(W8 o x).1;rw [K4 l B,hx] at g
 generalize hu:D.eval x=u at g
 cases g with|v _ _ g=>cases g with|c _ _ g=>cases g with|d _ _ g=>
 cases g with|lst b off n cap c e' fz f es hX hheap hn ho hf hd' =>
 have t:=hf 0 (by omega);have i:es=1:=by rw [<-t];rfl
 subst i;have h:=hd' 0 0 (by omega) (by omega)
 have z:c.getD off undef=.int .u8 m:=by
  have p:off+(0*1+0)=off:=by omega
  rw [p] at h;have A:(Z0F 1 [DVal.int .u8 m] 0).getD 0 .any=.int .u8 m:=rfl
  rw [A] at h;generalize c.getD off undef=u at h ⊢
  cases h;rfl
 have q:=run_loadCells (P:=P) w ⟨b,off,none⟩ 1 (fun j=>c.getD (off+j) undef) (fun j H=>by rw [add_lit];exact Z9O hheap _ (by omega));refine ⟨.string (bOf m),?_,.v _ _ (.c _ _ (.d _ _ (.str _)))⟩
 have F:c[off]?.getD undef=.int .u8 m:=by rw [<-z];simp
 simp [execOp,hop,hu,convert,run_underlying hs,run_underlying hd,run_underlying he,Conv.bytesToString,q,F,bOf]
end
end
section
def eK(ks:List Nat)(E:List (Nat×AVal))(n:List (Nat×AVal)):List (Nat×AVal):=ks.map (fun t=>(t,lk E t))++n
def sK(ks:List Nat)(S:List (Nat×Obj))(n:List (Nat×Obj)):List (Nat×Obj):=ks.map (fun i=>(i,(ls S i).getD (.box false [])))++n
section
variable {P:Program} {C:Ctx} {nt:Nat} {L:Lay} {pins:List Nat} {E:List (Nat×AVal)} {S:List (Nat×Obj)} {Q:Exit->Act->World->Prop}
variable {id:Nat} {ops:Array Oper} {draw:Bool} {y:Code}
theorem Q9(Fm:Fr P L C pins)(ds:List Dir)(c:(Nat->Prop)->Prop)(kE:List Nat)(nE:List (Nat×AVal))(kS:List Nat)(nS:List (Nat×Obj))(hc:c (KAt P C nt L ops ds (lk E) (ls S)))(k:Kn C nt (eK kE E nE) (sK kS S nS) (Q .normal))(h:ckL P C nt L pins E S ops draw ds (eK kE E nE) (sK kS S nS)=ckR (c (KAt P C nt L ops ds (lk E) (ls S))) (eK kE E nE) (sK kS S nS):=by kernel_rfl):AW P C nt (.region id ops draw) E S Q:=AW.g Fm ds c _ _ hc h k
theorem Q1Q(Fm:Fr P L C pins)(ds:List Dir)(c:(Nat->Prop)->Prop)(kE:List Nat)(nE:List (Nat×AVal))(kS:List Nat)(nS:List (Nat×Obj))(hc:c (KAt P C nt L ops ds (lk E) (ls S)))(k:AW P C nt y (eK kE E nE) (sK kS S nS) Q)(h:ckL P C nt L pins E S ops draw ds (eK kE E nE) (sK kS S nS)=ckR (c (KAt P C nt L ops ds (lk E) (ls S))) (eK kE E nE) (sK kS S nS):=by kernel_rfl):AW P C nt (.seq (.region id ops draw) y) E S Q:=W1m Fm ds c _ _ hc h k
theorem Q8z(Fm:Fr P L C pins)(n:Nat)(kE:List Nat)(nE:List (Nat×AVal))(kS:List Nat)(nS:List (Nat×Obj))(k:Kn C nt (eK kE E nE) (sK kS S nS) (Q .normal))(h:ckL P C nt L pins E S ops draw (ss n) (eK kE E nE) (sK kS S nS)=ckR True (eK kE E nE) (sK kS S nS):=by kernel_rfl):AW P C nt (.region id ops draw) E S Q:=W2N Fm n _ _ h k
theorem Q0(Fm:Fr P L C pins)(n:Nat)(kE:List Nat)(nE:List (Nat×AVal))(kS:List Nat)(nS:List (Nat×Obj))(k:AW P C nt y (eK kE E nE) (sK kS S nS) Q)(h:ckL P C nt L pins E S ops draw (ss n) (eK kE E nE) (sK kS S nS)=ckR True (eK kE E nE) (sK kS S nS):=by kernel_rfl):AW P C nt (.seq (.region id ops draw) y) E S Q:=W1l Fm n _ _ h k
theorem Z0M(Fm:Fr P L C pins)(ds:List Dir)(c:(Nat->Prop)->Prop)(kE:List Nat)(nE:List (Nat×AVal))(kS:List Nat)(nS:List (Nat×Obj))(hc:c (KAt P C nt L ops ds (lk E) (ls S)))(W:List (Nat×Obj))(hW:FW W (sK kS S nS))(k:Kn C nt (eK kE E nE) (sK kS S nS) (Q .normal))(h:ckL P C nt L pins E S ops draw ds (eK kE E nE) (ov W (sK kS S nS))=ckR (c (KAt P C nt L ops ds (lk E) (ls S))) (eK kE E nE) (ov W (sK kS S nS)):=by kernel_rfl):AW P C nt (.region id ops draw) E S Q:=W1q Fm ds c _ _ hc W hW k h
theorem G7(Fm:Fr P L C pins)(ds:List Dir)(c:(Nat->Prop)->Prop)(kE:List Nat)(nE:List (Nat×AVal))(kS:List Nat)(nS:List (Nat×Obj))(hc:c (KAt P C nt L ops ds (lk E) (ls S)))(W:List (Nat×Obj))(hW:FW W (sK kS S nS))(k:AW P C nt y (eK kE E nE) (sK kS S nS) Q)(h:ckL P C nt L pins E S ops draw ds (eK kE E nE) (ov W (sK kS S nS))=ckR (c (KAt P C nt L ops ds (lk E) (ls S))) (eK kE E nE) (ov W (sK kS S nS)):=by kernel_rfl):AW P C nt (.seq (.region id ops draw) y) E S Q:=W2O Fm ds c _ _ hc W hW k h
theorem G6(Fm:Fr P L C pins)(ds:List Dir)(kE:List Nat)(nE:List (Nat×AVal))(kS:List Nat)(nS:List (Nat×Obj)){q:Prop}(hc:q)(k:Kn C nt (eK kE E nE) (sK kS S nS) (Q .normal))(h:ckL P C nt L pins E S ops draw ds (eK kE E nE) (sK kS S nS)=ckR q (eK kE E nE) (sK kS S nS):=by kernel_rfl):AW P C nt (.region id ops draw) E S Q:=W1n Fm ds _ _ hc k h
theorem Z5(Fm:Fr P L C pins)(ds:List Dir)(kE:List Nat)(nE:List (Nat×AVal))(kS:List Nat)(nS:List (Nat×Obj)){q:Prop}(hc:q)(k:AW P C nt y (eK kE E nE) (sK kS S nS) Q)(h:ckL P C nt L pins E S ops draw ds (eK kE E nE) (sK kS S nS)=ckR q (eK kE E nE) (sK kS S nS):=by kernel_rfl):AW P C nt (.seq (.region id ops draw) y) E S Q:=W3Q Fm ds _ _ hc k h
theorem Q1w(Fm:Fr P L C pins)(ds:List Dir)(kE:List Nat)(nE:List (Nat×AVal))(kS:List Nat)(nS:List (Nat×Obj)){q:Prop}(hc:q)(W:List (Nat×Obj))(hW:FW W (sK kS S nS))(k:Kn C nt (eK kE E nE) (sK kS S nS) (Q .normal))(h:ckL P C nt L pins E S ops draw ds (eK kE E nE) (ov W (sK kS S nS))=ckR q (eK kE E nE) (ov W (sK kS S nS)):=by kernel_rfl):AW P C nt (.region id ops draw) E S Q:=W3O Fm ds _ _ hc W hW k h
theorem Q9t(Fm:Fr P L C pins)(ds:List Dir)(kE:List Nat)(nE:List (Nat×AVal))(kS:List Nat)(nS:List (Nat×Obj)){q:Prop}(hc:q)(W:List (Nat×Obj))(hW:FW W (sK kS S nS))(k:AW P C nt y (eK kE E nE) (sK kS S nS) Q)(h:ckL P C nt L pins E S ops draw ds (eK kE E nE) (ov W (sK kS S nS))=ckR q (eK kE E nE) (ov W (sK kS S nS)):=by kernel_rfl):AW P C nt (.seq (.region id ops draw) y) E S Q:=W3P Fm ds _ _ hc W hW k h
theorem W3N{x y:Code}(k:AW P C nt y E S Q):AW P C nt (.cond (.const (.bool false)) x y) E S Q:=fun R η a w b=>wp_cond_false rfl (k R η a w b)
end
theorem eI{k:IntKind}{e v:Int}(h:some e=some v):ALe (.v (.c (.d (.int k e)))) (.v (.c (.d (.int k v)))):=by cases h;exact ALe.refl _
section
variable {α:Type} [Emb α]
def rSt(l:List α)(i off:Nat)(ds:List DVal):Obj:=.arr (Emb.es α) l.length fun j=>if j=i then Q4E (LF l i) off ds else LF l j
def rAp(l m:List α):Obj:=.arr (Emb.es α) (l.length+m.length) (Q5L l.length (LF l) (LF m))
def rA0(m:List α):Obj:=.arr (Emb.es α) (0+m.length) (Q5L 0 (fun _=>[]) (LF m))
theorem oSt{l:List α}{i off:Nat}{ds:List DVal}{y:α}(hi:i<l.length)(hy:Q4E (LF l i) off ds=Emb.cells y:=by kernel_rfl):OLe (rSt l i off ds) (AO (l.set i y)):=OLe.is (Is.set (Is.refl l) hi y hy)
theorem oAp{l m:List α}:OLe (rAp l m) (AO (l++m)):=OLe.is (Is.app (Is.refl l) (Is.refl m))
theorem oA0{m:List α}:OLe (rA0 m) (AO ([]++m)):=OLe.is (Is.app Is.nil (Is.refl m))
theorem lfl(l:List α):∀ j,j<l.length->(LF l j).length=Emb.es α:=(Is.refl l).len
theorem Q7k(x:α):ALe (.v (.c (.d (.lst 1 (Z0F (Emb.es α) (Emb.cells x)))))) (AL [x]):=ALe.lst (.lit [x] (by
 show [Z0F (Emb.es α) (Emb.cells x) 0]=[Emb.cells x];unfold Z0F
 have:=Emb.len x
 rw [Nat.zero_mul,List.drop_zero,List.take_of_length_le (by omega)]))
end
end
section
section
variable {P:Program} {C:Ctx} {nt:Nat} {L:Lay} {ops:Array Oper} {ds:List Dir} {e:Env} {s:Sto}
theorem W1h{k:Nat}{x y z:Operand}{tys:Array TypeId}{a b c:Int}(hk:Q1V ds k=sE (vi (G2 (G2 a b) c)))(hop:(Y9 ops.toList k).op=.call { callee:=.builtin .max,args:= #[x,y,z],argTypes:=tys })(hb:Y2T ops nt (V5 L ops ops.toList ds e s k) (Y9 ops.toList k) x y=true)(hb2:Y2T ops nt (V5 L ops ops.toList ds e s k) (Y9 ops.toList k) z z=true)(hx:aev (V5 L ops ops.toList ds e s k) x=vi a)(hy:aev (V5 L ops ops.toList ds e s k) y=vi b)(hz:aev (V5 L ops ops.toList ds e s k) z=vi c):KAt P C nt L ops ds e s k:=by
 unfold KAt;rw [hk]
 simp only [Y2T,Bool.and_eq_true,beq_iff_eq] at hb hb2;obtain ⟨⟨⟨m,j⟩,o⟩,l⟩:=hb
 obtain ⟨⟨⟨n,_⟩,_⟩,_⟩:=hb2;refine Z1H rfl o l fun R η r p q w d f=>?_
 have i:=(W8 f x).1;rw [K4 d m,hx] at i
 have i:=Q6b i;have h:=(W8 f y).1
 rw [K4 d j,hy] at h;have h:=Q6b h
 have g:=(W8 f z).1;rw [K4 d n,hz] at g
 have g:=Q6b g;refine ⟨.int .i64 (G2 (G2 a b) c),?_,Q5e _ _ _⟩
 simp [execOp,hop,resolve,invoke,builtin,Builtin.max_,Builtin.max2,i,h,g,G2]
 rfl
end
section
variable {P:Program} {C:Ctx} {nt:Nat} {E:List (Nat×AVal)} {S:List (Nat×Obj)} {Q:Exit->Act->World->Prop}
theorem AW.rounds{c:Code}(n:Nat)(h:AW P C nt c E S (Exit.then (fun a w=>Code.rounds P c Q n a w) Q)):AW P C nt (.loop c) E S Q:=fun R η a w b=>wp_loop_rounds (n+1) (h R η a w b)
theorem Y3F{c:Code}{n:Nat}(h:AW P C nt c E S (Exit.then (fun a w=>Code.rounds P c Q n a w) Q)):Kn C nt E S (fun a w=>Code.rounds P c Q (n+1) a w):=fun R η a w b=>h R η a w b
end
end
section
@[reducible] def gn {α:Type} [Emb α] (l:List α) (i:Int):α:=gl l i.toNat
@[reducible] def jb (t:Nat) (z:Bool):List (Nat×AVal):=[(t,vb z)]
@[reducible] def nn {σ β:Type}:σ->List β:=fun _=>[]
@[reducible] def f0:CV:=.fl 0 fun _=>[]
def oD(a b:Nat)(e:Array Oper->Oper->Env->Eff):List Dir:=List.replicate a .s++.k e::List.replicate b .s
@[reducible] def k1 (i:Nat) (K:Nat->Prop):Prop:=K i/\True
@[reducible] def k2 (i j:Nat) (K:Nat->Prop):Prop:=K i/\K j/\True
theorem gO{p q:Prop}[Decidable p]{R:Type}{x:Option R}{r:R}(h:gd p x=some r)(k:p->x=some r->q):q:=k (gS h).1 (gS h).2
theorem bO{α R:Type}{x:Option α}{f:α->Option R}{r:R}{q:Prop}(h:x.bind f=some r)(k:∀ z,x=some z->f z=some r->q):q:=(bS h).elim fun z e=>k z e.1 e.2
theorem brO{b:Bool}{R:Type}{u v:Option R}{r:R}{q:Prop}(h:br b u v=some r)(ht:b=true->u=some r->q)(hf:b=false->v=some r->q):q:=(W3E h).elim (fun e=>ht e.1 e.2) fun e=>hf e.1 e.2
section
variable {P:Program} {C:Ctx} {nt:Nat} {L:Lay} {pins:List Nat} {E:List (Nat×AVal)} {S:List (Nat×Obj)} {Q:Exit->Act->World->Prop}
theorem W3(Fm:Fr P L C pins){fn:Func}{R:Type}{a r:R}(h:some a=some r){g:R->AVal}{G:R->List (Nat×Obj)}(hQ:Q .ret=Y5P P fn C (g r) (G r) .ret:=by rfl)(hq:(Y6Z L (lk E) (ls S) fn.results.toList,(G a).map (fun p=>ls S p.1))=(some (g a),(G a).map (fun p=>some p.2)):=by kernel_rfl):AW P C nt .ret E S Q:=by
 cases h
 exact AW.ret (hQ ▸ Q3p Fm hq)
theorem Y1n{σ R:Type}{r:R}{c:Code}{body:(σ->Option R)->σ->Option R}{n:Nat}{z0:σ}(h:Z2 body n z0=some r)(E' : σ->List (Nat×AVal))(S' : σ->List (Nat×Obj))(round:∀ (again:σ->Option R) (z:σ) (J:Act->World->Prop),(∀ z',again z'=some r->Kn C nt (E' z') (S' z') J)->body again z=some r->AW P C nt c (E' z) (S' z) (Exit.then J Q)):AW P C nt (.loop c) (E' z0) (S' z0) Q:=W1p E' S' round h
theorem Q4{σ R:Type}(r:R){x y:Code}(f:σ->Option R)(kE:List Nat)(nE:σ->List (Nat×AVal))(kS:List Nat)(nS:σ->List (Nat×Obj))(hy:∀ z,f z=some r->AW P C nt y (eK kE E (nE z)) (sK kS S (nS z)) Q)(hx:∀ J:Act->World->Prop,(∀ z,f z=some r->Kn C nt (eK kE E (nE z)) (sK kS S (nS z)) J)->AW P C nt x E S (Exit.then J Q)):AW P C nt (.seq x y) E S Q:=Y8B f _ _ hy hx
variable {K:Act->World->Prop}
theorem Kn.w(Fm:Fr P L C pins)(E' : List (Nat×AVal))(S' : List (Nat×Obj))(h:Kn C nt E' S' K)(hq:(pins.all (fun i=>J6 [] i==i),E'.map (fun p=>lk E p.1),S'.map (fun p=>ls S (J6 [] p.1)),Q3h (S'.map fun p=>J6 [] p.1))=(true,E'.map (fun p=>p.2.ren (J6 [])),S'.map (fun p=>some (p.2.ren (J6 []))),true):=by kernel_rfl):Kn C nt E S K:=W3p Fm E' S' hq h
theorem Q1b{k es n:Nat}{f:Nat->List DVal}(E' : List (Nat×AVal))(S' : List (Nat×Obj))(h:Kn C nt E' S' K)(hq:(E.map (fun p=>(p.1,p.2.frz k n f)),S.map (fun p=>(p.1,p.2.frz k n f)),(S.map (·.1)).contains k)=(E',S',false):=by kernel_rfl):Kn C nt E ((k,.arr es n f)::S) K:=Kn.frz E' S' (congrArg (·.1) hq) (congrArg (·.2.1) hq) (congrArg (·.2.2) hq) h
theorem Q2X(Fm:Fr P L C pins)(ρ:List (Nat×Nat))(E' : List (Nat×AVal))(S' : List (Nat×Obj))(h:Kn C nt E' S' K)(hq:(pins.all (fun i=>J6 ρ i==i),E'.map (fun p=>lk E p.1),S'.map (fun p=>ls S (J6 ρ p.1)),Q3h (S'.map fun p=>J6 ρ p.1))=(true,E'.map (fun p=>p.2.ren (J6 ρ)),S'.map (fun p=>some (p.2.ren (J6 ρ))),true):=by kernel_rfl):Kn C nt E S K:=
 Kn.re Fm ρ E' S' (congrArg (·.1) hq) (congrArg (·.2.1) hq) (congrArg (·.2.2.1) hq) (congrArg (·.2.2.2) hq) h
abbrev rnL(pins:List Nat)(E:List (Nat×AVal))(S:List (Nat×Obj))(E' : List (Nat×AVal))(S' : List (Nat×Obj)):Bool×List AVal×List (Option Obj)×Bool:=(pins.all (fun i=>J6 [] i==i),E'.map (fun p=>lk E p.1),S'.map (fun p=>ls S (J6 [] p.1)),Q3h (S'.map fun p=>J6 [] p.1))
abbrev rnR(E' : List (Nat×AVal))(S' : List (Nat×Obj)):Bool×List AVal×List (Option Obj)×Bool:=(true,E'.map (fun p=>p.2.ren (J6 [])),S'.map (fun p=>some (p.2.ren (J6 []))),true)
theorem W6(Fm:Fr P L C pins){σ R:Type}{r:R}{c:Code}{body:(σ->Option R)->σ->Option R}{n:Nat}{z0:σ}(h:Z2 body n z0=some r)(E' : σ->List (Nat×AVal))(S' : σ->List (Nat×Obj))(round:∀ (again:σ->Option R) (z:σ) (J:Act->World->Prop),(∀ z',again z'=some r->Kn C nt (E' z') (S' z') J)->body again z=some r->AW P C nt c (E' z) (S' z) (Exit.then J Q))(hq:rnL pins E S (E' z0) (S' z0)=rnR (E' z0) (S' z0):=by kernel_rfl):AW P C nt (.loop c) E S Q:=W3p Fm (E' z0) (S' z0) hq (Y1n h E' S' round)
section
variable {id:Nat} {ops:Array Oper} {draw:Bool} {y:Code}
theorem Y5(Fm:Fr P L C pins)(n:Nat)(kE:List Nat)(nE:List (Nat×AVal))(k:AW P C nt y (eK kE E nE) (sK [] S []) Q)(h:ckL P C nt L pins E S ops draw (ss n) (eK kE E nE) (sK [] S [])=ckR True (eK kE E nE) (sK [] S []):=by kernel_rfl):AW P C nt (.seq (.region id ops draw) y) E S Q:=Q0 Fm n kE nE [] [] k h
theorem Y7(Fm:Fr P L C pins)(n:Nat)(nE:List (Nat×AVal)){fn:Func}{R:Type}{a r:R}(h:some a=some r){g:R->AVal}{G:R->List (Nat×Obj)}(hQ:Q .ret=Y5P P fn C (g r) (G r) .ret:=by rfl)(h1:ckL P C nt L pins E S ops draw (ss n) (eK [] E nE) (sK [] S [])=ckR True (eK [] E nE) (sK [] S []):=by kernel_rfl)(hq:(Y6Z L (lk (eK [] E nE)) (ls (sK [] S [])) fn.results.toList,(G a).map (fun p=>ls (sK [] S []) p.1))=(some (g a),(G a).map (fun p=>some p.2)):=by kernel_rfl):AW P C nt (.seq (.region id ops draw) .ret) E S Q:=Q0 Fm n [] nE [] [] (W3 Fm h hQ hq) h1
theorem Y3(Fm:Fr P L C pins)(a b:Nat)(kE:List Nat)(nE:List (Nat×AVal))(kS:List Nat)(nS:List (Nat×Obj)){f:Nat}{args:List AVal}{Si:List (Nat×Obj)}{r:AVal}{So:List (Nat×Obj)}(hs:K7 P f args Si r So)(hc:∀ args w,(callFunc f args).run P w=.ok (.enter f args) w)(m:List (Nat×Nat))(k:Kn C nt (eK kE E nE) (sK kS S nS) (Q .normal))(hk:Q1V (oD a b (cE m [] r Si So)) a=cE m [] r Si So:=by rfl)(hq:(Go.Ab.callB ops nt (V5 L ops ops.toList (oD a b (cE m [] r Si So)) (lk E) (ls S) a) (Y9 ops.toList a) f m r Si So,Si.map (fun p=>Q2s L ops ops.toList (oD a b (cE m [] r Si So)) (lk E) (ls S) a (J6 m p.1)),
   (Go.Ab.callXs (Y9 ops.toList a)).toList.all (Q5E (Q0l (Y9 ops.toList a)++U4 ops (Y9 ops.toList a)))&&args.all AVal.noSem,(Go.Ab.callXs (Y9 ops.toList a)).toList.map (aev (V5 L ops ops.toList (oD a b (cE m [] r Si So)) (lk E) (ls S) a)))=(true,Si.map (fun p=>some (p.2.ren (J6 m))),true,args.map (AVal.ren (J6 m))):=by kernel_rfl)(h:ckL P C nt L pins E S ops draw (oD a b (cE m [] r Si So)) (eK kE E nE) (sK kS S nS)=ckR (KAt P C nt L ops (oD a b (cE m [] r Si So)) (lk E) (ls S) a/\True) (eK kE E nE) (sK kS S nS):=by kernel_rfl):AW P C nt (.region id ops draw) E S Q:=Q9 Fm _ (k1 a) kE nE kS nS ⟨Q3 hs hc m hk hq,True.intro⟩ k h
variable {E2:List (Nat×AVal)} {S2:List (Nat×Obj)}
theorem Y6(Fm:Fr P L C pins)(ds:List Dir)(kE:List Nat)(nE:List (Nat×AVal))(kS:List Nat){q:Prop}(hc:q)(k:Kn C nt E2 S2 (Q .normal))(h:ckL P C nt L pins E S ops draw ds (eK kE E nE) (sK kS S [])=ckR q (eK kE E nE) (sK kS S []):=by kernel_rfl)(hq:rnL pins (eK kE E nE) (sK kS S []) E2 S2=rnR E2 S2:=by kernel_rfl):AW P C nt (.region id ops draw) E S Q:=G6 Fm ds kE nE kS [] hc (Kn.R Fm k hq) h
theorem Y2(Fm:Fr P L C pins)(ds:List Dir)(kE:List Nat)(t:Nat)(v:Bool)(kS:List Nat){b c:Bool}(e:b=c)(k:Kn C nt E2 S2 (Q .normal))(h:ckL P C nt L pins E S ops draw ds (eK kE E [(t,vb v)]) (sK kS S [])=ckR (ALe (vb b) (vb c)/\True) (eK kE E [(t,vb v)]) (sK kS S []):=by kernel_rfl)(hq:rnL pins (eK kE E [(t,vb v)]) (sK kS S []) E2 S2=rnR E2 S2:=by kernel_rfl):AW P C nt (.region id ops draw) E S Q:=Y6 Fm ds kE [(t,vb v)] kS (Go.Ab.cT (ALe.bool e)) k h hq
theorem AW.nx(Fm:Fr P L C pins){e:Int}{R:Type}{x:Option R}{r:R}(g:gd (I64 (e+1)) x=some r)(kE:List Nat)(t:Nat)(kS:List Nat)(k:x=some r->Kn C nt E2 S2 (Q .normal))(h:ckL P C nt L pins E S ops draw [.s,.s] (eK kE E [(t,vi (e+1))]) (sK kS S [])=ckR ((I64 (e+1)/\True)/\True) (eK kE E [(t,vi (e+1))]) (sK kS S []):=by kernel_rfl)(hq:rnL pins (eK kE E [(t,vi (e+1))]) (sK kS S []) E2 S2=rnR E2 S2:=by kernel_rfl):AW P C nt (.region id ops draw) E S Q:=Y6 Fm [.s,.s] kE [(t,vi (e+1))] kS (Go.Ab.cT (Go.Ab.cT (gS g).1)) (k (gS g).2) h hq
end
end
section
variable {P:Program} {C:Ctx} {nt:Nat} {L:Lay} {ops:Array Oper} {ds:List Dir} {e:Env} {s:Sto}
theorem KAt.cX{k:Nat}{f:Nat}{args:List AVal}{Si:List (Nat×Obj)}{r:AVal}{So:List (Nat×Obj)}(hspec:K7 P f args Si r So)(hcall:∀ args w,(callFunc f args).run P w=.ok (.enter f args) w)(m:List (Nat×Nat))(extra:List Nat)(xs:List Operand)(hargs:Z6P C nt (V5 L ops ops.toList ds e s k) (Q2s L ops ops.toList ds e s k) Si (J6 m) (Q0l (Y9 ops.toList k)++U4 ops (Y9 ops.toList k)) (Z2T (V5 L ops ops.toList ds e s k) (Y9 ops.toList k)++(Si.map (fun p=>J6 m p.1)++extra)) xs args)(hk:Q1V ds k=cE m extra r Si So:=by rfl)(hq:(Go.Ab.callB ops nt (V5 L ops ops.toList ds e s k) (Y9 ops.toList k) f m r Si So,Si.map (fun p=>Q2s L ops ops.toList ds e s k (J6 m p.1)),(Go.Ab.callXs (Y9 ops.toList k)).toList)=(true,Si.map (fun p=>some (p.2.ren (J6 m))),xs):=by kernel_rfl):KAt P C nt L ops ds e s k:=
 Y9p hspec hcall m extra xs hk (congrArg (·.1) hq) (congrArg (·.2.1) hq) (congrArg (·.2.2) hq) hargs
theorem Q0i.cX{f:Nat}(hcall:∀ args w,(callFunc f args).run P w=.ok (.enter f args) w){F:List AVal->AVal->Prop}(cs:List (List CV))(hspec:∀ args r,F args r->K7 P f (args++Z8P cs) (Z0g cs) r (Z0g cs)/\r.closed=true){Si:List (Nat×Obj)}{m:Nat->Nat}{rd ids:List Nat}{x:Operand}(cids:List Nat)(hbox:W0S s cids cs)(hx:Q5E rd x=true:=by kernel_rfl)(hv:aev e x=.v (.c (.clo f cids)):=by kernel_rfl)(hnd:(Q3h cids&&cs.all (fun c=>c.all CV.closed)&&cids.all (fun i=>ids.contains i))=true:=by kernel_rfl)(hsi:siB s Si m ids cids=true:=by kernel_rfl):Q0i C nt e s Si m rd ids x (Z5z P F):=Q0i.cloX hcall cs (fun a r h=>(hspec a r h).1) (fun a r h=>(hspec a r h).2) hx cids hv hnd hbox hsi
end
end
end
end Go.Ab
