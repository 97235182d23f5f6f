/- Two functions walked at the one input that the example gives them. -/
import Derived.Test.YtdmkoclpbbcapaaGreatDoorBaA
import Derived.WalkKit
import Derived.LoopN
import Derived.Test.YtdmkoclpbbcapaaGreatDoorSpA
import Derived.Test.YtdmkoclpbbcapaaGreatDoorSpB
import Derived.Test.YtdmkoclpbbcapaaGreatDoorProg
import Derived.Lib.Strings
import Derived.Lib.Slices
import Derived.Lib.Walk
import Derived.Lib.Bytealg
import Derived.StillTactics
import Derived.Deep.RegionHeld3
import Derived.Deep.RegionLaw
import Derived.Lib.Hide
import Derived.Handy
import Derived.Laws.RangeString
import Derived.Laws.RangeAny
import Derived.LoopTactic
import Derived.FnLit
import Derived.RangeFuncNested
import Derived.RangeFuncBound
import Derived.RangeFuncCalls
import Derived.RangeFuncLeaves
import Derived.RangeFuncGives
import Derived.Shelf.Abstract
import Derived.Shelf.RegionOpen
import Derived.OwnWalkIn
import Derived.TacticsInMore
import Derived.LoopNIn
import Derived.LoopIn
import Derived.Maps.AppendAt
import Derived.Test.YtdmkoclpbbcapaaGreatDoorAbA
import Derived.Maps.Own
import Derived.Shelf.RegionOpenPlain
import Derived.Lib.BitFns
import Derived.Test.YtdmkoclpbbcapaaGreatDoorAbI
set_option linter.unusedVariables false
set_option linter.unusedSimpArgs false
section
namespace Go.Ab
open Go.Proofs Go.RowKit
set_option maxRecDepth 100000
theorem XD{P:Program}{c:Code}{Q:Exit->Act->Go.World->Prop}(I:Nat->Act->Go.World->Prop)(h:∀m a w,I m a w->c.wp P (Exit.then (λa w=>∃k,m=k+1/\I k a w) Q) a w)(n:Nat)(a:Act)(w:Go.World)(h0:I n a w):(Code.loop c).wp P Q a w:=by
 refine wp_loop_rounds (n+1) ?_
 induction n generalizing a w with
 |zero=>
  refine Qm7 (h 0 a w h0) λe f g b=>?_
  cases e with
  |normal=>obtain⟨k,d,_⟩:=b;cases d
  |_=>exact b
 |succ n ih=>
  refine Qm7 (h (n+1) a w h0) λe f g b=>?_
  cases e with
  |normal=>obtain⟨k,d,i⟩:=b;cases d;exact ih f g i
  |_=>exact b
def Mg(d:List DVal):Prop:=∀j,j<d.length->∃k m,d.getD j .any=.int k m
theorem WX{W:Go.World}{X:Nat->Prop}{v:Value}{k:IntKind}{m:Int}(h:DRep W X v (.int k m)):v=.int k m:=by cases h;rfl
structure Cut0 (W:Go.World) (B q:Nat) (D:Array Value) (T:TypeId):Prop where
 at_:W.heap[B]?=some (.cells D T (0,0))
 me:∃ad n c,D.getD q undef=.slice ad n c
structure Cut (W:Go.World) (B q:Nat) (D:Array Value) (T:TypeId):Prop extends Cut0 W B q D T where
 lo:1<=q/\∃m,D.getD (q-1) undef=.int .i64 m
 hi:∃m,D.getD (q+1) undef=.int .i64 m
section
variable {W:Go.World} {X:Nat->Prop} {B q:Nat} {D:Array Value} {T:TypeId}
theorem Cut0.same(_:Cut0 W B q D T)(r:Value){b:Nat}(hb:b≠B):(W.setCell ⟨B,q,none⟩ r).heap[b]?=W.heap[b]?:=by
 simp only[Go.World.setCell,Qe2];rw[Qa1 (λe=>hb e.symm)]
theorem Cut0.new(h:Cut0 W B q D T)(r:Value):(W.setCell ⟨B,q,none⟩ r).heap[B]?=some (.cells (D.setIfInBounds q r) T (0,0)):=by
 simp only[Go.World.setCell,Qe2];rw[Qa2 trivial,h.at_];rfl
theorem UA{c:Array Value}{i j:Nat}{r:Value}(h:i≠j):(c.setIfInBounds i r).getD j undef=c.getD j undef:=by
 simp only[Qd4,Qj7];rw[Qa1 h]
theorem Cut0.keep(h:Cut0 W B q D T)(r:Value){v:Value}{n:Nat}{f:Nat->List DVal}(hv:DRep W X v (.lst n f))(hf:∀i,i<n->Mg (f i)):DRep (W.setCell ⟨B,q,none⟩ r) X v (.lst n f):=by
 cases hv with
 |nil=>exact .nil _ _ _
 |lst b off _ cap c e fz _ es h1 h2 h3 h4 h5 h6=>
  have a:∀i j,i<n->j<es->∃k m,(f i).getD j .any=.int k m/\c.getD (off+(i*es+j)) undef=.int k m:=λi j d l=>by
   obtain⟨k,m,g⟩:=hf i d j (by rw[h5 i d];exact l);have s:=h6 i j d l
   rw[g]at s;exact⟨k,m,g,WX s⟩
  by_cases hb:b=B
  .subst hb
   rw[h.at_]at h2;cases h2
   refine .lst b off n cap _ _ _ f es h1 (h.new r) h3 (by simpa using h4) h5 λi j d l=>?_
   obtain⟨k,m,g,o⟩:=a i j d l;obtain⟨x,w,u,t⟩:=h.me
   have p:q≠off+(i*es+j):=λe=>by
    rw[<-e,t]at o;cases o
   rw[UA p,g,o];exact .int _ _
  .refine .lst b off n cap c e fz f es h1 ((h.same r hb).trans h2) h3 h4 h5 λi j d l=>?_
   obtain⟨k,m,g,o⟩:=a i j d l;rw[g,o]
   exact .int _ _
theorem Q1n(l:List Rect):∀i,Mg (LF l i):=λi j a=>by
 have a:j<4:=a;have:j=0\/j=1\/j=2\/j=3:=by omega
 rcases this with rfl|rfl|rfl|rfl<;>exact⟨_,_,rfl⟩
theorem Q1o(l:List Place):∀i,Mg (LF l i):=λi j a=>by
 have a:j<2:=a;have:j=0\/j=1:=by omega
 rcases this with rfl|rfl<;>exact⟨_,_,rfl⟩
theorem Cut0.rects(h:Cut0 W B q D T)(r:Value){v:Value}{l:List Rect}(hv:DRep W X v (DL l)):DRep (W.setCell ⟨B,q,none⟩ r) X v (DL l):=h.keep r hv λi _=>Q1n l i
theorem Cut0.places(h:Cut0 W B q D T)(r:Value){v:Value}{l:List Place}(hv:DRep W X v (DL l)):DRep (W.setCell ⟨B,q,none⟩ r) X v (DL l):=h.keep r hv λi _=>Q1o l i
theorem Yp{v:Value}{n:Nat}{f:Nat->List DVal}(h:DRep W X v (.lst n f)):∃ad c,v=.slice ad n c:=by cases h<;>exact⟨_,_,rfl⟩
theorem Cut.pairs(h:Cut W B q D T)(r:Value){v:Value}{n:Nat}{f:Nat->List DVal}(hv:DRep W X v (.lst n f))(hf:∀i,i<n->∃n1 f1 n2 f2,f i=[.lst n1 f1,.lst n2 f2]/\(∀i,Mg (f1 i))/\∀i,Mg (f2 i)):DRep (W.setCell ⟨B,q,none⟩ r) X v (.lst n f):=by
 cases hv with
 |nil=>exact .nil _ _ _
 |lst b off _ cap c e fz _ es h1 h2 h3 h4 h5 h6=>
  have s:∀i,i<n->es=2:=λi d=>by
   obtain⟨n1,f1,n2,f2,x,_⟩:=hf i d;rw[<-h5 i d,x];rfl
  have a:∀i j,i<n->j<es->DRep (W.setCell ⟨B,q,none⟩ r) X (c.getD (off+(i*es+j)) undef) ((f i).getD j .any)/\∃k u g,c.getD (off+(i*es+j)) undef=.slice k u g:=λi j d t=>by
   obtain⟨n1,f1,n2,f2,x,z,y⟩:=hf i d;have o:=h6 i j d t
   have:=s i d
   subst this;have:j=0\/j=1:=by omega
   rw[x]at o⊢;rcases this with rfl|rfl
   .obtain ⟨k,g,l⟩:=Yp (n:=n1) (f:=f1) o
    exact⟨h.keep r (n:=n1) (f:=f1) o λi _=>z i,k,n1,g,l⟩
   .obtain ⟨k,g,l⟩:=Yp (n:=n2) (f:=f2) o
    exact⟨h.keep r (n:=n2) (f:=f2) o λi _=>y i,k,n2,g,l⟩
  by_cases hb:b=B
  .subst hb
   rw[h.at_]at h2;cases h2
   refine .lst b off n cap _ _ _ f es h1 (h.new r) h3 (by simpa using h4) h5 λi j d t=>?_
   have w:q≠off+(i*es+j):=λe=>by
    have:=s i d
    subst this;have:j=0\/j=1:=by omega
    rcases this with rfl|rfl
    .obtain ⟨_,k,u,g,l⟩:=a i 1 d (by omega)
     obtain⟨m,p⟩:=h.hi;rw[show q+1=off+(i*2+1) by omega,l]at p
     cases p
    .obtain ⟨_,k,u,g,l⟩:=a i 0 d (by omega)
     obtain⟨A,m,p⟩:=h.lo;rw[show q-1=off+(i*2+0) by omega,l]at p
     cases p
   rw[UA w];exact(a i j d t).1
  .exact .lst b off n cap c e fz f es h1 ((h.same r hb).trans h2) h3 h4 h5 λi j d t=>(a i j d t).1
theorem Cut.doubles(h:Cut W B q D T)(r:Value){v:Value}{l:List Double}(hv:DRep W X v (DL l)):DRep (W.setCell ⟨B,q,none⟩ r) X v (DL l):=
 h.pairs r hv λi _=>⟨_,_,_,_,rfl,λi=>Q1n _ i,λi=>Q1o _ i⟩
end
end Go.Ab
end
section
namespace Go.Ab
open Go.Proofs Go.RowKit
set_option maxRecDepth 100000
structure LOK (W:Go.World) (X:Nat->Prop) (s:Value) (l:List Line) (B:Nat) (D:Array Value) (T:TypeId):Prop where
 em:l=[]->∃ad c,s=.slice ad 0 c
 ne:l≠[]->(∃c,s=.slice (some ⟨B,0,none⟩) l.length c/\l.length<=c)/\W.heap[B]?=some (.cells D T (0,0))/\l.length*4<=D.size
 at_:∀k,k<l.length->D.getD (k*4) undef=.int .i64 (gl l k).p_/\DRep W X (D.getD (k*4+1) undef) (DL (gl l k).g_.t_)/\D.getD (k*4+2) undef=.int .i64 (gl l k).c_/\D.getD (k*4+3) undef=.int .i64 (gl l k).s_
structure VR (W:Go.World) (X:Nat->Prop) (base:Nat) (v:Value) (N:Nat) (l:List Version) (b:Nat) (C:Array Value) (bl:Nat->Nat) (cl:Nat->Array Value) (tl:Nat->TypeId):Prop where
 em:N=0->∃ad c,v=.slice ad 0 c
 ne:N≠0->(∃c,v=.slice (some ⟨b,0,none⟩) N c/\N<=c)/\(∃T,W.heap[b]?=some (.cells C T (0,0)))/\N*2<=C.size
 le:l.length<=N
 day:∀j,j<l.length->C.getD (j*2) undef=.int .i64 (gl l j).day_
 ln:∀j,j<l.length->LOK W X (C.getD (j*2+1) undef) (gl l j).lines_ (bl j) (cl j) (tl j)
 fr:base<=b/\∀j,j<l.length->(gl l j).lines_≠[]->base<=bl j/\bl j≠b
 ds:∀i j,i<l.length->j<l.length->(gl l i).lines_≠[]->(gl l j).lines_≠[]->bl i=bl j->i=j
 xb:∀g,base<=g->¬X g
section
variable {W W' : Go.World} {X:Nat->Prop} {base N:Nat} {v:Value} {l:List Version} {b:Nat} {C:Array Value} {bl:Nat->Nat} {cl:Nat->Array Value} {tl:Nat->TypeId} {T:TypeId}
theorem ne_of_lt{α:Type}{l:List α}{k:Nat}(h:k<l.length):l≠[]:=λe=>by rw[e]at h;exact absurd h (Qc9 _)
theorem LOK.drep{s:Value}{l:List Line}{B:Nat}{D:Array Value}(h:LOK W X s l B D T)(hB:l≠[]->¬X B):DRep W X s (DL l):=by
 rcases Qk7 (l=[])with e|e
 .obtain ⟨p,c,a⟩:=h.em e
  subst e;rw[a]
  exact .nil _ _ _
 .obtain ⟨⟨c,a,g⟩,m,r⟩:=h.ne e
  rw[a];refine .lst B 0 _ c D T (0,0) _ 4 (hB e) m g (by omega) (λi d=>rfl) λi j d t=>?_
  obtain⟨f,k,n,o⟩:=h.at_ i d;rw[Qd1]
  have:j=0\/j=1\/j=2\/j=3:=by omega
  rcases this with rfl|rfl|rfl|rfl
  .rw [Qh3,f];exact .int _ _
  .exact k
  .rw [n];exact .int _ _
  .rw [o];exact .int _ _
theorem VR.drep(h:VR W X base v N l b C bl cl tl)(hN:N=l.length):DRep W X v (DL l):=by
 subst hN;rcases Qk7 (l=[])with e|e
 .obtain ⟨m,c,d⟩:=h.em (by rw[e];rfl)
  subst e;rw[d]
  exact .nil _ _ _
 .have e:l.length≠0:=λh=>e (Ql1.1 h)
  obtain⟨⟨c,d,f⟩,⟨k,g⟩,n⟩:=h.ne e;rw[d]
  refine .lst b 0 _ c C k (0,0) _ 2 (h.xb b h.fr.1) g f (by omega) (λi a=>rfl) λi j a o=>?_
  rw[Qd1];have:j=0\/j=1:=by omega
  rcases this with rfl|rfl
  .rw [Qh3,h.day i a];exact .int _ _
  .exact (h.ln i a).drep λe=>h.xb _ ((h.fr.2 i a e).1)
theorem LOK.stp{s:Value}{l:List Line}{B:Nat}{D:Array Value}(h:LOK W X s l B D T)(st:Stp (λ_=>False) W W'):LOK W' X s l B D T:=
 ⟨h.em,λe=>⟨(h.ne e).1,(st.block _ (J2 (h.ne e).2.1) λh=>h).trans (h.ne e).2.1,(h.ne e).2.2⟩,λk d=>by
  obtain⟨a,c,f,g⟩:=h.at_ k d;exact⟨a,c.mono λb i j=>⟨st.block b i λh=>h,j⟩,f,g⟩⟩
theorem VR.stp(h:VR W X base v N l b C bl cl tl)(st:Stp (λ_=>False) W W'):VR W' X base v N l b C bl cl tl:=
 ⟨h.em,λe=>by
  obtain⟨d,⟨c,a⟩,g⟩:=h.ne e;exact⟨d,⟨c,(st.block _ (J2 a) λh=>h).trans a⟩,g⟩,h.le,h.day,λj f=>(h.ln j f).stp st,h.fr,h.ds,h.xb⟩
theorem VR.cut(h:VR W X base v N l b C bl cl tl){A K:Nat}(hA:A<l.length)(hK:K<(gl l A).lines_.length):Cut W (bl A) (K*4+1) (cl A) (tl A):=by
 have L:=h.ln A hA;obtain⟨g,i,a,j⟩:=L.at_ K hK
 obtain⟨d,c,e⟩:=Yp (n:=(gl (gl l A).lines_ K).g_.t_.length) (f:=LF _) i;exact⟨⟨(L.ne (ne_of_lt hK)).2.1,⟨d,_,c,e⟩⟩,⟨by omega,_,g⟩,⟨_,a⟩⟩
theorem LOK.keep{s:Value}{l:List Line}{B B' q:Nat}{D D' : Array Value}{T' : TypeId}(h:LOK W X s l B D T)(c:Cut0 W B' q D' T')(hne:l≠[]->B≠B')(r:Value):LOK (W.setCell ⟨B',q,none⟩ r) X s l B D T:=
 ⟨h.em,λe=>⟨(h.ne e).1,(c.same r (hne e)).trans (h.ne e).2.1,(h.ne e).2.2⟩,λk a=>by
  obtain⟨f,i,d,g⟩:=h.at_ k a;exact⟨f,c.rects r i,d,g⟩⟩
theorem vh(l:List Version)(A K:Nat)(r:List Rect)(j:Nat)(hA:A<l.length):gl (l.modify A λv=> {v with lines_:=v.lines_.modify K λx=> {x with g_:=⟨r⟩}}) j=if j=A then {gl l A with lines_:=(gl l A).lines_.modify K λx=> {x with g_:=⟨r⟩}}else gl l j:=by
 unfold gl;simp only[Qa0,Qs3]
 by_cases h:j=A
 .subst h
  simp[hA]
 .have a:¬A=j:=λe=>h e.symm
  cases l[j]?<;>simp[h,a]
theorem Z3e(l:List Line)(K:Nat)(r:List Rect)(j:Nat)(hK:K<l.length):gl (l.modify K λx=> {x with g_:=⟨r⟩}) j=if j=K then {gl l K with g_:=⟨r⟩}else gl l j:=by
 unfold gl;simp only[Qa0,Qs3]
 by_cases h:j=K
 .subst h
  simp[hK]
 .have a:¬K=j:=λe=>h e.symm
  cases l[j]?<;>simp[h,a]
theorem VR.set(h:VR W X base v N l b C bl cl tl){A K:Nat}(hA:A<l.length)(hK:K<(gl l A).lines_.length){r:Value}{rl:List Rect}(hr:DRep W X r (DL rl)):
  VR (W.setCell ⟨bl A,K*4+1,none⟩ r) X base v N (l.modify A λv=> {v with lines_:=v.lines_.modify K λx=> {x with g_:=⟨rl⟩}}) b C bl (λj=>if j=A then(cl A).setIfInBounds (K*4+1) r else cl j) tl:=by
 have g:=h.cut hA hK;have L:=h.ln A hA
 have a:=ne_of_lt hK;obtain⟨⟨c,Q,F⟩,U,s⟩:=L.ne a
 have m:∀j,((gl (l.modify A λv=> {v with lines_:=v.lines_.modify K λx=> {x with g_:=⟨rl⟩}}) j).lines_).length=(gl l j).lines_.length:=λj=>by
  rw[vh l A K rl j hA];split
  .rename_i e;subst e;simp
  .rfl
 have f:∀j,(gl (l.modify A λv=> {v with lines_:=v.lines_.modify K λx=> {x with g_:=⟨rl⟩}}) j).lines_=[]↔(gl l j).lines_=[]:=λj=>by
  rw[<-Ql1, <-Ql1,m]
 have n:N≠0:=by have:=h.le;omega
 obtain⟨P,⟨G,R⟩,O⟩:=h.ne n;have H:b≠bl A:=λe=>(h.fr.2 A hA a).2 e.symm
 refine⟨λe=>absurd e n,λ_=>⟨P,⟨G,(g.same r H).trans R⟩,O⟩,by rw[Qj6];exact h.le,λj d=>?_,λj d=>?_,⟨h.fr.1,λj d e=>?_⟩,λi j t d E w=>?_,h.xb⟩
 .rw [Qj6]at d
  rw[h.day j d,vh l A K rl j hA];split
  .rename_i e;subst e;rfl
  .rfl
 .rw [Qj6]at d
  rw[vh l A K rl j hA]
  by_cases e:j=A
  .subst e
   rw[Qa2 rfl,Qa2 rfl];refine⟨λe=>?_,λ_=>⟨⟨c,by simpa using Q,by simpa using F⟩,g.new r,by simpa using s⟩,λk p=>?_⟩
   .have:=congrArg List.length e
    simp at this
    exact absurd this a
   .have p:k<(gl l j).lines_.length:=by simpa using p
    obtain⟨y,I,u,z⟩:=L.at_ k p;show _=Value.int .i64 (gl ((gl l j).lines_.modify K _) k).p_/\DRep _ X _ (DL (gl ((gl l j).lines_.modify K _) k).g_.t_)/\_=Value.int .i64 (gl ((gl l j).lines_.modify K _) k).c_/\_=Value.int .i64 (gl ((gl l j).lines_.modify K _) k).s_
    rw[Z3e (gl l j).lines_ K rl k hK];have M:K*4+1≠k*4:=by omega
    have n2:K*4+1≠k*4+2:=by omega
    have n3:K*4+1≠k*4+3:=by omega
    rw[UA M,UA n2,UA n3]
    by_cases e:k=K
    .subst e
     rw[Qa2 rfl];refine⟨y,?_,u,z⟩
     have:((cl j).setIfInBounds (k*4+1) r).getD (k*4+1) undef=r:=by
      have:k*4+1<(cl j).size:=by omega
      simp[Qd4,this]
     rw[this];exact g.rects r hr
    .rw [Qa1 e]
     have J:K*4+1≠k*4+1:=by omega
     rw[UA J];exact⟨y,g.rects r I,u,z⟩
  .rw [Qa1 e,Qa1 e]
   exact(h.ln j d).keep g.toCut0 (λS o=>e (h.ds j A d hA S a o)) r
 .rw [Qj6]at d
  rw[Ne,f]at e;exact h.fr.2 j d e
 .rw [Qj6]at t d
  rw[Ne,f]at E w;exact h.ds i j t d E w
theorem gAl{α:Type}[Emb α](l m:List α){i:Nat}(h:i<l.length):gl (l++m) i=gl l i:=by
 unfold gl;rw[Qa0,Qg0 h, <-Qa0]
theorem gAr{α:Type}[Emb α](l:List α)(x:α):gl (l++[x]) l.length=x:=by
 unfold gl;rw[Qa0,Qk1 (Qb4 _)];simp
theorem VR.push(h:VR W X base v N l b C bl cl tl)(hN:l.length<N){x:Version}{s:Value}{B:Nat}{D:Array Value}(hd:C.getD (l.length*2) undef=.int .i64 x.day_)(ho:∃ ad n c,C.getD (l.length*2+1) undef=.slice ad n c)(hs:LOK W X s x.lines_ B D T)(hB:x.lines_≠[]->base<=B/\B≠b)(hBl:x.lines_≠[]->∀ i,i<l.length->(gl l i).lines_≠[]->bl i≠B):
  VR (W.setCell ⟨b,l.length*2+1,none⟩ s) X base v N (l++[x]) b (C.setIfInBounds (l.length*2+1) s) (λj=>if j=l.length then B else bl j) (λj=>if j=l.length then D else cl j) (λj=>if j=l.length then T else tl j):=by
 obtain⟨z,⟨u,A⟩,w⟩:=h.ne (by omega);have r:Cut0 W b (l.length*2+1) C u:=⟨A,ho⟩
 have a:∀j,j<l.length->gl (l++[x]) j=gl l j:=λj f=>gAl _ _ f
 have d:gl (l++[x]) l.length=x:=gAr _ _;refine⟨λe=>by omega,λ_=>⟨z,⟨u,r.new s⟩,by simpa using w⟩,by simp;omega,λj f=>?_,λj f=>?_,⟨h.fr.1,λj f e=>?_⟩,λi j y f m k=>?_,h.xb⟩
 .have g:l.length*2+1≠j*2:=by omega
  rw[UA g];simp at f
  rcases Qd3 j l.length with e|e
  .rw [a j e];exact h.day j e
  .obtain rfl:j=l.length:=by omega
   rw[d];exact hd
 .simp at f
  rcases Qd3 j l.length with e|e
  .have g:l.length*2+1≠j*2+1:=by omega
   rw[UA g,a j e,Qa1 (by omega),Qa1 (by omega),Qa1 (by omega)];exact(h.ln j e).keep r (λt p=>(h.fr.2 j e t).2 p) s
  .obtain rfl:j=l.length:=by omega
   have:(C.setIfInBounds (l.length*2+1) s).getD (l.length*2+1) undef=s:=by
    have:l.length*2+1<C.size:=by omega
    simp[Qd4,this]
   rw[this,d,Qa2 rfl,Qa2 rfl,Qa2 rfl];exact hs.keep r (λt p=>(hB t).2 p) s
 .simp at f
  rcases Qd3 j l.length with q|q
  .rw [a j q]at e
   rw[Qa1 (by omega)];exact h.fr.2 j q e
  .obtain rfl:j=l.length:=by omega
   rw[d]at e;rw[Qa2 rfl]
   exact hB e
 .simp at y f
  rcases Qd3 i l.length with qi|qi<;>rcases Qd3 j l.length with o|o
  .rw [a i qi]at m
   rw[a j o]at k;rw[Qa1 (by omega),Qa1 (by omega)]
   exact h.ds i j qi o m k
  .obtain rfl:j=l.length:=by omega
   rw[a i qi]at m;rw[d]at k
   rw[Qa1 (by omega),Qa2 rfl];exact λe=>absurd e (hBl k i qi m)
  .obtain rfl:i=l.length:=by omega
   rw[a j o]at k;rw[d]at m
   rw[Qa1 (by omega:¬j=l.length),Qa2 rfl];exact λe=>absurd e.symm (hBl m j o k)
  .intro _;omega
end
end Go.Ab
end
section
namespace Go.Ab
open Go.Proofs Go.RowKit
set_option maxRecDepth 100000
def PW(C:Array Value)(l:List Version)(j:Nat):Prop:=∀i,j<=i->i<l.length->C.getD (i*2) undef=.int .i64 (gl l i).day_/\∃ad n c,C.getD (i*2+1) undef=.slice ad n c
theorem PW.set{C:Array Value}{l:List Version}{j:Nat}(h:PW C l j)(s:Value):PW (C.setIfInBounds (j*2+1) s) l (j+1):=λi e c=>by
 have d:j*2+1≠i*2:=by omega
 have a:j*2+1≠i*2+1:=by omega
 rw[UA d,UA a];exact h i (by omega) c
section
variable {w:Go.World} {X X' : Nat->Prop} {η:Nat->Value} {Cx:Ctx} {u:Value} {base:Nat}
theorem VR.start{l:List Version}(ho:ORep w X' η Cx u (AO l))(hb:∀b∈Y7 u,base<=b)(xb:∀g,base<=g->¬X g):∃b C,VR w X base u l.length [] b C (λ_=>0) (λ_=> #[]) (λ_=>0)/\PW C l 0:=by
 have a:∀b C,base<=b->(l.length=0->∃m c,u=.slice m 0 c)->(l.length≠0->(∃c,u=.slice (some ⟨b,0,none⟩) l.length c/\l.length<=c)/\(∃T,w.heap[b]?=some (.cells C T (0,0)))/\l.length*2<=C.size)->VR w X base u l.length [] b C (λ_=>0) (λ_=> #[]) (λ_=>0):=λb C r o p=>
  ⟨o,p,Qc3 _,λj d=>absurd d (Qc9 j),λj d=>absurd d (Qc9 j),⟨r,λj d=>absurd d (Qc9 j)⟩,λi j k=>absurd k (Qc9 i),xb⟩
 unfold AO at ho;generalize hN:l.length=N at ho a
 cases ho with
 |nil m=>exact⟨base, #[],a base #[] (Qb4 _) (λ_=>⟨_,_,rfl⟩) (λh=>absurd rfl h),λi _ k=>absurd (hN ▸ k) (Qc9 i)⟩
 |arr b _ cap es c e f r o p h4 h5 h6 h7=>
  have o:c.size=cap*2:=o;refine⟨b,c,a b c (hb b (by simp[Y7];omega)) (λh=>by subst h;exact⟨_,_,rfl⟩) (λh=>⟨⟨cap,rfl,p⟩,⟨e,r⟩,by omega⟩),λi _ k=>?_⟩
  have t:=h7 i 0 (by omega) (by show 0<2;omega);have x:=h7 i 1 (by omega) (by show 1<2;omega)
  obtain⟨m,s,y⟩:=Yp (n:=(gl l i).lines_.length) (f:=LF _) x;exact⟨WX t,m,_,s,y⟩
theorem LOK.of{l:List Line}(ho:ORep w X' η Cx u (AO l))(hX:∀b,X b->X' b):∃B D T,LOK w X u l B D T/\(l≠[]->B∈Y7 u):=by
 unfold AO at ho;generalize hN:l.length=N at ho
 cases ho with
 |nil ad=>exact⟨0, #[],0,⟨λ_=>⟨_,_,rfl⟩,λh=>absurd (Ql1.1 hN) h,λk a=>absurd (hN ▸ a) (Qc9 k)⟩,λh=>absurd (Ql1.1 hN) h⟩
 |arr b _ cap es c e f h1 d h3 h4 h5 h6 h7=>
  have d:c.size=cap*4:=d;refine⟨b,c,e,⟨λh=>?_,λh=>⟨⟨cap,by rw[hN],by omega⟩,h1,by omega⟩,λk a=>?_⟩,λ_=>by simp[Y7];omega⟩
  .have:N=0:=by rw[<-hN,h];rfl
   subst this;exact⟨_,_,rfl⟩
  .have a:k<N:=by omega
   have g:=h7 k 0 a (by show 0<4;omega);have i:=h7 k 1 a (by show 1<4;omega)
   have j:=h7 k 2 a (by show 2<4;omega);have m:=h7 k 3 a (by show 3<4;omega)
   exact⟨WX g,DRep.mono (x:=DL (gl l k).g_.t_) i λb _ n=>⟨rfl,λh=>n (hX b h)⟩,WX j,WX m⟩
end
end Go.Ab
end
section
namespace Go.Ab
open Go.Proofs Go.RowKit
set_option maxRecDepth 100000
abbrev nB:Nat->Prop:=λ_=>False
theorem Lk{w:Go.World}{X:Nat->Prop}{η η' : Nat->Value}:XS (Qd [] w X η) (ls []) η'=X:=by
 funext b
 apply propext;constructor
 .rintro (⟨h,_⟩|⟨i,o,h,_⟩)
  .exact h
  .cases h
 .intro h;exact .inl ⟨h,λ⟨i,o,hi,_⟩=>by cases hi⟩
section
variable {w:Go.World} {X:Nat->Prop} {f:Nat} {args:List AVal} {r:AVal} {vs:Array Value}
theorem SP.calls(h:SP f args [] r [])(hX:∀ b,X b->b<w.heap.size)(hsz:vs.size=args.length)(ha:∀ j,j<args.length->∀ η C,ARep w X η C (vs.getD j undef) (args.getD j .any)):
  Calls Tryz.prog f vs w λe w'=>∃v η C,e=.returned v/\ARep w' X η C v r/\Stp nB w w' :=
 (h w X (λ_=>undef) vs hX (λb ⟨i,o,a,_⟩=>by cases a) (λi o a=>by cases a) (λi j b a=>absurd rfl a) hsz (λj d=>ha j d _ _)).mono λe w' ⟨v,η',he,hb⟩=>
  ⟨v,η',_,he,by have:=hb.res;rwa [Lk]at this,hb.stp.mono λb _ c=>by obtain⟨i,o,a,_⟩:=c;cases a⟩
theorem SP.own{r' : Nat->Obj}(h:SP f args [] (ow 100) [(100,r' 0)])(hX:∀ b,X b->b<w.heap.size)(hsz:vs.size=args.length)(ha:∀ j,j<args.length->∀ η C,ARep w X η C (vs.getD j undef) (args.getD j .any))(hro:(r' 0).ro=false):
  Calls Tryz.prog f vs w λe w'=>∃v η C X',e=.returned v/\ORep w' X' η C v (r' 0)/\(∀b,X b->X' b)/\(∀b,b∈Y7 v->X' b/\w.heap.size<=b)/\Stp nB w w' :=
 (h w X (λ_=>undef) vs hX (λb ⟨i,o,a,_⟩=>by cases a) (λi o a=>by cases a) (λi j b a=>absurd rfl a) hsz (λj p=>ha j p _ _)).mono λe w' ⟨v,η',he,hb⟩=>by
  have g:v=η' 100:=by
   have:=hb.res
   cases this with|v _ _ h=>cases h with|c _ _ h=>cases h with|own _ _ h _=>exact h
  have k:=hb.objs 100 (r' 0) rfl;rw[<-g]at k
  refine⟨v,η',_,_,he,k,λb n=>.inl ⟨n,λ⟨i,o,a,_⟩=>by cases a⟩,λb d=>⟨.inr ⟨100,_,rfl,by rw[<-g];exact d⟩,?_⟩,hb.stp.mono λb _ m=>by obtain⟨i,o,a,_⟩:=m;cases a⟩;rcases hb.ow 100 (r' 0) b rfl (by rw[<-g];exact d)with ⟨h,_⟩|⟨i,o,a,_⟩|h
  .rw [hro]at h;cases h
  .cases a
  .exact h
end
theorem Z5n(F:Nat)(w:Go.World)(D X:Nat->Prop):Qg Tryz.prog (Xg λy0 y1=>Kq F y0 y1) w D X (.func (.func 30) #[] #[]):=by
 refine⟨_, #[],rfl,Tryz.call30,λE G vs args r p _ _ g _ i a=>?_⟩;obtain⟨z,A,y,s,rfl,rfl⟩:=p
 rw[Array.append_empty];refine((xd s).calls g i λj t η C=>a j t η C).mono λe x k=>?_
 obtain⟨v,η,C,n,m,o⟩:=k;refine⟨v,n,o,λη C=>?_⟩
 cases m with|v _ _ h=>cases h with|c _ _ h=>cases h with|d _ _ h=>exact .v _ _ (.c _ _ (.d _ _ h))
section
variable {F:Nat} {w:Go.World} {X:Nat->Prop} {v u:Value}
theorem Q3y{a b r:List Rect}(h:QU F a b (fun y0 y1=>Kq F y0 y1)=some r)(hX:∀ b,X b->b<w.heap.size)(hv:DRep w X v (DL a))(hu:DRep w X u (DL b)):
  Calls Tryz.prog 29 #[v,u,.func (.func 30) #[] #[]] w λe w'=>∃x,e=.returned x/\DRep w' X x (DL r)/\Stp nB w w':=by
 refine((Yb h) w X (λ_=>undef) _ hX (λb ⟨i,o,k,_⟩=>by cases k) (λi o k=>by cases k) (λi j b k=>absurd rfl k) rfl λj m=>?_).mono λe w' ⟨x,η',he,hb⟩=>?_
 .have m:j<3:=m
  have:j=0\/j=1\/j=2:=by omega
  rcases this with rfl|rfl|rfl
  .exact .v _ _ (.c _ _ (.d _ _ hv))
  .exact .v _ _ (.c _ _ (.d _ _ hu))
  .exact .v _ _ (.c _ _ (.sem _ _ (Z5n F _ _ _) rfl))
 .have g:=hb.res
  rw[Lk]at g;refine⟨x,he,?_,hb.stp.mono λb _ n=>by obtain⟨i,o,k,_⟩:=n;cases k⟩
  cases g with|v _ _ h=>cases h with|c _ _ h=>cases h with|d _ _ h=>exact h
theorem XF{x:DVal}(hv:DRep w X v x){j:Nat}(hj:j<[AVal.v (.c (.d x))].length)(η:Nat->Value)(C:Ctx):ARep w X η C ((#[v]:Array Value).getD j undef) ([AVal.v (.c (.d x))].getD j .any):=by
 obtain rfl:j=0:=by simp at hj;omega
 exact .v _ _ (.c _ _ (.d _ _ hv))
theorem Q3v{l:List Version}{e0:Int}(h:PC F l=some e0)(hX:∀b,X b->b<w.heap.size)(hv:DRep w X v (DL l)):Calls Tryz.prog 31 #[v] w λe w'=>e=.returned (.int .i64 e0)/\Stp nB w w':=by
 refine((Z4w h).calls hX rfl λj k η C=>XF hv k η C).mono λe w' a=>?_
 obtain⟨x,η,C,m,i,g⟩:=a
 cases i with|v _ _ h=>cases h with|c _ _ h=>cases h with|d _ _ h=>cases h;exact⟨m,g⟩
theorem kN{w' : Go.World}{η:Nat->Value}{C:Ctx}{x:Value}{d:DVal}{e0:Int}(h:ARep w' X η C x (.t [.c (.d d),.c (ci e0)])):∃y,x=.tuple #[y,.int .i64 e0]/\DRep w' X y d:=by
 cases h with|t us _ e h2=>
  have a:=h2 0 (by simp);have b:=h2 1 (by simp)
  have g:us=#[us.getD 0 undef,us.getD 1 undef]:=by
   have e:us.size=2:=e;apply Qt4
   .rw [e];rfl
   .intro i k j
    have:i=0\/i=1:=by omega
    rcases this with rfl|rfl<;>simp[Array.getD,e]
  generalize us.getD 0 undef=y0 at a g;generalize us.getD 1 undef=y1 at b g
  subst g
  cases b with|c _ _ h=>cases h with|d _ _ h=>cases h with|int _ _=>cases a with|c _ _ h=>cases h with|d _ _ h=>exact⟨_,rfl,h⟩
theorem Z5j{l:List Version}{r:List CrosscheckLine×Int}(h:PB F l=some r)(hX:∀b,X b->b<w.heap.size)(hv:DRep w X v (DL l)):Calls Tryz.prog 60 #[v] w λe w'=>∃y,e=.returned (.tuple #[y,.int .i64 r.2])/\Stp nB w w':=by
 refine((Q2I h).calls hX rfl λj g η C=>XF hv g η C).mono λe w' a=>?_
 obtain⟨x,η,C,i,d,c⟩:=a;obtain⟨y,rfl,_⟩:=kN d
 exact⟨y,i,c⟩
theorem Z5k{l:List Version}{r:List Double×Int}(h:PD F l=some r)(hX:∀b,X b->b<w.heap.size)(hv:DRep w X v (DL l)):Calls Tryz.prog 28 #[v] w λe w'=>∃y,e=.returned (.tuple #[y,.int .i64 r.2])/\DRep w' X y (DL r.1)/\Stp nB w w':=by
 refine((Z4F h).calls hX rfl λj i η C=>XF hv i η C).mono λe w' a=>?_
 obtain⟨x,η,C,k,g,c⟩:=a;obtain⟨y,rfl,d⟩:=kN g
 exact⟨y,k,d,c⟩
theorem Z5h{l:List Rect}{b:Bool}(h:Ya F ⟨l⟩=some b)(hX:∀b,X b->b<w.heap.size)(hv:DRep w X v (DL l)):Calls Tryz.prog 39 #[.agg #[v]] w λe w'=>e=.returned (.bool b)/\Stp nB w w':=by
 refine((Yh h).calls hX rfl λj a η C=>?_).mono λe w' i=>?_
 .obtain rfl:j=0:=by simp at a;omega
  refine .v _ _ (.g _ _ ⟨rfl,λj a=>?_⟩);have a:j<1:=a
  obtain rfl:j=0:=by omega
  exact .d _ _ hv
 .obtain ⟨x,η,C,n,m,k⟩:=i
  cases m with|v _ _ h=>cases h with|c _ _ h=>cases h with|d _ _ h=>cases h;exact⟨n,k⟩
theorem Z5i{l:List Version}{p:Place}{b:Bool}(h:HA F l p=some b)(hX:∀b,X b->b<w.heap.size)(hv:DRep w X v (DL l)):Calls Tryz.prog 61 #[v,.agg #[.int .i64 p.application_,.int .i64 p.line_]] w λe w'=>e=.returned (.bool b)/\Stp nB w w':=by
 refine((Z4u h).calls hX rfl λj a η C=>?_).mono λe w' i=>?_
 .have a:j<2:=a
  have:j=0\/j=1:=by omega
  rcases this with rfl|rfl
  .exact .v _ _ (.c _ _ (.d _ _ hv))
  .refine .v _ _ (.g _ _ ⟨rfl,λj a=>?_⟩)
   have a:j<2:=a;have:j=0\/j=1:=by omega
   rcases this with rfl|rfl<;>exact .d _ _ (.int _ _)
 .obtain ⟨x,η,C,n,m,k⟩:=i
  cases m with|v _ _ h=>cases h with|c _ _ h=>cases h with|d _ _ h=>cases h;exact⟨n,k⟩
end
end Go.Ab
end
section
namespace Go.Proofs
open Go.RowKit Go.Lib
set_option maxHeartbeats 1000000
set_option maxRecDepth 100000
abbrev s4:ByteArray:=⟨#[97,32,98,10]⟩
abbrev s3:ByteArray:=⟨#[97,32,98]⟩
theorem gJ(s:ByteArray)(c:Int)(w:World):Calls Tryz.prog 234 #[.string s,.int .u8 c] w λe w'=>e=.returned (.int .i64 (Lib.indexByte s.data.toList c.toNat.toUInt8))/\w'=w:=by
 go_enter Tryz.func234,Tryz.ntmps234
 go_wp2
 rw[run_callFunc_extern Tryz.func290 (by kernel_rfl) (by kernel_rfl) (by kernel_rfl) (e:=Extern.BytealgIndexByte.indexByte) (by kernel_rfl),Lib.run_indexByteString];simp only[Result.andThen]
 rw[Qw1]
 go_wp2
 go_ret
 exact⟨rfl,rfl⟩
theorem Q6p(s:ByteArray)(c:Int)(w:World):Calls Tryz.prog 177 #[.string s,.int .u8 c] w λe w'=>e=.returned (.int .i64 (Lib.indexByte s.data.toList c.toNat.toUInt8))/\w'=w:=by
 go_enter Tryz.func177,Tryz.ntmps177
 go_wp2_with (go_at_call 234;refine(gJ _ _ _).mono ?_;rintro e w' ⟨rfl,rfl⟩)
 go_ret
 exact⟨rfl,rfl⟩
theorem Q6A(w:World):Calls Tryz.prog 104 #[.string s4,.string ⟨#[10]⟩] w λe w'=>e=.returned (.int .i64 1)/\w'=w:=by
 go_enter Tryz.func104,Tryz.ntmps104
 go_wp2
 rw[run_callFunc_extern Tryz.func172 (by kernel_rfl) (by kernel_rfl) (by kernel_rfl) (e:=Extern.BytealgCount.count) (by kernel_rfl),Lib.run_countString];simp only[Result.andThen]
 rw[Qw1]
 go_wp2
 go_ret
 exact⟨rfl,rfl⟩
end Go.Proofs
end
section
namespace Go.Proofs
open Go.RowKit Go.Lib
set_option maxHeartbeats 1000000
set_option maxRecDepth 100000
theorem gL:((s4.extract 3 4).toList==[10])=true:=by kernel_rfl
theorem Q6t(w:World):Calls Tryz.prog 105 #[.string s4,.string ⟨#[10]⟩] w λe w'=>e=.returned (.bool true)/\w'=w:=by
 have a:=gL
 go_enter Tryz.func105,Tryz.ntmps105
 go_wp2
 go_ret
 exact⟨by first|rfl|rw[a]|simp[a],rfl⟩
theorem Q6g(w:World):Calls Tryz.prog 111 #[.string s4,.string ⟨#[10]⟩] w λe w'=>e=.returned (.string s3)/\w'=w:=by
 have a:=gL
 go_enter Tryz.func111,Tryz.ntmps111
 go_wp2
 go_ret
 exact⟨rfl,rfl⟩
theorem Q6i(c:Nat)(h:c=10\/32<=c/\c<=126)(w:World):Calls Tryz.prog 107 #[.int .i32 c] w λe w'=>e=.returned (.bool false)/\w'=w:=by
 go_enter Tryz.func107,Tryz.ntmps107
 go_wp2
 all_goals first|(exfalso;omega)|(go_ret;exact⟨rfl,rfl⟩)|(go_ret;refine⟨?_,rfl⟩;simp;omega)
theorem gM(i:Nat)(h:i<s4.size):(s4[i]'h).toNat=10\/32<=(s4[i]'h).toNat/\(s4[i]'h).toNat<=126:=by
 have h:i<4:=h;obtain rfl|rfl|rfl|rfl:i=0\/i=1\/i=2\/i=3:=by omega
 .exact .inr (show 32<=97/\97<=126 by decide)
 .exact .inr (show 32<=32/\32<=126 by decide)
 .exact .inr (show 32<=98/\98<=126 by decide)
 .exact .inl rfl
theorem Q6n(w:World):Calls Tryz.prog 233 #[.string s4,.func (.func 107) #[] #[],.bool true] w λe w'=>e=.returned (.int .i64 (-1))/\∃pos,w'=w.iter s4 pos:=by
 have g:∀i (h:i<s4.size),(s4[i]'h).toNat<128:=λi h=>by have:=gM i h;omega
 go_enter Tryz.func233,Tryz.ntmps233
 go_wp2
 go_loopw [] (λw'=>∃pos:Nat,pos<=4/\w'=w.iter s4 pos) (λw'=>s4.size-w'.iterPos w.heap.size)
 case atStart=>exact⟨0,by omega,rfl⟩
 case round=>
  obtain⟨pos,d,rfl⟩:=hrel
  by_cases hp:pos<s4.size
  .have c:∀a,(Instr.next (.pointer (some ⟨w.heap.size,0,none⟩)) true a).run Tryz.prog (w.iter s4 pos)=_:=λa=>run_next_ascii w s4 pos a hp (g pos hp)
   go_wp2_with (go_at_call 107;refine(Q6i _ (gM pos hp) _).mono ?_;rintro e w' ⟨rfl,rfl⟩)
   go_roundw
   case rel=>exact⟨pos+1,hp,rfl⟩
   case measure=>simp;omega
  .have c:∀a,(Instr.next (.pointer (some ⟨w.heap.size,0,none⟩)) true a).run Tryz.prog (w.iter s4 pos)=_:=λa=>run_next_end w s4 pos a hp
   go_wp2
   go_ret
   exact⟨rfl,_,rfl⟩
end Go.Proofs
end
section
namespace Go.Proofs
open Go.RowKit Go.Lib
set_option maxHeartbeats 1000000
set_option maxRecDepth 100000
theorem Q6o(c:UInt8)(k:Int)(hk:Lib.indexByte s3.data.toList (((c.toNat:Nat):Int).toNat.toUInt8)=k)(w:World):Calls Tryz.prog 234 #[.string s3,.int .u8 ((⟨#[c]⟩:ByteArray)[0]'(show 0<1 by decide)).toNat] w λe w'=>e=.returned (.int .i64 k)/\w'=w:=by
 refine(gJ _ _ _).mono ?_;rintro e w' ⟨rfl,rfl⟩
 exact⟨congrArg (λx=>Ending.returned (.int .i64 x)) hk,rfl⟩
theorem gK(c:UInt8)(k:Int)(hc:((⟨#[c]⟩:ByteArray)==s3)=false)(hk:Lib.indexByte s3.data.toList (((c.toNat:Nat):Int).toNat.toUInt8)=k)(w:World):Calls Tryz.prog 232 #[.string s3,.string ⟨#[c]⟩] w λe w'=>e=.returned (.int .i64 k)/\w'=w:=by
 go_enter Tryz.func232,Tryz.ntmps232
 go_wp2_with (go_at_call 234;refine(Q6o c k hk _).mono ?_;rintro e w' ⟨rfl,rfl⟩)
 go_ret
 exact⟨rfl,rfl⟩
theorem Q6q(c:UInt8)(k:Int)(hc:((⟨#[c]⟩:ByteArray)==s3)=false)(hk:Lib.indexByte s3.data.toList (((c.toNat:Nat):Int).toNat.toUInt8)=k)(w:World):Calls Tryz.prog 173 #[.string s3,.string ⟨#[c]⟩] w λe w'=>e=.returned (.int .i64 k)/\w'=w:=by
 go_enter Tryz.func173,Tryz.ntmps173
 go_wp2_with (go_at_call 232;refine(gK c k hc hk _).mono ?_;rintro e w' ⟨rfl,rfl⟩)
 go_ret
 exact⟨rfl,rfl⟩
theorem Q6y(w:World):Calls Tryz.prog 178 #[.string s3,.string ⟨#[35]⟩] w λe w'=>e=.returned (.tuple #[.string s3,.string ⟨#[]⟩,.bool false])/\w'=w:=by
 go_enter Tryz.func178,Tryz.ntmps178
 go_wp2_with (go_at_call 232;refine(gK 35 (-1) (by decide) (by decide) _).mono ?_;rintro e w' ⟨rfl,rfl⟩)
 go_ret3
 exact⟨rfl,rfl⟩
theorem Q6z(w:World):Calls Tryz.prog 110 #[.string s3,.string ⟨#[35]⟩] w λe w'=>e=.returned (.tuple #[.string s3,.string ⟨#[]⟩,.bool false])/\w'=w:=by
 go_enter Tryz.func110,Tryz.ntmps110
 go_wp2_with (go_at_call 178;refine(Q6y _).mono ?_;rintro e w' ⟨rfl,rfl⟩)
 go_ret3
 exact⟨rfl,rfl⟩
theorem Q6B(w:World):Calls Tryz.prog 104 #[.string s3,.string ⟨#[32]⟩] w λe w'=>e=.returned (.int .i64 1)/\w'=w:=by
 go_enter Tryz.func104,Tryz.ntmps104
 go_wp2
 rw[run_callFunc_extern Tryz.func172 (by kernel_rfl) (by kernel_rfl) (by kernel_rfl) (e:=Extern.BytealgCount.count) (by kernel_rfl),Lib.run_countString];simp only[Result.andThen]
 rw[Qw1]
 go_wp2
 go_ret
 exact⟨rfl,rfl⟩
theorem Q6u(w:World):Calls Tryz.prog 181 #[.string s3,.string ⟨#[32]⟩,.int .i64 0,.int .i64 (-1)] w λe w'=>e=.returned (.slice (some ⟨w.heap.size,0,none⟩) 2 2)/\w'=w.alloc (.cells #[.string ⟨#[97]⟩,.string ⟨#[98]⟩] 9):=by
 have c:(min 2 4:Int)=2:=by decide
 have a:∀W:World,(Instr.makeSlice 129 (.int .i64 2) (.int .i64 2)).run Tryz.prog W=.ok (.slice (some ⟨W.heap.size,0,none⟩) 2 2) (W.alloc (.cells #[.string ⟨#[]⟩,.string ⟨#[]⟩] 9)):=λW=>by kernel_rfl
 go_enter Tryz.func181,Tryz.ntmps181
 go_wp2_with (go_at_call 104;refine(Q6B _).mono ?_;rintro e w' ⟨rfl,rfl⟩)
 refine wp_loop_rounds 2 ?_;rw[rounds_succ]
 go_wp2_with (go_at_call 173;refine(Q6q 32 1 (by decide) (by decide) _).mono ?_;rintro e w' ⟨rfl,rfl⟩)
 rw[rounds_succ]
 go_wp2
 go_ret
 exact⟨rfl,rfl⟩
end Go.Proofs
end
section
namespace Go.Proofs
open Go.RowKit Go.Lib
set_option maxHeartbeats 1000000
set_option maxRecDepth 100000
theorem Q6h(w:World):Calls Tryz.prog 113 #[.string s3,.string ⟨#[32]⟩] w λe w'=>e=.returned (.slice (some ⟨w.heap.size,0,none⟩) 2 2)/\w'=w.alloc (.cells #[.string ⟨#[97]⟩,.string ⟨#[98]⟩] 9):=by
 go_enter Tryz.func113,Tryz.ntmps113
 go_wp2_with (go_at_call 181;refine(Q6u _).mono ?_;rintro e w' ⟨rfl,rfl⟩)
 go_ret
 exact⟨rfl,rfl⟩
theorem gI(s:ByteArray)(h:(s.toList==[])=false)(w:World):Calls Tryz.prog 114 #[.string s] w λe w'=>e=.returned (.bool false)/\w'=w:=by
 go_enter Tryz.func114,Tryz.ntmps114
 go_wp2
 go_ret
 exact⟨by simp,rfl⟩
theorem Q6s(b:Nat)(w:World)(h:w.heap[b]?=some (.cells #[.string ⟨#[97]⟩,.string ⟨#[98]⟩] 9 (0,0))):Calls Tryz.prog 180 #[.slice (some ⟨b,0,none⟩) 2 2,.func (.func 114) #[] #[]] w λe w'=>e=.returned (.int .i64 (-1))/\w'=w:=by
 have c:w.cell? ⟨b,0,none⟩=some (.string ⟨#[97]⟩):=by simp[World.cell?,h]
 have a:w.cell? ⟨b,1,none⟩=some (.string ⟨#[98]⟩):=by simp[World.cell?,h]
 clear h
 go_enter Tryz.func180,Tryz.ntmps180
 go_wp2
 refine wp_loop_rounds 3 ?_;rw[rounds_succ]
 go_wp2_with (go_at_call 114;refine(gI _ (by kernel_rfl) _).mono ?_;rintro e w' ⟨rfl,rfl⟩)
 rw[rounds_succ]
 go_wp2_with (go_at_call 114;refine(gI _ (by kernel_rfl) _).mono ?_;rintro e w' ⟨rfl,rfl⟩)
 rw[rounds_succ]
 go_wp2
 go_ret
 exact⟨rfl,rfl⟩
theorem Q6x(b:Nat)(w:World)(h:w.heap[b]?=some (.cells #[.string ⟨#[97]⟩,.string ⟨#[98]⟩] 9 (0,0))):Calls Tryz.prog 112 #[.slice (some ⟨b,0,none⟩) 2 2,.func (.func 114) #[] #[]] w λe w'=>e=.returned (.slice (some ⟨b,0,none⟩) 2 2)/\w'=w:=by
 go_enter Tryz.func112,Tryz.ntmps112
 go_wp2_with (go_at_call 180;refine(Q6s b _ h).mono ?_;rintro e w' ⟨rfl,rfl⟩)
 go_ret
 exact⟨rfl,rfl⟩
end Go.Proofs
end
section
namespace Go.Proofs
open Go.Shelf Go.RowKit Go.Lib
attribute [local go_sem] Oper.semAt_some
set_option maxHeartbeats 1000000
set_option maxRecDepth 100000
theorem Q6m(w:World):Calls Tryz.prog 177 #[.string s4,.int .u8 10] w λe w'=>e=.returned (.int .i64 3)/\w'=w:=by
 refine(Q6p _ _ _).mono ?_;rintro e w' ⟨rfl,rfl⟩
 exact⟨congrArg (λx=>Ending.returned (.int .i64 x)) (by decide),rfl⟩
theorem Q6k(n:Nat)(hn:1<=n)(l B:Nat)(W:World)(hB:W.heap[B]?=some (.cells #[.string s4] 9 (0,0)))(K:World->Prop)(hY:YieldAt Fence.wide (n-1) Tryz.prog l #[.string (s4.extract 0 4)] ((W.setCell ⟨B,0,none⟩ (.string ByteArray.empty)).drew) fun e W'=>e=.returned (.bool true)/\W'.heap[B]?=some (.cells #[.string ⟨#[]⟩] 9 (0,0))/\K W'):
  CallsIn Fence.wide n Tryz.prog 176 #[.func (.yield l) #[] #[],.pointer (some ⟨B,0,none⟩)] W λe W'=>(∃v,e=.returned v)/\K W':=by
 have m:W.cell? ⟨B,0,none⟩=some (.string s4):=by simp[World.cell?,hB]
 have s:W.frozen? ⟨B,0,none⟩=false:=by simp[World.frozen?,hB]
 have p:Fence.wide.fn 177:=trivial;refine callsIn_of_wp Tryz.func176 rfl trivial ?_ rfl
 simp only[Tryz.ntmps176,Qm1,Qb1,Qc2,Nat.reduceAdd,Nat.reduceSub,Qw9,Qx0,List.push_toArray,Qx6,Qm9,Ql3]
 gi_wp2
 refine wpIn_loop_rounds 2 ?_;rw[roundsIn_succ]
 gi_wp2_with (gi_at_call 177;refine(callsIn_wide.2 (Q6m _)).mono ?_;rintro e w' ⟨rfl,rfl⟩)
 gi_region
 obtain⟨o,h,a,g,t,j⟩:=hY
 gi_wp2
 refine j.mono ?_;rintro e k ⟨rfl,d,c⟩
 have i:k.cell? ⟨B,0,none⟩=some (.string ⟨#[]⟩):=by simp[World.cell?,d]
 gi_wp2
 rw[roundsIn_succ]
 gi_wp2
 go_end0
 exact⟨⟨_,rfl⟩,c⟩
end Go.Proofs
end
section
namespace Go.Proofs
open Go.Shelf Go.RowKit Go.Lib Go.Ab
attribute [local go_sem] Oper.semAt_some
set_option maxHeartbeats 2000000
set_option maxRecDepth 100000
theorem Q6C(w:World):Calls Tryz.prog 106 #[.string s4,.func (.func 107) #[] #[]] w λe w'=>e=.returned (.bool false)/\∃pos,w'=w.iter s4 pos:=by
 go_enter Tryz.func106,Tryz.ntmps106
 go_wp2_with (first
  |(go_at_call 175;go_enter Tryz.func175,Tryz.ntmps175)
  |(go_at_call 233;refine(Q6n _).mono ?_;rintro e w' ⟨rfl,pos,rfl⟩))
 all_goals(try (go_ret;exact⟨rfl,_,rfl⟩))
theorem Q6l(w:World):Calls Tryz.prog 109 #[.string s4] w λe w'=>e=.returned (.func (.func 176) #[] #[.pointer (some ⟨w.heap.size,0,none⟩)])/\w'=w.alloc (.cells #[.string s4] 9):=by
 go_enter Tryz.func109,Tryz.ntmps109
 go_wp2
 go_ret
 exact⟨rfl,rfl⟩
abbrev U8:Nat->Prop:=λ_=>False
theorem Q6r(w:World)(s:ByteArray)(pos:Nat):Stp U8 w (w.iter s pos):=by
 have h:=World.iter_extends w s pos;exact⟨h.os,h.tape,h.output,h.size,λb a _=>h.block b a,Qb4 _⟩
end Go.Proofs
end
section
namespace Go.Proofs
open Go.Shelf Go.RowKit Go.Lib Go.Ab
attribute [local go_sem] Oper.semAt_some
set_option maxHeartbeats 4000000
set_option maxRecDepth 100000
structure SpK (W0:World) (l D o:Nat) (W:World):Prop where
 res:∃(g b c:Nat) (Z:Array Value),W0.heap.size<=g/\W0.heap.size<=b/\g≠b/\g≠l/\b≠l/\g≠D/\b≠D/\1<=c/\c<=maxLen/\Z.size+1=c /\
  W.heap[o]?=some (.cells #[.slice (some ⟨g,0,none⟩) 1 c] 123 (0,0))/\W.heap[g]?=some (.cells (#[.slice (some ⟨b,0,none⟩) 2 2]++Z) 129 (0,0)) /\
  W.heap[b]?=some (.cells #[.string ⟨#[97]⟩,.string ⟨#[98]⟩] 9 (0,0))
 lp:∃r:Go.Loop,W.heap[l]?=some (.loop r)/\r.state=.ready/\r.pending=none
 df:W.heap[D]?=some (.deferred (some []))
 stp:Stp (λb=>W0.heap.size<=b) W0 W
theorem K4{a b c:World}(h:Stp U8 a b)(k:Stp U8 b c):Stp U8 a c:=h.trans (k.mono λ_ _ h=>h.elim)
theorem Q6w{a:Act}{assign body:Code}{Q:Exit->Act->World->Prop}{W1:World}{o:Nat}(s1:W1.heap.size=o+2)(ha:a.eval (.tmp 26)=.func (.func 176) #[] #[.pointer (some ⟨o+1,0,none⟩)])(h:∀ fn r,r=({ state:=.ready,pending:=none,fn:=fn,tmps:=a.tmps,params:= #[27],assign:=assign,body:=body,defers:=o+2 }:Go.Loop)->CallsIn Fence.wide 3 Tryz.prog 176 #[.func (.yield (o+3)) #[] #[],.pointer (some ⟨o+1,0,none⟩)] ((W1.alloc (.deferred (some []))).alloc (.loop r)) (rangePost Fence.wide 4 Tryz.prog (o+3) Q { a with defers:=[{ target:=.collected (o+2),args:= #[] }]++a.defers })):
  (Code.rangeFunc (.tmp 26) #[27] assign body).wpIn Fence.wide 4 Tryz.prog Q a W1:=by
 refine wpIn_rangeFunc ?_;intro fn d
 refine⟨o+3,[{target:=.collected (o+2),args:= #[]}],(W1.alloc (.deferred (some []))).alloc (.loop {state:=.ready,pending:=none,fn:=fn,tmps:=a.tmps,params:= #[27],assign:=assign,body:=body,defers:=o+2}), {target:=.fn (.func 176) #[.pointer (some ⟨o+1,0,none⟩)],args:= #[.func (.yield (o+3)) #[] #[]]},(W1.alloc (.deferred (some []))).alloc (.loop {state:=.ready,pending:=none,fn:=fn,tmps:=a.tmps,params:= #[27],assign:=assign,body:=body,defers:=o+2}),176,
  #[.func (.yield (o+3)) #[] #[],.pointer (some ⟨o+1,0,none⟩)],(W1.alloc (.deferred (some []))).alloc (.loop {state:=.ready,pending:=none,fn:=fn,tmps:=a.tmps,params:= #[27],assign:=assign,body:=body,defers:=o+2}),?_,?_,?_,?_,(λh=>by cases h),?_⟩
 .refine (run_enterLoop_outer _ _ _ _ _).trans ?_
  rw[s1]
 .have c : a.tmps[26]?.getD undef=.func (.func 176) #[] #[.pointer (some ⟨o+1,0,none⟩)]:=by
   have e:a.eval (.tmp 26)=a.tmps[26]?.getD undef:=by simp[go_sem]
   rw[<-e];exact ha
  simp[resolve,go_sem,c]
 .intro i g
  trivial
 .have e:=enters_of (P:=Tryz.prog) Tryz.func176 (by kernel_rfl) rfl
  simp[invoke,go_sem,e]
 .exact h fn _ rfl
structure OneOf (l:Nat) (a b:World):Prop where
 os:b.os=a.os
 tape:b.tape=a.tape
 output:b.output=a.output
 size:b.heap.size=a.heap.size
 dr:a.drawn=b.drawn
 blk:∀k,k≠l->b.heap[k]?=a.heap[k]?
theorem Tw(l:Nat)(w:World)(x:Go.Obj):OneOf l w (w.putObj l x):=⟨rfl,rfl,rfl,by simp[World.putObj],rfl,λ_ a=>World.putObj_heap_other a⟩
theorem OneOf.stp{l:Nat}{a b c:World}(h:OneOf l b c)(k:Stp U8 a b)(hl:a.heap.size<=l):Stp U8 a c:=
 ⟨h.os.trans k.os,h.tape.trans k.tape,h.output.trans k.output,by rw[h.size];exact k.size,λx d _=>(h.blk x (by omega)).trans (k.block x d λh=>h),h.dr ▸ k.dr⟩
theorem Q6D{F:Fence}{n l:Nat}{body:Code}{Q:Exit->Act->World->Prop}{a:Act}{W3:World}{r:Go.Loop}(l3:W3.heap[l]?=some (.loop r))(hr:r.state=.ready)(h:∀W4,OneOf l W3 W4->(∃r' : Go.Loop,W4.heap[l]?=some (.loop r'))->body.wpIn F n Tryz.prog Q a W4):∃w₂,(Instr.beginRound l).run Tryz.prog W3=.ok () w₂/\body.wpIn F n Tryz.prog Q a w₂:=
 ⟨_,run_beginRound l3 hr,h _ (Tw _ _ _) ⟨_,World.putObj_heap_same (Qg9.1 l3).1⟩⟩
theorem Q6v{W0 W4:World}{o c:Nat}{Z:Array Value}{a:Act}(s4' : W4.heap.size=o+4)(a4:W4.heap[o]?=some (.cells #[.slice none 0 0] 123 (0,0)))(b4:W4.heap[o+1]?=some (.cells #[.string ⟨#[]⟩] 9 (0,0)))(d4:W4.heap[o+2]?=some (.deferred (some [])))(l4:∃ r:Go.Loop,W4.heap[o+3]?=some (.loop r))(st:Stp U8 W0 W4)(hw:W0.heap.size<=o)(c1:1<=c)(c2:c<=maxLen)(c3:Z.size+1=c):
  roundPost Tryz.prog (o+3) (λe W'=>e=.returned (.bool true)/\W'.heap[o+1]?=some (.cells #[.string ⟨#[]⟩] 9 (0,0))/\SpK W0 (o+3) (o+2) o W') Exit.normal a
   ((((W4.setCell ⟨o,0,none⟩ (.slice (some ⟨o+4+1+1,0,none⟩) 1 c)).alloc (.cells #[.string ⟨#[97]⟩,.string ⟨#[98]⟩] 9)).alloc (.cells #[.slice (some ⟨o+4,0,none⟩) 2 2] 129)).alloc (.cells (#[.slice (some ⟨o+4,0,none⟩) 2 2]++Z) 129)).drew.drew:=by
 obtain⟨W5,hW⟩:∃W5,((((W4.setCell ⟨o,0,none⟩ (.slice (some ⟨o+4+1+1,0,none⟩) 1 c)).alloc (.cells #[.string ⟨#[97]⟩,.string ⟨#[98]⟩] 9)).alloc (.cells #[.slice (some ⟨o+4,0,none⟩) 2 2] 129)).alloc (.cells (#[.slice (some ⟨o+4,0,none⟩) 2 2]++Z) 129)).drew.drew=W5:=⟨_,rfl⟩;rw[hW]
 have g:∀k,k<o+4->W5.heap[k]?=(W4.setCell ⟨o,0,none⟩ (.slice (some ⟨o+4+1+1,0,none⟩) 1 c)).heap[k]?:=λk s=>by
  rw[<-hW];simp only[World.drew,World.alloc,World.setCell,Ql2,Qn0,Qn7,s4']
  rw[Qa1 (by omega),Qa1 (by omega),Qa1 (by omega)]
 have m:W5.heap[o+4]?=some (.cells #[.string ⟨#[97]⟩,.string ⟨#[98]⟩] 9 (0,0)):=by
  rw[<-hW];simp only[World.drew,World.alloc,World.setCell,Ql2,Qn0,Qn7,s4']
  rw[Qa1 (by omega),Qa1 (by omega),Qa2 trivial]
 have n:W5.heap[o+4+1+1]?=some (.cells (#[.slice (some ⟨o+4,0,none⟩) 2 2]++Z) 129 (0,0)):=by
  rw[<-hW];simp only[World.drew,World.alloc,World.setCell,Ql2,Qn0,Qn7,s4']
  rw[Qa2 trivial]
 have y:W5.heap.size=o+7:=by rw[<-hW];simp[World.drew,World.alloc,World.setCell,s4']
 have d:∀k,k<o+4->k≠o->W5.heap[k]?=W4.heap[k]?:=λk s z=>by
  rw[g k s];simp only[World.setCell,Qe2]
  rw[Qa1 (by omega)]
 have i:W5.heap[o]?=some (.cells #[.slice (some ⟨o+4+1+1,0,none⟩) 1 c] 123 (0,0)):=by
  rw[g o (by omega)];simp only[World.setCell,Qe2]
  rw[Qa2 trivial,a4];rfl
 have p:Stp U8 W0 W5:=by
  refine⟨?_,?_,?_,?_,λb t _=>(d b (by omega) (by omega)).trans (st.block b t λh=>h),?_⟩
  .rw [<-hW];exact st.os
  .rw [<-hW];exact st.tape
  .rw [<-hW];exact st.output
  .rw [y];omega
  .rw [<-hW];exact Qq0 (Qq0 st.dr)
 clear hW g
 obtain⟨r,A⟩:=l4;have j:=(d (o+3) (by omega) (by omega)).trans A
 have q:=Tw (o+3) W5 (.loop {r with state:=.ready,pending:=none});have x:o+3<W5.heap.size:=by omega
 refine⟨_,_,run_endRound none j,rfl,(q.blk (o+1) (by omega)).trans ((d _ (by omega) (by omega)).trans b4),⟨⟨o+4+1+1,o+4,c,Z,by omega,by omega,by omega,by omega,by omega,by omega,by omega,c1,c2,c3,?_,?_,?_⟩,⟨_,World.putObj_heap_same x,rfl,rfl⟩,?_,?_⟩⟩
 .exact (q.blk _ (by omega)).trans i
 .exact (q.blk _ (by omega)).trans n
 .exact (q.blk _ (by omega)).trans m
 .exact (q.blk _ (by omega)).trans ((d _ (by omega) (by omega)).trans d4)
 .exact (q.stp p (by omega)).mono λ_ _ h=>h.elim
theorem Q6j(w:World):CallsIn Fence.wide 4 Tryz.prog 51 #[.string s4] w fun e w'=>∃ (g b c:Nat) (Z:Array Value),w.heap.size<=g/\w.heap.size<=b/\1<=c/\c<=maxLen/\Z.size+1=c/\e=.returned (.tuple #[.slice (some ⟨g,0,none⟩) 1 c,.int .i64 0]) /\
  w'.heap[g]?=some (.cells (#[.slice (some ⟨b,0,none⟩) 2 2]++Z) 129 (0,0))/\w'.heap[b]?=some (.cells #[.string ⟨#[97]⟩,.string ⟨#[98]⟩] 9 (0,0))/\Stp U8 w w':=by
 have f1:Fence.wide.fn 104:=trivial;have f2:Fence.wide.fn 105:=trivial
 have f3:Fence.wide.fn 106:=trivial;have f4:Fence.wide.fn 109:=trivial
 refine callsIn_of_wp_marks Tryz.func51 rfl trivial ?_ rfl;simp only[Tryz.ntmps51,Qm1,Qb1,Qc2,Nat.reduceAdd,Nat.reduceSub,Qw9,Qx0,List.push_toArray,Qx6,Qm9,Ql3]
 gi_wp2_with (first
  |(gi_at_call 104;refine(callsIn_wide.2 (Q6A _)).mono ?_;rintro e w' ⟨rfl,rfl⟩)
  |(gi_at_call 105;refine(callsIn_wide.2 (Q6t _)).mono ?_;rintro e w' ⟨rfl,rfl⟩)
  |(gi_at_call 106;refine(callsIn_wide.2 (Q6C _)).mono ?_;rintro e w' ⟨rfl,pos,rfl⟩)
  |(gi_at_call 109;refine(callsIn_wide.2 (Q6l _)).mono ?_;rintro e w' ⟨rfl,rfl⟩))
 obtain⟨W0,hW0⟩:∃W0,w'.iter s4 pos=W0:=⟨_,rfl⟩;have j:Stp U8 w' W0:=hW0 ▸ Q6r _ _ _
 rw[hW0]
 clear hW0
 obtain⟨o,ho⟩:∃o,W0.heap.size=o:=⟨_,rfl⟩;have K:w'.heap.size<=o:=ho ▸ j.size
 rw[ho];obtain⟨W1,hW1⟩:∃W1,(W0.alloc (.cells #[.slice none 0 0] 123)).alloc (.cells #[.string s4] 9)=W1:=⟨_,rfl⟩
 have p:W1.heap.size=o+2:=by rw[<-hW1, <-ho];simp
 have V:W1.heap[o]?=some (.cells #[.slice none 0 0] 123 (0,0)):=by rw[<-hW1, <-ho];exact(Below.heap_alloc _ _ _ (by simp)).trans (World.alloc_heap_new _ _)
 have b1:W1.heap[o+1]?=some (.cells #[.string s4] 9 (0,0)):=by
  have:=World.alloc_heap_new (W0.alloc (.cells #[.slice none 0 0] 123)) (.cells #[.string s4] 9)
  rwa [World.size_alloc,ho,hW1]at this
 have s:Stp U8 w' W1:=by rw[<-hW1];exact K4 (K4 j (Stp.alloc U8 _ _)) (Stp.alloc U8 _ _)
 rw[hW1]
 clear hW1 j
 refine Q6w p rfl ?_;intro fn r hr
 obtain⟨W2,hW2⟩:∃W2,(W1.alloc (.deferred (some []))).alloc (.loop r)=W2:=⟨_,rfl⟩;have s2:W2.heap.size=o+4:=by rw[<-hW2];simp[p]
 have k2:∀k,k<o+2->W2.heap[k]?=W1.heap[k]?:=λk hk=>by rw[<-hW2];exact(Below.heap_alloc _ _ k (by simp;omega)).trans (Below.heap_alloc _ _ k (by omega))
 have R:W2.heap[o+2]?=some (.deferred (some [])):=by rw[<-hW2];exact(Below.heap_alloc _ _ _ (by simp;omega)).trans (by have:=World.alloc_heap_new W1 (.deferred (some []));rwa [p]at this)
 have Q:W2.heap[o+3]?=some (.loop r):=by
  have:=World.alloc_heap_new (W1.alloc (.deferred (some []))) (.loop r)
  rwa [World.size_alloc,p,hW2]at this
 have d:Stp U8 w' W2:=by rw[<-hW2];exact K4 (K4 s (Stp.alloc U8 _ _)) (Stp.alloc U8 _ _)
 rw[hW2]
 clear hW2 s
 have Y:=(k2 o (by omega)).trans V;have J:=(k2 (o+1) (by omega)).trans b1
 clear k2 V b1 p
 refine(Q6k 3 (by omega) (o+3) (o+1) W2 J (λW=>SpK w' (o+3) (o+2) o W) ?hY).mono ?hP
 case hP=>
  rintro e W' ⟨⟨v,rfl⟩,z⟩;obtain⟨r',hl,O,L⟩:=z.lp
  have a:=run_endLoop (P:=Tryz.prog) hl (by rw[O];simp);obtain⟨g,b,c,Z,h1,h2,h3,h4,h5,h6,h7,c1,c2,c3,U,r2,S⟩:=z.res
  have t:=z.df;have y:=z.stp
  have q:=Tw (o+3) W' (.loop {r' with state:=.exhausted});generalize W'.putObj (o+3) (.loop {r' with state:=.exhausted})=W3 at q a
  rw[L]at a;refine⟨none,_,a,?_⟩
  clear a
  have e1:=(q.blk o (by omega)).trans U;have e2:=(q.blk g h4).trans r2
  have e3:=(q.blk b h5).trans S;have e4:=(q.blk (o+2) (by omega)).trans t
  have st:=q.stp (y.mono λx hx h=>absurd hx (Qu3.2 h)) (by omega)
  clear q U r2 S t y hl z
  have hc:W3.cell? ⟨o,0,none⟩=some (.slice (some ⟨g,0,none⟩) 1 c):=by simp[World.cell?,e1]
  gi_wp2
  refine⟨by simp,.inl ⟨_,_,rfl,run_takeDeferred e4,?_⟩⟩;have q:=Tw (o+2) W3 (.deferred none)
  exact⟨_,results_tmp2 rfl _ _ _,g,b,c,Z,h1,h2,c1,c2,c3,rfl,(q.blk g h6).trans e2,(q.blk b h7).trans e3,q.stp st (by omega)⟩
 case hY=>
  have E:((W2.setCell ⟨o+1,0,none⟩ (.string ByteArray.empty)).drew).heap[o+3]?=some (.loop r):=by
   simp only[World.drew,World.setCell,Qe2];rw[Qa1 (by omega)];exact Q
  have d3:((W2.setCell ⟨o+1,0,none⟩ (.string ByteArray.empty)).drew).heap[o+2]?=some (.deferred (some [])):=by
   simp only[World.drew,World.setCell,Qe2];rw[Qa1 (by omega)];exact R
  have M:((W2.setCell ⟨o+1,0,none⟩ (.string ByteArray.empty)).drew).heap[o]?=some (.cells #[.slice none 0 0] 123 (0,0)):=by
   simp only[World.drew,World.setCell,Qe2];rw[Qa1 (by omega)];exact Y
  have H:((W2.setCell ⟨o+1,0,none⟩ (.string ByteArray.empty)).drew).heap[o+1]?=some (.cells #[.string ⟨#[]⟩] 9 (0,0)):=by
   simp only[World.drew,World.setCell,Qe2];rw[Qa2 trivial,J];rfl
  have s3:((W2.setCell ⟨o+1,0,none⟩ (.string ByteArray.empty)).drew).heap.size=o+4:=by simp[World.drew,World.setCell,s2]
  have i:Stp U8 w' ((W2.setCell ⟨o+1,0,none⟩ (.string ByteArray.empty)).drew):=by
   refine⟨d.os,d.tape,d.output,?_,λb hb _=>?_,Qq0 d.dr⟩
   .rw [s3];omega
   .simp only[World.drew,World.setCell,Qe2]
    rw[Qa1 (by omega)];exact d.block b hb λh=>h
  generalize ((W2.setCell ⟨o+1,0,none⟩ (.string ByteArray.empty)).drew)=W3 at E d3 M H s3 i⊢
  clear Q R Y J s2 d
  rw[show s4.extract 0 4=s4 from by decide];refine⟨_,_,_,_,run_yield (P:=Tryz.prog) (args:= #[.string s4]) E (by rw[hr];rfl),?_⟩
  subst hr;simp only[Qm1,Qb1,Qc2]
  refine roundIn_of_wpIn trivial ?_
  gi_wp2
  refine Q6D E rfl ?_;intro A m l4
  have G:=(m.blk o (by omega)).trans M;have b4:=(m.blk (o+1) (by omega)).trans H
  have d4:=(m.blk (o+2) (by omega)).trans d3;have n:=m.size.trans s3
  have I:=m.stp i (by omega)
  clear E M H d3 s3 i m
  have hA:(A.alloc (.cells #[.string ⟨#[97]⟩,.string ⟨#[98]⟩] 9)).heap[o+4]?=some (.cells #[.string ⟨#[97]⟩,.string ⟨#[98]⟩] 9 (0,0)):=by
   have:=World.alloc_heap_new A (.cells #[.string ⟨#[97]⟩,.string ⟨#[98]⟩] 9)
   rwa [n]at this
  have hc:A.cell? ⟨o,0,none⟩=some (.slice none 0 0):=by simp[World.cell?,G]
  have hf:A.frozen? ⟨o,0,none⟩=false:=by simp[World.frozen?,G]
  have c0:Tryz.prog.follows .mixedOrders=true:=by kernel_rfl
  gi_wp2_with (first
   |(refine⟨trivial,?_⟩;gi_at_call 111;refine(CallsIn.inRound _ (callsIn_wide.2 (Q6g _))).mono ?_;rintro e w' ⟨rfl,rfl⟩)
   |(refine⟨trivial,?_⟩;gi_at_call 110;refine(CallsIn.inRound _ (callsIn_wide.2 (Q6z _))).mono ?_;rintro e w' ⟨rfl,rfl⟩))
  have f5:Fence.wide.fn 113:=trivial;have f6:Fence.wide.fn 112:=trivial
  gi_region_with_o (first
   |(gi_at_call 113;refine(CallsIn.inRound _ (callsIn_wide.2 (Q6h _))).mono ?_;rintro e w' ⟨rfl,rfl⟩)
   |(gi_at_call 112;refine(CallsIn.inRound _ (callsIn_wide.2 (Q6x _ _ (by exact hA)))).mono ?_;rintro e w' ⟨rfl,rfl⟩))
  all_goals
   simp only[Exit.inBlock];refine Q6v n G b4 d4 l4 I K (Qt1 w'.drew 1 0 129) (Qp4 w'.drew 1 0 129 (by simp only[maxLen];omega)) ?_
   rw[Qs9];have:=Qt1 w'.drew 1 0 129
   show(grownCap w'.drew 1 0 129-1)*1+1=grownCap w'.drew 1 0 129;omega
end Go.Proofs
end
section
namespace Go.Ab
open Go.Proofs Go.Shelf Go.RowKit Go.Lib
set_option maxHeartbeats 4000000
set_option maxRecDepth 100000
theorem Q8F{l:List Version}{j:Nat}(h:j<l.length):l.drop j=gl l j::l.drop (j+1):=by
 rw[Qi3 h];unfold gl
 rw[Qa0,Qb9 h];rfl
theorem Z5a{F:Nat}{z r:List Version}(h:Xv F z=some r):z.length<=Z9:=by
 unfold Xv Ju at h
 cases hn:z.length with
 |zero=>exact Qc3 _
 |succ k=>rw[hn]at h;have:=(Ua h).1;omega
theorem Z4Z{F:Nat}{z r:List Line}(h:Xx F z=some r):z.length<=Z9:=by
 unfold Xx Ju at h
 cases hn:z.length with
 |zero=>exact Qc3 _
 |succ k=>rw[hn]at h;have:=(Ua h).1;omega
theorem Z5K{W:Go.World}{X:Nat->Prop}{η:Nat->Value}{Cx:Ctx}{v:Value}{l:List Rect}(h:ARep W X η Cx v (AL l)):DRep W X v (DL l):=by
 cases h with|v _ _ h=>cases h with|c _ _ h=>cases h with|d _ _ h=>exact h
theorem Q0J{α:Type}{l:List α}{j:Nat}{f:α->α}(h:∀x,l[j]?=some x->f x=x):l.modify j f=l:=by
 apply Qt9;intro i
 rw[Qs3]
 by_cases e:j=i
 .subst e
  cases hx:l[j]? with
  |none=>rfl
  |some x=>simp[h x hx]
 .cases l[i]?<;>simp[e]
theorem Z1k{l:List Version}{j q:Nat}{x:Version}(hj:j<l.length)(hx:gl l j=x)(hq:q<x.lines_.length):(l.modify j λv=> {v with lines_:=v.lines_.modify q λy=> {y with g_:=⟨(gl x.lines_ q).g_.t_⟩}})=l:=by
 refine Q0J λv a=>?_
 have e:v=x:=by
  unfold gl at hx;rw[Qa0,a]at hx
  exact hx
 subst e;have:(v.lines_.modify q λy=> {y with g_:=⟨(gl v.lines_ q).g_.t_⟩})=v.lines_:=Q0J λy c=>by
  have e:gl v.lines_ q=y:=by unfold gl;rw[Qa0,c];rfl
  rw[e]
 rw[this]
theorem Q5L{α:Type}[Emb α]{l:List α}{j:Nat}(h:j<l.length):l.take j++[gl l j]=l.take (j+1):=by
 unfold gl;rw[Qa0,Qb9 h,Qq5,Qv1 h]
theorem Hy{α:Type}[Emb α]{l:List α}{j:Nat}(h:j<l.length):l.drop j=gl l j::l.drop (j+1):=by
 rw[Qi3 h];unfold gl
 rw[Qa0,Qb9 h];rfl
theorem Z1I{W:Go.World}{X:Nat->Prop}{ad:Option Addr}{n cp:Nat}{z:List Line}(h:DRep W X (.slice ad n cp) (DL z)){j:Nat}(hj:j<z.length):∃lb off rv,ad=some ⟨lb,off,none⟩/\W.cell? ⟨lb,off+j*4,none⟩=some (.int .i64 (gl z j).p_)/\W.cell? ⟨lb,off+j*4+1,none⟩=some rv/\W.cell? ⟨lb,off+j*4+2,none⟩=some (.int .i64 (gl z j).c_)/\W.cell? ⟨lb,off+j*4+3,none⟩=some (.int .i64 (gl z j).s_)/\DRep W X rv (DL (gl z j).g_.t_):=by
 unfold DL at h;generalize hN:z.length=N at h hj
 cases h with
 |nil=>omega
 |lst b off _ cap c e fz _ es h1 h2 h3 h4 h5 h6=>
  have m:es=4:=by have:=h5 j hj;exact this.symm
  subst m;have a:=h6 j 0 hj (by omega)
  have d:=h6 j 1 hj (by omega);have k:=h6 j 2 hj (by omega)
  have o:=h6 j 3 hj (by omega);have g:∀q,q<c.size->W.cell? ⟨b,q,none⟩=some (c.getD q undef):=λq i=>by simp[Go.World.cell?,h2,i]
  refine⟨b,off,_,rfl,(g _ (by omega)).trans ?_,g _ (by omega),(g _ (by omega)).trans ?_,(g _ (by omega)).trans ?_,?_⟩
  .rw [<-Qh3 (j*4)];exact congrArg some (WX a)
  .rw [Qi5];exact congrArg some (WX k)
  .rw [Qi5];exact congrArg some (WX o)
  .rw [Qi5];exact d
theorem Q5W{W:Go.World}{X:Nat->Prop}{lb off n cp:Nat}{z:List Version}(h:DRep W X (.slice (some ⟨lb,off,none⟩) n cp) (DL z)){j:Nat}(hj:j<z.length):∃s,W.cell? ⟨lb,off+j*2,none⟩=some (.int .i64 (gl z j).day_)/\W.cell? ⟨lb,off+j*2+1,none⟩=some s/\DRep W X s (DL (gl z j).lines_):=by
 unfold DL at h;generalize hN:z.length=N at h hj
 cases h with
 |nil=>omega
 |lst b off _ cap c e fz _ es h1 h2 h3 h4 h5 h6=>
  have a:es=2:=by have:=h5 j hj;exact this.symm
  subst a;have i:=h6 j 0 hj (by omega)
  have d:=h6 j 1 hj (by omega);have g:∀q,q<c.size->W.cell? ⟨lb,q,none⟩=some (c.getD q undef):=λq k=>by simp[Go.World.cell?,h2,k]
  refine⟨_,(g _ (by omega)).trans ?_,g _ (by omega),?_⟩
  .rw [<-Qh3 (j*2)];exact congrArg some (WX i)
  .rw [Qi5];exact d
theorem Ym{W W' : Go.World}{g q:Nat}{v:Value}(st:Stp nB W W')(h:W.cell? ⟨g,q,none⟩=some v):W'.cell? ⟨g,q,none⟩=some v:=by
 simp only[Go.World.cell?]at h⊢
 cases ho:W.heap[g]? with
 |none=>rw[ho]at h;cases h
 |some o=>rw[st.block g (J2 ho) λh=>h,ho];rw[ho]at h;exact h
theorem Rb{W W' : Go.World}{g q:Nat}{r:Value}(st:Stp nB W W')(h:W.heap.size<=g):Stp nB W (W'.setCell ⟨g,q,none⟩ r):=by
 refine⟨st.os,st.tape,st.output,?_,λk a _=>?_,st.dr⟩
 .simp only[Go.World.setCell,Qn7];exact st.size
 .simp only[Go.World.setCell,Qe2]
  rw[Qa1 (by omega)];exact st.block k a λh=>h
theorem Jt{W:Go.World}{b q T:Nat}{C:Array Value}(h:W.heap[b]?=some (.cells C T (0,0)))(hq:q<C.size):W.cell? ⟨b,q,none⟩=some (C.getD q undef):=by simp[Go.World.cell?,h,hq]
theorem Cy{W:Go.World}{b q T:Nat}{C:Array Value}(h:W.heap[b]?=some (.cells C T (0,0))):W.frozen? ⟨b,q,none⟩=false:=by simp[Go.World.frozen?,h]
theorem LOK.slice{W:Go.World}{X:Nat->Prop}{s:Value}{l:List Line}{B:Nat}{D:Array Value}{T:TypeId}(h:LOK W X s l B D T):∃ad c,s=.slice ad l.length c:=by
 rcases Qk7 (l=[])with e|e
 .obtain ⟨ad,c,a⟩:=h.em e
  subst e;exact⟨ad,c,a⟩
 .obtain ⟨⟨c,a,_⟩,_⟩:=h.ne e
  exact⟨_,c,a⟩
theorem Z5m{F:Nat}{l:List Version}(h:FB F l=some ()){w:Go.World}{X:Nat->Prop}{v:Value}(hX:∀ b,X b->b<w.heap.size)(hv:DRep w X v (DL l)):
  Calls Tryz.prog 62 #[v] w λe w'=>∃u b C bl cl tl,e=.returned u/\VR w' X w.heap.size u l.length l b C bl cl tl/\Stp nB w w':=by
 obtain⟨z,hz,h⟩:=Yf h;obtain⟨rfl,P⟩:=Ua h
 have i3:=Z5a hz;obtain⟨n,hn⟩:∃n,z.length=n:=⟨_,rfl⟩
 rw[hn]at i3;obtain⟨ad,cp,rfl⟩:=Yp (n:=z.length) (f:=LF z) hv
 rw[hn]at hv⊢;have hc:=SP.own (vs:= #[.slice ad n cp]) (r':=λ_=>AO z) (Q7U hz) hX rfl (λj hj η C=>XF hv hj η C) rfl
 go_enter Tryz.func62,Tryz.ntmps62
 go_wp2_with (go_at_call 134;refine hc.mono ?_;rintro e w1 ⟨u,η,Cx,X',rfl,ho,hXX,hbl,st1⟩)
 obtain⟨b,C,R0,b0⟩:=VR.start (base:=w.heap.size) ho (λg hg=>(hbl g hg).2) (λg hg hx=>absurd (hX g hx) (by omega));rw[hn]at R0
 clear hc ho hbl
 have k4:n=0\/∃lb O,ad=some ⟨lb,O,none⟩:=by
  rw[<-hn];unfold DL at hv
  rw[hn]at hv
  cases hv with
  |nil=>exact .inl hn
  |lst b O _ cap c e fz _ es h1 h2 h3 h4 h5 h6=>exact .inr ⟨_,_,rfl⟩
 refine XD (I:=λm a W=>∃(j:Nat) (s4 s5 s6 s7 a2 a1 b3 b6 U d8 b7 c5 d5 Y a5 c9 i7 j4 g4 e0 a8 d6 a3 d7 c0 c8 Z c7 b5 b2 c1 b9 a9 d9 b1 b8 a0 a4 d4:Value) (C:Array Value) (bl:Nat->Nat) (cl:Nat->Array Value) (tl:Nat->TypeId),j+m=n/\a=⟨#[.slice ad n cp,undef,.slice none 0 0,u,s4,s5,s6,s7,.slice ad n cp,u,.slice ad n cp,.int .i64 n,.int .i64 j,a2,a1,b3,b6,U,d8,b7,c5,d5,Y,a5,c9,i7,j4,g4,e0,a8,d6,a3,d7,c0,c8,Z,c7,b5,b2,c1,b9,a9,d9,b1,b8,a0,a4,d4],[]⟩/\VR W X w.heap.size u n (z.take j) b C bl cl tl/\PW C z j/\Stp nB w W/\HQ F (z.drop j)=some ()) ?_ n _ _ ⟨0,_,_,_,_,_,_,_,_,_,_,_,_,_,_,_,_,_,_,_,_,_,_,_,_,_,_,_,_,_,_,_,_,_,_,_,_,_,_,_,C,_,_,_,by omega,rfl,R0,b0,st1,P⟩
 clear R0 b0 st1 P C
 rintro m a W ⟨j,s4,s5,s6,s7,a2,a1,b3,b6,U,d8,b7,c5,d5,Y,a5,c9,i7,j4,g4,e0,a8,d6,a3,d7,c0,c8,Z,c7,b5,b2,c1,b9,a9,d9,b1,b8,a0,a4,d4,C,bl,cl,tl,hj,rfl,R,hr,st,P⟩
 cases m with
 |zero=>
  obtain rfl:j=n:=by omega
  go_wp2
  go_ret
  refine⟨u,b,C,bl,cl,tl,rfl,?_,st⟩
  rwa [<-hn,Qe5,hn]at R
 |succ m=>
  have e4:j<z.length:=by omega
  have p9:(j:Int)<n:=by omega
  rw[Q8F e4]at P;obtain⟨y,hy,P⟩:=Yf P
  obtain⟨l8,P⟩:=Ua P;rw[l8]at hy
  obtain⟨_,o,P⟩:=Yf P;obtain⟨lb,O,rfl⟩:=k4.resolve_left (by omega)
  obtain⟨s,q0,q1,hs⟩:=Q5W hv e4;have q0:=Ym st q0
  have j6:=Z4Z hy;obtain⟨k,hk⟩:∃k,(gl z j).lines_.length=k:=⟨_,rfl⟩
  rw[hk]at j6;obtain⟨J,G,rfl⟩:=Yp (n:=(gl z j).lines_.length) (f:=LF _) hs
  rw[hk]at hs q1;have q1:=Ym st q1
  obtain⟨W1,hW1⟩:∃W1,W.alloc (.cells #[.int .i64 (gl z j).day_,.slice J k G] 52)=W1:=⟨_,rfl⟩;have d:Stp nB W W1:=hW1 ▸ Stp.alloc _ _ _
  have h1:W1.heap[W.heap.size]?=some (.cells #[.int .i64 (gl z j).day_,.slice J k G] 52 (0,0)):=hW1 ▸ Go.World.alloc_heap_new _ _;have g3:DRep W1 X (.slice J k G) (DL (gl z j).lines_):=DRep.mono hs λb hb hx=>⟨(K4 st d).block b hb λh=>h,hx⟩
  have l3:∀b,X b->b<W1.heap.size:=λb hb=>Qb6 (hX b hb) (Qc4 st.size d.size)
  have hc:=SP.own (vs:= #[.slice J k G]) (r':=λ_=>AO (gl z j).lines_) (Q7Y hy) l3 rfl (λj hj η C=>XF g3 hj η C) rfl;have p0:W1.cell? ⟨W.heap.size,0,none⟩=some (.int .i64 (gl z j).day_):=by simp[Go.World.cell?,h1]
  have p1:W1.cell? ⟨W.heap.size,1,none⟩=some (.slice J k G):=by simp[Go.World.cell?,h1]
  obtain⟨⟨cu,rfl,o9⟩,⟨TC,i8⟩,q5⟩:=R.ne (by omega);have h9:b<W.heap.size:=J2 i8
  have e7:W1.heap[b]?=some (.cells C TC (0,0)):=(d.block b h9 λh=>h).trans i8;obtain⟨j0,q6,on,oc,e9⟩:=hr j (Qb4 _) e4
  have a7:(z.take j).length=j:=by rw[Qd7];omega
  go_wp2_with (go_at_call 135;refine hc.mono ?_;rintro e W2 ⟨s,η2,q3,X2,rfl,l6,h8,a6,V⟩;have e3:W2.heap[b]?=some (.cells C TC (0,0)):=(V.block b (J2 e7) λh=>h).trans e7;have c2:W2.cell? ⟨b,j*2+1,none⟩=some (C.getD (j*2+1) undef):=Jt e3 (by omega);have f2:W2.frozen? ⟨b,j*2+1,none⟩=false:=Cy e3;obtain⟨B,D,T,L,f3⟩:=LOK.of l6 h8;obtain⟨e6,e2,g5⟩:=L.slice;rw[hk]at g5;obtain rfl:=g5;obtain⟨W3,hW3⟩:∃W3,W2.setCell ⟨b,j*2+1,none⟩ (.slice e6 k e2)=W3:=⟨_,rfl⟩;have j5:W2.heap[W.heap.size]?=_:=(V.block _ (J2 h1) λh=>h).trans h1;have h3:W3.heap[W.heap.size]?=_:=hW3 ▸ (Cut0.same ⟨e3,_,_,_,e9⟩ (.slice e6 k e2) (Nat.ne_of_gt h9)).trans j5;have p3:W3.cell? ⟨W.heap.size,1,none⟩=some (.slice J k G):=by simp[Go.World.cell?,h3])
  have R2:=R.stp (K4 d V);have R3:=R2.push (x:=gl z j) (by omega) (by rw[a7];exact j0) (by rw[a7];exact⟨_,_,_,e9⟩) L (λe=>⟨Qc4 (Qc4 st.size d.size) (a6 _ (f3 e)).2,λe'=>by have:=(a6 _ (f3 e)).2;have:=J2 e7;omega⟩) (λe i hi P e'=>by
   obtain⟨_,hh,_⟩:=(R.ln i hi).ne P;have:=J2 hh
   have:=(a6 _ (f3 e)).2
   have:=d.size
   omega)
  rw[a7,hW3]at R3;have g2:Stp nB w W3:=hW3 ▸ Rb (K4 (K4 st d) V) R.fr.1
  generalize hCC:C.setIfInBounds (j*2+1) (.slice e6 k e2)=C3 at R3;have l9:PW C3 z (j+1):=hCC ▸ hr.set _
  have i4:C3.getD (j*2+1) undef=.slice e6 k e2:=by
   rw[<-hCC];have:j*2+1<C.size:=by omega
   simp[Qd4,this]
  refine XD (I:=λm a W'=>∃(q:Nat) (s6 s7 a2 a1 b3 b6 U d8 b7 c5 d5 Y a5 c9 e0 a8 d6 a3 d7 c0 c8 Z c7 b5 b2 c1 b9 a9 d9 b1 b8 a0 a4 d4:Value) (cl:Nat->Array Value),q+m=k/\a=⟨#[.slice (some ⟨lb,O,none⟩) n cp,undef,.slice none 0 0,.slice (some ⟨b,0,none⟩) n cu,.int .i64 j,.pointer (some ⟨W.heap.size,0,none⟩),s6,s7,.slice (some ⟨lb,O,none⟩) n cp,.slice (some ⟨b,0,none⟩) n cu,.slice (some ⟨lb,O,none⟩) n cp,.int .i64 n,.int .i64 j,a2,a1,b3,b6,U,d8,b7,c5,d5,Y,a5,c9,.slice J k G,.int .i64 k,.int .i64 q,e0,a8,d6,a3,d7,c0,c8,Z,c7,b5,b2,c1,b9,a9,d9,b1,b8,a0,a4,d4],[]⟩/\VR W' X w.heap.size (.slice (some ⟨b,0,none⟩) n cu) n (z.take j++[gl z j]) b C3 (λi=>if i=j then B else bl i) cl (λi=>if i=j then T else tl i)/\Stp nB w W' /\ HP F ((gl z j).lines_.drop q)=some ()) ?_ k _ _ ⟨0,_,_,_,_,_,_,_,_,_,_,_,_,_,_,_,_,_,_,_,_,_,_,_,_,_,_,_,_,_,_,_,_,_,_,_,by omega,rfl,R3,g2,o⟩
  clear R3 g2 o p0 p1 p3 hc g3 h1 h3 j5 hW1 hW3 d e7 e3 c2 f2 V
  rintro m' a W' ⟨q,s6,s7,a2,a1,b3,b6,U,d8,b7,c5,d5,Y,a5,c9,e0,a8,d6,a3,d7,c0,c8,Z,c7,b5,b2,c1,b9,a9,d9,b1,b8,a0,a4,d4,m1,hq,rfl,R',E,o⟩
  cases m' with
  |zero=>
   go_wp2
   rw[Q5L e4]at R';have hw:wrap64 ((j:Int)+1)=((j+1:Nat):Int):=by unfold Z9 at i3;unfold wrap64;omega
   rw[hw];exact⟨m,rfl,j+1,_,_,_,_,_,_,_,_,_,_,_,_,_,_,_,_,_,_,_,_,_,_,_,_,_,_,_,_,_,_,_,_,_,_,_,_,_,_,_,C3,_,_,_,by omega,rfl,R',l9,E,P⟩
  |succ m' =>
   have H:q<(gl z j).lines_.length:=by omega
   have p8:(q:Int)<k:=by omega
   rw[Hy H]at o;obtain⟨y2,i5,o⟩:=Yf o
   obtain⟨j1,o⟩:=Ua o;rw[j1]at i5
   obtain⟨o1,m4,rv,rfl,t0,t1,t2,t3,f8⟩:=Z1I hs H;obtain⟨b4,d0,rfl⟩:=Yp (n:=(gl (gl z j).lines_ q).g_.t_.length) (f:=LF _) f8
   have t0:=Ym E t0;have t1:=Ym E t1
   have t2:=Ym E t2;have t3:=Ym E t3
   obtain⟨rk,hrk⟩:∃rk,(gl (gl z j).lines_ q).g_.t_.length=rk:=⟨_,rfl⟩;rw[hrk]at f8 t1
   obtain⟨W4,hW4⟩:∃W4,W'.alloc (.cells #[.int .i64 (gl (gl z j).lines_ q).p_,.slice b4 rk d0,.int .i64 (gl (gl z j).lines_ q).c_,.int .i64 (gl (gl z j).lines_ q).s_] 56)=W4:=⟨_,rfl⟩;have e5:Stp nB W' W4.drew:=K4 (hW4 ▸ Stp.alloc _ _ _) (Stp.drew _ _)
   have h4:W4.drew.heap[W'.heap.size]?=some (.cells #[.int .i64 (gl (gl z j).lines_ q).p_,.slice b4 rk d0,.int .i64 (gl (gl z j).lines_ q).c_,.int .i64 (gl (gl z j).lines_ q).s_] 56 (0,0)):=hW4 ▸ Go.World.alloc_heap_new _ _;have R4:=R'.stp e5
   have c3:j<(z.take j++[gl z j]).length:=by simp[a7]
   have S:gl (z.take j++[gl z j]) j=gl z j:=by have:=gAr (z.take j) (gl z j);rwa [a7]at this
   have L4:=R4.ln j c3;simp only[S,i4,Qh8]at L4
   obtain⟨⟨p2,e8,_⟩,i9,g9⟩:=L4.ne (ne_of_lt H);rw[hk]at e8 g9
   injection e8 with e8 _ _
   subst e8;obtain⟨_,⟨o2,l7⟩,n5⟩:=R4.ne (by omega)
   have c4:W4.drew.cell? ⟨b,j*2+1,none⟩=some (C3.getD (j*2+1) undef):=Jt l7 (by omega);rw[i4]at c4
   have p4:W4.drew.cell? ⟨W'.heap.size,1,none⟩=some (.slice b4 rk d0):=by simp[Go.World.cell?,h4]
   have i2:DRep W4.drew X (.slice b4 rk d0) (DL (gl (gl z j).lines_ q).g_.t_):=DRep.mono f8 λg hg hx=>⟨(K4 E e5).block g hg λh=>h,hx⟩
   have l5:∀g,X g->g<W4.drew.heap.size:=λg hg=>Qb6 (hX g hg) (Qc4 E.size e5.size)
   have k5:=SP.calls (vs:= #[.slice b4 rk d0]) (qo i5) l5 rfl (λj hj η C=>XF i2 hj η C);have ct:=R4.cut c3 (by rw[S];exact H)
   simp only[S,Qh8]at ct
   go_wp2
   apply Qm7 (Q:=(λ(A:Option Addr->Nat->Act) e a' W2=>match e with|.normal=>∃p t W6,a'=A p t/\Stp nB W4.drew W6/\DRep W6 X (.slice p rk t) (DL (gl (gl z j).lines_ q).g_.t_)/\W2=W6.setCell ⟨B,q*4+1,none⟩ (.slice p rk t)|_=>False) _)
   case h=>
    have o3:Tryz.prog.follows .mixedOrders=true:=by kernel_rfl
    go_region_with_o (go_at_call 136;refine k5.mono ?_;rintro e W6 ⟨r',η6,o4,rfl,f1,M⟩;have i1:W6.heap[B]?=_:=(M.block B (J2 i9) λh=>h).trans i9;have c6:W6.cell? ⟨B,q*4+1,none⟩=some ((m1 j).getD (q*4+1) undef):=Jt i1 (by omega);have f6:W6.frozen? ⟨B,q*4+1,none⟩=false:=Cy i1;have d2:=Z5K f1;obtain⟨p,t,rfl⟩:=Yp (n:=(gl (gl z j).lines_ q).g_.t_.length) (f:=LF _) d2;rw[hrk]at d2;have p7:=Ym M c4;have n8:=Ym M p4)
    all_goals exact⟨p,t,_,rfl,M,d2,rfl⟩
   intro e a' W8 hh;have g6:e=.normal:=by cases e<;>first|rfl|exact(hh:False).elim
   subst g6;obtain⟨p,t,W6,rfl,M,f1,rfl⟩:=hh
   have R8:=(R4.stp M).set c3 (K:=q) (by rw[S];exact H) (rl:=(gl (gl z j).lines_ q).g_.t_) f1;rw[Z1k c3 (by rw[S]) H]at R8
   simp only[Qh8]at R8;have g8:Stp nB w (W6.setCell ⟨B,q*4+1,none⟩ (.slice p rk t)):=Rb (K4 (K4 E e5) M) (by have:=(R4.fr.2 j c3 (by rw[S];exact ne_of_lt H)).1;simp only[Qh8]at this;exact this)
   generalize W6.setCell ⟨B,q*4+1,none⟩ (.slice p rk t)=W9 at R8 g8⊢
   try simp only[Exit.then]
   go_wp2
   have hw:wrap64 ((q:Int)+1)=((q+1:Nat):Int):=by unfold Z9 at j6;unfold wrap64;omega
   rw[hw];exact⟨m',rfl,q+1,_,_,_,_,_,_,_,_,_,_,_,_,_,_,_,_,_,_,_,_,_,_,_,_,_,_,_,_,_,_,_,_,_,_,_,by omega,rfl,R8,g8,o⟩
end Go.Ab
end
section
namespace Go.Ab
open Go.Proofs Go.Shelf Go.RowKit Go.Lib
set_option maxHeartbeats 4000000
set_option maxRecDepth 100000
abbrev Hb(n:Int):Value:=.int .i64 n
def Kx(t:Array Value):List (Nat×Value)->Prop
 |[]=>True
 |(i,v)::r=>t.getD i undef=v/\Kx t r
def Fx(n:Nat)(a:Act)(k:List (Nat×Value)):Prop:=a.defers=[]/\a.tmps.size=n/\Kx a.tmps k
theorem Ku{n:Nat}{a:Act}(h:a.tmps.size=n)(hd:a.defers=[]):∃S:Nat->Value,a=⟨((List.range n).map S).toArray,[]⟩/\∀i,a.tmps.getD i undef=S i:=by
 obtain⟨t,d⟩:=a;obtain rfl:d=[]:=hd
 refine⟨λi=>t.getD i undef,?_,λi=>rfl⟩;congr 1
 refine Qt4 (by simpa using h) λi c e=>?_
 simp[Array.getD,c]
theorem PK{R:Type}{b:Bool}{x y:Option R}{r:R}(h:br b x y=some r):b=true/\x=some r\/b=false/\y=some r:=by
 cases b
 .exact .inr ⟨rfl,h⟩
 .exact .inl ⟨rfl,h⟩
theorem kG{W:Go.World}{X:Nat->Prop}{ad:Option Addr}{n cp:Nat}{z:List Yield}(h:DRep W X (.slice ad n cp) (DL z)){j:Nat}(hj:j<z.length):∃lb off rv,ad=some ⟨lb,off,none⟩/\W.cell? ⟨lb,off+j*3,none⟩=some (.int .i64 (gl z j).place_.application_)/\W.cell? ⟨lb,off+j*3+1,none⟩=some (.int .i64 (gl z j).place_.line_)/\W.cell? ⟨lb,off+j*3+2,none⟩=some rv/\DRep W X rv (DL (gl z j).g_.t_):=by
 unfold DL at h;generalize hN:z.length=N at h hj
 cases h with
 |nil=>omega
 |lst b off _ cap c e fz _ es h1 h2 h3 h4 h5 h6=>
  have m:es=3:=by have:=h5 j hj;exact this.symm
  subst m;have a:=h6 j 0 hj (by omega)
  have d:=h6 j 1 hj (by omega);have k:=h6 j 2 hj (by omega)
  have g:∀q,q<c.size->W.cell? ⟨b,q,none⟩=some (c.getD q undef):=λq i=>by simp[Go.World.cell?,h2,i]
  refine⟨b,off,_,rfl,(g _ (by omega)).trans ?_,(g _ (by omega)).trans ?_,g _ (by omega),?_⟩
  .rw [<-Qh3 (j*3)];exact congrArg some (WX a)
  .rw [Qi5];exact congrArg some (WX d)
  .rw [Qi5];exact k
theorem Z5p{F:Nat}{l:List Version}{y:List Yield}{r:List Version×Int}(h:Fp F l y=some r){w:Go.World}{X:Nat->Prop}{v u:Value}(hX:∀ b,X b->b<w.heap.size)(hv:DRep w X v (DL l))(hu:DRep w X u (DL y)):
  Calls Tryz.prog 27 #[v,u] w λe w'=>(r.2≠0/\r.1=[]/\e=.returned (.tuple #[.slice none 0 0,Hb r.2])\/r.2=0/\∃o b C bl cl tl,e=.returned (.tuple #[o,Hb 0])/\VR w' X w.heap.size o r.1.length r.1 b C bl cl tl)/\Stp nB w w':=by
 obtain⟨z,hz,h⟩:=Yf h;obtain⟨ad,cp,rfl⟩:=Yp (n:=l.length) (f:=LF l) hv
 obtain⟨c4,c0,rfl⟩:=Yp (n:=y.length) (f:=LF y) hu;obtain⟨ny,hny⟩:∃ny,y.length=ny:=⟨_,rfl⟩
 have c9:=Z5j hz hX hv;rcases PK h with ⟨k,h⟩|⟨k,h⟩
 .cases h
  go_enter Tryz.func27,Tryz.ntmps27
  go_wp2_with (go_at_call 60;refine c9.mono ?_;rintro e w1 ⟨x1,rfl,d⟩)
  go_ret2
  exact⟨.inl ⟨by simpa using k,trivial,rfl⟩,d⟩
 have l3:z.2=0:=by simpa using k
 rcases PK h with ⟨P,h⟩|⟨P,h⟩
 .cases h
  rw[hny]at P;have P:=Qa8 P
  go_enter Tryz.func27,Tryz.ntmps27
  go_wp2_with (go_at_call 60;refine c9.mono ?_;rintro e w1 ⟨x1,rfl,d⟩)
  go_ret2
  exact⟨.inl ⟨by decide,trivial,rfl⟩,d⟩
 obtain⟨e0,e3,h⟩:=Yf h;rw[hny]at P
 have P:=Qb2 P
 go_enter Tryz.func27,Tryz.ntmps27
 go_wp2_with (go_at_call 60;refine c9.mono ?_;rintro e w1 ⟨x1,rfl,d⟩)
 refine XD (I:=λm a W=>∃j:Nat,j+m=ny/\Fx 82 a [(0,.slice ad l.length cp),(1,.slice c4 ny c0),(4,.slice none 0 0),(5,.int .i64 0),(26,.slice c4 ny c0),(27,.int .i64 ny),(28,.int .i64 j)]/\Stp nB w W/\GY F l (y.drop j)=some e0) ?_ ny _ _ ⟨0,by omega,⟨rfl,rfl,rfl,rfl,rfl,rfl,rfl,rfl,rfl,trivial⟩,d,e3⟩
 clear d e3
 rintro m a W ⟨j,hj,hx,p,Y⟩;obtain⟨E,G,k0,k1,k4,k5,a5,b0,a7, -⟩:=hx
 cases m with
 |succ m=>
  have b7:j<y.length:=by omega
  have h3:(j:Int)<ny:=by omega
  rw[Hy b7]at Y;obtain⟨lb,h5,rv,rfl,q0,q1,q2,V⟩:=kG hu b7
  obtain⟨t,s,rfl⟩:=Yp (n:=(gl y j).g_.t_.length) (f:=LF _) V;obtain⟨rk,hrk⟩:∃rk,(gl y j).g_.t_.length=rk:=⟨_,rfl⟩
  rw[hrk]at V q2;have q0:=Ym p q0
  have q1:=Ym p q1;have q2:=Ym p q2
  obtain⟨W1,hW1⟩:∃W1,W.alloc (.cells #[.int .i64 (gl y j).place_.application_,.int .i64 (gl y j).place_.line_,.slice t rk s] 103)=W1:=⟨_,rfl⟩;have b8:Stp nB W W1:=hW1 ▸ Stp.alloc _ _ _
  have h1:W1.heap[W.heap.size]?=some (.cells #[.int .i64 (gl y j).place_.application_,.int .i64 (gl y j).place_.line_,.slice t rk s] 103 (0,0)):=hW1 ▸ Go.World.alloc_heap_new _ _;have p0:W1.cell? ⟨W.heap.size,0,none⟩=some (.int .i64 (gl y j).place_.application_):=by simp[Go.World.cell?,h1]
  have p1:W1.cell? ⟨W.heap.size,1,none⟩=some (.int .i64 (gl y j).place_.line_):=by simp[Go.World.cell?,h1]
  have p2:W1.cell? ⟨W.heap.size,2,none⟩=some (.slice t rk s):=by simp[Go.World.cell?,h1]
  have d:=K4 p b8;have g5:DRep W1 X (.slice ad l.length cp) (DL l):=DRep.mono hv λb k hx=>⟨d.block b k λh=>h,hx⟩
  have d9:∀b,X b->b<W1.heap.size:=λb k=>Qb6 (hX b k) d.size
  obtain⟨bt,h7,Y⟩:=Yf Y;have d0:=Z5i h7 d9 g5
  obtain⟨S,rfl,hS⟩:=Ku G E;rw[hS]at k0 k1 k4 k5 a5 b0 a7;rw[show((List.range 82).map S).toArray=#[S 0,S 1,S 2,S 3,S 4,S 5,S 6,S 7,S 8,S 9,S 10,S 11,S 12,S 13,S 14,S 15,S 16,S 17,S 18,S 19,S 20,S 21,S 22,S 23,S 24,S 25,S 26,S 27,S 28,S 29,S 30,S 31,S 32,S 33,S 34,S 35,S 36,S 37,S 38,S 39,S 40,S 41,S 42,S 43,S 44,S 45,S 46,S 47,S 48,S 49,S 50,S 51,S 52,S 53,S 54,S 55,S 56,S 57,S 58,S 59,S 60,S 61,S 62,S 63,S 64,S 65,S 66,S 67,S 68,S 69,S 70,S 71,S 72,S 73,S 74,S 75,S 76,S 77,S 78,S 79,S 80,S 81]from rfl,k0,k1,k4,k5,a5,b0,a7];clear E G hS k0 k1 k4 k5 a5 b0 a7
  cases bt with
  |false=>
   obtain rfl:(15:Int)=e0:=by cases Y;rfl
   cases h
   go_wp2_with (go_at_call 61;refine d0.mono ?_;rintro e W2 ⟨rfl,c⟩)
   go_ret2
   exact⟨rfl,K4 d c⟩
  |true=>
   have Y:((Ya F (gl y j).g_).bind λb=>br b (GY F l (y.drop (j+1))) (some 7))=some e0:=Y;obtain⟨bv,g7,Y⟩:=Yf Y
   have d8:∀W2,Stp nB W1 W2->Calls Tryz.prog 39 #[.agg #[.slice t rk s]] W2 λe w'=>e=.returned (.bool bv)/\Stp nB W2 w':=λW2 c=>
    Z5h (l:=(gl y j).g_.t_) g7 (λb k=>Qb6 (d9 b k) c.size) (DRep.mono V λb k hx=>⟨(K4 d c).block b k λh=>h,hx⟩)
   cases bv with
   |false=>
    obtain rfl:(7:Int)=e0:=by cases Y;rfl
    cases h
    go_wp2_with (first|(go_at_call 61;refine d0.mono ?_;rintro e W2 ⟨rfl,c⟩;have g4:=Ym c p2)|(go_at_call 39;refine(d8 _ c).mono ?_;rintro e W3 ⟨rfl,J⟩))
    go_ret2
    exact⟨rfl,K4 d (K4 c J)⟩
   |true=>
    have Y:GY F l (y.drop (j+1))=some e0:=Y
    go_wp2_with (first|(go_at_call 61;refine d0.mono ?_;rintro e W2 ⟨rfl,c⟩;have g4:=Ym c p2)|(go_at_call 39;refine(d8 _ c).mono ?_;rintro e W3 ⟨rfl,J⟩))
    have hw:wrap64 ((j:Int)+1)=((j+1:Nat):Int):=by unfold wrap64;omega
    try rw[hw]
    exact⟨m,rfl,j+1,by omega,⟨rfl,rfl,rfl,rfl,rfl,rfl,rfl,rfl,rfl,trivial⟩,K4 d (K4 c J),Y⟩
 |zero=>
  obtain rfl:j=ny:=by omega
  rw[<-hny,Qh4]at Y;cases Y
  obtain⟨_,h8,h⟩:=Yf h;obtain⟨r0,c3,h⟩:=Yf h
  have c8:∀b,X b->b<W.heap.size:=λb k=>Qb6 (hX b k) p.size
  have e6:=Z5m h8 c8 (DRep.mono hv λb k hx=>⟨p.block b k λh=>h,hx⟩);obtain⟨S,rfl,hS⟩:=Ku G E;rw[hS]at k0 k1 k4 k5 a5 b0 a7;rw[show((List.range 82).map S).toArray=#[S 0,S 1,S 2,S 3,S 4,S 5,S 6,S 7,S 8,S 9,S 10,S 11,S 12,S 13,S 14,S 15,S 16,S 17,S 18,S 19,S 20,S 21,S 22,S 23,S 24,S 25,S 26,S 27,S 28,S 29,S 30,S 31,S 32,S 33,S 34,S 35,S 36,S 37,S 38,S 39,S 40,S 41,S 42,S 43,S 44,S 45,S 46,S 47,S 48,S 49,S 50,S 51,S 52,S 53,S 54,S 55,S 56,S 57,S 58,S 59,S 60,S 61,S 62,S 63,S 64,S 65,S 66,S 67,S 68,S 69,S 70,S 71,S 72,S 73,S 74,S 75,S 76,S 77,S 78,S 79,S 80,S 81]from rfl,k0,k1,k4,k5,a5,b0,a7];clear E G hS k0 k1 k4 k5 a5 b0 a7
  go_wp2_with (go_at_call 62;refine e6.mono ?_;rintro e W1 ⟨u,b,C,bl,cl,tl,rfl,R0,d⟩)
  have R0:VR W1 X w.heap.size u l.length l b C bl cl tl:=⟨R0.em,R0.ne,R0.le,R0.day,R0.ln,⟨Qc4 p.size R0.fr.1,λj hj hl=>⟨Qc4 p.size (R0.fr.2 j hj hl).1,(R0.fr.2 j hj hl).2⟩⟩,R0.ds,λg hg hx=>absurd (hX g hx) (by omega)⟩;have c3:HR F l (y.drop 0)=some r0:=c3
  refine XD (I:=λm a W=>∃(i:Nat) (o:List Version) (C:Array Value) (bl:Nat->Nat) (cl:Nat->Array Value) (tl:Nat->TypeId),i+m=j/\Fx 82 a [(1,.slice c4 j c0),(4,.slice none 0 0),(5,.int .i64 0),(10,u),(46,.slice c4 j c0),(47,.int .i64 j),(48,.int .i64 i)]/\VR W X w.heap.size u l.length o b C bl cl tl/\o.length=l.length/\Stp nB w W/\HR F o (y.drop i)=some r0) ?_ j _ _ ⟨0,l,C,bl,cl,tl,by omega,⟨rfl,rfl,rfl,rfl,rfl,rfl,rfl,rfl,rfl,trivial⟩,R0,rfl,K4 p d,c3⟩
  clear R0 c3 e6 d p
  rintro m a W ⟨i,o,C,bl,cl,tl,hi,hx,R,f3,p,hg⟩;obtain⟨E,G,k1,k4,k5,a6,Z,b2,a4, -⟩:=hx
  cases m with
  |zero=>
   obtain rfl:i=j:=by omega
   rw[<-hny,Qh4]at hg;cases hg
   obtain⟨e2,g9,h⟩:=Yf h;have c8:∀b,X b->b<W.heap.size:=λb k=>Qb6 (hX b k) p.size
   have e9:=Q3v g9 c8 (R.drep f3.symm);obtain⟨S,rfl,hS⟩:=Ku G E;rw[hS]at k1 k4 k5 a6 Z b2 a4;rw[show((List.range 82).map S).toArray=#[S 0,S 1,S 2,S 3,S 4,S 5,S 6,S 7,S 8,S 9,S 10,S 11,S 12,S 13,S 14,S 15,S 16,S 17,S 18,S 19,S 20,S 21,S 22,S 23,S 24,S 25,S 26,S 27,S 28,S 29,S 30,S 31,S 32,S 33,S 34,S 35,S 36,S 37,S 38,S 39,S 40,S 41,S 42,S 43,S 44,S 45,S 46,S 47,S 48,S 49,S 50,S 51,S 52,S 53,S 54,S 55,S 56,S 57,S 58,S 59,S 60,S 61,S 62,S 63,S 64,S 65,S 66,S 67,S 68,S 69,S 70,S 71,S 72,S 73,S 74,S 75,S 76,S 77,S 78,S 79,S 80,S 81]from rfl,k1,k4,k5,a6,Z,b2,a4];clear E G hS k1 k4 k5 a6 Z b2 a4
   rcases PK h with ⟨k,h⟩|⟨k,h⟩
   .cases h
    have l1:e2≠0:=by simpa using k
    go_wp2_with (go_at_call 31;refine e9.mono ?_;rintro e W2 ⟨rfl,c⟩)
    go_ret2
    exact⟨rfl,K4 p c⟩
   .cases h
    obtain rfl:e2=0:=by simpa using k
    go_wp2_with (go_at_call 31;refine e9.mono ?_;rintro e W2 ⟨rfl,c⟩)
    go_ret2
    exact⟨⟨u,rfl,b,C,bl,cl,tl,R.stp c⟩,K4 p c⟩
  |succ m=>
   have b7:i<y.length:=by omega
   have h3:(i:Int)<j:=by omega
   rw[Hy b7]at hg;obtain⟨o',M,hg⟩:=Yf hg
   obtain⟨c2,M⟩:=Ua M;obtain⟨z,hz,M⟩:=Yf M
   cases M
   obtain⟨lb,h5,rv,rfl,q0,q1,q2,V⟩:=kG hu b7;obtain⟨A,eA⟩:∃A:Nat,(gl y i).place_.application_=(A:Int):=⟨_,(Qm6 c2.1).symm⟩
   obtain⟨K,eK⟩:∃K:Nat,(gl y i).place_.line_=(K:Int):=⟨_,(Qm6 c2.2.2.1).symm⟩;unfold ZQ at c2
   unfold PJ at hz;rw[eA,eK,Qa3]at c2
   rw[eA,eK,Qa3,Qa3]at hz;have hA:A<o.length:=by omega
   have hK:K<(gl o A).lines_.length:=by omega
   have e4:UI o (gl y i).place_ z=o.modify A λv=> {v with lines_:=v.lines_.modify K λx=> {x with g_:=⟨z⟩}}:=by
    unfold UI;rw[eA,eK];rfl
   rw[e4]at hg;rw[eA]at q0
   rw[eK]at q1;obtain⟨t,s,rfl⟩:=Yp (n:=(gl y i).g_.t_.length) (f:=LF _) V
   obtain⟨rk,hrk⟩:∃rk,(gl y i).g_.t_.length=rk:=⟨_,rfl⟩;rw[hrk]at V q2
   have q0:=Ym p q0;have q1:=Ym p q1
   have q2:=Ym p q2;obtain⟨W1,hW1⟩:∃W1,W.alloc (.cells #[.int .i64 A,.int .i64 K,.slice t rk s] 103)=W1:=⟨_,rfl⟩
   have b8:Stp nB W W1:=hW1 ▸ Stp.alloc _ _ _;have h1:W1.heap[W.heap.size]?=some (.cells #[.int .i64 A,.int .i64 K,.slice t rk s] 103 (0,0)):=hW1 ▸ Go.World.alloc_heap_new _ _
   have J:Stp nB W W1.drew.drew:=K4 b8 (K4 (Stp.drew _ _) (Stp.drew _ _));have R3:=R.stp J
   have g0:W1.drew.drew.heap[W.heap.size]?=some (.cells #[.int .i64 A,.int .i64 K,.slice t rk s] 103 (0,0)):=h1;obtain⟨⟨cu,rfl,j7⟩,⟨TC,h0⟩,l4⟩:=R3.ne (by omega)
   have L:=R3.ln A hA;obtain⟨⟨h4,e7,f4⟩,d2,h9⟩:=L.ne (ne_of_lt hK)
   obtain⟨a0,a1,a2,a3⟩:=L.at_ K hK;obtain⟨nA,hnA⟩:∃n,(gl o A).lines_.length=n:=⟨_,rfl⟩
   rw[hnA]at e7 f4 h9;have k8:K<nA:=by omega
   have j4:(K:Int)<nA:=by omega
   have l2:(A:Int)<l.length:=by omega
   have p0:W1.drew.cell? ⟨W.heap.size,0,none⟩=some (.int .i64 A):=by show W1.cell? _=_;simp[Go.World.cell?,h1]
   have p1:W1.drew.cell? ⟨W.heap.size,1,none⟩=some (.int .i64 K):=by show W1.cell? _=_;simp[Go.World.cell?,h1]
   have g8:W1.drew.heap[b]?=some (.cells C TC (0,0)):=h0;have c1:W1.drew.cell? ⟨b,A*2+1,none⟩=some (.slice (some ⟨bl A,0,none⟩) nA h4):=(Jt g8 (by omega)).trans (congrArg some e7)
   obtain⟨S,rfl,hS⟩:=Ku G E;rw[hS]at k1 k4 k5 a6 Z b2 a4;rw[show((List.range 82).map S).toArray=#[S 0,S 1,S 2,S 3,S 4,S 5,S 6,S 7,S 8,S 9,S 10,S 11,S 12,S 13,S 14,S 15,S 16,S 17,S 18,S 19,S 20,S 21,S 22,S 23,S 24,S 25,S 26,S 27,S 28,S 29,S 30,S 31,S 32,S 33,S 34,S 35,S 36,S 37,S 38,S 39,S 40,S 41,S 42,S 43,S 44,S 45,S 46,S 47,S 48,S 49,S 50,S 51,S 52,S 53,S 54,S 55,S 56,S 57,S 58,S 59,S 60,S 61,S 62,S 63,S 64,S 65,S 66,S 67,S 68,S 69,S 70,S 71,S 72,S 73,S 74,S 75,S 76,S 77,S 78,S 79,S 80,S 81]from rfl,k1,k4,k5,a6,Z,b2,a4];clear E G hS k1 k4 k5 a6 Z b2 a4
   go_wp2
   go_region
   clear p0 p1 c1
   obtain⟨g1,g3,f1⟩:=Yp (n:=(gl (gl o A).lines_ K).g_.t_.length) (f:=LF _) a1;rw[f1]at a1
   have c5:W1.drew.drew.cell? ⟨bl A,K*4+1,none⟩=some (.slice g1 ((gl (gl o A).lines_ K).g_.t_.length) g3):=(Jt d2 (by omega)).trans (congrArg some f1);obtain⟨r5,hr5⟩:∃n,(gl (gl o A).lines_ K).g_.t_.length=n:=⟨_,rfl⟩
   rw[hr5]at a1 c5;have p5:W1.drew.drew.cell? ⟨W.heap.size,2,none⟩=some (.slice t rk s):=by simp[Go.World.cell?,g0]
   have h6:∀g,X g->g<W1.drew.drew.heap.size:=λg hg=>Qb6 (hX g hg) (Qc4 p.size J.size)
   have i0:=Q3y hz h6 a1 (DRep.mono V λg hg hx=>⟨(K4 p J).block g hg λh=>h,hx⟩);obtain⟨rz,hrz⟩:∃n,z.length=n:=⟨_,rfl⟩
   go_wp2
   apply Qm7 (Q:=(λ(B:Option Addr->Nat->Act) e a' W2=>match e with|.normal=>∃H O W6,a'=B H O/\Stp nB W1.drew.drew W6/\DRep W6 X (.slice H rz O) (DL z)/\W2=W6.setCell ⟨bl A,K*4+1,none⟩ (.slice H rz O)|_=>False) _)
   case h=>
    have k9:Tryz.prog.follows .mixedOrders=true:=by kernel_rfl
    go_region_with_o (go_at_call 29;refine i0.mono ?_;rintro e W6 ⟨r',rfl,b6,U⟩;have e1:W6.heap[bl A]?=_:=(U.block (bl A) (J2 d2) λh=>h).trans d2;have c6:W6.cell? ⟨bl A,K*4+1,none⟩=some ((cl A).getD (K*4+1) undef):=Jt e1 (by omega);have f6:W6.frozen? ⟨bl A,K*4+1,none⟩=false:=Cy e1;obtain⟨H,O,rfl⟩:=Yp (n:=z.length) (f:=LF _) b6;rw[hrz]at b6;have k7:=Ym U c5;have j5:=Ym U p5)
    all_goals exact⟨H,O,_,rfl,U,b6,rfl⟩
   intro e a' W8 hh;have e5:e=.normal:=by cases e<;>first|rfl|exact(hh:False).elim
   subst e5;obtain⟨H,O,W6,rfl,U,b6,rfl⟩:=hh
   have R8:=(R3.stp U).set hA hK b6;have f2:Stp nB w (W6.setCell ⟨bl A,K*4+1,none⟩ (.slice H rz O)):=Rb (K4 (K4 p J) U) (R3.fr.2 A hA (ne_of_lt hK)).1
   generalize W6.setCell ⟨bl A,K*4+1,none⟩ (.slice H rz O)=W9 at R8 f2⊢
   try simp only[Exit.then]
   go_wp2
   have hw:wrap64 ((i:Int)+1)=((i+1:Nat):Int):=by unfold wrap64;omega
   try rw[hw]
   exact⟨m,rfl,i+1,_,C,bl,_,tl,by omega,⟨rfl,rfl,rfl,rfl,rfl,rfl,rfl,rfl,rfl,trivial⟩,R8,by rw[Qj6];exact f3,f2,hg⟩
end Go.Ab
end
section
namespace Go.Ab
open Go.Proofs Go.Shelf Go.RowKit Go.Lib
set_option maxHeartbeats 4000000
set_option maxRecDepth 100000
theorem FR(S:Nat->Value):((List.range 76).map S).toArray=#[S 0,S 1,S 2,S 3,S 4,S 5,S 6,S 7,S 8,S 9,S 10,S 11,S 12,S 13,S 14,S 15,S 16,S 17,S 18,S 19,S 20,S 21,S 22,S 23,S 24,S 25,S 26,S 27,S 28,S 29,S 30,S 31,S 32,S 33,S 34,S 35,S 36,S 37,S 38,S 39,S 40,S 41,S 42,S 43,S 44,S 45,S 46,S 47,S 48,S 49,S 50,S 51,S 52,S 53,S 54,S 55,S 56,S 57,S 58,S 59,S 60,S 61,S 62,S 63,S 64,S 65,S 66,S 67,S 68,S 69,S 70,S 71,S 72,S 73,S 74,S 75]:=rfl
theorem Z4n{W:Go.World}{X:Nat->Prop}{ad:Option Addr}{n cp:Nat}{z:List Double}(h:DRep W X (.slice ad n cp) (DL z)){j:Nat}(hj:j<z.length):∃lb off rv cv,ad=some ⟨lb,off,none⟩/\W.cell? ⟨lb,off+j*2,none⟩=some rv/\W.cell? ⟨lb,off+j*2+1,none⟩=some cv/\DRep W X rv (DL (gl z j).g_.t_)/\DRep W X cv (DL (gl z j).claims_):=by
 unfold DL at h;generalize hN:z.length=N at h hj
 cases h with
 |nil=>omega
 |lst b off _ cap c e fz _ es h1 h2 h3 h4 h5 h6=>
  have a:es=2:=by have:=h5 j hj;exact this.symm
  subst a;have i:=h6 j 0 hj (by omega)
  have d:=h6 j 1 hj (by omega);have g:∀q,q<c.size->W.cell? ⟨b,q,none⟩=some (c.getD q undef):=λq k=>by simp[Go.World.cell?,h2,k]
  refine⟨b,off,_,_,rfl,g _ (by omega),g _ (by omega),?_,?_⟩
  .rw [<-Qh3 (j*2)];exact i
  .rw [Qi5];exact d
theorem Z0z{W:Go.World}{X:Nat->Prop}{ad:Option Addr}{n cp:Nat}{z:List Place}(h:DRep W X (.slice ad n cp) (DL z)){j:Nat}(hj:j<z.length):∃lb off,ad=some ⟨lb,off,none⟩/\W.cell? ⟨lb,off+j*2,none⟩=some (.int .i64 (gl z j).application_)/\W.cell? ⟨lb,off+j*2+1,none⟩=some (.int .i64 (gl z j).line_):=by
 unfold DL at h;generalize hN:z.length=N at h hj
 cases h with
 |nil=>omega
 |lst b off _ cap c e fz _ es h1 h2 h3 h4 h5 h6=>
  have a:es=2:=by have:=h5 j hj;exact this.symm
  subst a;have i:=h6 j 0 hj (by omega)
  have d:=h6 j 1 hj (by omega);have g:∀q,q<c.size->W.cell? ⟨b,q,none⟩=some (c.getD q undef):=λq k=>by simp[Go.World.cell?,h2,k]
  refine⟨b,off,rfl,(g _ (by omega)).trans ?_,(g _ (by omega)).trans ?_⟩
  .rw [<-Qh3 (j*2)];exact congrArg some (WX i)
  .rw [Qi5];exact congrArg some (WX d)
theorem Cut.ne2{W:Go.World}{B q g:Nat}{D:Array Value}{T T' : TypeId}(h:Cut W B q D T){ad:Option Addr}{n c:Nat}{y:Value}(hg:W.heap[g]?=some (.cells #[.slice ad n c,y] T' (0,0))):g≠B:=by
 rintro rfl;rw[h.at_]at hg
 cases hg
 obtain⟨o,j,i,a⟩:=h.me;obtain⟨e,m,d⟩:=h.lo
 match q,e with
 |1,_=>cases d
 |k+2,_=>cases a
theorem Px{W:Go.World}{X:Nat->Prop}{α:Type}[Emb α]:DRep W X (.slice none 0 0) (DL (α:=α) []):=.nil _ _ _
theorem Z5o{F:Nat}{l:List Version}{y:List Yield}{r:List Version×List Double×Int}(h:HF F l y=some r){w:Go.World}{X:Nat->Prop}{v v2:Value}(hX:∀ b,X b->b<w.heap.size)(hv:DRep w X v (DL l))(hu:DRep w X v2 (DL y)):
  Calls Tryz.prog 8 #[v,v2] w λe w'=>∃p q,e=.returned (.tuple #[p,q,Hb r.2.2])/\DRep w' X p (DL r.1)/\DRep w' X q (DL r.2.1)/\Stp nB w w':=by
 obtain⟨o,ho,h⟩:=Yf h;have a4:=Z5p ho hX hv hu
 rcases PK h with ⟨hb,h⟩|⟨hb,h⟩
 .cases h
  have h5:o.2≠0:=by simpa using hb
  have a4:Calls Tryz.prog 27 #[v,v2] w λe w'=>e=.returned (.tuple #[.slice none 0 0,Hb o.2])/\Stp nB w w':=a4.mono λe w' hh=>by
   rcases hh with ⟨h1|h1,st⟩
   .exact ⟨h1.2.2,st⟩
   .exact absurd h1.1 h5
  go_enter Tryz.func8,Tryz.ntmps8
  go_wp2_with (go_at_call 27;refine a4.mono ?_;rintro e w1 ⟨rfl,H⟩)
  go_ret3
  exact⟨_,_,rfl,Px,Px,H⟩
 have h0:o.2=0:=by simpa using hb
 have a4:Calls Tryz.prog 27 #[v,v2] w λe w'=>∃u b C bl cl tl,e=.returned (.tuple #[u,Hb 0])/\VR w' X w.heap.size u o.1.length o.1 b C bl cl tl/\Stp nB w w':=a4.mono λe w' hh=>by
  rcases hh with ⟨h1|⟨_,u,b,C,bl,cl,tl,h1,h2⟩,st⟩
  .exact absurd h0 h1.1
  .exact ⟨u,b,C,bl,cl,tl,h1,h2,st⟩
 obtain⟨zd,i6,h⟩:=Yf h;have d9:∀w1 u b C bl cl tl,VR w1 X w.heap.size u o.1.length o.1 b C bl cl tl->Stp nB w w1->Calls Tryz.prog 28 #[u] w1 λe w'=>∃y,e=.returned (.tuple #[y,.int .i64 zd.2])/\DRep w' X y (DL zd.1)/\Stp nB w1 w':=λw1 u b C bl cl tl R st=>
  Z5k i6 (λb hb=>Qb6 (hX b hb) st.size) (R.drep rfl)
 rcases PK h with ⟨f2,h⟩|⟨f2,h⟩
 .cases h
  have h5:zd.2≠0:=by simpa using f2
  go_enter Tryz.func8,Tryz.ntmps8
  go_wp2_with (first|(go_at_call 27;refine a4.mono ?_;rintro e w1 ⟨u,b,C,bl,cl,tl,rfl,R,H⟩;skip)|(go_at_call 28;refine(d9 _ _ _ _ _ _ _ R H).mono ?_;rintro e w2 ⟨yd,rfl,d5,G⟩))
  go_ret3
  exact⟨_,_,rfl,Px,Px,K4 H G⟩
 have l1:zd.2=0:=by simpa using f2
 rw[l1]at d9;obtain⟨i1,h⟩:=Ua h
 obtain⟨s0,e0,h⟩:=Yf h;obtain⟨nd,hnd⟩:∃n,zd.1.length=n:=⟨_,rfl⟩
 rw[hnd]at i1
 go_enter Tryz.func8,Tryz.ntmps8
 go_wp2_with (first|(go_at_call 27;refine a4.mono ?_;rintro e w1 ⟨u,b,C,bl,cl,tl,rfl,R,H⟩;skip)|(go_at_call 28;refine(d9 _ _ _ _ _ _ _ R H).mono ?_;rintro e w2 ⟨yd,rfl,d5,G⟩;obtain⟨ad,cp,rfl⟩:=Yp (n:=zd.1.length) (f:=LF _) d5;rw[hnd]at d5))
 have R2:=R.stp G;have e0:HS F o.1 (zd.1.drop 0)=some s0:=e0
 refine XD (I:=λm a W=>∃(i:Nat) (U:List Version) (cl:Nat->Array Value),i+m=nd/\Fx 76 a [(4,.slice none 0 0),(5,.slice none 0 0),(6,.int .i64 0),(7,u),(9,.slice ad nd cp),(33,.slice ad nd cp),(34,.int .i64 nd),(35,.int .i64 i)]/\VR W X w.heap.size u o.1.length U b C bl cl tl/\U.length=o.1.length/\Stp nB w W/\DRep W X (.slice ad nd cp) (DL zd.1)/\HS F U (zd.1.drop i)=some s0) ?_ nd _ _ ⟨0,o.1,cl,by omega,⟨rfl,rfl,rfl,rfl,rfl,rfl,rfl,rfl,rfl,rfl,trivial⟩,R2,rfl,K4 H G,d5,e0⟩
 clear R R2 H G d5 e0 cl a4 d9
 rintro m a W ⟨i,U,cl,hi,hx,R,b0,st,a5,hg⟩;obtain⟨M,O,k4,k5,k6,k7,k9,k,c,s, -⟩:=hx
 cases m with
 |zero=>
  obtain rfl:i=nd:=by omega
  rw[<-hnd,Qh4]at hg;cases hg
  obtain⟨e2,j7,h⟩:=Yf h;have k3:∀b,X b->b<W.heap.size:=λb hb=>Qb6 (hX b hb) st.size
  have g9:=Q3v j7 k3 (R.drep b0.symm);obtain⟨S,rfl,hS⟩:=Ku O M;rw[hS]at k4 k5 k6 k7 k9 k c s;rw[FR,k4,k5,k6,k7,k9,k,c,s];clear M O hS k4 k5 k6 k7 k9 k c s
  rcases PK h with ⟨hb,h⟩|⟨hb,h⟩
  .cases h
   have n8:e2≠0:=by simpa using hb
   go_wp2_with (go_at_call 31;refine g9.mono ?_;rintro e W2 ⟨rfl,G⟩)
   go_ret3
   exact⟨_,_,rfl,Px,Px,K4 st G⟩
  .cases h
   obtain rfl:e2=0:=by simpa using hb
   go_wp2_with (go_at_call 31;refine g9.mono ?_;rintro e W2 ⟨rfl,G⟩)
   go_ret3
   exact⟨_,_,rfl,(R.stp G).drep b0.symm,DRep.mono a5 λg hg hx=>⟨G.block g hg λh=>h,hx⟩,K4 st G⟩
 |succ m=>
  have g4:i<zd.1.length:=by omega
  have m7:(i:Int)<nd:=by omega
  rw[Hy g4]at hg;obtain⟨f3,hg⟩:=Ua hg
  obtain⟨o1,d7,hg⟩:=Yf hg;obtain⟨lb,f4,rv,cv,rfl,q0,q1,Y,P⟩:=Z4n a5 g4
  obtain⟨c4,d0,rfl⟩:=Yp (n:=(gl zd.1 i).g_.t_.length) (f:=LF _) Y;obtain⟨c2,a8,rfl⟩:=Yp (n:=(gl zd.1 i).claims_.length) (f:=LF _) P
  obtain⟨dd,hdd⟩:∃d,gl zd.1 i=d:=⟨_,rfl⟩;rw[hdd]at Y P d7 q0 q1 f3
  obtain⟨rk,hrk⟩:∃n,dd.g_.t_.length=n:=⟨_,rfl⟩;obtain⟨nc,hnc⟩:∃n,dd.claims_.length=n:=⟨_,rfl⟩
  rw[hrk]at Y q0;rw[hnc]at P q1 f3
  obtain⟨W1,hW1⟩:∃W1,W.alloc (.cells #[.slice c4 rk d0,.slice c2 nc a8] 94)=W1:=⟨_,rfl⟩;have J:Stp nB W W1:=hW1 ▸ Stp.alloc _ _ _
  obtain⟨g,hg0⟩:∃g,W.heap.size=g:=⟨_,rfl⟩;have h1:W1.heap[g]?=some (.cells #[.slice c4 rk d0,.slice c2 nc a8] 94 (0,0)):=hg0 ▸ hW1 ▸ Go.World.alloc_heap_new _ _
  have p1:W1.cell? ⟨g,1,none⟩=some (.slice c2 nc a8):=by simp[Go.World.cell?,h1]
  have up:∀{x:DVal} {v:Value},DRep W X v x->DRep W1 X v x:=λh=>DRep.mono h λb hb hx=>⟨J.block b hb λh=>h,hx⟩
  have R1:=R.stp J;have H:=K4 st J
  have e7:=up a5;have e4:=up Y
  have e5:=up P;obtain⟨S,rfl,hS⟩:=Ku O M;rw[hS]at k4 k5 k6 k7 k9 k c s;rw[FR,k4,k5,k6,k7,k9,k,c,s];clear M O hS k4 k5 k6 k7 k9 k c s
  go_wp2
  have d7:HO F dd.g_.t_ U (dd.claims_.drop 0)=some o1:=d7;refine XD (I:=λm a W=>∃(j:Nat) (U:List Version) (cl:Nat->Array Value),j+m=nc/\Fx 76 a [(4,.slice none 0 0),(5,.slice none 0 0),(6,.int .i64 0),(7,u),(9,.slice (some ⟨lb,f4,none⟩) nd cp),(11,.pointer (some ⟨g,0,none⟩)),(33,.slice (some ⟨lb,f4,none⟩) nd cp),(34,.int .i64 nd),(35,.int .i64 i),(40,.slice c2 nc a8),(41,.int .i64 nc),(42,.int .i64 j)]/\VR W X w.heap.size u o.1.length U b C bl cl tl/\U.length=o.1.length/\Stp nB w W/\DRep W X (.slice (some ⟨lb,f4,none⟩) nd cp) (DL zd.1)/\DRep W X (.slice c4 rk d0) (DL dd.g_.t_)/\DRep W X (.slice c2 nc a8) (DL dd.claims_)/\W.heap[g]?=some (.cells #[.slice c4 rk d0,.slice c2 nc a8] 94 (0,0))/\HO F dd.g_.t_ U (dd.claims_.drop j)=some o1) ?_ nc _ _ ⟨0,U,cl,by omega,⟨rfl,rfl,rfl,rfl,rfl,rfl,rfl,rfl,rfl,rfl,rfl,rfl,rfl,rfl,trivial⟩,R1,b0,H,e7,e4,e5,h1,d7⟩
  clear R R1 a5 e7 Y e4 P e5 h1 p1 d7 st H J hW1 hg0 up q0 q1 cl S b0
  rintro m2 a W ⟨j,U,cl,hj,hx,R,b0,st,a5,Y,P,f7,a9⟩;obtain⟨M,O,k4,k5,k6,k7,k9,c9,k,c,s,b6,c7,c0, -⟩:=hx
  cases m2 with
  |zero=>
   obtain rfl:j=nc:=by omega
   rw[<-hnc,Qh4]at a9;cases a9
   obtain⟨S,rfl,hS⟩:=Ku O M;rw[hS]at k4 k5 k6 k7 k9 c9 k c s b6 c7 c0;rw[FR,k4,k5,k6,k7,k9,c9,k,c,s,b6,c7,c0];clear M O hS k4 k5 k6 k7 k9 c9 k c s b6 c7 c0
   go_wp2
   have hw:wrap64 ((i:Int)+1)=((i+1:Nat):Int):=by unfold Z9 at i1;unfold wrap64;omega
   try rw[hw]
   exact⟨m,rfl,i+1,_,cl,by omega,⟨rfl,rfl,rfl,rfl,rfl,rfl,rfl,rfl,rfl,rfl,trivial⟩,R,b0,st,a5,hg⟩
  |succ m2=>
   have g2:j<dd.claims_.length:=by omega
   have n7:(j:Int)<nc:=by omega
   rw[Hy g2]at a9;obtain⟨o',Z,a9⟩:=Yf a9
   obtain⟨b1,Z⟩:=Ua Z;obtain⟨z,hz,Z⟩:=Yf Z
   cases Z
   obtain⟨i5,g7,rfl,q0,q1⟩:=Z0z P g2;obtain⟨A,eA⟩:∃A:Nat,(gl dd.claims_ j).application_=(A:Int):=⟨_,(Qm6 b1.1).symm⟩
   obtain⟨K,eK⟩:∃K:Nat,(gl dd.claims_ j).line_=(K:Int):=⟨_,(Qm6 b1.2.2.1).symm⟩;unfold ZQ at b1
   unfold PJ at hz;rw[eA,eK,Qa3]at b1
   rw[eA,eK,Qa3,Qa3]at hz;have hA:A<U.length:=by omega
   have hK:K<(gl U A).lines_.length:=by omega
   have g5:UI U (gl dd.claims_ j) z=U.modify A λv=> {v with lines_:=v.lines_.modify K λx=> {x with g_:=⟨z⟩}}:=by
    unfold UI;rw[eA,eK];rfl
   rw[g5]at a9;rw[eA]at q0
   rw[eK]at q1;obtain⟨W1,hW1⟩:∃W1,W.alloc (.cells #[.int .i64 A,.int .i64 K] 96)=W1:=⟨_,rfl⟩
   have J:Stp nB W W1:=hW1 ▸ Stp.alloc _ _ _;have h1:W1.heap[W.heap.size]?=some (.cells #[.int .i64 A,.int .i64 K] 96 (0,0)):=hW1 ▸ Go.World.alloc_heap_new _ _
   have b5:Stp nB W W1.drew.drew:=K4 J (K4 (Stp.drew _ _) (Stp.drew _ _));have R3:=R.stp b5
   have e1:W1.drew.drew.heap[g]?=some (.cells #[.slice c4 rk d0,.slice (some ⟨i5,g7,none⟩) nc a8] 94 (0,0)):=(b5.block g (J2 f7) λh=>h).trans f7;obtain⟨⟨cu,rfl,n0⟩,⟨TC,j8⟩,o2⟩:=R3.ne (by omega)
   have L:=R3.ln A hA;obtain⟨⟨k0,i0,i2⟩,f5,i8⟩:=L.ne (ne_of_lt hK)
   obtain⟨a0,a1,a2,a3⟩:=L.at_ K hK;obtain⟨nA,hnA⟩:∃n,(gl U A).lines_.length=n:=⟨_,rfl⟩
   rw[hnA]at i0 i2 i8;have n5:K<nA:=by omega
   have m9:(K:Int)<nA:=by omega
   have n9:(A:Int)<o.1.length:=by omega
   have p0:W1.drew.cell? ⟨W.heap.size,0,none⟩=some (.int .i64 A):=by show W1.cell? _=_;simp[Go.World.cell?,h1]
   have p1:W1.drew.cell? ⟨W.heap.size,1,none⟩=some (.int .i64 K):=by show W1.cell? _=_;simp[Go.World.cell?,h1]
   have j6:W1.drew.heap[b]?=some (.cells C TC (0,0)):=j8;have c1:W1.drew.cell? ⟨b,A*2+1,none⟩=some (.slice (some ⟨bl A,0,none⟩) nA k0):=(Jt j6 (by omega)).trans (congrArg some i0)
   obtain⟨S,rfl,hS⟩:=Ku O M;rw[hS]at k4 k5 k6 k7 k9 c9 k c s b6 c7 c0;rw[FR,k4,k5,k6,k7,k9,c9,k,c,s,b6,c7,c0];clear M O hS k4 k5 k6 k7 k9 c9 k c s b6 c7 c0
   go_wp2
   go_region
   clear p0 p1 c1
   obtain⟨j2,j4,h3⟩:=Yp (n:=(gl (gl U A).lines_ K).g_.t_.length) (f:=LF _) a1;rw[h3]at a1
   have c5:W1.drew.drew.cell? ⟨bl A,K*4+1,none⟩=some (.slice j2 ((gl (gl U A).lines_ K).g_.t_.length) j4):=(Jt f5 (by omega)).trans (congrArg some h3);obtain⟨r5,hr5⟩:∃n,(gl (gl U A).lines_ K).g_.t_.length=n:=⟨_,rfl⟩
   rw[hr5]at a1 c5;have p5:W1.drew.drew.cell? ⟨g,0,none⟩=some (.slice c4 rk d0):=by simp[Go.World.cell?,e1]
   have l0:∀g,X g->g<W1.drew.drew.heap.size:=λg hg=>Qb6 (hX g hg) (Qc4 st.size b5.size)
   have j0:=Q3y hz l0 a1 (DRep.mono Y λg hg hx=>⟨b5.block g hg λh=>h,hx⟩);obtain⟨rz,hrz⟩:∃n,z.length=n:=⟨_,rfl⟩
   go_wp2
   apply Qm7 (Q:=(λ(B:Option Addr->Nat->Act) e a' W2=>match e with|.normal=>∃t E W6,a'=B t E/\Stp nB W1.drew.drew W6/\DRep W6 X (.slice t rz E) (DL z)/\W2=W6.setCell ⟨bl A,K*4+1,none⟩ (.slice t rz E)|_=>False) _)
   case h=>
    have m5:Tryz.prog.follows .mixedOrders=true:=by kernel_rfl
    go_region_with_o (go_at_call 29;refine j0.mono ?_;rintro e W6 ⟨r',rfl,d2,V⟩;have h8:W6.heap[bl A]?=_:=(V.block (bl A) (J2 f5) λh=>h).trans f5;have c6:W6.cell? ⟨bl A,K*4+1,none⟩=some ((cl A).getD (K*4+1) undef):=Jt h8 (by omega);have f6:W6.frozen? ⟨bl A,K*4+1,none⟩=false:=Cy h8;obtain⟨t,E,rfl⟩:=Yp (n:=z.length) (f:=LF _) d2;rw[hrz]at d2;have m4:=Ym V c5;have m0:=Ym V p5)
    all_goals exact⟨t,E,_,rfl,V,d2,rfl⟩
   intro e a' W8 hh;have g6:e=.normal:=by cases e<;>first|rfl|exact(hh:False).elim
   subst g6;obtain⟨t,E,W6,rfl,V,d2,rfl⟩:=hh
   have d4:=K4 b5 V;have up:∀{x:DVal} {v:Value},DRep W X v x->DRep W6 X v x:=λh=>DRep.mono h λb hb hx=>⟨d4.block b hb λh=>h,hx⟩
   have R6:=R3.stp V;have ct:=R6.cut hA hK
   have f8:=(V.block g (J2 e1) λh=>h).trans e1;have h9:=(ct.same (.slice t rz E) (ct.ne2 f8)).trans f8
   have e8:=ct.doubles (.slice t rz E) (up a5);have e6:=ct.rects (.slice t rz E) (up Y)
   have e9:=ct.places (.slice t rz E) (up P);have R8:=R6.set hA hK d2
   have h4:Stp nB w (W6.setCell ⟨bl A,K*4+1,none⟩ (.slice t rz E)):=Rb (K4 st d4) (R3.fr.2 A hA (ne_of_lt hK)).1
   clear a5 Y P f7 R R3 R6 ct f8 e1 st b5 d4 V up
   generalize W6.setCell ⟨bl A,K*4+1,none⟩ (.slice t rz E)=W9 at R8 h4 e8 e6 e9 h9⊢
   try simp only[Exit.then]
   go_wp2
   have hw:wrap64 ((j:Int)+1)=((j+1:Nat):Int):=by unfold Z9 at f3;unfold wrap64;omega
   try rw[hw]
   exact⟨m2,rfl,j+1,_,_,by omega,⟨rfl,rfl,rfl,rfl,rfl,rfl,rfl,rfl,rfl,rfl,rfl,rfl,rfl,rfl,trivial⟩,R8,by rw[Qj6];exact b0,h4,e8,e6,e9,h9,a9⟩
end Go.Ab
end
section
namespace Go.Ab
open Go.Proofs Go.RowKit
set_option maxRecDepth 100000
theorem Z5u{w:Go.World}{X:Nat->Prop}{η:Nat->Value}{r:AVal}{v:Value}{w' : Go.World}(st:Stp nB w w')(hr:ARep w' X η (Qd [] w X η) v r):Behind (Qd [] w X η) r [] v η w' :=
 ⟨st.mono λb _ h=>h.elim,(by rw[Lk];exact hr),λi o h=>(by cases h),λi j b h=>absurd rfl h,λi o b h=>(by cases h),λi v h=>(by simp[Qd]at h)⟩
theorem Z5A{vs:Array Value}(h:vs.size=2):vs=#[vs.getD 0 undef,vs.getD 1 undef]:=by
 apply Qt4
 .rw [h];rfl
 .intro i c a
  have:i=0\/i=1:=by omega
  rcases this with rfl|rfl<;>simp[Array.getD,h]
theorem Z4C{F:Nat}{a:List Version}{b:List Yield}{r:List Version×List Double×Int}(h:HF F a b=some r):G3 Tryz.prog 8 [AL a,AL b] [] (.t [.c (.d (DL r.1)),.c (.d (DL r.2.1)),.c (ci r.2.2)]) []:=by
 intro w X η vs G _ _ _ o g;have i:=g 0 (by simp)
 have k:=g 1 (by simp);have m:=Z5A o
 generalize vs.getD 0 undef=x at i m;generalize vs.getD 1 undef=y at k m
 subst m
 cases i with|v _ _ i=>cases i with|c _ _ i=>cases i with|d _ _ i=>
  cases k with|v _ _ k=>cases k with|c _ _ k=>cases k with|d _ _ k=>
   refine(Z5o h G i k).mono λe J z=>?_
   obtain⟨p,q,A,I,H,E⟩:=z;refine⟨_,η,A,Z5u E (.t _ _ rfl λj s=>?_)⟩
   have s:j<3:=s;have:j=0\/j=1\/j=2:=by omega
   rcases this with rfl|rfl|rfl
   .exact .c _ _ (.d _ _ (I.mono λb _ n=>⟨rfl,λh=>n h⟩))
   .exact .c _ _ (.d _ _ (H.mono λb _ n=>⟨rfl,λh=>n h⟩))
   .exact .c _ _ (.d _ _ (.int _ _))
end Go.Ab
end
section
namespace Go.Proofs
open Go.Shelf Go.RowKit Go.Lib Go.Ab
set_option maxHeartbeats 2000000
set_option maxRecDepth 100000
abbrev iv(n:Int):Value:=.int .i64 n
abbrev pv(a b:Int):Value:=.agg #[iv a,iv b]
abbrev ev(a b c d:Int):Value:=.agg #[iv a,iv b,iv c,iv d]
theorem HM{w:World}{g T:Nat}{p q r s:Value}{Z:Array Value}(h:w.heap[g]?=some (.cells (#[p,q,r,s]++Z) T (0,0))):w.cell? ⟨g,0,none⟩=some p/\w.cell? ⟨g,1,none⟩=some q/\w.cell? ⟨g,2,none⟩=some r/\w.cell? ⟨g,3,none⟩=some s:=by
 refine⟨?_,?_,?_,?_⟩<;>simp[World.cell?,h,Qf3]
theorem UU(w:World):Stp U8 w w.drew:=⟨rfl,rfl,rfl,Qb4 _,λ_ _ _=>rfl,Qn2 _⟩
theorem Q8Q(ad:Option Addr)(c:Nat)(a b x y:Int)(w:World):Calls Tryz.prog 165 #[.slice ad 0 c,ev a b x y] w λe w'=>e=.returned (iv (-1))/\Stp U8 w w':=by
 go_enter Tryz.func165,Tryz.ntmps165
 go_wp2
 refine wp_loop_rounds 1 ?_;rw[rounds_succ]
 go_wp2
 go_ret
 exact⟨rfl,Stp.alloc U8 _ _⟩
theorem Q8P(g c:Nat)(Z:Array Value)(a b x y:Int)(w:World)(h:w.heap[g]?=some (.cells (#[iv a,iv b,iv x,iv y]++Z) 181 (0,0))):Calls Tryz.prog 165 #[.slice (some ⟨g,0,none⟩) 1 c,ev a b x y] w λe w'=>e=.returned (iv 0)/\Stp U8 w w':=by
 have m:g<w.heap.size:=(Qg9.1 h).1;obtain⟨k,d,j,i⟩:=HM h
 go_enter Tryz.func165,Tryz.ntmps165
 go_wp2
 refine wp_loop_rounds 1 ?_;rw[rounds_succ]
 go_wp2
 go_region
 go_wp2
 go_ret
 exact⟨rfl,K4 (Stp.alloc U8 _ _) (UU _)⟩
theorem qJ(ad:Option Addr)(c:Nat)(a b x y:Int)(w:World):Calls Tryz.prog 96 #[.slice ad 0 c,ev a b x y] w λe w'=>e=.returned (.bool false)/\Stp U8 w w':=by
 go_enter Tryz.func96,Tryz.ntmps96
 go_wp2_with (go_at_call 165;refine(Q8Q _ _ _ _ _ _ _).mono ?_;rintro e w' ⟨rfl,st⟩)
 go_ret
 exact⟨rfl,K4 (Stp.alloc U8 _ _) st⟩
theorem Q8X(g c:Nat)(Z:Array Value)(a b x y:Int)(w:World)(h:w.heap[g]?=some (.cells (#[iv a,iv b,iv x,iv y]++Z) 181 (0,0))):Calls Tryz.prog 96 #[.slice (some ⟨g,0,none⟩) 1 c,ev a b x y] w λe w'=>e=.returned (.bool true)/\Stp U8 w w':=by
 have i:g<w.heap.size:=(Qg9.1 h).1;have d : ∀o,(w.alloc o).heap[g]?=some (.cells (#[iv a,iv b,iv x,iv y]++Z) 181 (0,0)):=λo=>(Below.heap_alloc _ _ _ i).trans h
 go_enter Tryz.func96,Tryz.ntmps96
 go_wp2_with (go_at_call 165;refine(Q8P _ _ _ _ _ _ _ _ (d _)).mono ?_;rintro e w' ⟨rfl,st⟩)
 go_ret
 exact⟨rfl,K4 (Stp.alloc U8 _ _) st⟩
theorem Q8Y(g k:Nat)(cur:Array Value)(W:World)(h:W.heap[g]?=some (.cells cur 181 (0,0)))(hc:4<=cur.size):(Builtin.clear_ #[175] 0 #[.slice (some ⟨g,0,none⟩) 1 k]).run Tryz.prog W=.ok (.tuple #[]) (W.setRow g ([iv 0,iv 0,iv 0,iv 0]++cur.toList.drop 4).toArray):=by
 have d:Tryz.prog.underlying 175=some (.slice 181):=by kernel_rfl
 have e:∀W,(zeroValue 181).run Tryz.prog W=.ok (ev 0 0 0 0) W:=λW=>by kernel_rfl
 have a:=Qq1 Tryz.prog g 0 181 [iv 0,iv 0,iv 0,iv 0] 0 cur W h (by simpa using hc) (by simp[Value.oneCell']);have c:(Builtin.zeroCells (ev 0 0 0 0).cells 1).toList=[iv 0,iv 0,iv 0,iv 0]:=by kernel_rfl
 simp only[Qh3,Qo1,Qm9,Qb1,Qc2,Qd1,Nat.reduceAdd]at a;simp[Builtin.clear_,Qc1 d,e,c,a]
theorem setRow_stp(w:World)(g:Nat)(x:Array Value):Stp (λb=>b=g) w (w.drew.setRow g x)/\(w.drew.setRow g x).heap.size=w.heap.size:=by
 have e:(w.drew.setRow g x).heap.size=w.heap.size:=by simp only[World.setRow,Qn7];rfl
 refine⟨⟨rfl,rfl,rfl,Nat.le_of_eq e.symm,λb _ a=>?_,Qn2 _⟩,e⟩;simp only[World.setRow,World.drew,Qe2]
 rw[Qa1 (λe=>a e.symm)]
theorem Q8W(g c:Nat)(cur:Array Value)(w:World)(h:w.heap[g]?=some (.cells cur 181 (0,0)))(hc:cur.size=c*4)(h1:1<=c)(h2:c<=maxLen):Calls Tryz.prog 168 #[.slice (some ⟨g,0,none⟩) 1 c,iv 0,iv 1] w λe w'=>e=.returned (.slice (some ⟨g,0,none⟩) 0 c)/\Stp (λb=>b=g) w w' /\ w'.heap.size=w.heap.size:=by
 have d:=λk=>Q8Y g k cur w.drew h (by omega)
 rcases Nat.eq_or_lt_of_le h1 with a|a
 .subst a
  go_enter Tryz.func168,Tryz.ntmps168
  go_wp2
  go_region
  go_wp2
  go_ret
  exact⟨rfl,setRow_stp _ _ _⟩
 .have i:¬c=1:=by omega
  go_enter Tryz.func168,Tryz.ntmps168
  go_wp2
  go_region
  go_wp2
  go_ret
  exact⟨rfl,setRow_stp _ _ _⟩
end Go.Proofs
end
section
namespace Go.Proofs
open Go.Shelf Go.RowKit Go.Lib Go.Ab
set_option maxHeartbeats 2000000
set_option maxRecDepth 100000
abbrev ZN(v:Value):MapEntry:=⟨pv 0 0,v,0⟩
abbrev Yd(v:Value):MapEntry:=⟨pv 0 10,v,1⟩
abbrev Yt(v:Value):MapEntry:=⟨pv 10 0,v,2⟩
abbrev YO(v:Value):MapEntry:=⟨pv 10 10,v,3⟩
theorem qI:Tryz.prog.underlying 177=some (.map 179 175):=by kernel_rfl
theorem qK(b:Bool)(x y:Int)(W:World):(Instr.checkKey b 10000 179 (pv x y)).run Tryz.prog W=.ok () W:=by cases b<;>kernel_rfl
theorem Q8H(W:World):(zeroValue 175).run Tryz.prog W=.ok (.slice none 0 0) W:=by kernel_rfl
theorem JP{m ck:Nat}{es:Array MapEntry}{x y:Int}{i:Nat}{v:Value}{w:World}(h:w.heap[m]?=some (.map es ck))(hf:∀W,(Instr.findKey 179 (pv x y) es.toList).run Tryz.prog W=.ok (some (i,v)) W):(Instr.lookup 177 (.map (some m)) (pv x y) false).run Tryz.prog w=.ok v w:=by
 simp[Instr.lookup,Qc1 qI,Qi2 h,qK,hf,Result.andThen]
theorem Q8M{m ck:Nat}{es:Array MapEntry}{x y:Int}{w:World}(h:w.heap[m]?=some (.map es ck))(hf:∀W,(Instr.findKey 179 (pv x y) es.toList).run Tryz.prog W=.ok none W):(Instr.mapEntry 177 (.map (some m)) (pv x y)).run Tryz.prog w=.ok (.tuple #[.slice none 0 0,iv ck]) {w with heap:=w.heap.setIfInBounds m (.map (es.push {key:=pv x y,val:=.slice none 0 0,born:=ck}) (ck+1))}:=by
 simp[Instr.mapEntry,Qc1 qI,Qi2 h,Ql5 _ h,qK,Q8H,hf,Result.andThen,goInt]
theorem Q8U{m ck:Nat}{es:Array MapEntry}{born i:Nat}{v:Value}{w:World}(h:w.heap[m]?=some (.map es ck))(hf:es.findIdx? (λe=>(e.born:Int)==(born:Int))=some i):(Instr.entryStore 177 (.map (some m)) (iv born) v).run Tryz.prog w=.ok () {w with heap:=w.heap.setIfInBounds m (.map (es.modify i λe=> {e with val:=v}) ck)}:=by
 simp[Instr.entryStore,Qi2 h,Ql5 _ h,asInt,asIntOf,hf,Result.andThen]
theorem RU{m ck:Nat}{es:Array MapEntry}{x y:Int}{i:Nat}{u v:Value}{w:World}(h:w.heap[m]?=some (.map es ck))(hf:∀W,(Instr.findKey 179 (pv x y) es.toList).run Tryz.prog W=.ok (some (i,u)) W)(hi:(es[i]?).map (·.key)=some (pv x y)):(Instr.mapUpdate 177 (.map (some m)) (pv x y) v).run Tryz.prog w=.ok () {w with heap:=w.heap.setIfInBounds m (.map (es.modify i λe=> {e with key:=pv x y,val:=v}) ck)}:=by
 have a:∀W,(Instr.keyThatStays (pv x y) (pv x y)).run Tryz.prog W=.ok (pv x y) W:=λW=>by
  simp[Instr.keyThatStays,Instr.sameBits]
 simp[Instr.mapUpdate,Qc1 qI,Qi2 h,Ql5 _ h,qK,hf,hi,a,Result.andThen]
theorem fk0(W:World):(Instr.findKey 179 (pv 0 0) (#[]:Array MapEntry).toList).run Tryz.prog W=.ok none W:=by kernel_rfl
theorem fk1(a:Value)(W:World):(Instr.findKey 179 (pv 0 10) (#[ZN a]:Array MapEntry).toList).run Tryz.prog W=.ok none W:=by kernel_rfl
theorem fk2(a b:Value)(W:World):(Instr.findKey 179 (pv 10 0) (#[ZN a,Yd b]:Array MapEntry).toList).run Tryz.prog W=.ok none W:=by kernel_rfl
theorem fk3(a b c:Value)(W:World):(Instr.findKey 179 (pv 10 10) (#[ZN a,Yd b,Yt c]:Array MapEntry).toList).run Tryz.prog W=.ok none W:=by kernel_rfl
section
variable (a b c d:Value) (W:World)
theorem vo:(Instr.findKey 179 (pv 0 0) (#[ZN a,Yd b,Yt c,YO d]:Array MapEntry).toList).run Tryz.prog W=.ok (some (0,a)) W:=by kernel_rfl
theorem vn:(Instr.findKey 179 (pv 0 10) (#[ZN a,Yd b,Yt c,YO d]:Array MapEntry).toList).run Tryz.prog W=.ok (some (1,b)) W:=by kernel_rfl
theorem vm:(Instr.findKey 179 (pv 10 0) (#[ZN a,Yd b,Yt c,YO d]:Array MapEntry).toList).run Tryz.prog W=.ok (some (2,c)) W:=by kernel_rfl
theorem vk:(Instr.findKey 179 (pv 10 10) (#[ZN a,Yd b,Yt c,YO d]:Array MapEntry).toList).run Tryz.prog W=.ok (some (3,d)) W:=by kernel_rfl
end
end Go.Proofs
end
section
namespace Go.Proofs
open Go.Shelf Go.RowKit Go.Lib Go.Ab
set_option maxHeartbeats 2000000
set_option maxRecDepth 100000
theorem Q9c{w:World}{base t e:Nat}{i:TypeInfo}{z:Value}{size:Nat}(ht:Tryz.prog.underlying t=some (.slice e))(hi:Tryz.prog.info? e=some i)(hz:i.zero=some z)(hsize:i.size=size)(hby:i.bytes<=1000)(hzs:z.cells.size=size)(hsz:0<size){v:Value}{n:Nat}{xs:List Value}(hown:w.ownsRow base e size v n xs){ad:Addr}{c:Nat}{news:List Value}(hl:news.length=size)(hnews:∀ j u,news[j]?=some u->w.cell? (ad.add j)=some u)(h1:∀ u ∈ news,u.oneCell'=true)(hn:n<=1000)(hbase:base<=w.heap.size):
  ∃v' w',(Builtin.append_ #[t,t] t #[v,.slice (some ad) 1 c]).run Tryz.prog w=.ok v' w' /\ w'.ownsRow base e size v' (n+1) (xs++news)/\w.grownBy w' v.ownBlock/\(v'.ownBlock=v.ownBlock\/v'.ownBlock=some w.heap.size)/\w.drawn<=w'.drawn:=by
 have A:(n+1)*i.bytes<=140737488355328:=by
  have:(n+1)*i.bytes<=1001*1000:=Qk3 (by omega) hby
  omega
 obtain⟨v',w',k,H,y,_,E⟩:=run_append_own_at (P:=Tryz.prog) w base t t e i z size i.bytes ht hi hz hsize rfl hzs hsz v n xs hown ad 1 c news (by omega) hnews h1 (by unfold maxLen;omega) A hbase;refine⟨v',w',k,H,y,E,?_⟩
 rcases hown.2 with ⟨rfl,rfl⟩|⟨g,h,p,rfl,J,s,x,I,o,G⟩
 .have e:=run_append_nil (P:=Tryz.prog) w t t e i z ht hi hz ad 1 c news (by omega) hnews (by omega) (by omega) (by omega)
  rw[e]at k;cases k
  exact Qn2 _
 .by_cases hroom:n+1<=h
  .have e:=run_append_room (P:=Tryz.prog) w t t e i ht hi g n h p s ad 1 c news (by omega) hnews h1 hroom (by
    rw[hsize,o,hl];have:(n+1)*size<=h*size:=Qb3 _ hroom
    rw[Qf8]at this;omega)
   rw[e]at k;cases k
   exact Qb4 _
  .have m:h<=1000:=by omega
   have e:=run_append_grow (P:=Tryz.prog) w t t e i z ht hi hz ⟨g,0,none⟩ n h xs (by rw[hown.1,hsize]) (hown.cells rfl) ad 1 c news (by omega) hnews (by omega) (by omega) (growslice_fits (by omega) (by
    have:(n+1)*i.bytes<=1001*1000:=Qk3 (by omega) hby
    omega))
   rw[e]at k;cases k
   exact Qn2 _
theorem UQ{ops:Array Oper}{rest:List Oper}{o:Oper}{a:Act}{Q:Exit->Act->World->Prop}{w:World}(hgd:o.guard=none)(s x:Operand)(t:TypeId)(ho:o.op=.call {callee:=.builtin .append,args:= #[s,x],argTypes:= #[t,t]})(hty:o.type=t){base e:Nat}{i:TypeInfo}{z:Value}{size:Nat}(ht:Tryz.prog.underlying t=some (.slice e))(hi:Tryz.prog.info? e=some i)(hz:i.zero=some z)(hsize:i.size=size)(hby:i.bytes<=1000)(hzs:z.cells.size=size)(hsz:0<size){v:Value}{n:Nat}{xs:List Value}(hs:a.eval s=v)(hown:w.ownsRow base e size v n xs){ad:Addr}{c:Nat}{news:List Value}(hx:a.eval x=.slice (some ad) 1 c)(hl:news.length=size)(hnews:∀j u,news[j]?=some u->w.cell? (ad.add j)=some u)(h1:∀u∈news,u.oneCell'=true)(hn:n<=1000)(hbase:base<=w.heap.size)(h:∀v' w',w'.ownsRow base e size v' (n+1) (xs++news)->w.grownBy w' v.ownBlock->(v'.ownBlock=v.ownBlock\/v'.ownBlock=some w.heap.size)->w.drawn<=w'.drawn->wpList Tryz.prog ops Q rest (a.put o.dst v') w'):wpList Tryz.prog ops Q (o::rest) a w:=by
 refine Qy0 hgd λK A=>?_
 obtain⟨v',w',p,y,m,k,g⟩:=Q9c ht hi hz hsize hby hzs hsz hown (c:=c) hl hnews h1 hn hbase;unfold Oper.wp execOp
 simp only[ho,hty,resolve,invoke,builtin,Qd9,Qe9,Qd0,List.map_toArray,Qf7,Qu8,hs,hx,p];exact A _ _ (h v' w' y m k g)
end Go.Proofs
end
section
namespace Go.Proofs
open Go.Shelf Go.RowKit Go.Lib Go.Ab
set_option maxHeartbeats 4000000
set_option maxRecDepth 100000
theorem RV{F:Nat}{x y:Ab.Edge}{n:Int}(h:Pa F x y=some n)(w:World):Calls Tryz.prog 167 #[ev x.F_.x_ x.F_.y_ x.to_.x_ x.to_.y_,ev y.F_.x_ y.F_.y_ y.to_.x_ y.to_.y_] w λe w'=>e=.returned (iv n)/\Stp U8 w w':=by
 refine(Z0P h w U8 (λ_=>undef) _ (λb p=>p.elim) (λb ⟨i,o,k,_⟩=>by cases k) (λi o k=>by cases k) (λi j b k=>absurd rfl k) rfl (λj s=>?_)).mono λe w' z=>?_
 .have g:∀ x:Ab.Edge,∀ C,ARep w U8 (fun _=>undef) C (ev x.F_.x_ x.F_.y_ x.to_.x_ x.to_.y_) (gE x):=fun x C=>by
   refine .v _ _ (.g _ _ ⟨rfl,λj s=>?_⟩);have s:j<4:=s
   have:j=0\/j=1\/j=2\/j=3:=by omega
   rcases this with rfl|rfl|rfl|rfl<;>exact .d _ _ (.int _ _)
  have:j=0\/j=1:=by simp at s;omega
  rcases this with rfl|rfl
  .exact g x _
  .exact g y _
 .obtain ⟨v,E,A,p⟩:=z
  refine⟨?_,p.stp.mono λb _ t=>by obtain⟨i,o,k,_⟩:=t;cases k⟩;rw[A]
  have m:=p.res
  cases m with|v _ _ h=>cases h with|c _ _ h=>cases h with|d _ _ h=>cases h;rfl
theorem tn1(F:Nat):Pa F ⟨⟨0,0⟩,⟨10,0⟩⟩ ⟨⟨10,0⟩,⟨10,10⟩⟩=some 1:=by kernel_rfl
theorem tn2(F:Nat):Pa F ⟨⟨10,0⟩,⟨10,10⟩⟩ ⟨⟨10,10⟩,⟨0,10⟩⟩=some 1:=by kernel_rfl
theorem tn3(F:Nat):Pa F ⟨⟨10,10⟩,⟨0,10⟩⟩ ⟨⟨0,10⟩,⟨0,0⟩⟩=some 1:=by kernel_rfl
theorem tn4(F:Nat):Pa F ⟨⟨0,10⟩,⟨0,0⟩⟩ ⟨⟨0,0⟩,⟨10,0⟩⟩=some 1:=by kernel_rfl
end Go.Proofs
end
section
namespace Go.Proofs
open Go.Shelf Go.RowKit Go.Lib Go.Ab
set_option maxHeartbeats 8000000
set_option maxRecDepth 100000
abbrev sv(g n c:Nat):Value:=.slice (some ⟨g,0,none⟩) n c
structure Fo (w W:World) (m ck o:Nat) (es:Array MapEntry) (a b x y:Int) (gs:Nat->Nat) (row:Nat->Array Value) (lv:Nat->Bool) (v:Value) (n:Nat) (xs:List Value):Prop where
 mp:W.heap[m]?=some (.map es ck)
 e3:W.heap[o]?=some (.cells #[iv 0,iv 0,iv 10,iv 0] 181 (0,0))
 e6:W.heap[o+1]?=some (.cells #[iv a,iv b,iv x,iv y] 181 (0,0))
 li:∀i,i<4->lv i=true->W.heap[gs i]?=some (.cells (row i) 181 (0,0))
 mo:m<o
 go:∀i,gs i<o
 cor:W.ownsRow (o+2) 179 2 v n xs
 ws:w.heap.size=o
 stp:Stp (λb=>b=m\/∃i,b=gs i) w W
 sz:o+2<=W.heap.size
abbrev WQ(w:World)(m:Nat)(es:Array MapEntry)(ck:Nat):World:= {w with heap:=w.heap.setIfInBounds m (.map es ck)}
theorem Fo.del{w W W' : World}{m ck o:Nat}{es es' : Array MapEntry}{a b x y:Int}{gs:Nat->Nat}{row:Nat->Array Value}{lv:Nat->Bool}{v:Value}{n:Nat}{xs:List Value}(F:Fo w W m ck o es a b x y gs row lv v n xs)(k:Nat)(hk:k<4)(st:Stp (fun b=>b=gs k) W.drew W')(hs:W'.heap.size=W.drew.heap.size)(hd:∀ i j,i<4->j<4->gs i=gs j->i=j)(hmg:∀ i,m≠gs i):
  Fo w (WQ W' m es' ck) m ck o es' a b x y gs row (λi=>lv i&&i != k) v n xs/\∀j,j<W.heap.size->j≠m->j≠gs k->(WQ W' m es' ck).heap[j]?=W.heap[j]?:=by
 have hs:W'.heap.size=W.heap.size:=hs;have P:=F.go k
 have Q:=F.mo;have O:=F.sz
 have p:∀j,j<W.heap.size->j≠m->j≠gs k->(WQ W' m es' ck).heap[j]?=W.heap[j]?:=λj M t z=>by
  have e:(WQ W' m es' ck).heap[j]?=W'.heap[j]?:=by
   simp only[WQ,Qj7];rw[Qa1 (λe=>t e.symm)]
  exact e.trans (st.block j M z)
 have E:∀{j:Nat} {ob:Go.Obj},W.heap[j]?=some ob->j<W.heap.size:=λh=>J2 h
 refine⟨⟨?_,(p _ (E F.e3) (by omega) (by omega)).trans F.e3,(p _ (E F.e6) (by omega) (by omega)).trans F.e6,λi A G=>?_,F.mo,F.go,?_,F.ws,?_,?_⟩,p⟩
 .simp only[WQ,Qj7]
  rw[Qa2 trivial,Qa2 (by rw[hs];omega)]
 .simp only[Qa4,bne_iff_ne]at G
  have h:=F.li i A G.1;exact(p _ (E h) (λe=>hmg i e.symm) (λe=>G.2 (hd i k A hk e))).trans h
 .refine ⟨F.cor.1,?_⟩
  rcases F.cor.2 with h|⟨g,I,H,t,z,K,A⟩
  .exact .inl h
  .exact .inr ⟨g,I,H,t,z,(p g (E K) (by omega) (by omega)).trans K,A⟩
 .have s:=F.stp
  refine⟨st.os.trans s.os,st.tape.trans s.tape,st.output.trans s.output,?_,λb L J=>?_,Qc4 s.dr (Qc4 (Qn2 _) st.dr)⟩
  .simp only[WQ,Qv4]
   rw[hs];exact s.size
  .have t:b≠m:=λe=>J (.inl e)
   have z:b≠gs k:=λe=>J (.inr ⟨k,e⟩)
   exact(p b (Qb6 L s.size) t z).trans (s.block b L J)
 .simp only[WQ,Qv4]
  rw[hs];exact O
section
variable {w W W' : World} {m ck o:Nat} {es:Array MapEntry} {a b x y:Int} {gs:Nat->Nat} {row:Nat->Array Value} {lv:Nat->Bool} {v:Value} {n:Nat} {xs:List Value}
theorem Fo.mono(F:Fo w W m ck o es a b x y gs row lv v n xs)(st:Stp U8 W W'):Fo w W' m ck o es a b x y gs row lv v n xs:=by
 have e:∀{j:Nat} {ob:Go.Obj},W.heap[j]?=some ob->W'.heap[j]?=some ob:=λh=>(st.block _ (J2 h) λh=>h).trans h
 refine⟨e F.mp,e F.e3,e F.e6,λi p A=>e (F.li i p A),F.mo,F.go,⟨F.cor.1,?_⟩,F.ws,F.stp.trans (st.mono λ_ _ h=>h.elim),Qc4 F.sz st.size⟩;rcases F.cor.2 with h|⟨g,s,k,t,E,z,p⟩
 .exact .inl h
 .exact .inr ⟨g,s,k,t,E,e z,p⟩
theorem Fo.app(F:Fo w W m ck o es a b x y gs row lv v n xs){v' : Value}{ys:List Value}(hr:W'.ownsRow (o+2) 179 2 v' (n+1) ys)(hg:W.grownBy W' v.ownBlock)(hdr:W.drawn<=W'.drawn):Fo w W' m ck o es a b x y gs row lv v' (n+1) ys/\∀j,j<W.heap.size->some j≠v.ownBlock->W'.heap[j]?=W.heap[j]?:=by
 have g:∀j,j<W.heap.size->some j≠v.ownBlock->W'.heap[j]?=W.heap[j]?:=λj z s=>hg.block j z s
 have k:∀{j:Nat} {ob:Go.Obj},j<o+2->W.heap[j]?=some ob->W'.heap[j]?=some ob:=λz h=>(g _ (J2 h) λe=>by
  have:=(F.cor.lt _ e.symm).1
  omega).trans h
 have H:=F.mo;refine⟨⟨k (by omega) F.mp,k (by omega) F.e3,k (by omega) F.e6,λi A E=>k (by have:=F.go i;omega) (F.li i A E),F.mo,F.go,hr,F.ws,?_,Qc4 F.sz hg.size⟩,g⟩
 have p:=F.stp;have I:=F.ws
 refine⟨hg.os.trans p.os,hg.tape.trans p.tape,hg.output.trans p.output,Qc4 p.size hg.size,λb t G=>?_,Qc4 p.dr hdr⟩;exact(g b (Qb6 t p.size) λe=>by
  have:=(F.cor.lt _ e.symm).1
  omega).trans (p.block b t G)
theorem Fo.now(F:Fo w W m ck o es a b x y gs row lv v n xs)(a' b' x' y' : Int):Fo w ((((W.setCell ⟨o+1,0,none⟩ (iv a')).setCell ⟨o+1,1,none⟩ (iv b')).setCell ⟨o+1,2,none⟩ (iv x')).setCell ⟨o+1,3,none⟩ (iv y')) m ck o es a' b' x' y' gs row lv v n xs:=by
 obtain⟨W',hW⟩:∃W',((((W.setCell ⟨o+1,0,none⟩ (iv a')).setCell ⟨o+1,1,none⟩ (iv b')).setCell ⟨o+1,2,none⟩ (iv x')).setCell ⟨o+1,3,none⟩ (iv y'))=W':=⟨_,rfl⟩;rw[hW]
 have e:∀j,j≠o+1->W'.heap[j]?=W.heap[j]?:=λj O=>by
  rw[<-hW];simp only[World.setCell,Qe2]
  rw[Qa1 (by omega),Qa1 (by omega),Qa1 (by omega),Qa1 (by omega)]
 have p:W'.heap[o+1]?=some (.cells #[iv a',iv b',iv x',iv y'] 181 (0,0)):=by
  rw[<-hW];simp only[World.setCell,Qe2]
  rw[Qa2 trivial,Qa2 trivial,Qa2 trivial,Qa2 trivial,F.e6];rfl
 have A:W'.heap.size=W.heap.size:=by rw[<-hW];simp[World.setCell]
 have L:=F.mo;have M:=F.ws
 have k:=F.stp;refine⟨(e m (by omega)).trans F.mp,(e o (by omega)).trans F.e3,p,λi s G=>(e _ (by have:=F.go i;omega)).trans (F.li i s G),F.mo,F.go,⟨F.cor.1,?_⟩,F.ws,⟨?_,?_,?_,by rw[A];exact k.size,λb H K=>(e b (by omega)).trans (k.block b H K),?_⟩,by rw[A];exact F.sz⟩
 .rcases F.cor.2 with h|⟨g,z,t,I,J,E,s⟩
  .exact .inl h
  .exact .inr ⟨g,z,t,I,J,(e g (by omega)).trans E,s⟩
 .rw [<-hW];exact k.os
 .rw [<-hW];exact k.tape
 .rw [<-hW];exact k.output
 .rw [<-hW];exact k.dr
end
end Go.Proofs
end
section
namespace Go.Proofs
open Go.Shelf Go.RowKit Go.Lib Go.Ab
set_option maxHeartbeats 4000000
set_option maxRecDepth 100000
theorem co{w:World}{v:Value}{R:List Rect}(hv:DRep w U8 v (DL R))(C:Ctx):ARep w U8 (λ_=>undef) C (.agg #[v]) (.v (.g [.d (DL R)])):=by
 refine .v _ _ (.g _ _ ⟨rfl,λj e=>?_⟩);have e:j<1:=e
 obtain rfl:j=0:=by omega
 exact .d _ _ hv
theorem Q8I{F:Nat}{a:Re_}{b:Bool}(h:Ya F a=some b){w:World}{v:Value}(hv:DRep w U8 v (DL a.t_)):Calls Tryz.prog 39 #[.agg #[v]] w λe w'=>e=.returned (.bool b)/\Stp U8 w w':=by
 refine(Yh h w U8 (λ_=>undef) _ (λb p=>p.elim) (λb ⟨i,o,g,_⟩=>by cases g) (λi o g=>by cases g) (λi j b g=>absurd rfl g) rfl (λj z=>?_)).mono λe w' t=>?_
 .obtain rfl:j=0:=by simp at z;omega
  exact co hv _
 .obtain ⟨v,E,A,p⟩:=t
  refine⟨?_,p.stp.mono λb _ s=>by obtain⟨i,o,g,_⟩:=s;cases g⟩;rw[A]
  have k:=p.res
  cases k with|v _ _ h=>cases h with|c _ _ h=>cases h with|d _ _ h=>cases h;rfl
theorem qH{w:World}{X:Nat->Prop}{η η' : Nat->Value}:XS (Qd [] w X η) (ls []) η'=X:=by
 funext b
 apply propext;constructor
 .rintro (⟨h,_⟩|⟨i,o,h,_⟩)
  .exact h
  .cases h
 .intro h;exact .inl ⟨h,λ⟨i,o,hi,_⟩=>by cases hi⟩
theorem Q8V{F:Nat}{a:Re_}{r:List Ab.Edge}(h:DN F a=some r){w:World}{v:Value}(hv:DRep w U8 v (DL a.t_)):Calls Tryz.prog 95 #[.agg #[v]] w λe w'=>∃u,e=.returned u/\DRep w' U8 u (DL r)/\Stp U8 w w':=by
 refine(Z0U h w U8 (λ_=>undef) _ (λb p=>p.elim) (λb ⟨i,o,k,_⟩=>by cases k) (λi o k=>by cases k) (λi j b k=>absurd rfl k) rfl (λj z=>?_)).mono λe w' t=>?_
 .obtain rfl:j=0:=by simp at z;omega
  exact co hv _
 .obtain ⟨v,E,A,p⟩:=t
  have g:=p.res;rw[qH]at g
  refine⟨v,A,?_,p.stp.mono λb _ s=>by obtain⟨i,o,k,_⟩:=s;cases k⟩
  cases g with|v _ _ h=>cases h with|c _ _ h=>cases h with|d _ _ h=>exact h
theorem Q9b{F:Nat}{a r:List Ab.Point}(h:Q0G F a=some r){w:World}{v:Value}{X:Nat->Prop}(hX:∀b,X b->b<w.heap.size)(hv:DRep w X v (DL a)):Calls Tryz.prog 97 #[v] w λe w'=>∃u,e=.returned u/\DRep w' X u (DL r)/\Stp U8 w w':=by
 refine(Z0W h w X (λ_=>undef) _ hX (λb ⟨i,o,k,_⟩=>by cases k) (λi o k=>by cases k) (λi j b k=>absurd rfl k) rfl (λj z=>?_)).mono λe w' t=>?_
 .obtain rfl:j=0:=by simp at z;omega
  exact .v _ _ (.c _ _ (.d _ _ hv))
 .obtain ⟨v,E,A,p⟩:=t
  have g:=p.res;rw[qH]at g
  refine⟨v,A,?_,p.stp.mono λb _ s=>by obtain⟨i,o,k,_⟩:=s;cases k⟩
  cases g with|v _ _ h=>cases h with|c _ _ h=>cases h with|d _ _ h=>exact h
structure Ed (w:World) (v:Value) (ga off cap:Nat):Prop where
 eq:v=.slice (some ⟨ga,off,none⟩) 4 cap
 lt:ga<w.heap.size
 at_:∀k,k<16->w.cell? ⟨ga,off+k,none⟩=some (([iv 0,iv 0,iv 10,iv 0,iv 0,iv 10,iv 0,iv 0,iv 10,iv 0,iv 10,iv 10,iv 10,iv 10,iv 0,iv 10]:List Value).getD k undef)
theorem Ed.of{w:World}{v:Value}(h:DRep w U8 v (DL (α:=Ab.Edge) [⟨⟨0,0⟩,⟨10,0⟩⟩,⟨⟨0,10⟩,⟨0,0⟩⟩,⟨⟨10,0⟩,⟨10,10⟩⟩,⟨⟨10,10⟩,⟨0,10⟩⟩])):∃ga off cap,Ed w v ga off cap:=by
 generalize hl:([⟨⟨0,0⟩,⟨10,0⟩⟩,⟨⟨0,10⟩,⟨0,0⟩⟩,⟨⟨10,0⟩,⟨10,10⟩⟩,⟨⟨10,10⟩,⟨0,10⟩⟩]:List Ab.Edge)=l at h;have z:l.length=4:=by rw[<-hl];rfl
 unfold DL at h;rw[z]at h
 cases h with|lst b off _ cap c e fz _ es h1 h2 h3 h4 h5 h6=>
 have p:=h5 0 (by omega);have j:(LF l 0).length=4:=by rw[<-hl];rfl
 obtain rfl:es=4:=p.symm.trans j;refine⟨b,off,cap,rfl,J2 h2,λk t=>?_⟩
 have g:off+k<c.size:=by omega
 have s:w.cell? ⟨b,off+k,none⟩=some (c.getD (off+k) undef):=by
  simp[World.cell?,h2,g]
 rw[s];congr 1
 have i:=h6 (k / 4) (k % 4) (by omega) (by omega);have e:k / 4*4+k % 4=k:=by omega
 rw[e]at i;generalize c.getD (off+k) undef=u at i⊢
 clear s h6 h2 g
 have t:k=0\/k=1\/k=2\/k=3\/k=4\/k=5\/k=6\/k=7\/k=8\/k=9\/k=10\/k=11\/k=12\/k=13\/k=14\/k=15:=by omega
 subst hl;rcases t with rfl|rfl|rfl|rfl|rfl|rfl|rfl|rfl|rfl|rfl|rfl|rfl|rfl|rfl|rfl|rfl<;>(cases i;rfl)
end Go.Proofs
end
section
namespace Go.Proofs
open Go.Shelf Go.RowKit Go.Lib Go.Ab
set_option maxHeartbeats 4000000
set_option maxRecDepth 100000
theorem Z5g{W:World}{g T:Nat}{u:Value}{Z:Array Value}(h:W.heap[g]?=some (.cells (#[u]++Z) T (0,0))):W.cell? ⟨g,0,none⟩=some u:=by
 simp[World.cell?,h,Qf3]
theorem Q8S{W:World}{g c b off cp:Nat}{Z:Array Value}(h:W.heap[g]?=some (.cells (#[.slice (some ⟨b,off,none⟩) 4 cp]++Z) 128 (0,0))):
  Calls Tryz.prog 169 #[.slice (some ⟨g,0,none⟩) 1 c,.func (.func 100) #[] #[]] W λe w'=>e=.returned (iv (-1))/\Stp U8 W w':=by
 have i:=Z5g h
 go_enter Tryz.func169,Tryz.ntmps169
 go_wp2
 refine wp_loop_rounds 2 ?_;rw[rounds_succ]
 go_wp2
 rw[rounds_succ]
 go_wp2
 go_ret
 exact⟨rfl,Stp.refl _ _⟩
theorem Q8Z{W:World}{g c b off cp:Nat}{Z:Array Value}(h:W.heap[g]?=some (.cells (#[.slice (some ⟨b,off,none⟩) 4 cp]++Z) 128 (0,0))):
  Calls Tryz.prog 99 #[.slice (some ⟨g,0,none⟩) 1 c,.func (.func 100) #[] #[]] W λe w'=>e=.returned (.bool false)/\Stp U8 W w':=by
 go_enter Tryz.func99,Tryz.ntmps99
 go_wp2_with (go_at_call 169;refine(Q8S h).mono ?_;rintro e w' ⟨rfl,st⟩)
 go_ret
 exact⟨rfl,st⟩
theorem Q8R{W:World}{g c:Nat}(f:Value):Calls Tryz.prog 224 #[.slice (some ⟨g,0,none⟩) 1 c,iv 0,iv 1,f] W λe w'=>(∃v,e=.returned v)/\Stp U8 W w':=by
 go_enter Tryz.func224,Tryz.ntmps224
 go_wp2
 refine wp_loop_rounds 1 ?_;rw[rounds_succ]
 go_wp2
 go_returns
 exact⟨⟨_,rfl⟩,Stp.refl _ _⟩
theorem Q8L{W:World}{g c:Nat}(n:Int)(f:Value):Calls Tryz.prog 170 #[.slice (some ⟨g,0,none⟩) 1 c,iv 0,iv 1,iv n,f] W λe w'=>(∃v,e=.returned v)/\Stp U8 W w':=by
 go_enter Tryz.func170,Tryz.ntmps170
 go_wp2
 refine wp_loop_rounds 1 ?_;rw[rounds_succ]
 go_wp2_with (go_at_call 224;refine(Q8R _).mono ?_;rintro e w' ⟨⟨v,rfl⟩,st⟩)
 go_returns
 exact⟨⟨_,rfl⟩,st⟩
theorem Q8O(W:World):Calls Tryz.prog 201 #[.int .u64 1] W λe w'=>e=.returned (iv 1)/\w'=W:=by
 go_enter Tryz.func201,Tryz.ntmps201
 go_wp2
 go_ret
 exact⟨by kernel_rfl,rfl⟩
theorem Q8N(W:World):Calls Tryz.prog 140 #[.int .u64 1] W λe w'=>e=.returned (iv 1)/\w'=W:=by
 go_enter Tryz.func140,Tryz.ntmps140
 go_wp2_with (go_at_call 201;refine(Q8O _).mono ?_;rintro e w' ⟨rfl,rfl⟩)
 go_ret
 exact⟨rfl,rfl⟩
theorem Q8J{W:World}{g c:Nat}(f:Value):Calls Tryz.prog 101 #[.slice (some ⟨g,0,none⟩) 1 c,f] W λe w'=>(∃v,e=.returned v)/\Stp U8 W w':=by
 go_enter Tryz.func101,Tryz.ntmps101
 go_wp2_with (first
  |(go_at_call 140;refine(Q8N _).mono ?_;rintro e w' ⟨rfl,rfl⟩)
  |(go_at_call 170;refine(Q8L _ _).mono ?_;rintro e w' ⟨⟨v,rfl⟩,st⟩))
 go_returns
 exact⟨⟨_,rfl⟩,st⟩
end Go.Proofs
end
section
namespace Go.Proofs
open Go.Shelf Go.RowKit Go.Lib Go.Ab
set_option maxHeartbeats 8000000
set_option maxRecDepth 100000
theorem Fy(W:World)(T:Nat)(p q:Value):∀j u,[p,q][j]?=some u->(W.alloc (.cells #[p,q] T)).cell? ((⟨W.heap.size,0,none⟩:Addr).add j)=some u:=by
 intro j u e
 match j,e with
 |0,e=>
  simp at e
  subst e;simp[Addr.add]
 |1,e=>
  simp at e
  subst e;simp[Addr.add]
theorem Tq:∃i z,Tryz.prog.info? 179=some i/\i.zero=some z/\i.size=2/\i.bytes<=1000/\z.cells.size=2:=by
 obtain⟨i,dd,z,h⟩:=Zg 179 ⟨.struct [(0,3),(1,3)],2,16,[.d (.int .i64 0),.d (.int .i64 0)]⟩ (by kernel_rfl);exact⟨i,z,h.info,h.zero,h.size,by rw[h.bytes];decide,(h.zrep default (λ_=>False) (λ_=>undef) (Qd [] default (λ_=>False) λ_=>undef)).1⟩
theorem Ts:Tryz.prog.underlying 128=some (.slice 179):=by kernel_rfl
theorem Ql{w:World}{g:Nat}{p q r s:Value}(h:w.heap[g]?=some (.cells #[p,q,r,s] 181 (0,0))):(w.cell? ⟨g,0,none⟩=some p/\w.cell? ⟨g,1,none⟩=some q/\w.cell? ⟨g,2,none⟩=some r/\w.cell? ⟨g,3,none⟩=some s)/\w.frozen? ⟨g,0,none⟩=false/\w.frozen? ⟨g,1,none⟩=false/\w.frozen? ⟨g,2,none⟩=false/\w.frozen? ⟨g,3,none⟩=false:=by
 refine⟨⟨?_,?_,?_,?_⟩,?_,?_,?_,?_⟩<;>first|(simp[World.cell?,h];done)|(simp[World.frozen?,h];done)
theorem RX(g c:Nat)(cur:Array Value)(w:World)(h:w.heap[g]?=some (.cells cur 181 (0,0)))(hc:cur.size=c*4)(h1:1<=c)(h2:c<=maxLen):Calls Tryz.prog 168 #[.slice (some ⟨g,0,none⟩) 1 c,iv 0,.int .i64 (IntKind.i64.wrap 1)] w λe w'=>e=.returned (.slice (some ⟨g,0,none⟩) 0 c)/\Stp (λb=>b=g) w w' /\ w'.heap.size=w.heap.size:=by
 have e:IntKind.i64.wrap 1=1:=by decide
 rw[e];exact Q8W g c cur w h hc h1 h2
theorem Q8T{w:World}{m ck:Nat}{gs cs:Nat->Nat}{row:Nat->Array Value}(hm:w.heap[m]?=some (.map #[ZN (sv (gs 0) 1 (cs 0)),Yd (sv (gs 1) 1 (cs 1)),Yt (sv (gs 2) 1 (cs 2)),YO (sv (gs 3) 1 (cs 3))] ck))(hr:∀ i,w.heap[gs i]?=some (.cells (row i) 181 (0,0)))(r0:∃ Z,row 0=#[iv 0,iv 0,iv 10,iv 0]++Z)(r1:∃ Z,row 1=#[iv 0,iv 10,iv 0,iv 0]++Z)(r2:∃ Z,row 2=#[iv 10,iv 0,iv 10,iv 10]++Z)(r3:∃ Z,row 3=#[iv 10,iv 10,iv 0,iv 10]++Z)(hc:∀ i,(row i).size=cs i*4/\1<=cs i/\cs i<=maxLen)(hd:∀ i j,i<4->j<4->gs i=gs j->i=j)(hmg:∀ i,m≠gs i):
  Calls Tryz.prog 98 #[.map (some m),ev 0 0 10 0] w λe w'=>∃v,e=.returned v/\w'.ownsRow w.heap.size 179 2 v 4 [iv 10,iv 0,iv 10,iv 10,iv 0,iv 10,iv 0,iv 0]/\w'.heap[m]?=some (.map #[ZN (sv (gs 0) 0 (cs 0)),Yd (sv (gs 1) 0 (cs 1)),Yt (sv (gs 2) 0 (cs 2)),YO (sv (gs 3) 0 (cs 3))] ck)/\Stp (λb=>b=m\/∃i,b=gs i) w w':=by
 obtain⟨o,ho⟩:∃o,w.heap.size=o:=⟨_,rfl⟩;have f9:m<o:=ho ▸ J2 hm
 have c2:∀i,gs i<o:=λi=>ho ▸ J2 (hr i)
 go_enter Tryz.func98,Tryz.ntmps98
 go_wp2
 obtain⟨W,hW⟩:∃W,(w.alloc (.cells #[iv 0,iv 0,iv 10,iv 0] 181)).alloc (.cells #[iv 0,iv 0,iv 10,iv 0] 181)=W:=⟨_,rfl⟩;have F:Fo w W m ck o #[ZN (sv (gs 0) 1 (cs 0)),Yd (sv (gs 1) 1 (cs 1)),Yt (sv (gs 2) 1 (cs 2)),YO (sv (gs 3) 1 (cs 3))] 0 0 10 0 gs row (λ_=>true) (.slice none 0 0) 0 []:=by
  have f8:∀k,k<o->W.heap[k]?=w.heap[k]?:=λk hk=>by
   rw[<-hW];exact(Below.heap_alloc _ _ k (by simp;omega)).trans (Below.heap_alloc _ _ k (by omega))
  refine⟨(f8 m f9).trans hm,?_,?_,λi _ _=>(f8 _ (c2 i)).trans (hr i),f9,c2,World.ownsRow_nil _ _ _ _,ho,?_,?_⟩
  .rw [<-hW, <-ho];exact(Below.heap_alloc _ _ _ (by simp)).trans (World.alloc_heap_new _ _)
  .have:=World.alloc_heap_new (w.alloc (.cells #[iv 0,iv 0,iv 10,iv 0] 181)) (.cells #[iv 0,iv 0,iv 10,iv 0] 181)
   rwa [World.size_alloc,ho,hW]at this
  .rw [<-hW];exact(K4 (Stp.alloc U8 _ _) (Stp.alloc U8 _ _)).mono λ_ _ h=>h.elim
  .rw [<-hW, <-ho];simp
 change Code.wp _ _ _ _ ((w.alloc (.cells #[iv 0,iv 0,iv 10,iv 0] 181)).alloc (.cells #[iv 0,iv 0,iv 10,iv 0] 181));rw[hW]
 clear hW
 refine wp_loop_rounds 4 ?_;rw[rounds_succ]
 have lk:=JP F.mp (vm _ _ _ _);obtain⟨Z,hZ⟩:=r2
 have t:=F.li 2 (by omega) rfl;have hl:=t
 have sz:=F.sz;have c4:=c2 2
 have n3:gs 2<W.heap.size:=by omega
 rw[hZ]at hl;obtain⟨q0,q1,q2,q3⟩:=HM hl
 obtain⟨⟨p0,p1,p2,p3⟩, -⟩:=Ql F.e6
 go_wp2
 go_region
 go_wp2
 have L:Stp U8 W ((W.alloc (.cells #[iv 10,iv 0,iv 10,iv 10] 181)).drew):=K4 (Stp.alloc U8 W _) (UU _);have s:=F.mono L
 clear L
 have K:((W.alloc (.cells #[iv 10,iv 0,iv 10,iv 10] 181)).drew).heap[W.heap.size]?=some (.cells #[iv 10,iv 0,iv 10,iv 10] 181 (0,0)):=World.alloc_heap_new _ _;change Code.wp _ _ _ _ ((W.alloc (.cells #[iv 10,iv 0,iv 10,iv 10] 181)).drew)
 generalize ((W.alloc (.cells #[iv 10,iv 0,iv 10,iv 10] 181)).drew)=W5 at s K⊢;obtain⟨o9,ho9⟩:∃o9,W.heap.size=o9:=⟨_,rfl⟩
 rw[ho9]at K sz⊢;have a2:some o9≠((.slice none 0 0):Value).ownBlock:=λe=>by
  have:=(F.cor.lt _ e.symm).2
  omega
 clear lk t hl p0 p1 p2 p3 q0 q1 q2 q3 n3 F hZ Z
 apply Qm7 (Q:=(λ(A:Act) e a' W2=>match e with|.normal=>a'=A/\Fo w W2 m ck o #[ZN (sv (gs 0) 1 (cs 0)),Yd (sv (gs 1) 1 (cs 1)),Yt (sv (gs 2) 0 (cs 2)),YO (sv (gs 3) 1 (cs 3))] 0 0 10 0 gs row (λi=>true&&i != 2) (.slice none 0 0) 0 []/\W2.heap[o9]?=some (.cells #[iv 10,iv 0,iv 10,iv 10] 181 (0,0))|_=>False) _)
 case h=>
  have t:=s.li 2 (by omega) rfl;have d4:Tryz.prog.follows .mixedOrders=true:=by kernel_rfl
  have b4:=J2 s.e6;have d6:=J2 K
  have b5:=J2 s.mp;obtain⟨⟨p0,p1,p2,p3⟩, -⟩:=Ql s.e6
  go_region_with_o (go_at_call 168;refine(RX (gs 2) (cs 2) (row 2) _ (by exact t) (hc 2).1 (hc 2).2.1 (hc 2).2.2).mono ?_;rintro e W' ⟨rfl,st,hs⟩;have b3 : W'.heap[m]?=_:=(st.block m (by exact b5) (hmg 2)).trans s.mp;have up:=RU b3 (vm _ _ _ _) rfl (v:=sv (gs 2) 0 (cs 2));have b2 : W'.heap[o+1]?=_:=(st.block (o+1) (by exact b4) (by omega)).trans s.e6;obtain⟨⟨U,a4,R,P⟩, -⟩:=Ql b2)
  all_goals
   obtain⟨O,k6⟩:=s.del (es':=#[ZN (sv (gs 0) 1 (cs 0)),Yd (sv (gs 1) 1 (cs 1)),Yt (sv (gs 2) 0 (cs 2)),YO (sv (gs 3) 1 (cs 3))]) (ck:=ck) 2 (by omega) st hs hd hmg;exact⟨rfl,O,(k6 _ (by assumption) (by omega) (by omega)).trans K⟩
 intro e a' W6 h;have hn:e=.normal:=by cases e<;>first|rfl|exact(h:False).elim
 subst hn;obtain⟨rfl,O,z⟩:=h
 clear s K
 obtain⟨⟨p0,p1,p2,p3⟩, -⟩:=Ql O.e6;obtain⟨⟨q0,q1,q2,q3⟩, -⟩:=Ql z
 obtain⟨pi,pz,a3,a5,V,a0,G⟩:=Tq;simp only[Exit.then]
 go_wp2_with (first
  |(go_at_call 167;refine(RV (tn1 0) _).mono ?_;rintro e S ⟨rfl,I⟩;have M:=O.mono I;have E:S.heap[o9]?=_:=(I.block o9 (by exact J2 z) λh=>h).trans z;obtain⟨⟨U,a4,R,P⟩, -⟩:=Ql M.e6)
  |(at_builtin;refine UQ rfl _ _ 128 rfl rfl Ts a3 a5 V a0 G (by decide) rfl (M.mono (W':=S.alloc (.cells #[iv 10,iv 0] 179)) (Stp.alloc U8 _ _)).cor rfl rfl (Fy _ _ _ _) (by simp[Value.oneCell']) (by omega) (by have:=M.sz;simp;omega) ?_;intro v0 W8 H p a6 Y;have J:=(M.mono (W':=S.alloc (.cells #[iv 10,iv 0] 179)) (Stp.alloc U8 _ _)).app H p Y;have a1:W8.heap[o9]?=_:=(J.2 o9 (by have:=J2 E;simp;omega) a2).trans ((Below.heap_alloc _ _ o9 (J2 E)).trans E);obtain⟨⟨c5,c7,c6,c3⟩, -⟩:=Ql a1;obtain⟨⟨t0,t1,t2,t3⟩, -⟩:=Ql J.1.e3;obtain⟨⟨s0,s1,s2,s3⟩,f0,f1,f2,f3⟩:=Ql J.1.e6))
 have F:=J.1.now 10 0 10 10;change Code.rounds _ _ _ _ _ ((((W8.setCell ⟨o+1,0,none⟩ (iv 10)).setCell ⟨o+1,1,none⟩ (iv 0)).setCell ⟨o+1,2,none⟩ (iv 10)).setCell ⟨o+1,3,none⟩ (iv 10))
 generalize ((((W8.setCell ⟨o+1,0,none⟩ (iv 10)).setCell ⟨o+1,1,none⟩ (iv 0)).setCell ⟨o+1,2,none⟩ (iv 10)).setCell ⟨o+1,3,none⟩ (iv 10))=W at F⊢;generalize S.heap.size=o7
 clear O z a2 p0 p1 p2 p3 q0 q1 q2 q3 pi pz a3 a5 V a0 G H p a6 Y J a1 c5 c7 c6 c3 t0 t1 t2 t3 s0 s1 s2 s3 f0 f1 f2 f3 M E U a4 R P I sz c4 ho9 W8 S W6
 rw[rounds_succ];have lk:=JP F.mp (vk _ _ _ _)
 obtain⟨Z,hZ⟩:=r3;have t:=F.li 3 (by omega) rfl
 have hl:=t;have sz:=F.sz
 have c4:=c2 3;have n3:gs 3<W.heap.size:=by omega
 rw[hZ]at hl;obtain⟨q0,q1,q2,q3⟩:=HM hl
 obtain⟨⟨p0,p1,p2,p3⟩, -⟩:=Ql F.e6
 go_wp2
 go_region
 go_wp2
 have L:Stp U8 W ((W.alloc (.cells #[iv 10,iv 10,iv 0,iv 10] 181)).drew):=K4 (Stp.alloc U8 W _) (UU _);have s:=F.mono L
 clear L
 have K:((W.alloc (.cells #[iv 10,iv 10,iv 0,iv 10] 181)).drew).heap[W.heap.size]?=some (.cells #[iv 10,iv 10,iv 0,iv 10] 181 (0,0)):=World.alloc_heap_new _ _;change Code.wp _ _ _ _ ((W.alloc (.cells #[iv 10,iv 10,iv 0,iv 10] 181)).drew)
 generalize ((W.alloc (.cells #[iv 10,iv 10,iv 0,iv 10] 181)).drew)=W5 at s K⊢;obtain⟨o9,ho9⟩:∃o9,W.heap.size=o9:=⟨_,rfl⟩
 rw[ho9]at K sz⊢;have a2:some o9≠(v0:Value).ownBlock:=λe=>by
  have:=(F.cor.lt _ e.symm).2
  omega
 clear lk t hl p0 p1 p2 p3 q0 q1 q2 q3 n3 F hZ Z
 apply Qm7 (Q:=(λ(A:Act) e a' W2=>match e with|.normal=>a'=A/\Fo w W2 m ck o #[ZN (sv (gs 0) 1 (cs 0)),Yd (sv (gs 1) 1 (cs 1)),Yt (sv (gs 2) 0 (cs 2)),YO (sv (gs 3) 0 (cs 3))] 10 0 10 10 gs row (λi=>((true&&i != 2)&&i != 3)) v0 1 ([]++[iv 10,iv 0])/\W2.heap[o9]?=some (.cells #[iv 10,iv 10,iv 0,iv 10] 181 (0,0))|_=>False) _)
 case h=>
  have t:=s.li 3 (by omega) rfl;have d4:Tryz.prog.follows .mixedOrders=true:=by kernel_rfl
  have b4:=J2 s.e6;have d6:=J2 K
  have b5:=J2 s.mp;obtain⟨⟨p0,p1,p2,p3⟩, -⟩:=Ql s.e6
  go_region_with_o (go_at_call 168;refine(RX (gs 3) (cs 3) (row 3) _ (by exact t) (hc 3).1 (hc 3).2.1 (hc 3).2.2).mono ?_;rintro e W' ⟨rfl,st,hs⟩;have b3 : W'.heap[m]?=_:=(st.block m (by exact b5) (hmg 3)).trans s.mp;have up:=RU b3 (vk _ _ _ _) rfl (v:=sv (gs 3) 0 (cs 3));have b2 : W'.heap[o+1]?=_:=(st.block (o+1) (by exact b4) (by omega)).trans s.e6;obtain⟨⟨U,a4,R,P⟩, -⟩:=Ql b2)
  all_goals
   obtain⟨O,k6⟩:=s.del (es':=#[ZN (sv (gs 0) 1 (cs 0)),Yd (sv (gs 1) 1 (cs 1)),Yt (sv (gs 2) 0 (cs 2)),YO (sv (gs 3) 0 (cs 3))]) (ck:=ck) 3 (by omega) st hs hd hmg;exact⟨rfl,O,(k6 _ (by assumption) (by omega) (by omega)).trans K⟩
 intro e a' W6 h;have hn:e=.normal:=by cases e<;>first|rfl|exact(h:False).elim
 subst hn;obtain⟨rfl,O,z⟩:=h
 clear s K
 obtain⟨⟨p0,p1,p2,p3⟩, -⟩:=Ql O.e6;obtain⟨⟨q0,q1,q2,q3⟩, -⟩:=Ql z
 obtain⟨pi,pz,a3,a5,V,a0,G⟩:=Tq;simp only[Exit.then]
 go_wp2_with (first
  |(go_at_call 167;refine(RV (tn2 0) _).mono ?_;rintro e S ⟨rfl,I⟩;have M:=O.mono I;have E:S.heap[o9]?=_:=(I.block o9 (by exact J2 z) λh=>h).trans z;obtain⟨⟨U,a4,R,P⟩, -⟩:=Ql M.e6)
  |(at_builtin;refine UQ rfl _ _ 128 rfl rfl Ts a3 a5 V a0 G (by decide) rfl (M.mono (W':=S.alloc (.cells #[iv 10,iv 10] 179)) (Stp.alloc U8 _ _)).cor rfl rfl (Fy _ _ _ _) (by simp[Value.oneCell']) (by omega) (by have:=M.sz;simp;omega) ?_;intro v1 W8 H p a6 Y;have J:=(M.mono (W':=S.alloc (.cells #[iv 10,iv 10] 179)) (Stp.alloc U8 _ _)).app H p Y;have a1:W8.heap[o9]?=_:=(J.2 o9 (by have:=J2 E;simp;omega) a2).trans ((Below.heap_alloc _ _ o9 (J2 E)).trans E);obtain⟨⟨c5,c7,c6,c3⟩, -⟩:=Ql a1;obtain⟨⟨t0,t1,t2,t3⟩, -⟩:=Ql J.1.e3;obtain⟨⟨s0,s1,s2,s3⟩,f0,f1,f2,f3⟩:=Ql J.1.e6))
 have F:=J.1.now 10 10 0 10;change Code.rounds _ _ _ _ _ ((((W8.setCell ⟨o+1,0,none⟩ (iv 10)).setCell ⟨o+1,1,none⟩ (iv 10)).setCell ⟨o+1,2,none⟩ (iv 0)).setCell ⟨o+1,3,none⟩ (iv 10))
 generalize ((((W8.setCell ⟨o+1,0,none⟩ (iv 10)).setCell ⟨o+1,1,none⟩ (iv 10)).setCell ⟨o+1,2,none⟩ (iv 0)).setCell ⟨o+1,3,none⟩ (iv 10))=W at F⊢;generalize S.heap.size=o7
 clear O z a2 p0 p1 p2 p3 q0 q1 q2 q3 pi pz a3 a5 V a0 G H p a6 Y J a1 c5 c7 c6 c3 t0 t1 t2 t3 s0 s1 s2 s3 f0 f1 f2 f3 M E U a4 R P I sz c4 ho9 W8 S W6
 rw[rounds_succ];have lk:=JP F.mp (vn _ _ _ _)
 obtain⟨Z,hZ⟩:=r1;have t:=F.li 1 (by omega) rfl
 have hl:=t;have sz:=F.sz
 have c4:=c2 1;have n3:gs 1<W.heap.size:=by omega
 rw[hZ]at hl;obtain⟨q0,q1,q2,q3⟩:=HM hl
 obtain⟨⟨p0,p1,p2,p3⟩, -⟩:=Ql F.e6
 go_wp2
 go_region
 go_wp2
 have L:Stp U8 W ((W.alloc (.cells #[iv 0,iv 10,iv 0,iv 0] 181)).drew):=K4 (Stp.alloc U8 W _) (UU _);have s:=F.mono L
 clear L
 have K:((W.alloc (.cells #[iv 0,iv 10,iv 0,iv 0] 181)).drew).heap[W.heap.size]?=some (.cells #[iv 0,iv 10,iv 0,iv 0] 181 (0,0)):=World.alloc_heap_new _ _;change Code.wp _ _ _ _ ((W.alloc (.cells #[iv 0,iv 10,iv 0,iv 0] 181)).drew)
 generalize ((W.alloc (.cells #[iv 0,iv 10,iv 0,iv 0] 181)).drew)=W5 at s K⊢;obtain⟨o9,ho9⟩:∃o9,W.heap.size=o9:=⟨_,rfl⟩
 rw[ho9]at K sz⊢;have a2:some o9≠(v1:Value).ownBlock:=λe=>by
  have:=(F.cor.lt _ e.symm).2
  omega
 clear lk t hl p0 p1 p2 p3 q0 q1 q2 q3 n3 F hZ Z
 apply Qm7 (Q:=(λ(A:Act) e a' W2=>match e with|.normal=>a'=A/\Fo w W2 m ck o #[ZN (sv (gs 0) 1 (cs 0)),Yd (sv (gs 1) 0 (cs 1)),Yt (sv (gs 2) 0 (cs 2)),YO (sv (gs 3) 0 (cs 3))] 10 10 0 10 gs row (λi=>(((true&&i != 2)&&i != 3)&&i != 1)) v1 2 (([]++[iv 10,iv 0])++[iv 10,iv 10])/\W2.heap[o9]?=some (.cells #[iv 0,iv 10,iv 0,iv 0] 181 (0,0))|_=>False) _)
 case h=>
  have t:=s.li 1 (by omega) rfl;have d4:Tryz.prog.follows .mixedOrders=true:=by kernel_rfl
  have b4:=J2 s.e6;have d6:=J2 K
  have b5:=J2 s.mp;obtain⟨⟨p0,p1,p2,p3⟩, -⟩:=Ql s.e6
  go_region_with_o (go_at_call 168;refine(RX (gs 1) (cs 1) (row 1) _ (by exact t) (hc 1).1 (hc 1).2.1 (hc 1).2.2).mono ?_;rintro e W' ⟨rfl,st,hs⟩;have b3 : W'.heap[m]?=_:=(st.block m (by exact b5) (hmg 1)).trans s.mp;have up:=RU b3 (vn _ _ _ _) rfl (v:=sv (gs 1) 0 (cs 1));have b2 : W'.heap[o+1]?=_:=(st.block (o+1) (by exact b4) (by omega)).trans s.e6;obtain⟨⟨U,a4,R,P⟩, -⟩:=Ql b2)
  all_goals
   obtain⟨O,k6⟩:=s.del (es':=#[ZN (sv (gs 0) 1 (cs 0)),Yd (sv (gs 1) 0 (cs 1)),Yt (sv (gs 2) 0 (cs 2)),YO (sv (gs 3) 0 (cs 3))]) (ck:=ck) 1 (by omega) st hs hd hmg;exact⟨rfl,O,(k6 _ (by assumption) (by omega) (by omega)).trans K⟩
 intro e a' W6 h;have hn:e=.normal:=by cases e<;>first|rfl|exact(h:False).elim
 subst hn;obtain⟨rfl,O,z⟩:=h
 clear s K
 obtain⟨⟨p0,p1,p2,p3⟩, -⟩:=Ql O.e6;obtain⟨⟨q0,q1,q2,q3⟩, -⟩:=Ql z
 obtain⟨pi,pz,a3,a5,V,a0,G⟩:=Tq;simp only[Exit.then]
 go_wp2_with (first
  |(go_at_call 167;refine(RV (tn3 0) _).mono ?_;rintro e S ⟨rfl,I⟩;have M:=O.mono I;have E:S.heap[o9]?=_:=(I.block o9 (by exact J2 z) λh=>h).trans z;obtain⟨⟨U,a4,R,P⟩, -⟩:=Ql M.e6)
  |(at_builtin;refine UQ rfl _ _ 128 rfl rfl Ts a3 a5 V a0 G (by decide) rfl (M.mono (W':=S.alloc (.cells #[iv 0,iv 10] 179)) (Stp.alloc U8 _ _)).cor rfl rfl (Fy _ _ _ _) (by simp[Value.oneCell']) (by omega) (by have:=M.sz;simp;omega) ?_;intro v2 W8 H p a6 Y;have J:=(M.mono (W':=S.alloc (.cells #[iv 0,iv 10] 179)) (Stp.alloc U8 _ _)).app H p Y;have a1:W8.heap[o9]?=_:=(J.2 o9 (by have:=J2 E;simp;omega) a2).trans ((Below.heap_alloc _ _ o9 (J2 E)).trans E);obtain⟨⟨c5,c7,c6,c3⟩, -⟩:=Ql a1;obtain⟨⟨t0,t1,t2,t3⟩, -⟩:=Ql J.1.e3;obtain⟨⟨s0,s1,s2,s3⟩,f0,f1,f2,f3⟩:=Ql J.1.e6))
 have F:=J.1.now 0 10 0 0;change Code.rounds _ _ _ _ _ ((((W8.setCell ⟨o+1,0,none⟩ (iv 0)).setCell ⟨o+1,1,none⟩ (iv 10)).setCell ⟨o+1,2,none⟩ (iv 0)).setCell ⟨o+1,3,none⟩ (iv 0))
 generalize ((((W8.setCell ⟨o+1,0,none⟩ (iv 0)).setCell ⟨o+1,1,none⟩ (iv 10)).setCell ⟨o+1,2,none⟩ (iv 0)).setCell ⟨o+1,3,none⟩ (iv 0))=W at F⊢;generalize S.heap.size=o7
 clear O z a2 p0 p1 p2 p3 q0 q1 q2 q3 pi pz a3 a5 V a0 G H p a6 Y J a1 c5 c7 c6 c3 t0 t1 t2 t3 s0 s1 s2 s3 f0 f1 f2 f3 M E U a4 R P I sz c4 ho9 W8 S W6
 rw[rounds_succ];have lk:=JP F.mp (vo _ _ _ _)
 obtain⟨Z,hZ⟩:=r0;have t:=F.li 0 (by omega) rfl
 have hl:=t;have sz:=F.sz
 have c4:=c2 0;have n3:gs 0<W.heap.size:=by omega
 rw[hZ]at hl;obtain⟨q0,q1,q2,q3⟩:=HM hl
 obtain⟨⟨p0,p1,p2,p3⟩, -⟩:=Ql F.e6
 go_wp2
 go_region
 go_wp2
 have L:Stp U8 W ((W.alloc (.cells #[iv 0,iv 0,iv 10,iv 0] 181)).drew):=K4 (Stp.alloc U8 W _) (UU _);have s:=F.mono L
 clear L
 have K:((W.alloc (.cells #[iv 0,iv 0,iv 10,iv 0] 181)).drew).heap[W.heap.size]?=some (.cells #[iv 0,iv 0,iv 10,iv 0] 181 (0,0)):=World.alloc_heap_new _ _;change Code.wp _ _ _ _ ((W.alloc (.cells #[iv 0,iv 0,iv 10,iv 0] 181)).drew)
 generalize ((W.alloc (.cells #[iv 0,iv 0,iv 10,iv 0] 181)).drew)=W5 at s K⊢;obtain⟨o9,ho9⟩:∃o9,W.heap.size=o9:=⟨_,rfl⟩
 rw[ho9]at K sz⊢;have a2:some o9≠(v2:Value).ownBlock:=λe=>by
  have:=(F.cor.lt _ e.symm).2
  omega
 clear lk t hl p0 p1 p2 p3 q0 q1 q2 q3 n3 F hZ Z
 apply Qm7 (Q:=(λ(A:Act) e a' W2=>match e with|.normal=>a'=A/\Fo w W2 m ck o #[ZN (sv (gs 0) 0 (cs 0)),Yd (sv (gs 1) 0 (cs 1)),Yt (sv (gs 2) 0 (cs 2)),YO (sv (gs 3) 0 (cs 3))] 0 10 0 0 gs row (λi=>((((true&&i != 2)&&i != 3)&&i != 1)&&i != 0)) v2 3 ((([]++[iv 10,iv 0])++[iv 10,iv 10])++[iv 0,iv 10])/\W2.heap[o9]?=some (.cells #[iv 0,iv 0,iv 10,iv 0] 181 (0,0))|_=>False) _)
 case h=>
  have t:=s.li 0 (by omega) rfl;have d4:Tryz.prog.follows .mixedOrders=true:=by kernel_rfl
  have b4:=J2 s.e6;have d6:=J2 K
  have b5:=J2 s.mp;obtain⟨⟨p0,p1,p2,p3⟩, -⟩:=Ql s.e6
  go_region_with_o (go_at_call 168;refine(RX (gs 0) (cs 0) (row 0) _ (by exact t) (hc 0).1 (hc 0).2.1 (hc 0).2.2).mono ?_;rintro e W' ⟨rfl,st,hs⟩;have b3 : W'.heap[m]?=_:=(st.block m (by exact b5) (hmg 0)).trans s.mp;have up:=RU b3 (vo _ _ _ _) rfl (v:=sv (gs 0) 0 (cs 0));have b2 : W'.heap[o+1]?=_:=(st.block (o+1) (by exact b4) (by omega)).trans s.e6;obtain⟨⟨U,a4,R,P⟩, -⟩:=Ql b2)
  all_goals
   obtain⟨O,k6⟩:=s.del (es':=#[ZN (sv (gs 0) 0 (cs 0)),Yd (sv (gs 1) 0 (cs 1)),Yt (sv (gs 2) 0 (cs 2)),YO (sv (gs 3) 0 (cs 3))]) (ck:=ck) 0 (by omega) st hs hd hmg;exact⟨rfl,O,(k6 _ (by assumption) (by omega) (by omega)).trans K⟩
 intro e a' W6 h;have hn:e=.normal:=by cases e<;>first|rfl|exact(h:False).elim
 subst hn;obtain⟨rfl,O,z⟩:=h
 clear s K
 obtain⟨⟨p0,p1,p2,p3⟩, -⟩:=Ql O.e6;obtain⟨⟨q0,q1,q2,q3⟩, -⟩:=Ql z
 obtain⟨pi,pz,a3,a5,V,a0,G⟩:=Tq;simp only[Exit.then]
 go_wp2_with (first
  |(go_at_call 167;refine(RV (tn4 0) _).mono ?_;rintro e S ⟨rfl,I⟩;have M:=O.mono I;have E:S.heap[o9]?=_:=(I.block o9 (by exact J2 z) λh=>h).trans z;obtain⟨⟨U,a4,R,P⟩, -⟩:=Ql M.e6)
  |(at_builtin;refine UQ rfl _ _ 128 rfl rfl Ts a3 a5 V a0 G (by decide) rfl (M.mono (W':=S.alloc (.cells #[iv 0,iv 0] 179)) (Stp.alloc U8 _ _)).cor rfl rfl (Fy _ _ _ _) (by simp[Value.oneCell']) (by omega) (by have:=M.sz;simp;omega) ?_;intro v3 W8 H p a6 Y;have J:=(M.mono (W':=S.alloc (.cells #[iv 0,iv 0] 179)) (Stp.alloc U8 _ _)).app H p Y;have a1:W8.heap[o9]?=_:=(J.2 o9 (by have:=J2 E;simp;omega) a2).trans ((Below.heap_alloc _ _ o9 (J2 E)).trans E);obtain⟨⟨c5,c7,c6,c3⟩, -⟩:=Ql a1;obtain⟨⟨t0,t1,t2,t3⟩, -⟩:=Ql J.1.e3;obtain⟨⟨s0,s1,s2,s3⟩,f0,f1,f2,f3⟩:=Ql J.1.e6))
 go_ret
 refine⟨v3,rfl,⟨J.1.cor.1,?_⟩,J.1.mp,J.1.stp⟩;rcases J.1.cor.2 with h|⟨g,g2,g1,h1,h2,h3⟩
 .exact .inl h
 .exact .inr ⟨g,g2,g1,h1,by omega,h3⟩
end Go.Proofs
end
section
namespace Go.Proofs
open Go.Shelf Go.RowKit Go.Lib Go.Ab
set_option maxHeartbeats 4000000
set_option maxRecDepth 100000
theorem qx(W:World)(m:Nat)(es:Array MapEntry)(k:Nat):Stp (λb=>b=m) W (WQ W m es k):=⟨rfl,rfl,rfl,by simp[WQ],λb _ h=>by
 simp only[WQ,Qj7];rw[Qa1 (λe=>h e.symm)],Qb4 _⟩
theorem jI{W:World}{m:Nat}{o:Go.Obj}(h:W.heap[m]?=some o)(es:Array MapEntry)(k:Nat):(WQ W m es k).heap[m]?=some (.map es k):=by
 have:=J2 h
 simp only[WQ,Qj7];rw[Qa2 trivial,Qa2 this]
theorem Tm{m k:Nat}{es:Array MapEntry}{x y:Int}{W:World}(X Y:Go.Obj)(h:W.heap[m]?=some (.map es k))(hf:∀ W,(Instr.findKey 179 (pv x y) es.toList).run Tryz.prog W=.ok none W):
  ∃Wm,(Instr.mapEntry 177 (.map (some m)) (pv x y)).run Tryz.prog ((W.alloc X).alloc Y)=.ok (.tuple #[.slice none 0 0,iv k]) Wm/\Wm.heap[m]?=some (.map (es.push ⟨pv x y,.slice none 0 0,k⟩) (k+1))/\Wm.heap.size=W.heap.size+2/\Wm.heap[W.heap.size+1]?=some Y/\Stp (λb=>b=m) W Wm:=by
 have i:=J2 h;have e:((W.alloc X).alloc Y).heap[m]?=some (.map es k):=(Below.heap_alloc _ _ m (by simp;omega)).trans ((Below.heap_alloc _ _ m i).trans h)
 refine⟨_,Q8M e hf,jI e _ _,by simp,?_,?_⟩
 .have g:=World.alloc_heap_new (W.alloc X) Y
  rw[World.size_alloc]at g;exact((qx _ m _ _).block (W.heap.size+1) (by simp) (by omega)).trans g
 .exact ((K4 (Stp.alloc U8 W X) (Stp.alloc U8 _ Y)).mono (λ_ _ h=>h.elim)).trans ((qx _ m _ _).mono λb j h=>.inl h)
theorem Tn{m k born i:Nat}{es:Array MapEntry}{W:World}(v:Value)(z:Int)(hz:z=born)(h:W.heap[m]?=some (.map es k))(hf:es.findIdx? (fun e=>(e.born:Int)==(born:Int))=some i):
  ∃W9,(Instr.entryStore 177 (.map (some m)) (iv z) v).run Tryz.prog W=.ok () W9/\W9.heap[m]?=some (.map (es.modify i λe=> {e with val:=v}) k)/\W9.heap.size=W.heap.size/\Stp (λb=>b=m) W W9:=by
 subst hz;exact⟨_,Q8U h hf,jI h _ _,by simp,qx _ m _ _⟩
theorem FA(W:World)(g T:Nat)(p q r s:Value)(h:W.heap[g]?=some (.cells #[p,q,r,s] T (0,0))):∀j u,[p,q,r,s][j]?=some u->W.cell? ((⟨g,0,none⟩:Addr).add j)=some u:=by
 intro j u e;have k:j=0\/j=1\/j=2\/j=3:=by
  have:j<4:=by
   rcases Qd3 j 4 with i|i
   .exact i
   .rw [Qg7 (by simpa using i)]at e
    cases e
  omega
 rcases k with rfl|rfl|rfl|rfl<;>(simp at e;subst e;simp[World.cell?,h,Addr.add])
theorem Z4j:∃i z,Tryz.prog.info? 181=some i/\i.zero=some z/\i.size=4/\i.bytes<=1000/\z.cells.size=4:=by
 have h:((Tryz.prog.info? 181).map λi=>(i.size,decide (i.bytes<=1000),i.zero.map λz=>z.cells.size))=some (4,true,some 4):=by kernel_rfl
 cases hi:Tryz.prog.info? 181 with
 |none=>rw[hi]at h;cases h
 |some i=>
  rw[hi]at h;simp only[Qj0,Qj8,Prod.mk.injEq,Qb5]at h
  cases hz:i.zero with
  |none=>rw[hz]at h;cases h.2.2
  |some z=>
   rw[hz]at h;simp only[Qj0,Qj8]at h
   exact⟨i,z,rfl,hz,h.1,h.2.1,h.2.2⟩
theorem Fe:Tryz.prog.underlying 175=some (.slice 181):=by kernel_rfl
abbrev qd:Re_:=⟨[⟨0,0,10,10⟩]⟩
abbrev eds:List Ab.Edge:=[⟨⟨0,0⟩,⟨10,0⟩⟩,⟨⟨0,10⟩,⟨0,0⟩⟩,⟨⟨10,0⟩,⟨10,10⟩⟩,⟨⟨10,10⟩,⟨0,10⟩⟩]
structure Rm (w2 W:World) (m:Nat) (es:Array MapEntry) (ck:Nat) (L:List (Nat×Nat×Array Value)):Prop where
 mp:W.heap[m]?=some (.map es ck)
 st:Stp U8 w2 W
 ms:w2.heap.size<=m
 li:∀p∈L,W.heap[p.1]?=some (.cells p.2.2 181 (0,0))/\m<p.1/\p.2.2.size=p.2.1*4/\1<=p.2.1/\p.2.1<=maxLen
 up:L.Pairwise λp q=>p.1<q.1
theorem Rm.next{w2 W Wm W8 W9:World}{m:Nat}{es es' : Array MapEntry}{ck ck' : Nat}{L:List (Nat×Nat×Array Value)}{g c:Nat}{cur:Array Value}(R:Rm w2 W m es ck L)(st:Stp (fun b=>b=m) W Wm)(szm:Wm.heap.size=W.heap.size+2)(hg:Wm.grownBy W8 none)(hdr:Wm.drawn<=W8.drawn)(hh:W8.heap[g]?=some (.cells cur 181 (0,0)))(hf:Wm.heap.size<=g)(m9:W9.heap[m]?=some (.map es' ck'))(st9:Stp (fun b=>b=m) W8 W9)(h1:cur.size=c*4)(h2:1<=c)(h3:c<=maxLen):
  Rm w2 W9 m es' ck' (L++[(g,c,cur)]):=by
 have K:=J2 R.mp;have t:=J2 hh
 have e:∀j,j<W.heap.size->j≠m->W9.heap[j]?=W.heap[j]?:=λj J s=>
  (st9.block j (Qb6 (by omega) hg.size) s).trans ((hg.block j (by omega) (by intro h;cases h)).trans (st.block j J s))
 have i:=R.st;have E:=R.ms
 refine⟨m9,⟨?_,?_,?_,?_,λb A _=>(e b (Qb6 A i.size) (by omega)).trans (i.block b A λh=>h),?_⟩,E,λp k=>?_,?_⟩
 .exact st9.os.trans (hg.os.trans (st.os.trans i.os))
 .exact st9.tape.trans (hg.tape.trans (st.tape.trans i.tape))
 .exact st9.output.trans (hg.output.trans (st.output.trans i.output))
 .exact Qc4 i.size (Qc4 st.size (Qc4 hg.size st9.size))
 .exact Qc4 i.dr (Qc4 st.dr (Qc4 hdr st9.dr))
 .rcases Qa9.1 k with k|k
  .obtain ⟨z,H,G⟩:=R.li p k
   exact⟨(e _ (J2 z) (by omega)).trans z,H,G⟩
  .rw [Qb0.1 k]
   exact⟨(st9.block g t (by omega)).trans hh,by simp only;omega,h1,h2,h3⟩
 .rw [Qd5]
  refine⟨R.up,by simp,λp k q I=>?_⟩;rw[Qb0.1 I]
  have:=J2 (R.li p k).1
  simp only
  omega
end Go.Proofs
end
section
namespace Go.Proofs
open Go.Shelf Go.RowKit Go.Lib Go.Ab
set_option maxHeartbeats 4000000
set_option maxRecDepth 100000
abbrev DJ:List Ab.Point:=[⟨0,0⟩,⟨10,0⟩,⟨10,10⟩,⟨0,10⟩]
theorem RW{W W' : World}{X:Nat->Prop}{v:Value}{d:DVal}(h:DRep W X v d)(st:Stp U8 W W'):DRep W' X v d:=h.mono λb e g=>⟨st.block b e λh=>h,g⟩
theorem Ed.stp{W W' : World}{v:Value}{ga off cap:Nat}(h:Ed W v ga off cap)(st:Stp U8 W W'):Ed W' v ga off cap:=⟨h.eq,Qb6 h.lt st.size,λk e=>by
 have:=h.at_ k e
 simp only[World.cell?]at this⊢;rw[st.block ga h.lt λh=>h]
 exact this⟩
theorem Q9a{W:World}{k T:Nat}{v:Value}(h:W.heap[k]?=some (.cells #[v] T (0,0))):W.cell? ⟨k,0,none⟩=some v:=by simp[World.cell?,h]
theorem RQ{W:World}{b:Nat}{v p q r s:Value}(h:W.ownsRow b 181 4 v (0+1) ([]++[p,q,r,s])):∃g c cur Z,v=sv g 1 c/\b<=g/\W.heap[g]?=some (.cells cur 181 (0,0))/\cur.size=c*4/\1<=c/\c<=maxLen/\cur=#[p,q,r,s]++Z:=by
 rcases h.2 with ⟨_,h⟩|⟨g,k,cur,rfl,A,e,i,z,j,t⟩
 .exact absurd h (by omega)
 .refine ⟨g,k,cur,(cur.toList.drop 4).toArray,rfl,A,e,j,i,z,?_⟩
  apply Qv5.1;have:cur.toList.take 4=[p,q,r,s]:=t
  rw[Qp0, <-this,Qg8]
theorem Q8C{W:World}{b:Nat}{v u:Value}(h:W.ownsRow b 128 1 v (0+1) ([]++[u])):∃g c Z,v=sv g 1 c/\b<=g/\W.heap[g]?=some (.cells (#[u]++Z) 128 (0,0))/\1<=c:=by
 rcases h.2 with ⟨_,h⟩|⟨g,k,e,rfl,t,i,j,z,s,p⟩
 .exact absurd h (by omega)
 .refine ⟨g,k,(e.toList.drop 1).toArray,rfl,t,?_,j⟩
  have:e=#[u]++(e.toList.drop 1).toArray:=by
   apply Qv5.1;have:e.toList.take 1=[u]:=p
   rw[Qp0, <-this,Qg8]
  rw[<-this];exact i
theorem Cu{W W' : World}{m:Nat}{o:Go.Obj}(hg:W.grownBy W' (Value.slice none 0 0).ownBlock)(h:W.heap[m]?=some o):W'.heap[m]?=some o:=(hg.block m (J2 h) (by intro h;cases h)).trans h
theorem Z2V{W W' : World}(hg:W.grownBy W' (Value.slice none 0 0).ownBlock)(hd:W.drawn<=W'.drawn):Stp U8 W W':=⟨hg.os,hg.tape,hg.output,hg.size,λb e _=>hg.block b e (by intro h;cases h),hd⟩
theorem Z0J{W:World}{b:Nat}{v:Value}{X:Nat->Prop}(hX:∀g,b<=g->¬X g)(h:W.ownsRow b 179 2 v 4 [iv 10,iv 0,iv 10,iv 10,iv 0,iv 10,iv 0,iv 0]):DRep W X v (DL (α:=Ab.Point) [⟨10,0⟩,⟨10,10⟩,⟨0,10⟩,⟨0,0⟩]):=by
 rcases h.2 with ⟨_,h⟩|⟨g,A,e,rfl,I,z,s,J,H,E⟩
 .exact absurd h (by omega)
 .have G:e=#[iv 10,iv 0,iv 10,iv 10,iv 0,iv 10,iv 0,iv 0]++(e.toList.drop 8).toArray:=by
   apply Qv5.1;have:e.toList.take 8=[iv 10,iv 0,iv 10,iv 10,iv 0,iv 10,iv 0,iv 0]:=E
   rw[Qp0, <-this,Qg8]
  generalize (e.toList.drop 8).toArray=Z at G;refine .lst g 0 4 A e _ (0,0) _ 2 (hX g I) z s (by omega) (λi k=>?_) (λi j k K=>?_)
  .have k:i<4:=k
   have:i=0\/i=1\/i=2\/i=3:=by omega
   rcases this with rfl|rfl|rfl|rfl<;>rfl
  .subst G
   have k:i<4:=k;have p:i=0\/i=1\/i=2\/i=3:=by omega
   have t:j=0\/j=1:=by omega
   rcases p with rfl|rfl|rfl|rfl<;>rcases t with rfl|rfl<;>(simp[Array.getD];rw[Qa2 (by omega)];exact .int _ _)
theorem Q8b{W:World}{X:Nat->Prop}{u:Value}(h:DRep W X u (DL DJ)):∃b off cp,u=.slice (some ⟨b,off,none⟩) 4 cp:=by
 unfold DL at h;have:DJ.length=4:=rfl
 rw[this]at h
 cases h with|lst b off n cap c e fz f es h1 h2 h3 h4 h5 h6=>exact⟨_,_,_,rfl⟩
structure Rr (X:Nat->Prop) (w2 W:World) (m:Nat) (es:Array MapEntry) (gr:Nat) (Z:Array Value) (b off cp:Nat):Prop where
 mp:W.heap[m]?=some (.map es 4)
 rw:W.heap[gr]?=some (.cells (#[.slice (some ⟨b,off,none⟩) 4 cp]++Z) 128 (0,0))
 du:DRep W X (.slice (some ⟨b,off,none⟩) 4 cp) (DL DJ)
 st:Stp U8 w2 W
theorem Rr.mono{X:Nat->Prop}{w2 W W' : World}{m:Nat}{es:Array MapEntry}{gr:Nat}{Z:Array Value}{b off cp:Nat}(R:Rr X w2 W m es gr Z b off cp)(st:Stp U8 W W'):Rr X w2 W' m es gr Z b off cp:=
 ⟨(st.block _ (J2 R.mp) λh=>h).trans R.mp,(st.block _ (J2 R.rw) λh=>h).trans R.rw,RW R.du st,K4 R.st st⟩
theorem Rr.res{X:Nat->Prop}{w2 W:World}{m:Nat}{es:Array MapEntry}{gr:Nat}{Z:Array Value}{b off cp c:Nat}(R:Rr X w2 W m es gr Z b off cp)(hX:¬X gr)(h1:1<=c):DRep W X (sv gr 1 c) (DL (α:=List Ab.Point) [DJ]):=by
 refine .lst gr 0 1 c _ _ (0,0) _ 1 hX R.rw h1 (by simp) (λi g=>?_) (λi j g h=>?_)
 .have g:i<1:=g
  obtain rfl:i=0:=by omega
  rfl
 .have g:i<1:=g
  obtain rfl:i=0:=by omega
  obtain rfl:j=0:=by omega
  have e:(#[Value.slice (some ⟨b,off,none⟩) 4 cp]++Z).getD (0+(0*1+0)) undef=.slice (some ⟨b,off,none⟩) 4 cp:=by simp[Array.getD]
  rw[e];exact R.du
theorem Z0A:∃i z,Tryz.prog.info? 128=some i/\i.zero=some z/\i.size=1/\i.bytes<=1000/\z.cells.size=1:=by
 have h:((Tryz.prog.info? 128).map λi=>(i.size,decide (i.bytes<=1000),i.zero.map λz=>z.cells.size))=some (1,true,some 1):=by kernel_rfl
 cases hi:Tryz.prog.info? 128 with
 |none=>rw[hi]at h;cases h
 |some i=>
  rw[hi]at h;simp only[Qj0,Qj8,Prod.mk.injEq,Qb5]at h
  cases hz:i.zero with
  |none=>rw[hz]at h;cases h.2.2
  |some z=>
   rw[hz]at h;simp only[Qj0,Qj8]at h
   exact⟨i,z,rfl,hz,h.1,h.2.1,h.2.2⟩
theorem Z0y:Tryz.prog.underlying 120=some (.slice 128):=by kernel_rfl
end Go.Proofs
end
section
namespace Go.Proofs
open Go.Shelf Go.RowKit Go.Lib Go.Ab
set_option maxHeartbeats 8000000
set_option maxRecDepth 100000
theorem Z5f(W:World)(T:Nat)(p:Value):∀j u,[p][j]?=some u->(W.alloc (.cells #[p] T)).cell? ((⟨W.heap.size,0,none⟩:Addr).add j)=some u:=by
 intro j u e
 match j,e with
 |0,e=>
  simp at e
  subst e;simp[Addr.add]
def VO{α:Type}(a b c d:α):Nat->α
 |0=>a
 |1=>b
 |2=>c
 |_=>d
theorem Z0D{α:Type}{a b c d:α}{P:α->Prop}(h0:P a)(h1:P b)(h2:P c)(h3:P d):∀i,P (VO a b c d i)
 |0=>h0
 |1=>h1
 |2=>h2
 |_+3=>h3
theorem Q0t{α β:Type}{a b c d:α}{a' b' c' d' : β}{P:α->β->Prop}(h0:P a a')(h1:P b b')(h2:P c c')(h3:P d d'):∀i,P (VO a b c d i) (VO a' b' c' d' i)
 |0=>h0
 |1=>h1
 |2=>h2
 |_+3=>h3
theorem Z0C{a b c d:Nat}(h:(a<b/\a<c/\a<d)/\(b<c/\b<d)/\c<d):∀i j,i<4->j<4->VO a b c d i=VO a b c d j->i=j:=by
 intro i j p s e;have g:i=0\/i=1\/i=2\/i=3:=by omega
 have k:j=0\/j=1\/j=2\/j=3:=by omega
 rcases g with rfl|rfl|rfl|rfl<;>rcases k with rfl|rfl|rfl|rfl<;>first|rfl|(simp only[VO]at e;omega)
theorem Q8K{F:Nat}{w:World}{v:Value}(hv:DRep w U8 v (DL qd.t_))(hV:Ya F qd=some true)(hE:DN F qd=some eds):
  Calls Tryz.prog 50 #[.agg #[v]] w λe w'=>∃u,e=.returned (.tuple #[u,iv 0])/\DRep w' (λb=>b<w.heap.size) u (DL (α:=List Ab.Point) [[⟨0,0⟩,⟨10,0⟩,⟨10,10⟩,⟨0,10⟩]])/\Stp U8 w w':=by
 have g9:Stp U8 w (w.alloc (.cells #[v] 54)):=Stp.alloc U8 _ _;have c0:=World.alloc_heap_new w (.cells #[v] 54)
 have b6:=RW hv g9;have mk:=λW=>run_makeMap (P:=Tryz.prog) 177 W
 go_enter Tryz.func50,Tryz.ntmps50
 go_wp2_with (first
  |(go_at_call 39;refine(Q8I hV b6).mono ?_;rintro e w1 ⟨rfl,d9⟩;have c1:=Q9a ((d9.block _ (J2 c0) λh=>h).trans c0);have d2:=RW b6 d9)
  |(go_at_call 95;refine(Q8V hE d2).mono ?_;rintro e w2 ⟨u,rfl,hu,i2⟩;have hu:=hu;obtain⟨I,p,m6,Eu⟩:=Ed.of hu;obtain rfl:=Eu.eq))
 have R0:Rm w2 (w2.alloc (.map #[] 0)) w2.heap.size #[] 0 []:=⟨World.alloc_heap_new _ _,Stp.alloc U8 _ _,Qb4 _,by simp,by simp⟩;have j0:Stp U8 w w2:=K4 (K4 g9 d9) i2
 generalize (w2.alloc (.map #[] 0))=W0 at R0⊢;obtain⟨m,hm⟩:∃m,w2.heap.size=m:=⟨_,rfl⟩
 rw[hm]at R0⊢;have j2:=j0.size
 obtain⟨o1,ho1⟩:∃o1,w.heap.size=o1:=⟨_,rfl⟩;rw[ho1]
 rw[ho1]at j2
 clear mk g9 c0 b6 c1 d2 d9 i2 hu w1
 obtain⟨ei,ez,e3,d5,d4,d7,b0⟩:=Z4j;refine wp_loop_rounds 5 ?_
 rw[rounds_succ];have k:=Eu.stp R0.st
 have q0:W0.cell? ⟨I,p,none⟩=some (iv 0):=k.at_ 0 (by omega);have q1:W0.cell? ⟨I,p+1,none⟩=some (iv 0):=k.at_ 1 (by omega)
 have q2:W0.cell? ⟨I,p+2,none⟩=some (iv 10):=k.at_ 2 (by omega);have q3:W0.cell? ⟨I,p+3,none⟩=some (iv 0):=k.at_ 3 (by omega)
 obtain⟨Wm,a5,L,M,hY,O⟩:=Tm (.cells #[iv 0,iv 0,iv 10,iv 0] 181) (.cells #[iv 0,iv 0,iv 10,iv 0] 181) R0.mp (fk0)
 go_wp2_with (at_builtin;refine UQ (base:=Wm.heap.size) rfl _ _ 175 rfl rfl Fe e3 d5 d4 d7 b0 (by decide) rfl (World.ownsRow_nil _ _ _ _) rfl rfl (FA _ _ _ _ _ _ _ hY) (by simp[Value.oneCell']) (by omega) (Qb4 _) ?_;intro v0 W8 t s U V;obtain⟨g0,c0,f2,Z0,b6,Z,hh,R,Y,S,c4⟩:=RQ t;subst b6;have J:=Cu s L;obtain⟨W1,a1,a0,a4,H⟩:=Tn (i:=0) (born:=0) (sv g0 1 c0) 0 rfl J (by kernel_rfl))
 have E : W1.heap[m]?=some (.map #[ZN (sv g0 1 c0)] 1):=a0;have R1:=R0.next O M s V hh Z E H R Y S
 generalize W0.heap.size=o9
 clear R0 a5 L M hY O t s U J V a1 a0 E a4 H q0 q1 q2 q3 k Z hh R Y S W8 Wm W0
 rw[rounds_succ];have k:=Eu.stp R1.st
 have q0:W1.cell? ⟨I,p+4,none⟩=some (iv 0):=k.at_ 4 (by omega);have q1:W1.cell? ⟨I,p+5,none⟩=some (iv 10):=k.at_ 5 (by omega)
 have q2:W1.cell? ⟨I,p+6,none⟩=some (iv 0):=k.at_ 6 (by omega);have q3:W1.cell? ⟨I,p+7,none⟩=some (iv 0):=k.at_ 7 (by omega)
 obtain⟨Wm,a5,L,M,hY,O⟩:=Tm (.cells #[iv 0,iv 10,iv 0,iv 0] 181) (.cells #[iv 0,iv 10,iv 0,iv 0] 181) R1.mp (fk1 _)
 go_wp2_with (at_builtin;refine UQ (base:=Wm.heap.size) rfl _ _ 175 rfl rfl Fe e3 d5 d4 d7 b0 (by decide) rfl (World.ownsRow_nil _ _ _ _) rfl rfl (FA _ _ _ _ _ _ _ hY) (by simp[Value.oneCell']) (by omega) (Qb4 _) ?_;intro v1 W8 t s U V;obtain⟨g1,c1,e4,Z1,d2,Z,hh,R,Y,S,f5⟩:=RQ t;subst d2;have J:=Cu s L;obtain⟨W2,a1,a0,a4,H⟩:=Tn (i:=1) (born:=1) (sv g1 1 c1) 1 rfl J (by kernel_rfl))
 have E : W2.heap[m]?=some (.map #[ZN (sv g0 1 c0),Yd (sv g1 1 c1)] 2):=a0;have R2:=R1.next O M s V hh Z E H R Y S
 generalize W1.heap.size=o9
 clear R1 a5 L M hY O t s U J V a1 a0 E a4 H q0 q1 q2 q3 k Z hh R Y S W8 Wm W1
 rw[rounds_succ];have k:=Eu.stp R2.st
 have q0:W2.cell? ⟨I,p+8,none⟩=some (iv 10):=k.at_ 8 (by omega);have q1:W2.cell? ⟨I,p+9,none⟩=some (iv 0):=k.at_ 9 (by omega)
 have q2:W2.cell? ⟨I,p+10,none⟩=some (iv 10):=k.at_ 10 (by omega);have q3:W2.cell? ⟨I,p+11,none⟩=some (iv 10):=k.at_ 11 (by omega)
 obtain⟨Wm,a5,L,M,hY,O⟩:=Tm (.cells #[iv 10,iv 0,iv 10,iv 10] 181) (.cells #[iv 10,iv 0,iv 10,iv 10] 181) R2.mp (fk2 _ _)
 go_wp2_with (at_builtin;refine UQ (base:=Wm.heap.size) rfl _ _ 175 rfl rfl Fe e3 d5 d4 d7 b0 (by decide) rfl (World.ownsRow_nil _ _ _ _) rfl rfl (FA _ _ _ _ _ _ _ hY) (by simp[Value.oneCell']) (by omega) (Qb4 _) ?_;intro v2 W8 t s U V;obtain⟨g2,c2,e8,Z2,l4,Z,hh,R,Y,S,f4⟩:=RQ t;subst l4;have J:=Cu s L;obtain⟨W3,a1,a0,a4,H⟩:=Tn (i:=2) (born:=2) (sv g2 1 c2) 2 rfl J (by kernel_rfl))
 have E : W3.heap[m]?=some (.map #[ZN (sv g0 1 c0),Yd (sv g1 1 c1),Yt (sv g2 1 c2)] 3):=a0;have R3:=R2.next O M s V hh Z E H R Y S
 generalize W2.heap.size=o9
 clear R2 a5 L M hY O t s U J V a1 a0 E a4 H q0 q1 q2 q3 k Z hh R Y S W8 Wm W2
 rw[rounds_succ];have k:=Eu.stp R3.st
 have q0:W3.cell? ⟨I,p+12,none⟩=some (iv 10):=k.at_ 12 (by omega);have q1:W3.cell? ⟨I,p+13,none⟩=some (iv 10):=k.at_ 13 (by omega)
 have q2:W3.cell? ⟨I,p+14,none⟩=some (iv 0):=k.at_ 14 (by omega);have q3:W3.cell? ⟨I,p+15,none⟩=some (iv 10):=k.at_ 15 (by omega)
 obtain⟨Wm,a5,L,M,hY,O⟩:=Tm (.cells #[iv 10,iv 10,iv 0,iv 10] 181) (.cells #[iv 10,iv 10,iv 0,iv 10] 181) R3.mp (fk3 _ _ _)
 go_wp2_with (at_builtin;refine UQ (base:=Wm.heap.size) rfl _ _ 175 rfl rfl Fe e3 d5 d4 d7 b0 (by decide) rfl (World.ownsRow_nil _ _ _ _) rfl rfl (FA _ _ _ _ _ _ _ hY) (by simp[Value.oneCell']) (by omega) (Qb4 _) ?_;intro v3 W8 t s U V;obtain⟨g3,c3,e7,Z3,l2,Z,hh,R,Y,S,e5⟩:=RQ t;subst l2;have J:=Cu s L;obtain⟨W4,a1,a0,a4,H⟩:=Tn (i:=3) (born:=3) (sv g3 1 c3) 3 rfl J (by kernel_rfl))
 have E : W4.heap[m]?=some (.map #[ZN (sv g0 1 c0),Yd (sv g1 1 c1),Yt (sv g2 1 c2),YO (sv g3 1 c3)] 4):=a0;have R4:=R3.next O M s V hh Z E H R Y S
 generalize W3.heap.size=o9
 clear R3 a5 L M hY O t s U J V a1 a0 E a4 H q0 q1 q2 q3 k Z hh R Y S W8 Wm W3
 rw[rounds_succ]
 go_wp2
 have L0:=R4.li (g0,c0,f2) (by simp);have L1:=R4.li (g1,c1,e4) (by simp)
 have L2:=R4.li (g2,c2,e8) (by simp);have L3:=R4.li (g3,c3,e7) (by simp)
 have up:=R4.up;simp only[Qm9,Ql3,Qd2,Qf0,Qe7,or_false,forall_eq_or_imp,forall_eq,List.Pairwise.nil,and_true]at up
 simp only at L0 L1 L2 L3;refine wp_loop_rounds 5 ?_
 rw[rounds_succ];have k:=Eu.stp R4.st
 have q0:W4.cell? ⟨I,p,none⟩=some (iv 0):=k.at_ 0 (by omega);have q1:W4.cell? ⟨I,p+1,none⟩=some (iv 0):=k.at_ 1 (by omega)
 have q2:W4.cell? ⟨I,p+2,none⟩=some (iv 10):=k.at_ 2 (by omega);have q3:W4.cell? ⟨I,p+3,none⟩=some (iv 0):=k.at_ 3 (by omega)
 have z:Stp U8 W4 (W4.alloc (.cells #[iv 0,iv 0,iv 10,iv 0] 181)).drew:=K4 (Stp.alloc U8 _ _) (UU _);have a2:∀j o,W4.heap[j]?=some o->(W4.alloc (.cells #[iv 0,iv 0,iv 10,iv 0] 181)).drew.heap[j]?=some o:=λj o h=>(z.block j (J2 h) λh=>h).trans h
 have lk:=JP (a2 _ _ R4.mp) (vo _ _ _ _);have g7:=a2 _ _ L0.1
 rw[c4]at g7;have e9:(W4.alloc (.cells #[iv 0,iv 0,iv 10,iv 0] 181)).drew.heap[W4.heap.size]?=some (.cells #[iv 0,iv 0,iv 10,iv 0] 181):=World.alloc_heap_new _ _
 obtain⟨⟨p0,p1,p2,p3⟩, -⟩:=Ql e9
 go_wp2
 apply Qm7 (Q:=(λ(A:Act) e a' W2=>match e with|.normal=>a'=A/\Stp U8 (W4.alloc (.cells #[iv 0,iv 0,iv 10,iv 0] 181)).drew W2|_=>False) _)
 case h=>
  have f8:Tryz.prog.follows .mixedOrders=true:=by kernel_rfl
  go_region_with_o (go_at_call 96;refine(Q8X _ _ _ _ _ _ _ _ (by exact g7)).mono ?_;rintro e W' ⟨rfl,st⟩)
  all_goals exact⟨rfl,st⟩
 intro e a' W6 h;have hn:e=.normal:=by cases e<;>first|rfl|exact(h:False).elim
 subst hn;obtain⟨rfl,G⟩:=h
 have K:∀j o,W4.heap[j]?=some o->W6.heap[j]?=some o:=λj o h=>(G.block j (J2 (a2 j o h)) λh=>h).trans (a2 j o h)
 have i5:=(G.block _ (J2 e9) λh=>h).trans e9;obtain⟨⟨k6,k7,l0,k5⟩, -⟩:=Ql i5
 have f9:∀i,m<(VO g0 g1 g2 g3) i:=Z0D L0.2.1 L1.2.1 L2.2.1 L3.2.1;have ms:=R4.ms
 obtain⟨pi,pz,l6,k8,l3,l5,i8⟩:=Z0A;have hz:∀b,(b=m\/∃i,b=(VO g0 g1 g2 g3) i)->w2.heap.size<=b:=by
  rintro b (rfl|⟨i,rfl⟩)
  .exact ms
  .exact Qc4 ms (Nat.le_of_lt (f9 i))
 have g8:o1<=W6.heap.size:=Qc4 j2 (Qc4 R4.st.size (Qc4 z.size G.size));have fo:=Q8T (gs:=(VO g0 g1 g2 g3)) (cs:=(VO c0 c1 c2 c3)) (row:=(VO f2 e4 e8 e7)) (K _ _ R4.mp) (Q0t (P:=λg f7=>W6.heap[g]?=some (.cells f7 181 (0,0))) (K _ _ L0.1) (K _ _ L1.1) (K _ _ L2.1) (K _ _ L3.1)) ⟨Z0,c4⟩ ⟨Z1,f5⟩ ⟨Z2,f4⟩ ⟨Z3,e5⟩ (Q0t (P:=λc (f7:Array Value)=>f7.size=c*4/\1<=c/\c<=maxLen) L0.2.2 L1.2.2 L2.2.2 L3.2.2) (Z0C ⟨up.1,up.2.1,up.2.2.1⟩) (λi=>Nat.ne_of_lt (f9 i))
 simp only[Exit.then]
 go_wp2_with (first
  |(go_at_call 98;refine fo.mono ?_;rintro e W7 ⟨vf,rfl,t,h2,g6⟩;have f1 : Stp (λb=>w2.heap.size<=b) W6 W7:=g6.mono λb _ h=>hz b h;have h3:=Qc4 g8 g6.size)
  |(go_at_call 97;refine(Q9b (F:=100) (r:=DJ) (by kernel_rfl) (X:=λb=>b<o1) (λb hb=>Qb6 hb h3) (Z0J (λg hg hb=>Qu3.2 (Qc4 g8 hg) hb) t)).mono ?_;rintro e W8 ⟨u,rfl,du,e0⟩;obtain⟨b,i6,cp,rfl⟩:=Q8b du)
  |(at_builtin;refine UQ (base:=W8.heap.size) rfl _ _ 120 rfl rfl Z0y l6 k8 l3 l5 i8 (by decide) rfl (World.ownsRow_nil _ _ _ _) rfl rfl (Z5f _ _ _) (by simp[Value.oneCell']) (by omega) (by simp) ?_;intro v9 W9 b8 b2 h0 e6;obtain⟨gr,cr,Zr,rfl,j3,i4,k9⟩:=Q8C b8))
 have H:=K4 (Stp.alloc U8 _ _) (Z2V b2 e6);have J:=(e0.block _ (J2 h2) λh=>h).trans h2
 have l1:¬gr<o1:=Qu3.2 (Qc4 h3 (Qc4 e0.size j3));have r1:Rr (λb=>b<o1) w2 W9 m #[ZN (sv g0 0 c0),Yd (sv g1 0 c1),Yt (sv g2 0 c2),YO (sv g3 0 c3)] gr Zr b i6 cp:=⟨(H.block _ (J2 J) λh=>h).trans J,i4,RW du H,K4 (K4 (((K4 R4.st (K4 z G))).trans (f1.mono λb _ h=>.inr h)) e0) H⟩
 generalize W9=V1 at r1 i4⊢;generalize W8.heap.size=o8
 generalize W4.heap.size=o4;have m7:=R4.st
 clear hz g8 h3 H J fo e0 du f1 g6 t h2 b2 e6 h0 b8 j3 a2 K i5 k6 k7 l0 k5 f9 G p0 p1 p2 p3 e9 g7 lk z q0 q1 q2 q3 k up L0 L1 L2 L3 R4 c4 f5 f4 e5
 rw[rounds_succ];have k:=Eu.stp r1.st
 have q0:V1.cell? ⟨I,p+4,none⟩=some (iv 0):=k.at_ 4 (by omega);have q1:V1.cell? ⟨I,p+5,none⟩=some (iv 10):=k.at_ 5 (by omega)
 have q2:V1.cell? ⟨I,p+6,none⟩=some (iv 0):=k.at_ 6 (by omega);have q3:V1.cell? ⟨I,p+7,none⟩=some (iv 0):=k.at_ 7 (by omega)
 have z:Stp U8 V1 (V1.alloc (.cells #[iv 0,iv 10,iv 0,iv 0] 181)).drew:=K4 (Stp.alloc U8 _ _) (UU _);have lk:=JP ((z.block _ (J2 r1.mp) λh=>h).trans r1.mp) (vn _ _ _ _)
 have e9:(V1.alloc (.cells #[iv 0,iv 10,iv 0,iv 0] 181)).drew.heap[V1.heap.size]?=some (.cells #[iv 0,iv 10,iv 0,iv 0] 181):=World.alloc_heap_new _ _;obtain⟨⟨p0,p1,p2,p3⟩, -⟩:=Ql e9
 go_wp2
 apply Qm7 (Q:=(λ(A:Act) e a' W2=>match e with|.normal=>a'=A/\Stp U8 (V1.alloc (.cells #[iv 0,iv 10,iv 0,iv 0] 181)).drew W2|_=>False) _)
 case h=>
  have f8:Tryz.prog.follows .mixedOrders=true:=by kernel_rfl
  go_region_with_o (go_at_call 96;refine(qJ _ _ _ _ _ _ _).mono ?_;rintro e W' ⟨rfl,st⟩)
  all_goals exact⟨rfl,st⟩
 intro e a' V2 h;have hn:e=.normal:=by cases e<;>first|rfl|exact(h:False).elim
 subst hn;obtain⟨rfl,G⟩:=h
 simp only[Exit.then]
 go_wp2
 have r2:=r1.mono (K4 z G);generalize V1.heap.size=sz1
 clear G p0 p1 p2 p3 e9 lk z q0 q1 q2 q3 k r1
 rw[rounds_succ];have k:=Eu.stp r2.st
 have q0:V2.cell? ⟨I,p+8,none⟩=some (iv 10):=k.at_ 8 (by omega);have q1:V2.cell? ⟨I,p+9,none⟩=some (iv 0):=k.at_ 9 (by omega)
 have q2:V2.cell? ⟨I,p+10,none⟩=some (iv 10):=k.at_ 10 (by omega);have q3:V2.cell? ⟨I,p+11,none⟩=some (iv 10):=k.at_ 11 (by omega)
 have z:Stp U8 V2 (V2.alloc (.cells #[iv 10,iv 0,iv 10,iv 10] 181)).drew:=K4 (Stp.alloc U8 _ _) (UU _);have lk:=JP ((z.block _ (J2 r2.mp) λh=>h).trans r2.mp) (vm _ _ _ _)
 have e9:(V2.alloc (.cells #[iv 10,iv 0,iv 10,iv 10] 181)).drew.heap[V2.heap.size]?=some (.cells #[iv 10,iv 0,iv 10,iv 10] 181):=World.alloc_heap_new _ _;obtain⟨⟨p0,p1,p2,p3⟩, -⟩:=Ql e9
 go_wp2
 apply Qm7 (Q:=(λ(A:Act) e a' W2=>match e with|.normal=>a'=A/\Stp U8 (V2.alloc (.cells #[iv 10,iv 0,iv 10,iv 10] 181)).drew W2|_=>False) _)
 case h=>
  have f8:Tryz.prog.follows .mixedOrders=true:=by kernel_rfl
  go_region_with_o (go_at_call 96;refine(qJ _ _ _ _ _ _ _).mono ?_;rintro e W' ⟨rfl,st⟩)
  all_goals exact⟨rfl,st⟩
 intro e a' V3 h;have hn:e=.normal:=by cases e<;>first|rfl|exact(h:False).elim
 subst hn;obtain⟨rfl,G⟩:=h
 simp only[Exit.then]
 go_wp2
 have r3:=r2.mono (K4 z G);generalize V2.heap.size=sz2
 clear G p0 p1 p2 p3 e9 lk z q0 q1 q2 q3 k r2
 rw[rounds_succ];have k:=Eu.stp r3.st
 have q0:V3.cell? ⟨I,p+12,none⟩=some (iv 10):=k.at_ 12 (by omega);have q1:V3.cell? ⟨I,p+13,none⟩=some (iv 10):=k.at_ 13 (by omega)
 have q2:V3.cell? ⟨I,p+14,none⟩=some (iv 0):=k.at_ 14 (by omega);have q3:V3.cell? ⟨I,p+15,none⟩=some (iv 10):=k.at_ 15 (by omega)
 have z:Stp U8 V3 (V3.alloc (.cells #[iv 10,iv 10,iv 0,iv 10] 181)).drew:=K4 (Stp.alloc U8 _ _) (UU _);have lk:=JP ((z.block _ (J2 r3.mp) λh=>h).trans r3.mp) (vk _ _ _ _)
 have e9:(V3.alloc (.cells #[iv 10,iv 10,iv 0,iv 10] 181)).drew.heap[V3.heap.size]?=some (.cells #[iv 10,iv 10,iv 0,iv 10] 181):=World.alloc_heap_new _ _;obtain⟨⟨p0,p1,p2,p3⟩, -⟩:=Ql e9
 go_wp2
 apply Qm7 (Q:=(λ(A:Act) e a' W2=>match e with|.normal=>a'=A/\Stp U8 (V3.alloc (.cells #[iv 10,iv 10,iv 0,iv 10] 181)).drew W2|_=>False) _)
 case h=>
  have f8:Tryz.prog.follows .mixedOrders=true:=by kernel_rfl
  go_region_with_o (go_at_call 96;refine(qJ _ _ _ _ _ _ _).mono ?_;rintro e W' ⟨rfl,st⟩)
  all_goals exact⟨rfl,st⟩
 intro e a' V4 h;have hn:e=.normal:=by cases e<;>first|rfl|exact(h:False).elim
 subst hn;obtain⟨rfl,G⟩:=h
 simp only[Exit.then]
 go_wp2
 have r4:=r3.mono (K4 z G);generalize V3.heap.size=sz3
 clear G p0 p1 p2 p3 e9 lk z q0 q1 q2 q3 k r3
 rw[rounds_succ]
 go_wp2_with (first
  |(go_at_call 99;refine(Q8Z (by exact r4.rw)).mono ?_;rintro e V5 ⟨rfl,z⟩)
  |(go_at_call 101;refine(Q8J _).mono ?_;rintro e V6 ⟨⟨vs,rfl⟩,G⟩))
 go_ret2
 have r5:=(r4.mono z).mono G;subst ho1
 exact⟨_,rfl,r5.res l1 k9,K4 j0 r5.st⟩
end Go.Proofs
end
section
namespace Go.Ab
open Go.Proofs Go.Shelf Go.RowKit Go.Lib
set_option maxHeartbeats 2000000
set_option maxRecDepth 100000
theorem xQ{vs:Array Value}(h:vs.size=1):vs=#[vs.getD 0 undef]:=by
 apply Qt4
 .rw [h];rfl
 .intro i g e
  obtain rfl:i=0:=by omega
  simp[Array.getD,h]
theorem Q3J{w:Go.World}{X:Nat->Prop}{η:Nat->Value}{r:AVal}{v:Value}{w' : Go.World}(st:Stp U8 w w')(hr:ARep w' X η (Qd [] w X η) v r):Behind (Qd [] w X η) r [] v η w' :=
 ⟨st.mono λb _ h=>h.elim,(by rw[qH];exact hr),λi o h=>(by cases h),λi j b h=>absurd rfl h,λi o b h=>(by cases h),λi v h=>(by simp[Qd]at h)⟩
theorem Z0Y{F:Nat}{a:Re_}{r:(List (List Point))×Int}(h:DO F a=some r):G3 Tryz.prog 50 [.v (.g [.d (DL a.t_)])] [] (.t [.c (.d (DL r.1)),.c (ci r.2)]) []:=by
 unfold DO at h;split at h
 .rename_i J
  subst J;cases h
  intro w X η vs M _ _ _ k i;have z:=i 0 (by simp)
  have p:=xQ k;generalize vs.getD 0 undef=x at z p
  subst p
  cases z with|v _ _ h=>cases h with|g us _ h=>
   have E:=xQ h.1;have A:=h.2 0 (by simp)
   generalize us.getD 0 undef=y at A E;subst E
   cases A with|d _ _ h=>
    refine(Q8K (h.mono λb _ s=>⟨rfl,λh=>h⟩) (Q5X (Qb4 Q6)) (Q6b (Qb4 Q6))).mono λe O H=>?_
    obtain⟨u,K,I,L⟩:=H;refine⟨_,η,K,Q3J L (.t _ _ rfl λj G=>?_)⟩
    have G:j<2:=G;have:j=0\/j=1:=by omega
    rcases this with rfl|rfl
    .exact .c _ _ (.d _ _ (I.mono λb _ s=>⟨rfl,λh=>s (M b h)⟩))
    .exact .c _ _ (.d _ _ (.int _ _))
 .cases h
theorem Q4U{F:Nat}{s:ByteArray}{r:(List (List ByteArray))×Int}(h:Bj F s=some r):G3 Tryz.prog 51 [.v (.c (.d (.str s)))] [] (.t [.c (.d (DL r.1)),.c (ci r.2)]) []:=by
 unfold Bj at h;split at h
 .rename_i Q
  subst Q;cases h
  intro w X η vs H _ _ _ A p;have G:=p 0 (by simp)
  have E:=xQ A;generalize vs.getD 0 undef=x at G E
  subst E
  cases G with|v _ _ h=>cases h with|c _ _ h=>cases h with|d _ _ h=>cases h with|str _=>
   refine(callsIn_wide.1 (Q6j w)).mono λe S J=>?_
   obtain⟨g,b,c,Z,K,L,I,U,V,M,P,R,O⟩:=J;refine⟨_,η,M,Q3J O (.t _ _ rfl λj z=>?_)⟩
   have z:j<2:=z;have:j=0\/j=1:=by omega
   rcases this with rfl|rfl
   .refine .c _ _ (.d _ _ (.lst g 0 1 c _ _ (0,0) _ 1 (λh=>Qu3.2 K (H g h)) P I (by simp) (λi k=>?_) λi j k z=>?_))
    .have k:i<1:=k
     obtain rfl:i=0:=by omega
     rfl
    .have k:i<1:=k
     obtain rfl:i=0:=by omega
     obtain rfl:j=0:=by omega
     have e:(#[Value.slice (some ⟨b,0,none⟩) 2 2]++Z).getD (0+(0*1+0)) undef=.slice (some ⟨b,0,none⟩) 2 2:=by simp[Array.getD]
     rw[e];refine .lst b 0 2 2 _ _ (0,0) _ 1 (λh=>Qu3.2 L (H b h)) R (Qb4 _) (by simp) (λi k=>?_) λi j k z=>?_
     .have k:i<2:=k
      have:i=0\/i=1:=by omega
      rcases this with rfl|rfl<;>rfl
     .have k:i<2:=k
      obtain rfl:j=0:=by omega
      have:i=0\/i=1:=by omega
      rcases this with rfl|rfl
      .exact .str _
      .exact .str _
   .exact .c _ _ (.d _ _ (.int _ _))
 .cases h
end Go.Ab
end
