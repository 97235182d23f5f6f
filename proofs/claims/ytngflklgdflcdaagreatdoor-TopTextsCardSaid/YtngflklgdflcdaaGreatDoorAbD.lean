/- Abstract states over the model. -/
import Derived.Test.YtngflklgdflcdaaGreatDoorAbC
set_option maxRecDepth 20000
set_option linter.all false
noncomputable section
namespace Go.Ab
variable {s:ByteArray}{n:Int}{L:List (List UInt8×ε)}{a b r:ε}{x:List UInt8×ε}{F d:Nat}
theorem Ar{k:UInt8}:∀{a b r s:List UInt8},a++k::r=b++k::s->k∉a->k∉b->a=b/\r=s
 |[],[],_,_,h,_,_=>⟨rfl,(lg h).2⟩
 |[],y::b,_,_,h,_,hb=>absurd (by rw[(lg h).1];exact dZ) hb
 |x::a,[],_,_,h,ha,_=>absurd (by rw[<-(lg h).1];exact dZ) ha
 |x::a,y::b,_,_,h,ha,hb=>by
  obtain⟨d,c⟩:=lg h;obtain⟨f,e⟩:=Ar c (λh=>ha (eB _ h)) λh=>hb (eB _ h)
  exact⟨by rw[d,f],e⟩
theorem bc{k:UInt8}:∀{a b p q:List UInt8},a++p=b++q->(p=[]\/∃t,p=k::t)->(q=[]\/∃t,q=k::t)->k∉a->k∉b->a=b/\p=q
 |[],[],_,_,h,_,_,_,_=>⟨rfl,h⟩
 |[],y::b,_,_,h,hp,_,_,hb=>by
  rcases hp with rfl|⟨t,rfl⟩
  .cases h
  .exact absurd (by rw[(lg h).1];exact dZ) hb
 |x::a,[],_,_,h,_,hq,ha,_=>by
  rcases hq with rfl|⟨t,rfl⟩
  .cases h
  .exact absurd (by rw[<-(lg h).1];exact dZ) ha
 |x::a,y::b,_,_,h,hp,hq,ha,hb=>by
  obtain⟨d,c⟩:=lg h;obtain⟨f,e⟩:=bc c hp hq (λh=>ha (eB _ h)) λh=>hb (eB _ h)
  exact⟨by rw[d,f],e⟩
theorem Qw.no(h:Qw s):(32:UInt8)∉tl s:=λa=>by
 have:=(h.2 _ a).1
 exact absurd this (by decide)
theorem bf(ws:ε):Zi ws=[]\/∃t,Zi ws=32::t:=by cases ws with|nil=>exact .inl rfl|cons x r=>exact .inr ⟨_,rfl⟩
theorem be:∀{a b:ε},(∀s∈a,Qw s)->(∀s∈b,Qw s)->Zi a=Zi b->a=b
 |[],[],_,_,_=>rfl
 |[],_::_,_,_,h=>by cases h
 |_::_,[],_,_,h=>by cases h
 |x::a,y::b,ha,hb,h=>by
  obtain⟨e,d⟩:=bc (lg h).2 (bf a) (bf b) (ha x dZ).no (hb y dZ).no;rw[XZ e,be (λs c=>ha s (eB _ c)) (λs c=>hb s (eB _ c)) d]
theorem Q9j(ha:∀s∈a,Qw s)(hb:∀s∈b,Qw s)(na:a≠[])(nb:b≠[])(h:Qy a=Qy b):a=b:=by
 cases a with
 |nil=>exact absurd rfl na
 |cons x a=>
  cases b with
  |nil=>exact absurd rfl nb
  |cons y b=>exact be (a:=x::a) (b:=y::b) ha hb (congrArg (List.cons 32) h)
theorem bg:∀{ws:ε},(∀s∈ws,Qw s)->∀c∈Zi ws,32<=c.toNat/\c.toNat<=126
 |[],_,c,h=>by cases h
 |x::r,hw,c,h=>by
  rcases dY.1 h with rfl|h
  .exact ⟨by decide,by decide⟩
  .rcases dv.1 h with h|h
   .have:=(hw x dZ).2 c h;omega
   .exact bg (λs a=>hw s (eB _ a)) c h
theorem Q9k{ws:ε}(hw:∀s∈ws,Qw s):∀c∈Qy ws,32<=c.toNat/\c.toNat<=126:=λc h=>by
 cases ws with
 |nil=>cases h
 |cons x r=>exact bg hw c (eB _ h)
theorem Yo.all(h:Yo x):∀c∈x.1,32<=c.toNat/\c.toNat<=126:=by
 rcases h with ⟨_,_,h⟩|⟨_,h,e⟩
 .exact h
 .rw [e];exact Q9k h
theorem Yo.no(h:Yo x):(10:UInt8)∉x.1:=λa=>absurd (h.all _ a).1 (by decide)
theorem Yo.uniq{r:List UInt8}(h:Yo (r,a))(k:Yo (r,b)):a=b:=by
 have d:∀{a:ε} {t:List UInt8},a≠[]->(∀s∈a,Qw s)->35::t=Qy a->False:=λ{a t} na ha e=>by
  cases a with
  |nil=>exact na rfl
  |cons x a=>
   have h:=ha x dZ
   cases hx:tl x with
   |nil=>exact h.1 hx
   |cons c l=>
    have e:35::t=tl x++Zi a:=e;rw[hx]at e
    exact(h.2 c (by rw[hx];exact dZ)).2.2 (lg e).1.symm
 rcases h with ⟨⟨t,h1⟩,h2,_⟩|⟨h1,h2,h3⟩<;>rcases k with ⟨⟨u,k1⟩,k2,_⟩|⟨k1,k2,f⟩
 .exact h2.trans k2.symm
 .exact (d k1 k2 (h1.symm.trans f)).elim
 .exact (d h1 h2 (k1.symm.trans h3)).elim
 .exact Q9j h2 k2 h1 k1 (h3.symm.trans f)
theorem jF:∀{L M:List (List UInt8×ε)},(∀x∈L,Yo x)->(∀x∈M,Yo x)->J5 L=J5 M->L=M
 |[],[],_,_,_=>rfl
 |[],y::M,_,_,h=>by
  have:=congrArg List.length h
  simp[J5]at this
 |x::L,[],_,_,h=>by
  have:=congrArg List.length h
  simp[J5]at this
 |x::L,y::M,hL,hM,h=>by
  have h:x.1++10::J5 L=y.1++10::J5 M:=by simpa[J5]using h
  obtain⟨b,c⟩:=Ar h (hL x dZ).no (hM y dZ).no;have d:x=y:=Prod.ext b (Yo.uniq (r:=x.1) (hL x dZ) (by rw[b];exact hM y dZ))
  rw[d,jF (λs a=>hL s (eB _ a)) (λs a=>hM s (eB _ a)) c]
theorem qL(h:fX L):Vf F (bs (J5 L))=some (L.map (·.2),0):=by
 have a:∃M,fX M/\bs (J5 L)=bs (J5 M):=⟨L,h,rfl⟩;unfold Vf
 rw[lf a];have b:=a.choose_spec
 have e:a.choose=L:=jF b.1.one h.one (by have:=congrArg tl b.2;simpa only[QR]using this.symm);rw[e]
theorem qS(L:List ε):Yi L=J5 (L.map λws=>(Qy ws,ws)):=by
 unfold Yi J5;rw[List.flatMap_map]
theorem D2:∀(a b:List UInt8) (k:Nat),Lib.decFrom k (a++b)=(Lib.decFrom k a).bind λm=>Lib.decFrom m b
 |[],b,k=>rfl
 |c::a,b,k=>by
  simp only[iC,Lib.decFrom]
  cases Lib.digitVal c with
  |none=>rfl
  |some d=>exact D2 a b _
theorem A2(h:d<10):Lib.digitVal (UInt8.ofNat (48+d))=some d:=by
 obtain⟨i,rfl⟩:∃i:_root_.Fin 10,d=i.val:=⟨⟨d,h⟩,rfl⟩
 revert i
 decide
theorem B7(u:Nat):Lib.decFrom 0 (Lib.decDigits u)=some u/\Lib.decDigits u≠[]/\∀c∈Lib.decDigits u,48<=c.toNat/\c.toNat<=57:=by
 have b:∀{d:Nat},d<10->48<=(UInt8.ofNat (48+d)).toNat/\(UInt8.ofNat (48+d)).toNat<=57:=λ{d} h=>by
  rw[UInt8.toNat_ofNat'];omega
 induction u using Nat.strongRecOn with
 |_ u ih=>
  rw[Lib.decDigits];split
  .rename_i h
   refine⟨?_,by simp,λc a=>?_⟩
   .simp only[Lib.decFrom,A2 h];simp
   .rw [dI.1 a];exact b h
  .rename_i h
   obtain⟨e,g,f⟩:=ih (u / 10) (by omega);refine⟨?_,by simp,λc a=>?_⟩
   .rw [D2,e]
    simp only[m5,Lib.decFrom,A2 (show u % 10<10 by omega)];congr 1;omega
   .rcases dv.1 a with a|a
    .exact f c a
    .rw [dI.1 a];exact b (by omega)
theorem Z8h(h:0<=n):Lib.atoi (Lib.itoa n)=some n:=by
 obtain⟨u,rfl⟩:∃u:Nat,n=u:=⟨n.toNat,by omega⟩;obtain⟨b,f,g⟩:=B7 u
 have e:Lib.itoa (u:Int)=Lib.decDigits u:=by unfold Lib.itoa;rw[an (by omega)];rfl
 rw[e]
 cases hd:Lib.decDigits u with
 |nil=>exact absurd hd f
 |cons c l=>
  have a:=g c (by rw[hd];exact dZ);rw[hd]at b
  have d:c≠45:=λe=>by subst e;exact absurd a.1 (by decide)
  have n2:c≠43:=λe=>by subst e;exact absurd a.1 (by decide)
  simp only[Lib.atoi];rw[an (by simpa using d),an (by simpa using n2)]
  unfold Lib.decNat;rw[an (by simp),b];rfl
theorem sU:∀(k u:Nat),u<10 ^ (k+1)->(Lib.decDigits u).length<=k+1
 |0,u,h=>by rw[Lib.decDigits,lf (by omega)];exact di _
 |k+1,u,h=>by
  rw[Lib.decDigits];split
  .exact oz (dW _)
  .have:=sU k (u / 10) (by rw[Nat.pow_succ]at h;omega)
   rw[dK];exact oz this
section
open Go.Lib
theorem FG{c:UInt8}{b:List UInt8}:∀{a:List UInt8},c∉a->Lib.indexByte (a++c::b) c=a.length
 |[],_=>by
  show(if c==c then 0 else _)=_;rw[av (by simp)];rfl
 |x::a,h=>by
  have f:¬(x==c)=true:=λe=>h (by rw[eY.1 e];exact dZ)
  have:=FG (b:=b) (a:=a) λd=>h (eB _ d)
  show(if x==c then 0 else if Lib.indexByte (a++c::b) c == -1 then -1 else Lib.indexByte (a++c::b) c+1)=_;rw[an f,this,an (by simp only[eY];omega)]
  rw[dz];omega
theorem Ao{c:UInt8}:∀{a:List UInt8},c∉a->Lib.indexByte a c=-1
 |[],_=>rfl
 |x::a,h=>by
  have d:¬(x==c)=true:=λe=>h (by rw[eY.1 e];exact dZ)
  have:=Ao (a:=a) λb=>h (eB _ b)
  show(if x==c then 0 else if Lib.indexByte a c == -1 then -1 else Lib.indexByte a c+1)=_;rw[an d,this];rfl
theorem za(s:ByteArray)(a:Nat):tl (s.extract 0 a)=(tl s).take a:=Lib.extract_from_zero s a
theorem jS(s:ByteArray)(a:Nat):tl (s.extract a s.size)=(tl s).drop a:=by
 unfold tl;rw[ByteArray.data_extract,Array.toList_extract,u7]
 apply lz;rw[lu,mn]
 exact di _
theorem cW:∀{r:ε} {x:ByteArray},(∀s∈x::r,Qw s)->Lib.splitB (bs [32]) 0 r.length (bs (tl x++Zi r))=x::r
 |[],x,_=>by
  rw[eg,Lib.splitB_zero];simp only[Zi,fW,MZ]
 |y::r,x,h=>by
  have d:Lib.indexB (bs (tl x++Zi (y::r))) (bs [32])=((tl x).length:Nat):=by
   show Lib.index (tl x++32::(tl y++Zi r)) [32]=_;rw[Lib.index_one];exact FG (h x dZ).no
  show Lib.splitB _ _ (r.length+1) _=_;rw[Lib.splitB_hit _ _ _ _ _ d,fU]
  have b:(bs (tl x++Zi (y::r))).extract 0 (tl x).length=x:=XZ (by rw[za,QR,oe]);have c:(bs (tl x++Zi (y::r))).extract ((tl x).length+(bs [32]).size) (bs (tl x++Zi (y::r))).size=bs (tl y++Zi r):=XZ (by
   rw[jS,QR,QR];show(tl x++32::(tl y++Zi r)).drop ((tl x).length+1)=_
   rw[<-List.drop_drop,List.drop_left];rfl)
  rw[b,c,cW λs a=>h s (eB _ a)]
theorem wI:∀{r:ε},(∀s∈r,Qw s)->(Zi r).count 32=r.length
 |[],_=>rfl
 |x::r,h=>by
  show(32::(tl x++Zi r)).count 32=_;rw[rS,nH,nr (h x dZ).no,wI λs a=>h s (eB _ a)]
  simp
theorem Nl{x:ByteArray}(h:∀s∈x::r,Qw s):Lib.countB (bs (tl x++Zi r)) (bs [32])=r.length:=by
 show Lib.count (tl x++Zi r) [32]=_;rw[Lib.count_one,nH,nr (h x dZ).no,wI λs a=>h s (eB _ a),eH]
@[reducible] def sh:dH:=.w (vb true)
@[reducible] def AI:dH:=.w (vb false)
def AS(l:List dH):List dH:=sh::sN 4 l
def AT(l:List dH):List dH:=AI::sN 4 l
def If(l:List dH):List dH:=sh::sN 3 l
def In(l:List dH):List dH:=AI::sN 3 l
theorem IN{a b:Prop}(x:a)(h:a=b:=by kernel_rfl):b:=h▸x
