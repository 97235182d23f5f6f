/- Abstract states over the model. -/
import Derived.KernelRfl
import Derived.Test.YtngflklgdflcdaaGreatDoorAbA
import Derived.Laws.StructEq
set_option linter.all false
noncomputable section
namespace Go.Ab
variable {a:Act}{K:Act->World->Prop}{ops:Array Oper}{tys:Array TypeId}{caps vs:Ξ}{draw q:Bool}{Q:Exit->Act->World->Prop}{S S' Si So:ι}{E E':Γ}{cids pins:υ}{news:List Value}{zd zd0:Ψ}{args:List ai}{F:List ai->ai->Prop}{ds:List dH}{cap id j k n nt off:Nat}{X X':ξ}{η η':Nat->Value}{fx i:Operand}{u:φ}{hi:Option Operand}{P:Program}{te ti:TI}{d:TypeDesc}{e' t:TypeId}{e:U5}{s s0:U8}{w w' w1:World}{r:ai}{C C':da}{L:dj}
section
variable {x:Operand}{cs xs ys:List CV}{o:Oper}{ρ m:Nat->Nat}{rd ids K4:υ}{el:TypeId}{y:CV}{f:Δ}{es lo N lo0:Nat}{b:Bool}{l:φ}
def CV.noSem:CV->Bool
 |.sem _=>false
 |_=>true
def TV.noSem:TV->Bool
 |.c x=>x.noSem
 |.g xs=>xs.all CV.noSem
def ai.noSem:ai->Bool
 |.any=>true
 |.v x=>x.noSem
 |.t xs=>xs.all TV.noSem
def Obj.noSem:Obj->Bool
 |.box _ cs=>cs.all CV.noSem
 |.arr _ _ _=>true
 |.ext _=>true
 |.exr _ _=>true
theorem aX.ctx{v:Value}{x:CV}(h:aX w X η C v x)(hx:x.noSem=true):aX w X η C' v x:=by
 cases h with
 |d _ _ h=>exact .d _ _ h
 |fl _ _ _ h=>exact .fl _ _ _ h
 |own _ _ h h1=>exact .own _ _ h h1
 |ptr _ _ _ h=>exact .ptr _ _ _ h
 |pte _ _ _ _ _ _ _ h=>exact .pte _ _ _ _ _ _ _ h
 |sub b N cap _ es lo n h h1 h2=>exact .sub b N cap _ es lo n h h1 h2
 |subN ad ad' N _ es h=>exact .subN ad ad' N _ es h
 |elm _ _ _ _ _ _ h1 h2 h3 h4=>exact .elm _ _ _ _ _ _ h1 h2 h3 h4
 |clo _ _ _ h=>exact .clo _ _ _ h
 |sem _ _ h h1=>cases hx
 |ap _ _ h h1=>exact .ap _ _ h h1
 |bnd _ _ _ h1 h2=>exact .bnd _ _ _ h1 h2
 |cp _ _ _ _ h h1 h2=>exact .cp _ _ _ _ h h1 h2
theorem Qj.ctx(h:Qj w X η C vs cs)(hx:cs.all CV.noSem=true):Qj w X η C' vs cs:=
 ⟨h.1,λj a=>(h.2 j a).ctx (en.1 hx _ (YN a))⟩
theorem dy.ctx{v:Value}{x:TV}(h:dy w X η C v x)(hx:x.noSem=true):dy w X η C' v x:=by
 cases h with
 |c _ _ h=>exact .c _ _ (h.ctx hx)
 |g _ _ h=>exact .g _ _ (h.ctx hx)
theorem aQ.ctx{v:Value}{x:ai}(h:aQ w X η C v x)(hx:x.noSem=true):aQ w X η C' v x:=by
 cases h with
 |any=>exact .any v
 |v _ _ h=>exact .v _ _ (h.ctx hx)
 |t us xs h1 h2=>exact .t us xs h1 λj a=>(h2 j a).ctx (en.1 hx _ (YN a))
theorem db.ctx{v:Value}{o:Obj}(h:db w X η C v o)(hx:o.noSem=true):db w X η C' v o:=by
 cases h with
 |box b ro c e cs h1 h2=>exact .box b ro c e cs h1 (h2.ctx hx)
 |nil ad es f=>exact .nil ad es f
 |arr b n cap es c e f h1 h2 h3 h4 h5 h6 h7=>exact .arr b n cap es c e f h1 h2 h3 h4 h5 h6 h7
 |ext _ _ h1 h2 h3=>exact .ext _ _ h1 h2 h3
 |exr _ _ _ h1 h2 h3=>exact .exr _ _ _ h1 h2 h3
theorem aX.toRen{v:Value}{x:CV}(h:aX w X (λi=>η (ρ i)) C v x):aX w X η C v (x.ren ρ):=by
 cases h with
 |d _ _ h=>exact .d _ _ h
 |fl _ _ _ h=>exact .fl _ _ _ h
 |own _ _ h h1=>exact .own _ _ h h1
 |ptr _ _ _ h=>exact .ptr _ _ _ h
 |pte _ _ _ _ _ _ _ h=>exact .pte _ _ _ _ _ _ _ h
 |sub b N cap _ es lo n h h1 h2=>exact .sub b N cap _ es lo n h h1 h2
 |subN ad ad' N _ es h=>exact .subN ad ad' N _ es h
 |elm _ _ _ _ _ _ h1 h2 h3 h4=>exact .elm _ _ _ _ _ _ h1 h2 h3 h4
 |clo f ids vs h=>exact .clo f _ vs (by rw[h,i8];rfl)
 |sem _ _ h h1=>exact .sem _ _ h h1
 |ap _ _ h h1=>exact .ap _ _ h h1
 |bnd _ _ _ h1 h2=>exact .bnd _ _ _ h1 h2
 |cp _ _ _ _ h h1 h2=>exact .cp _ _ _ _ h h1 h2
theorem Qj.toRen(h:Qj w X (λi=>η (ρ i)) C vs cs):Qj w X η C vs (cs.map (CV.ren ρ)):=by
 refine⟨by simpa using h.1,λj b=>?_⟩;have a : j<cs.length:=by simpa using b
 have:=(h.2 j a).toRen
 grind
theorem dy.toRen{v:Value}{x:TV}(h:dy w X (λi=>η (ρ i)) C v x):dy w X η C v (x.ren ρ):=by
 cases h with
 |c _ _ h=>exact .c _ _ h.toRen
 |g _ _ h=>exact .g _ _ h.toRen
theorem aQ.toRen{v:Value}{x:ai}(h:aQ w X (λi=>η (ρ i)) C v x):aQ w X η C v (x.ren ρ):=by
 cases h with
 |any=>exact .any v
 |v _ _ h=>exact .v _ _ h.toRen
 |t us xs h1 h2=>
  refine .t us _ (by simpa using h1) λj b=>?_
  have a : j<xs.length:=by simpa using b
  have:=(h2 j a).toRen
  grind
theorem db.toRen{v:Value}{o:Obj}(h:db w X (λi=>η (ρ i)) C v o):db w X η C v (o.ren ρ):=by
 cases h with
 |box b ro c e cs h1 h2=>exact .box b ro c e _ h1 h2.toRen
 |nil ad es f=>exact .nil ad es f
 |arr b n cap es c e f h1 h2 h3 h4 h5 h6 h7=>exact .arr b n cap es c e f h1 h2 h3 h4 h5 h6 h7
 |ext _ _ h1 h2 h3=>exact .ext _ _ h1 h2 h3
 |exr _ refs p h1 h2 h3=>
  have e:refs.map (λi=>η (ρ i))=(refs.map ρ).map η:=by rw[i8];rfl
  rw[e]at h1 h2;exact .exr _ _ p h1 h2 h3
def YU(C:da)(nt:Nat)(e:U5)(s:U8)(Si:ι)(m:Nat->Nat)(rd ids:υ)(x:Operand)(y:ai):Prop:=
 ∀R η e0 s0 a w,(∀t∈rd,e0 t=e t)->(∀i∈ids,s0 i=s i)->aK C nt R η e0 s0 a w ->
  aQ w (XS C s0 η) (λi=>η (m i)) (Qh Si w (XS C s0 η) λi=>η (m i)) (a.eval x) y
def Qt(rd:υ)(x:Operand):Bool:=match x with|.tmp t=>rd.contains t|_=>true
theorem Z3r{t:Nat}(h:Qt rd (.tmp t)=true):t∈rd:=by
 simpa[Qt]using h
theorem ZL{e0:U5}(hrd:∀t∈rd,e0 t=e t)(hx:Qt rd x=true):Y3 e0 x=Y3 e x:=by
 cases x<;>first|rfl|exact hrd _ (Z3r hx)
theorem Rz{y:ai}(hle:Z5 (Y3 e x) (y.ren m))(hx:Qt rd x=true:=by kernel_rfl)(hs:y.noSem=true:=by kernel_rfl):YU C nt e s Si m rd ids x y:=by
 intro R η g h a w b d f;have c:=(K3 f x).1
 rw[ZL b hx]at c;exact(aQ.unren (hle.1 _ _ _ _ _ c)).ctx hs
def qb(ops:Array Oper)(o:Oper)(e:U5)(m:Nat->Nat)(extra:υ)(r:ai)(Si So:ι):eJ where
 rd:=Qs o++Qk ops o
 ids:=WA e o++(Si.map (λp=>m p.1)++extra)
 v:=r.ren m
 l:=(So.map λp=>(m p.1,some (p.2.ren m)))++Si.map λp=>(m p.1,none)
 news:=(So.filter λp=> !(Si.map (·.1)).contains p.1).map λp=>m p.1
def WD(m:Nat->Nat)(r:ai)(Si So:ι):Bool:=
 Yr (Si.map (·.1))&&Yr (So.map (·.1))&&Yr ((So.filter λp=> !(Si.map (·.1)).contains p.1).map (λp=>m p.1)++Si.map λp=>m p.1) &&
 r.refs.all (λi=>(So.map (·.1)).contains i)&&So.all (λp=>p.2.refs.all λi=>(So.map (·.1)).contains i)&&r.noSem&&Si.all (λp=>p.2.noSem)&&So.all (λp=>p.2.noSem) &&
 So.all (λp=> !(Si.map (·.1)).contains p.1||Si.any λq=>q.1==p.1&&q.2.ro==p.2.ro)&&So.all (λp=>(Si.map (·.1)).contains p.1 || !p.2.ro)
theorem jg(x:CV):∀j∈(x.ren ρ).refs,∃i∈x.refs,j=ρ i:=by
 cases x<;>simp[CV.refs,CV.ren]
 grind
theorem ki{α β:Type}{f:α->υ}{g:α->α}{l:List α}(h:∀x,∀j∈f (g x),∃i∈f x,j=ρ i)(_:β):∀j∈(l.map g).flatMap f,∃i∈l.flatMap f,j=ρ i:=by
 grind
theorem Ea(x:TV):∀j∈(x.ren ρ).refs,∃i∈x.refs,j=ρ i:=by
 cases x with
 |c x=>exact jg x
 |g xs=>exact ki (f:=CV.refs) jg ()
theorem Ie(x:ai):∀j∈(x.ren ρ).refs,∃i∈x.refs,j=ρ i:=by
 cases x with
 |any=>intro j a;cases a
 |v x=>exact Ea x
 |t xs=>exact ki (f:=TV.refs) Ea ()
theorem Z9h(o:Obj):∀j∈(o.ren ρ).refs,∃i∈o.refs,j=ρ i:=by
 cases o with
 |box ro cs=>exact ki (f:=CV.refs) jg ()
 |arr es n f=>intro j a;cases a
 |ext p=>intro j a;cases a
 |exr refs p=>
  intro j a;obtain⟨i,b,rfl⟩:=eF.1 a
  exact⟨i,b,rfl⟩
theorem aK.call{R:ξ}{e0:U5}{s0:U8}(h:aK C nt R η e0 s0 a w){d:Option Tmp}(hd:∀ x,d=some x->x<nt)(hchk:WD m r Si So=true)(hsi:∀ p ∈ Si,∃ o1,s0 (m p.1)=some o1/\J2 o1 (p.2.ren m))(hfr:∀ k ∈ (So.filter fun p=> !(Si.map (·.1)).contains p.1).map (fun p=>m p.1),¬ R k){v:Value}{η' : Nat->Value}{w' : World}(hb:eW (Qh Si w (XS C s0 η) fun i=>η (m i)) r So v η' w'):
  ∃η1,aK C nt (λi=>R i\/i∈(So.filter λp=> !(Si.map (·.1)).contains p.1).map λp=>m p.1) η1 (ZN d (r.ren m) e0) (ZR ((So.map λp=>(m p.1,some (p.2.ren m)))++Si.map λp=>(m p.1,none)) s0) (a.put d v) w':=by
 simp only[WD,dc]at hchk;obtain⟨⟨⟨⟨⟨⟨⟨⟨⟨c1,c2⟩,c3⟩,c4⟩,c5⟩,c6⟩,c7⟩,c8⟩,c9⟩,h4⟩:=hchk
 have n1:=Up c1;have n2:=Up c2
 have n3:=Up c3
 let news:=(So.filter λp=> !(Si.map (·.1)).contains p.1).map λp=>m p.1
 have T:∀i,i∈Si.map (·.1)->∃o,(i,o)∈Si:=λi c=>by obtain⟨p,A,rfl⟩:=eF.1 c;exact⟨p.2,A⟩
 have b1:∀i o,(i,o)∈Si->ls Si i=some o:=by
  intro i o c;unfold ls
  obtain⟨l1,l2,rfl⟩:=lR c
  grind
 have E:∀i o,(i,o)∈So->ls So i=some o:=by
  intro i o c;unfold ls
  obtain⟨l1,l2,rfl⟩:=lR c
  grind
 have N:∀p∈So,p.1∈Si.map (·.1)\/m p.1∈news:=by
  intro p A
  grind
 rw[lX]at n3;obtain⟨f6,i3,e3⟩:=n3
 have a7:∀{α:Type} (f:α->Nat) (l:List α),(l.map f).Nodup->∀x∈l,∀y∈l,f x=f y->x=y:=by
  intro α f l
  induction l with
  |nil=>intro _ x W;cases W
  |cons z l ih=>
   grind
 have f4:∀i j,i∈Si.map (·.1)->j∈Si.map (·.1)->m i=m j->i=j:=by
  grind
 have f1:∀p∈So,∀q∈So,m p.1=m q.1->p.1=q.1:=by
  intro p A q Z f3;rcases N p A with O|O<;>rcases N q Z with J|J
  .grind
  .grind
  .obtain ⟨oq,b9⟩:=T _ J
   grind
  .obtain ⟨p',h8,e1⟩:=eF.1 O
   obtain⟨q',h6,e2⟩:=eF.1 J
   by_cases hps:p.1∈Si.map (·.1)
   .obtain ⟨op,f2⟩:=T _ hps
    exact absurd rfl (e3 _ O _ (eF.2 ⟨_,f2,rfl⟩))
   .by_cases hqs:q.1∈Si.map (·.1)
    .obtain ⟨oq,b9⟩:=T _ hqs
     exact absurd rfl (e3 _ J _ (eF.2 ⟨_,b9,rfl⟩))
    .have:=a7 (λp:Nat×Obj=>m p.1) _ f6 p (fD.2 ⟨A,by simpa using hps⟩) q (fD.2 ⟨Z,by simpa using hqs⟩) f3
     rw[this]
 let η1:Nat->Value:=λk=>match So.find? (λp=>m p.1==k)with|some p=>η' p.1|none=>η k
 have Y:∀p∈So,η1 (m p.1)=η' p.1:=by
  grind
 have b8:∀i,i∈Si.map (·.1)->η' i=η (m i):=by
  intro i c;obtain⟨o,G⟩:=T i c
  refine hb.pn i _ ?_;have:=b1 i o G
  unfold ls at this;simp[Qh,this]
 have H:∀k,(∀p∈So,m p.1≠k)->η1 k=η k:=by
  grind
 have eR:∀k,R k->η1 k=η k:=by
  grind
 generalize hs1:ZR ((So.map λp=>(m p.1,some (p.2.ren m)))++Si.map λp=>(m p.1,none)) s0=s1;have B:∀k o,s1 k=some o->(∃p∈So,m p.1=k/\o=p.2.ren m)\/(s0 k=some o/\(∀p∈So,m p.1≠k)/\∀p∈Si,m p.1≠k):=by
  intro k o I;rw[<-hs1]at I
  unfold ZR at I;rw[nR]at I
  cases hl1:(So.map λp=>(m p.1,some (p.2.ren m))).lookup k with
  |some x=>
   rw[hl1]at I;simp only[Option.some_or]at I
   obtain⟨l1,l2,hl,_⟩:=ll.1 hl1;have d2:(k,x)∈So.map λp=>(m p.1,some (p.2.ren m)):=by rw[hl];simp
   grind
  |none=>
   rw[hl1]at I;simp only[Option.none_or]at I
   have f8:∀p∈So,m p.1≠k:=by
    intro p A hh;rw[Aq]at hl1
    have:=hl1 _ (x7 A)
    grind
   cases hl2:(Si.map λp=>(m p.1,(none:Option Obj))).lookup k with
   |some x=>
    rw[hl2]at I;obtain⟨l1,l2,hl,_⟩:=ll.1 hl2
    have d2:(k,x)∈Si.map λp=>(m p.1,(none:Option Obj)):=by rw[hl];simp
    grind
   |none=>
    rw[hl2]at I;refine .inr ⟨I,f8,λp A hh=>?_⟩
    rw[Aq]at hl2;have:=hl2 _ (x7 A)
    grind
 have U:∀i o,ls Si i=some o->∀b,b∈Y9 (η (m i))->dV s0 η b:=by
  intro i o c b b2;obtain⟨o1,O,_⟩:=hsi _ (y6 c)
  exact⟨m i,o1,O,b2⟩
 have K:∀k o i F b,s0 k=some o->ls Si i=some F->b∈Y9 (η k)->b∈Y9 (η (m i))->k=m i:=by
  intro k o i F b I c b3 a3;obtain⟨o1,O,_⟩:=hsi _ (y6 c)
  exact h.ds k (m i) b (by rw[I];simp) (by rw[O];simp) b3 a3
 have a1:∀i F b,ls Si i=some F->F.ro=false->b∈Y9 (η (m i))->C.M b\/C.w0.heap.size<=b:=by
  intro i F b c a0 b2;obtain⟨o1,O,f5⟩:=hsi _ (y6 c)
  rcases h.ow _ o1 b O b2 with ⟨J,_⟩|J
  .have:o1.ro=F.ro:=by rw[<-f5.2.1,qs]
   grind
  .exact J
 have d8:∀b,XS C s1 η1 b->(b<w.heap.size->XS C s0 η b)/\XS (Qh Si w (XS C s0 η) λi=>η (m i)) (ls So) η' b:=by
  intro b W;rcases W with ⟨W,hD⟩|⟨k,o,I,D⟩
  .refine ⟨λ_=>.inl ⟨W,hD⟩,.inl ⟨.inl ⟨W,hD⟩,λG=>?_⟩⟩
   obtain⟨i,o,c,g⟩:=G;obtain⟨o1,O,_⟩:=hsi _ (y6 c)
   have a6:=h.ok.lt b W;rcases h.ow _ o1 b O g with ⟨_,J⟩|J|J
   .exact hD J
   .exact hD (h.ok.md b J)
   .omega
  .rcases B k o I with ⟨p,A,rfl,rfl⟩|⟨G,L,V⟩
   .rw [Y p A]at D
    refine⟨λa6=>?_,.inr ⟨p.1,p.2,E _ _ A,D⟩⟩;rcases hb.ow p.1 p.2 b (E _ _ A) D with ⟨_,⟨i,F,c,g⟩⟩|⟨i,F,c,_,g⟩|a5
    .exact .inr (U i F c b g)
    .exact .inr (U i F c b g)
    .have:w.heap.size<=b:=a5
     omega
   .rw [H k L]at D
    have a9:dV s0 η b:=⟨k,o,G,D⟩;refine⟨λ_=>.inr a9,.inl ⟨.inr a9,λW=>?_⟩⟩
    obtain⟨i,F,c,g⟩:=W;exact V _ (y6 c) (K k o i F b G c D g).symm
 have b4:QP w w' (XS C s0 η) (XS C s1 η1):=by
  intro b a6 hX;refine⟨hb.stp.block b a6 λhM=>?_,λW=>hX ((d8 b W).1 a6)⟩
  obtain⟨i,F,c,_,g⟩:=hM;exact hX (.inr (U i F c b g))
 have d4:QP w' w' (XS (Qh Si w (XS C s0 η) λi=>η (m i)) (ls So) η') (XS C s1 η1):=λb _ hX=>⟨rfl,λW=>hX (d8 b W).2⟩
 have d7:∀p∈So,R (m p.1)\/m p.1∈news:=by
  intro p A;rcases N p A with O|O
  .obtain ⟨o,G⟩:=T _ O
   obtain⟨o1,J,_⟩:=hsi _ G;exact .inl (h.sr _ o1 J).1
  .exact .inr O
 have a4:∀i,(So.map (·.1)).contains i=true->∃p∈So,p.1=i:=by
  grind
 have b7:∀p∈So,db w' (XS C s1 η1) η1 C (η1 (m p.1)) (p.2.ren m):=by
  intro p A;have O:=hb.objs p.1 p.2 (E _ _ A)
  have J:=O.mono (η':=λi=>η1 (m i)) d4 (λi c=>by
   obtain⟨q,Z,rfl⟩:=a4 i (en.1 (en.1 c5 p A) i c)
   grind) (λ_ _=>rfl)
  rw[Y p A];exact(J.toRen).ctx (by
   have:=en.1 c8 p A
   cases hp2:p.2 with
   |box ro cs=>
    rw[hp2]at this;simp only[Obj.ren,Obj.noSem,oE]
    rw[en];intro x W
    have:=en.1 this x W
    cases x<;>first|rfl|cases this
   |arr es n f=>rfl
   |ext p=>rfl
   |exr refs p=>rfl)
 refine⟨η1,h.ok,by rw[rV];exact h.df,by rw[tA];exact h.sz,λt=>?_,λt i c=>?_,λk o I=>?_,λk o I=>?_,λi j b c hj Q S=>?_,λk o b I D=>?_,?_,λi u c=>?_⟩
 .rw [CP a d v t (by rw[h.sz];exact hd)]
  unfold ZN;have g8:aQ w' (XS C s1 η1) η1 C v (r.ren m):=by
   have J:=hb.res.mono (η':=λi=>η1 (m i)) d4 (λi c=>by
    grind)
   exact(J.ctx c6).toRen
  cases d with
  |none=>exact(h.ev t).mono b4 λi c=>eR i (h.er t i c)
  |some d=>
   simp only[ld]
   by_cases htd:t=d
   .grind
   .rw [an (λhh=>htd hh.symm),an htd]
    exact(h.ev t).mono b4 λi c=>eR i (h.er t i c)
 .unfold ZN at c
  have d6:i∈(e0 t).refs->R i\/i∈news:=λhh=>.inl (h.er t i hh)
  have g4:i∈(r.ren m).refs->R i\/i∈news:=by
   intro hh;obtain⟨j,hj,rfl⟩:=Ie r i hh
   grind
  cases d with
  |none=>exact d6 c
  |some d=>
   grind
 .rcases B k o I with ⟨p,A,rfl,rfl⟩|⟨G,L,V⟩
  .exact b7 p A
  .rw [H k L]
   refine(h.st k o G).mono b4 (λj hj=>eR j ((h.sr k o G).2 j hj)) λb D=>?_
   refine hb.stp.block b ((h.st k o G).lt D) λhM=>?_
   obtain⟨i,F,c,_,g⟩:=hM;exact V _ (y6 c) (K k o i F b G c D g).symm
 .rcases B k o I with ⟨p,A,rfl,rfl⟩|⟨G,L,V⟩
  .refine ⟨d7 p A,λj hj=>?_⟩
   obtain⟨i,c,rfl⟩:=Z9h p.2 j hj;obtain⟨q,Z,rfl⟩:=a4 i (en.1 (en.1 c5 p A) i c)
   exact d7 q Z
  .exact ⟨.inl (h.sr k o G).1,λj hj=>.inl ((h.sr k o G).2 j hj)⟩
 .obtain ⟨F,e9⟩:=dS.1 c
  obtain⟨oj,f7⟩:=dS.1 hj;have a2:∀p∈So,∀k o,s0 k=some o->(∀p∈Si,m p.1≠k)->∀b,b∈Y9 (η' p.1)->b∈Y9 (η k)->False:=by
   intro p A k o G hn b b3 a3;rcases hb.ow p.1 p.2 b (E _ _ A) b3 with ⟨_,⟨i,F,c,g⟩⟩|⟨i,F,c,_,g⟩|a5
   .exact hn _ (y6 c) (K k o i F b G c a3 g).symm
   .exact hn _ (y6 c) (K k o i F b G c a3 g).symm
   .have O:w.heap.size<=b:=a5
    have J:=(h.st k o G).lt a3;omega
  rcases B i F e9 with ⟨p,A,rfl,rfl⟩|⟨G,L,V⟩<;>rcases B j oj f7 with ⟨q,Z,rfl,rfl⟩|⟨d5,a8,e4⟩
  .rw [Y p A]at Q;rw[Y q Z]at S
   rw[hb.ds p.1 q.1 b (by rw[E _ _ A];simp) (by rw[E _ _ Z];simp) Q S]
  .rw [Y p A]at Q;rw[H _ a8]at S
   exact(a2 p A _ _ d5 e4 b Q S).elim
  .rw [Y q Z]at S;rw[H _ L]at Q
   exact(a2 q Z _ _ G V b S Q).elim
  .rw [H _ L]at Q;rw[H _ a8]at S
   exact h.ds i j b (by rw[G];simp) (by rw[d5];simp) Q S
 .rcases B k o I with ⟨p,A,rfl,rfl⟩|⟨G,L,V⟩
  .rw [Y p A]at D
   rw[qs];rcases hb.ow p.1 p.2 b (E _ _ A) D with ⟨a0,_⟩|⟨i,F,c,a0,g⟩|a5
   .
    have d9:p.1∈Si.map (·.1):=by
     grind
    have h9:=en.1 c9 p A;have c0 : (Si.map (·.1)).contains p.1=true:=by simpa using d9
    simp only[c0,Bool.not_true,iP,fA]at h9;obtain⟨q,Z,b5⟩:=h9
    simp only[dc,eY]at b5;obtain⟨o1,g1,g2⟩:=hsi q Z
    rw[b5.1]at g1;rw[b8 _ d9]at D
    have d0:o1.ro=p.2.ro:=by rw[<-g2.2.1,qs,b5.2]
    rw[<-d0];exact h.ow _ o1 b g1 D
   .exact .inr (a1 i F b c a0 g)
   .exact .inr (.inr (dP h.fr.size a5))
  .rw [H k L]at D
   exact h.ow k o b G D
 .refine h.fr.trans (hb.stp.mono λb _ hM=>?_)
  obtain⟨i,F,c,a0,g⟩:=hM;exact a1 i F b c a0 g
 .have:=h.pn i u c
  exact⟨(eR i this.2).trans this.1,.inl this.2⟩
def CV.closed(x:CV):Bool:=x.refs.isEmpty&&x.noSem
def ai.closed(x:ai):Bool:=x.refs.isEmpty&&x.noSem
theorem aQ.free{v:Value}{x:ai}(h:aQ w X η C v x)(hx:x.closed=true):aQ w X η' C' v x:=by
 simp only[ai.closed,dc,mN]at hx;exact(h.mono (λb _ c=>⟨rfl,c⟩) (λi a=>by rw[hx.1]at a;cases a)).ctx hx.2
theorem Qj.free(h:Qj w X η C vs cs)(hx:cs.all CV.closed=true):Qj w X η' C' vs cs:=by
 refine⟨h.1,λj a=>?_⟩;have:=en.1 hx _ (YN (d:=.d .any) a)
 simp only[CV.closed,dc,mN]at this;exact((h.2 j a).mono (λb _ f=>⟨rfl,f⟩) (λi c=>by rw[this.1]at c;cases c)).ctx this.2
theorem aK.xl{R:ξ}(hc:aK C nt R η e s a w):XL w (XS C s η):=by
 refine⟨?_,hc.ok.gl.mono λb d c=>⟨hc.fr.block b d λh=>c (hc.ok.dx b (hc.ok.md b h)),?_⟩⟩
 .rintro b (⟨hx,_⟩|hx)
  .exact fH (hc.ok.lt b hx) hc.fr.size
  .exact hc.lt hx
 .rintro (⟨h,_⟩|⟨i,o,hi,hib⟩)
  .exact c h
  .rcases hc.ow i o b hi hib with ⟨_,h⟩|h|h
   .exact c (hc.ok.dx b h)
   .exact c (hc.ok.dx b (hc.ok.md b h))
   .omega
def Qv(P:Program)(F:List ai->ai->Prop)(w0:World)(D X:ξ)(v:Value):Prop:=
 ∃f caps,v=.func (.func f) #[] caps/\(∀args w,(callFunc f args).run P w=.ok (.enter f args) w) /\
  ∀(w1:World) (X1:ξ) (vs:Ξ) (args:List ai) (r:ai),F args r->w0.heap.size<=w1.heap.size->(∀b,b<w0.heap.size->¬D b->w1.heap[b]?=w0.heap[b]?)->XL w1 X1 ->
   (∀b,b<w0.heap.size->¬D b->(X1 b↔X b))->vs.size=args.length->(∀j,j<args.length->∀η C,aQ w1 X1 η C (vs.getD j undef) (args.getD j .any)) ->
   Calls P f (vs++caps) w1 λe w'=>∃v',e=.returned v' /\ aM (λ_=>False) w1 w' /\ ∀η C,aQ w' X1 η C v' r
def YG(P:Program)(F:List ai->ai->Prop):ai:=.v (.c (.sem (Qv P F)))
theorem MG{xs:Array Operand}(hop:o.op=.call {callee:=.value fx,args:=xs,argTypes:=tys}){f:Nat}(hf:a.eval fx=.func (.func f) #[] caps)(hcall:∀args w,(callFunc f args).run P w=.ok (.enter f args) w):(execOp a.eval o).run P w=.ok (.enter f (xs.map a.eval++caps)) w:=by
 simp[execOp,hop,resolve,Deferred.ofValue,hf,invoke,hcall]
theorem YO(hdo:QM nt o=true):∀x,o.dst=some x->x<nt:=by
 intro x a;simp only[QM,a,dc,dT]at hdo
 exact hdo.1
theorem BJ{v:Value}{f:Nat}(h:aQ w X η C v (.v (.c (.clo f ids)))):v=.func (.func f) #[] (ids.map η).toArray:=by
 cases h with|v _ _ h=>cases h with|c _ _ h=>cases h with|clo _ _ vs h=>rw[h]
theorem H8{f:Nat}(hcall:∀args w,(callFunc f args).run P w=.ok (.enter f args) w){xs:Array Operand}(hop:o.op=.call {callee:=.value fx,args:=xs,argTypes:=tys})(hfx:Y3 e fx=.v (.c (.clo f [])))(hrf:Qt (Qs o++Qk ops o) fx=true)(hspec:J7 P f args Si r So)(hlen:xs.size=args.length)(m:Nat->Nat)(extra:υ)(hargs:∀j,j<args.length->YU C nt e s Si m (Qs o++Qk ops o) (WA e o++(Si.map (λp=>m p.1)++extra)) (xs.toList.getD j (.const undef)) (args.getD j .any))(hsi:∀p∈Si,∃o1,s (m p.1)=some o1/\J2 o1 (p.2.ren m))(hchk:WD m r Si So=true)(hdo:QM nt o=true)(hg:Ze ops e o=some true):WE P C nt ops o (qb ops o e m extra r Si So) e s:=by
 intro R η T O a w l h H q K Q hK;have hw:=UE (e:=e) q (λt V=>l t (dv.2 (.inr V))) hg
 rw[av hw];have B:=(K3 q fx).1
 rw[ZL l hrf,hfx]at B;have z:=BJ B
 have F:=MG (w:=w) hop z hcall;have d:∀p∈Si,∃o1,O (m p.1)=some o1/\J2 o1 (p.2.ren m):=by
  intro p S;rw[h (m p.1) (dv.2 (.inr (dv.2 (.inl (eF.2 ⟨p,S,rfl⟩)))))]
  exact hsi p S
 simp only[WD,dc]at hchk;have n:=hchk
 obtain⟨⟨⟨⟨⟨⟨⟨⟨⟨c1,c2⟩,c3⟩,c4⟩,c5⟩,c6⟩,Y⟩,c8⟩,c9⟩,Z⟩:=hchk;have E:=q.xl
 have D:∀i x,ls Si i=some x -> x.noSem=true:=λi x g=>en.1 Y _ (y6 g)
 have I:=hspec w (XS C O η) (λi=>η (m i)) (xs.map a.eval++(([]:υ).map η).toArray) E
  (λb ⟨i,x,g,hib⟩=>by obtain⟨o1,y,_⟩:=d _ (y6 g);exact .inr ⟨m i,o1,y,hib⟩)
  (λi x g=>by
   obtain⟨o1,y,L⟩:=d _ (y6 g);exact(db.unren (L.1 _ _ _ _ _ (q.st _ o1 y))).ctx (D i x g))
  (λi j b g u G N=>by
   obtain⟨oi,g⟩:=dS.1 g;obtain⟨oj,u⟩:=dS.1 u
   obtain⟨o1,y,_⟩:=d _ (y6 g);obtain⟨o2,U,_⟩:=d _ (y6 u)
   have A:m i=m j:=q.ds _ _ b (by rw[y];simp) (by rw[U];simp) G N;have n3:=Up c3
   rw[lX]at n3;exact FJ (ρ:=m) n3.2.1 (by rw[g];simp) (by rw[u];simp) A)
  (by simp[hlen])
  (λj u=>by
   have M : j<xs.size:=by omega
   have W:(xs.map a.eval++(([]:υ).map η).toArray).getD j undef=a.eval (xs.toList.getD j (.const undef)):=by
    simp[aY,M]
   rw[W];exact hargs j u R η T O a w l h q)
 unfold Oper.wp;rw[F]
 show Calls P f _ w _;refine I.mono λen w' hh=>?_
 obtain⟨v,η',rfl,hb⟩:=hh;have k:WD m r Si So=true:=by simp only[WD,dc];exact n
 obtain⟨η1,J⟩:=q.call (YO hdo) k d H hb;exact hK η1 _ w' J
def Kk(ops:Array Oper)(o:Oper)(e:U5)(r:ai):eJ where
 rd:=Qs o++Qk ops o
 ids:=WA e o
 v:=r
 l:=[]
 news:=[]
theorem Q8T{xs:Array Operand}(hop:o.op=.call {callee:=.value fx,args:=xs,argTypes:=tys})(hfx:Y3 e fx=YG P F)(hF:F args r)(hlen:xs.size=args.length)(hrd' : Qt (Qs o++Qk ops o) fx=true/\∀x∈xs.toList,Qt (Qs o++Qk ops o) x=true)(hargs:∀j,j<args.length->Z5 (Y3 e (xs.toList.getD j (.const undef))) (args.getD j .any)/\(args.getD j .any).closed=true)(hr:r.closed=true)(hdo:QM nt o=true)(hg:Ze ops e o=some true):WE P C nt ops o (Kk ops o e r) e s:=by
 intro R η e0 B a w m Y a5 d K Q hK;have hw:=UE (e:=e) d (λt ht=>m t (dv.2 (.inr ht))) hg
 rw[av hw];have p:=(K3 d fx).1
 rw[ZL m hrd'.1,hfx]at p;have z:Qv P F C.w0 C.D C.X (a.eval fx):=by
  generalize a.eval fx=u at p
  cases p with|v _ _ h=>cases h with|c _ _ h=>cases h with|sem _ _ h _=>exact h
 obtain⟨f,W,V,n,T⟩:=z;have L:=MG (w:=w) hop V n
 have G:=d.xl;have U:=T w (XS C B η) (xs.map a.eval) args r hF d.fr.size (λb H I=>d.fr.block b H λhM=>I (d.ok.md b hM)) G
  (λb H I=>⟨λg=>by
   rcases g with ⟨g,_⟩|⟨i,o',S,O⟩
   .exact g
   .rcases d.ow i o' b S O with ⟨_,N⟩|N|N
    .grind
    .exact absurd (d.ok.md b N) I
    all_goals grind,λg=>.inl ⟨g,I⟩⟩) (by simp[hlen])
  (λj y η2 C2=>by
   have A : j<xs.size:=by omega
   have e1:(xs.map a.eval).getD j undef=a.eval (xs.toList.getD j (.const undef)):=by simp[aY,A]
   rw[e1];obtain⟨g1,g2⟩:=hargs j y
   have g:=(K3 d (xs.toList.getD j (.const undef))).1;rw[ZL m (hrd'.2 _ (YN (by simpa using A)))]at g
   exact(g1.1 _ _ _ _ _ g).free g2)
 unfold Oper.wp;rw[L]
 show Calls P f _ w _;refine U.mono λen w' hh=>?_
 obtain⟨v,rfl,E,q⟩:=hh;have Z:SR.sto {v:=r} o.dst B=B:=by funext i;simp[SR.sto]
 have he:SR.eta {v:=r} o.dst v η=η:=by funext i;simp[SR.eta]
 have J:SR.rng {v:=r} o.dst R=R:=by funext i;simp[SR.rng]
 have:=d.step o.dst (YO hdo) {v:=r} v w' (λ_=>False) E (λb H=>H.elim) (λo dd M=>by cases M) (λk o M=>by cases M)
  (λ_=>by rw[Z,he];refine⟨q _ _,λj y=>?_⟩;simp only[ai.closed,dc,mN]at hr;simp only at y;rw[hr.1]at y;cases y)
 rw[Z,he,J]at this;refine hK η _ w' ?_
 have hu:ZR (Kk ops o e r).l B=B:=by funext i;rfl
 rw[hu];exact this.wider λi S=>.inl S
theorem YU.sem(hx:Qt rd x=true)(hv:Y3 e x=YG P F)(hsi:∀p∈Si,∃o1,s (m p.1)=some o1)(hin:∀p∈Si,m p.1∈ids):YU C nt e s Si m rd ids x (YG P F):=by
 intro R η e0 s0 a w N A j;have o:=(K3 j x).1
 rw[ZL N hx,hv]at o;have H:Qv P F C.w0 C.D C.X (a.eval x)/\(a.eval x).oneCell'=true:=by
  generalize a.eval x=u at o
  cases o with|v _ _ h=>cases h with|c _ _ h=>cases h with|sem _ _ h d=>exact⟨h,d⟩
 obtain⟨⟨f,z,T,n,Q⟩,G⟩:=H;refine .v _ _ (.c _ _ (.sem _ _ ⟨f,z,T,n,?_⟩ G))
 intro V X1 Z J r Y M I S U O t;have B : w.heap.size<=V.heap.size:=M
 have K:∀b,dV (ls Si) (λi=>η (m i)) b->dV s0 η b:=by
  rintro b ⟨i,L,y,g⟩;obtain⟨o1,d⟩:=hsi _ (y6 y)
  exact⟨m i,o1,by rw[A _ (hin _ (y6 y))];exact d,g⟩
 have E:∀b,b<C.w0.heap.size->¬C.D b->¬dV (ls Si) (λi=>η (m i)) b:=by
  intro b q k W;obtain⟨i,L,y,g⟩:=K b W
  rcases j.ow i L b y g with ⟨_,d⟩|d|d
  .exact k d
  .exact k (j.ok.md b d)
  .omega
 refine Q V X1 Z J r Y (dP j.fr.size B) (λb q k=>?_) S (λb q k=>?_) O t
 .have l:b<w.heap.size:=fH q j.fr.size
  exact(I b l (E b q k)).trans (j.fr.block b q λhM=>k (j.ok.md b hM))
 .have l:b<w.heap.size:=fH q j.fr.size
  rw[U b l (E b q k)];constructor
  .rintro (⟨hx,_⟩|⟨i,L,y,g⟩)
   .exact hx
   .rcases j.ow i L b y g with ⟨_,d⟩|d|d
    .grind
    .exact absurd (j.ok.md b d) k
    .omega
  .exact λhx=>.inl ⟨hx,k⟩
def ZK(cs:List (List CV)):ι:=cs.zipIdx.map λp=>(p.2,.box true p.1)
def WL(cs:List (List CV)):List ai:=(List.range cs.length).map λk=>.v (.c (.ptr k 0))
theorem s7(cs:List (List CV))(k:Nat):ls (ZK cs) k=(cs[k]?).map (Obj.box true):=by
 have a:∀(l:List (List CV)) (n k:Nat),((l.zipIdx n).map λp=>(p.2,Obj.box true p.1)).lookup k=if k<n then none else(l[k-n]?).map (Obj.box true):=by
  intro l
  induction l with
  |nil=>intro n k;simp
  |cons x l ih=>
   intro n k;simp only[mC,eP,iw]
   grind
 have:=a cs 0 k
 simpa[ls,ZK]using this
theorem YU.clo{f:Nat}(hcall:∀args w,(callFunc f args).run P w=.ok (.enter f args) w){cs:List (List CV)}(hspec:∀args r,F args r->J7 P f (args++WL cs) (ZK cs) r (ZK cs))(hres:∀args r,F args r->r.closed=true)(hx:Qt rd x=true)(hv:Y3 e x=.v (.c (.clo f cids)))(hlen:cids.length=cs.length)(hnd:Yr cids=true)(hbox:∀k,k<cs.length->∃ro,s (cids.getD k 0)=some (.box ro (cs.getD k [])))(hcl:cs.all (λc=>c.all CV.closed)=true)(hsi:∀p∈Si,∃o1,s (m p.1)=some o1)(hin:∀p∈Si,m p.1∈ids)(hcin:∀i∈cids,i∈ids)(hapart:∀p∈Si,m p.1∉cids):YU C nt e s Si m rd ids x (YG P F):=by
 intro R η e0 s0 a w b5 J Z;have a0:=(K3 Z x).1
 rw[ZL b5 hx,hv]at a0;have V:=BJ a0
 refine .v _ _ (.c _ _ (.sem _ _ ⟨f,_,V,hcall,?_⟩ (by rw[V];rfl)));intro Y Q I args r hF a6 K b9 a2 b8 b3
 have c6 : w.heap.size<=Y.heap.size:=a6;have E:∀k,k<cs.length->cids.getD k 0∈cids:=λk G=>YN (by omega)
 have n:∀k,k<cs.length->∃ro,s0 (cids.getD k 0)=some (.box ro (cs.getD k [])):=by
  grind
 have y:∀k,k<cs.length->∃b N O,η (cids.getD k 0)=.pointer (some ⟨b,0,none⟩)/\w.heap[b]?=some (.cells N O (0,0))/\Qj w (XS C s0 η) η C N (cs.getD k []):=by
  intro k G;obtain⟨ro,q⟩:=n k G
  have:=Z.st _ _ q
  generalize η (cids.getD k 0)=u at this
  cases this with
  |box b _ N O _ B hcs=>exact⟨b,N,O,rfl,B,hcs⟩
 have A:∀k,k<cs.length->∀b,b∈Y9 (η (cids.getD k 0))->¬dV (ls Si) (λi=>η (m i)) b:=by
  rintro k G b B ⟨i,t,d,l⟩;obtain⟨ro,q⟩:=n k G
  obtain⟨o1,D⟩:=hsi _ (y6 d);have a8 : s0 (m i)=some o1:=by rw[J _ (hin _ (y6 d))];exact D
  have:=Z.ds _ _ b (by rw[q];simp) (by rw[a8];simp) B l
  exact hapart _ (y6 d) (this ▸ E k G)
 have b1:∀b,dV (ls Si) (λi=>η (m i)) b->XS C s0 η b:=by
  rintro b ⟨i,t,d,l⟩;obtain⟨o1,D⟩:=hsi _ (y6 d)
  exact .inr ⟨m i,o1,by rw[J _ (hin _ (y6 d))];exact D,l⟩
 have G:QP w Y (XS C s0 η) Q:=by
  intro b B hX;have W:¬dV (ls Si) (λi=>η (m i)) b:=λT=>hX (b1 b T)
  exact⟨K b B W,λhx=>hX ((a2 b B W).1 hx)⟩
 have h:∀k o,ls (ZK cs) k=some o->k<cs.length/\o=.box true (cs.getD k []):=by
  intro k o G;rw[s7]at G
  grind
 have z:∀b,dV (ls (ZK cs)) (λk=>η (cids.getD k 0)) b->Q b:=by
  rintro b ⟨k,t,L,M⟩;obtain⟨g,_⟩:=h k t L
  obtain⟨ro,q⟩:=n k g;have b0:b<w.heap.size:=(Z.st _ _ q).lt M
  exact(a2 b b0 (A k g b M)).2 (.inr ⟨_,_,q,M⟩)
 have a9:=hspec args r hF Y Q (λk=>η (cids.getD k 0)) (I++(cids.map η).toArray) b9 z
  (λk o L=>by
   obtain⟨g,rfl⟩:=h k o L;obtain⟨b,N,O,q,D,h3⟩:=y k g
   have b2:=A k g b (by rw[q];simp[Y9]);show db Y Q _ _ (η (cids.getD k 0)) _
   rw[q];have b6:(cs.getD k []).all CV.closed=true:=en.1 hcl _ (YN g)
   exact .box b true N O _ ((K b (J4 D) b2).trans D) ((h3.mono (η':=η) G (λ_ _=>rfl)).free b6))
  (λi j b d S b7 c1=>by
   obtain⟨oi,d⟩:=dS.1 d;obtain⟨oj,S⟩:=dS.1 S
   obtain⟨c2,_⟩:=h i oi d;obtain⟨a7,_⟩:=h j oj S
   obtain⟨r1,q⟩:=n i c2;obtain⟨r2,D⟩:=n j a7
   have U:=Z.ds _ _ b (by rw[q];simp) (by rw[D];simp) b7 c1;have hn:=Up hnd
   have a4:i<cids.length:=by omega
   have c0:j<cids.length:=by omega
   rw[aY,aY,eG a4,eG c0]at U;exact(ma hn).1 (by simpa using U))
  (by simp[b8,WL,hlen])
  (λj S=>by
   rw[dK]at S
   by_cases hja:j<args.length
   .have e1:(I++(cids.map η).toArray).getD j undef=I.getD j undef:=by
     have:j<I.size:=by omega
     simp[hU,io,this]
    have e2:(args++WL cs).getD j .any=args.getD j .any:=by simp[aY,iq,hja]
    grind
   .have g:j-args.length<cs.length:=by simp[WL]at S;omega
    obtain⟨b,N,O,q,D,h3⟩:=y _ g;have e1:(I++(cids.map η).toArray).getD j undef=η (cids.getD (j-args.length) 0):=by
     have g1:¬j<I.size:=by omega
     have g2:j-I.size<cids.length:=by omega
     have g3:j-args.length<cids.length:=by omega
     have:j-I.size=j-args.length:=by omega
     simp[hU,io,g1,aY,this,g3]
    have e2:(args++WL cs).getD j .any=.v (.c (.ptr (j-args.length) 0)):=by
     simp[aY,iq,hja,WL,g]
    rw[e1,e2,q];exact .v _ _ (.c _ _ (.ptr b _ 0 q)))
 refine a9.mono λen w' hh=>?_
 obtain⟨v,η',rfl,B⟩:=hh;refine⟨v,rfl,B.stp.mono λb _ hM=>?_,λη2 C2=>?_⟩
 .obtain ⟨i,t,d,a5,_⟩:=hM
  obtain⟨_,rfl⟩:=h i t d;cases a5
 .have hX:∀ b,XS (Qh (ZK cs) Y Q fun k=>η (cids.getD k 0)) (ls (ZK cs)) η' b↔Q b:=by
   have H:∀i t,ls (ZK cs) i=some t -> η' i=η (cids.getD i 0):=by
    intro i t d;refine B.pn i _ ?_
    unfold ls at d;simp[Qh,d]
   intro b;constructor
   .rintro (⟨hx,_⟩|⟨i,t,d,l⟩)
    .exact hx
    .rw [H i t d]at l
     exact z b ⟨i,t,d,l⟩
   .intro hx
    rcases ly (dV (ls (ZK cs)) (λk=>η (cids.getD k 0)) b)with T|T
    .obtain ⟨i,t,d,l⟩:=T
     exact .inr ⟨i,t,d,by rw[H i t d];exact l⟩
    .exact .inl ⟨hx,T⟩
  exact(B.res.mono (η':=η') (λb _ hx=>⟨rfl,λb4=>hx ((hX b).2 b4)⟩) (λ_ _=>rfl)).free (hres args r hF)
class aN (α:Type) where
 cells:α->Ψ
 es:Nat
 d:α
 len:∀x,(cells x).length=es
section
variable {α:Type}[aN α]
def LF(l:List α)(i:Nat):Ψ:=aN.cells (l.getD i aN.d)
def DL(l:List α):aH:=.lst l.length (LF l)
def AL(l:List α):ai:=.v (.c (.d (DL l)))
def AO(l:List α):Obj:=.arr (aN.es α) l.length (LF l)
structure Is (n:Nat) (f:Δ) (l:List α):Prop where
 len_eq:n=l.length
 at_eq:∀i,i<n->f i=LF l i
theorem Is.refl(l:List α):Is l.length (LF l) l:=⟨rfl,λ_ _=>rfl⟩
theorem Is.nil:Is 0 f ([]:List α):=⟨rfl,λi a=>by omega⟩
theorem Is.app{g:Δ}{l m:List α}(h:Is n f l)(h' : Is k g m):Is (n+k) (Qu n f g) (l++m):=by
 obtain⟨b,a⟩:=h;obtain⟨d,c⟩:=h'
 subst b d;refine⟨by simp,λi j=>?_⟩
 unfold Qu LF
 by_cases hil:i<l.length
 .rw [av hil,a i hil,LF,aY,aY,iB hil]
 .rw [an hil,c _ (by omega),LF,aY,aY,iY (by omega)]
theorem Z4p{β γ:Type}{l:List β}{m:List γ}{δ:Type}{f:β->δ}{g:γ->δ}(h:l.map f=m.map g)(i:Nat):(l[i]?).map f=(m[i]?).map g:=by
 rw[<-lN, <-lN,h]
theorem Is.lit{g:Δ}(ys:List α)(h:(List.range k).map g=ys.map aN.cells:=by kernel_rfl):Is k g ys:=by
 have a:k=ys.length:=by simpa using congrArg List.length h
 refine⟨a,λi b=>?_⟩;have:=Z4p h i
 rw[m8 b,eG (by omega)]at this;simp only[iU,ld]at this
 rw[this,LF,aY,eG (by omega)];rfl
theorem Is.set{i:Nat}{l:List α}{ds:Ψ}(h:Is n f l)(hi:i<n)(y:α)(hy:YH (f i) off ds=aN.cells y:=by kernel_rfl):
  Is n (λj=>if j=i then YH (f i) off ds else f j) (l.set i y):=by
 obtain⟨a,b⟩:=h;refine⟨by simpa using a,λj c=>?_⟩
 unfold LF;rw[aY]
 by_cases hji:j=i
 .subst hji
  rw[av rfl,hy,List.getElem?_set_self (by omega)];rfl
 .rw [an hji,List.getElem?_set_ne (λh=>hji h.symm),b j c,LF,aY]
theorem Is.take{l:List α}(h:Is n f l){k:Int}(hk:k<=n):Is k.toNat f (l.take k.toNat):=by
 obtain⟨c,b⟩:=h;refine⟨by simp;omega,λj a=>?_⟩
 rw[b j (by omega),LF,LF,aY,aY,lx,av a]
theorem Is.rep{z:Ψ}(hz:z=aN.cells (aN.d:α):=by kernel_rfl):Is n (λ_=>z) (List.replicate n (aN.d:α)):=by
 refine⟨by simp,λj a=>?_⟩;rw[hz,LF,aY,List.getElem?_replicate,av a];rfl
theorem Is.len{l:List α}(h:Is n f l):∀j,j<n->(f j).length=aN.es α:=λj a=>by rw[h.at_eq j a];exact aN.len _
theorem aA.is{v:Value}{l:List α}(h:Is n f l)(hr:aA w X v (.lst n f)):aA w X v (DL l):=by
 obtain⟨k,g⟩:=h;unfold DL
 cases hr with
 |nil a cap _=>
  have:l.length=0:=k.symm
  rw[this];exact .nil a cap _
 |lst b off n cap c e fz _ es g1 g2 g3 g4 g5 g6=>
  rw[<-k];exact .lst b off n cap c e fz _ es g1 g2 g3 g4 (λi d=>by rw[<-g i d];exact g5 i d) λi j d m=>by rw[<-g i d];exact g6 i j d m
theorem J2.is{l:List α}(h:Is n f l):J2 (.arr (aN.es α) n f) (AO l):=by
 refine⟨λw X η C v k=>?_,rfl,λi a=>by cases a⟩;obtain⟨g,d⟩:=h
 unfold AO
 cases k with
 |nil ad es _=>
  have:l.length=0:=g.symm
  rw[this];exact .nil ad _ _
 |arr b n cap es c e _ g1 g2 g3 g4 g5 g6 g7=>
  rw[<-g];exact .arr b n cap _ c e _ g1 g2 g3 g4 g5 (λi a=>by rw[<-d i a];exact g6 i a) λi j a m=>by rw[<-d i a];exact g7 i j a m
theorem Wr(l:List α)(lo hi:φ)(h:(sl l.length (LF l) lo hi).2):Is (sl l.length (LF l) lo hi).1.1 (sl l.length (LF l) lo hi).1.2
  (match lo,hi with|none,none=>l|some a,none=>l.drop a.toNat|none,some b=>l.take b.toNat|some a,some b=>(l.take b.toNat).drop a.toNat):=by
 cases lo with
 |none=>cases hi with
  |none=>exact .refl l
  |some b=>exact(Is.refl l).take h.2
 |some a=>cases hi with
  |none=>
   refine⟨by simp[sl],λi hi=>?_⟩;simp only[sl,LF,aY,m6]
  |some b=>
   simp only[sl]at h;refine⟨by simp only[sl,lu,fE];omega,λi hi=>?_⟩
   simp only[sl]at hi;simp only[sl,LF,aY,m6,lx]
   grind
end
def U6(x y:CV):Prop:=(∀w X η C v,aX w X η C v x->aX w X η C v y)/\∀i∈y.refs,i∈x.refs
theorem U6.refl(x:CV):U6 x x:=⟨λ_ _ _ _ _ h=>h,λ_ h=>h⟩
theorem U6.lst{α:Type}[aN α]{l:List α}(h:Is n f l):U6 (.d (.lst n f)) (.d (DL l)):=
 ⟨λw X η C v a=>by cases a with|d _ _ a=>exact .d _ _ (a.is h),λi b=>by cases b⟩
theorem U6.fl{α:Type}[aN α]{l:List α}(h:Is n f l):U6 (.fl n f) (.d (DL l)):=
 ⟨λw X η C v a=>by cases a with|fl _ _ _ a=>exact .d _ _ (a.is h),λi b=>by cases b⟩
theorem S6{α:Type}[aN α]{l:List α}(h:Is n f l):U6 (.fl n f) (.fl l.length (LF l)):=
 ⟨λw X η C v a=>by
  cases a with
  |fl _ _ _ a=>
   have:=a.is h
   unfold DL at this;have b:=h.len_eq
   subst b;exact .fl _ _ _ this,λi c=>by cases c⟩
def Gc:List CV->List CV->Prop
 |[],[]=>True
 |x::xs,y::ys=>U6 x y/\Gc xs ys
 |_,_=>False
theorem Gc.spec(h:Gc xs ys):xs.length=ys.length/\(∀j,U6 (xs.getD j (.d .any)) (ys.getD j (.d .any)))/\∀i∈ys.flatMap CV.refs,i∈xs.flatMap CV.refs:=by
 induction xs generalizing ys with
 |nil=>cases ys with
  |nil=>exact⟨rfl,λj=>U6.refl _,λi a=>a⟩
  |cons y ys=>exact h.elim
 |cons x xs ih=>cases ys with
  |nil=>exact h.elim
  |cons y ys=>
   obtain⟨b,f⟩:=h;obtain⟨g,c,k⟩:=ih f
   refine⟨by simp[g],λj=>?_,λi a=>?_⟩
   .cases j with
    |zero=>exact b
    |succ j=>exact c j
   .simp only[ir,dv]at a⊢
    rcases a with a|a
    .exact .inl (b.2 i a)
    all_goals grind
theorem Gc.rep(h:Gc xs ys)(hv:Qj w X η C vs xs):Qj w X η C vs ys:=by
 obtain⟨a,b,_⟩:=h.spec;exact⟨hv.1.trans a,λj c=>(b j).1 _ _ _ _ _ (hv.2 j (by omega))⟩
def Rj(x y:TV):Prop:=(∀w X η C v,dy w X η C v x->dy w X η C v y)/\∀i∈y.refs,i∈x.refs
theorem Rj.c{x:CV}(h:U6 x y):Rj (.c x) (.c y):=⟨λw X η C v a=>by cases a with|c _ _ a=>exact .c _ _ (h.1 _ _ _ _ _ a),h.2⟩
theorem Rj.g(h:Gc xs ys):Rj (.g xs) (.g ys):=⟨λw X η C v a=>by cases a with|g _ _ a=>exact .g _ _ (h.rep a),h.spec.2.2⟩
theorem Z5.v{x y:TV}(h:Rj x y):Z5 (.v x) (.v y):=⟨λw X η C v a=>by cases a with|v _ _ a=>exact .v _ _ (h.1 _ _ _ _ _ a),h.2⟩
theorem Z5.c{x:CV}(h:U6 x y):Z5 (.v (.c x)) (.v (.c y)):=.v (.c h)
theorem Z5.g(h:Gc xs ys):Z5 (.v (.g xs)) (.v (.g ys)):=.v (.g h)
theorem J2.box{ro:Bool}(h:Gc xs ys):J2 (.box ro xs) (.box ro ys):=
 ⟨λw X η C v a=>by cases a with|box b _ c e _ h1 h2=>exact .box b ro c e _ h1 (h.rep h2),rfl,h.spec.2.2⟩
theorem Z5.lst{α:Type}[aN α]{l:List α}(h:Is n f l):Z5 (.v (.c (.d (.lst n f)))) (AL l):=.c (.lst h)
theorem Z5.bool{c:Bool}(h:b=c):Z5 (vb b) (vb c):=.of_eq (congrArg vb h)
def FE:Γ->Γ->Prop
 |[],[]=>True
 |(t,x)::E,(u,y)::E'=>t=u/\Z5 x y/\FE E E'
 |_,_=>False
def Rw:ι->ι->Prop
 |[],[]=>True
 |(t,x)::E,(u,y)::E'=>t=u/\J2 x y/\Rw E E'
 |_,_=>False
theorem FE.lk(h:FE E E')(t:Nat):Z5 (lk E t) (lk E' t):=by
 induction E generalizing E' with
 |nil=>cases E' with
  |nil=>exact Z5.refl _
  |cons p r=>exact h.elim
 |cons p r ih=>cases E' with
  |nil=>exact h.elim
  |cons q s=>
   obtain⟨b,c,a⟩:=h;have:=ih a
   unfold Ab.lk at this⊢
   grind
theorem Rw.ls(h:Rw S S')(i:Nat)(o' : Obj)(hi:ls S' i=some o'):∃o,ls S i=some o/\J2 o o':=by
 induction S generalizing S' with
 |nil=>cases S' with
  |nil=>cases hi
  |cons p r=>exact h.elim
 |cons p r ih=>cases S' with
  |nil=>exact h.elim
  |cons q s=>
   obtain⟨b,c,a⟩:=h;have:=ih a
   unfold Ab.ls at this hi⊢
   grind
theorem Jf(E' : Γ)(S' : ι)(hE:FE E E')(hS:Rw S S')(h:Kn C nt E' S' K):Kn C nt E S K:=by
 intro R η a w c;refine h R (λi=>η i) a w (c.conv (λi=>i) (λt=>by rw[RB];exact hE.lk t) (λi x b=>?_) (λi j b f d=>d) (λu i b=>c.er u i ((hE.lk u).2 i b)) (λi x b=>?_) (λi b=>?_))
 .rw [Rs];exact hS.ls i x b
 .obtain ⟨o,k,g⟩:=hS.ls i x b
  have:=c.sr i o k
  exact⟨this.1,λj f=>this.2 j (g.2.2 j f)⟩
 .obtain ⟨v,l⟩:=dS.1 b
  exact⟨rfl,(c.pn i v l).2⟩
theorem Fr.pinsB(Fm:Fr P L C pins){ρ:List (Nat×Nat)}(h:pins.all (λi=>J1 ρ i==i)=true):pinsB C (J1 ρ):=λi a=>by
 have:=en.1 h i (Fm.pin i a)
 grind
theorem gR(Fm:Fr P L C pins)(ρ:List (Nat×Nat))(E' : Γ)(S' : ι)(hp:pins.all (λi=>J1 ρ i==i)=true)(hE:E'.map (λp=>lk E p.1)=E'.map (λp=>p.2.ren (J1 ρ)))(hS:S'.map (λp=>ls S (J1 ρ p.1))=S'.map (λp=>some (p.2.ren (J1 ρ))))(hinj:Yr (S'.map λp=>J1 ρ p.1)=true)(h:Kn C nt E' S' K):Kn C nt E S K:=
 Z9l ρ (Fm.pinsB hp) hE hS hinj h
def CV.frz(k n:Nat)(f:Δ):CV->CV
 |.own i=>if i=k then .d (.lst n f)else .own i
 |.ap i=>if i=k then .d (.lst n f)else .ap i
 |x=>x
def TV.frz(k n:Nat)(f:Δ):TV->TV
 |.c x=>.c (x.frz k n f)
 |.g xs=>.g (xs.map (CV.frz k n f))
def ai.frz(k n:Nat)(f:Δ):ai->ai
 |.any=>.any
 |.v x=>.v (x.frz k n f)
 |.t xs=>.t (xs.map (TV.frz k n f))
def Obj.frz(k n:Nat)(f:Δ):Obj->Obj
 |.box ro cs=>.box ro (cs.map (CV.frz k n f))
 |o=>o
section
variable {f:Δ}
theorem aX.frz{v:Value}{x:CV}(h:aX w X η C v x)(hX:∀b,¬X b->¬X' b)(hk:aA w X' (η k) (.lst n f)):aX w X' η C v (x.frz k n f):=by
 have a:∀b,b<w.heap.size->¬X b->w.heap[b]?=w.heap[b]? /\ ¬X' b:=λb _ o=>⟨rfl,hX b o⟩
 cases h with
 |d _ _ h=>exact .d _ _ (h.mono a)
 |fl _ _ _ h=>exact .fl _ _ _ (h.mono a)
 |own _ i h h1=>
  simp only[CV.frz];split
  .rename_i m;subst m;rw[h];exact .d _ _ hk
  .exact .own _ _ h h1
 |ptr _ _ _ h=>exact .ptr _ _ _ h
 |pte _ _ _ _ _ _ _ h=>exact .pte _ _ _ _ _ _ _ h
 |sub b N cap _ es lo n h h1 h2=>exact .sub b N cap _ es lo n h h1 h2
 |subN ad ad' N _ es h=>exact .subN ad ad' N _ es h
 |elm b off c e fz cs h1 h2 h3 h4=>exact .elm b off c e fz cs (hX _ h1) h2 h3 λj g=>(h4 j g).mono a
 |clo _ _ _ h=>exact .clo _ _ _ h
 |sem _ _ h h1=>exact .sem _ _ h h1
 |ap v i h h1=>
  simp only[CV.frz];split
  .rename_i m
   subst m;rcases h with h|h|⟨l,h⟩
   .rw [<-h];exact .d _ _ hk
   .rw [h]at hk;cases hk
   .rw [h]at hk;cases hk
  .exact .ap _ _ h h1
 |bnd f vs cs h1 h2=>exact .bnd f vs cs h1 λj g=>(h2 j g).mono a
 |cp _ id j vs h h1 h2=>exact .cp _ id j vs h h1 h2
theorem Qj.frz(h:Qj w X η C vs cs)(hX:∀b,¬X b->¬X' b)(hk:aA w X' (η k) (.lst n f)):Qj w X' η C vs (cs.map (CV.frz k n f)):=by
 refine⟨by simpa using h.1,λj c=>?_⟩;have a : j<cs.length:=by simpa using c
 have:=(h.2 j a).frz hX hk
 grind
theorem dy.frz{v:Value}{x:TV}(h:dy w X η C v x)(hX:∀b,¬X b->¬X' b)(hk:aA w X' (η k) (.lst n f)):dy w X' η C v (x.frz k n f):=by
 cases h with
 |c _ _ h=>exact .c _ _ (h.frz hX hk)
 |g _ _ h=>exact .g _ _ (h.frz hX hk)
theorem aQ.frz{v:Value}{x:ai}(h:aQ w X η C v x)(hX:∀b,¬X b->¬X' b)(hk:aA w X' (η k) (.lst n f)):aQ w X' η C v (x.frz k n f):=by
 cases h with
 |any=>exact .any v
 |v _ _ h=>exact .v _ _ (h.frz hX hk)
 |t us xs h1 h2=>
  refine .t us _ (by simpa using h1) λj c=>?_
  have a : j<xs.length:=by simpa using c
  have:=(h2 j a).frz hX hk
  grind
theorem db.frz{v:Value}{o:Obj}(h:db w X η C v o)(hX:∀b,¬X b->¬X' b)(hk:aA w X' (η k) (.lst n f)):db w X' η C v (o.frz k n f):=by
 cases h with
 |box b ro c e cs h1 h2=>exact .box b ro c e _ h1 (h2.frz hX hk)
 |nil ad es f=>exact .nil ad es f
 |arr b n cap es c e f h1 h2 h3 h4 h5 h6 h7=>exact .arr b n cap es c e f h1 h2 h3 h4 h5 h6 λi j g d=>(h7 i j g d).mono λb _ a=>⟨rfl,hX b a⟩
 |ext _ p h1 h2 h3=>exact .ext _ p (h2 w w X X' (λb _ a=>⟨rfl,hX b a⟩) (λ_ _=>rfl) h1) h2 h3
 |exr _ refs p h1 h2 h3=>exact .exr _ refs p (h2 w w X X' (λb _ a=>⟨rfl,hX b a⟩) (λ_ _=>rfl) h1) h2 h3
theorem PD{α β:Type}{fr:α->υ}{gr:β->υ}{g:α->β}{l:List α}(h:∀x,∀j∈gr (g x),j∈fr x):∀j∈(l.map g).flatMap gr,j∈l.flatMap fr:=by
 grind
theorem ji(x:CV):∀j∈(x.frz k n f).refs,j∈x.refs:=by
 cases x<;>simp only[CV.frz]<;>try exact λj a=>a
 all_goals
  split
  .intro j a;cases a
  .exact λj a=>a
theorem wm(x:TV):∀j∈(x.frz k n f).refs,j∈x.refs:=by
 cases x with
 |c x=>exact ji x
 |g xs=>exact PD ji
theorem Y0m(x:ai):∀j∈(x.frz k n f).refs,j∈x.refs:=by
 cases x with
 |any=>exact λj a=>a
 |v x=>exact wm x
 |t xs=>exact PD wm
theorem Z9i(o:Obj):∀j∈(o.frz k n f).refs,j∈o.refs:=by
 cases o with
 |box ro cs=>exact PD ji
 |arr es n f=>exact λj a=>a
 |ext p=>exact λj a=>a
 |exr refs p=>exact λj a=>a
end
theorem Ff{g:ai->ai}(hg:g .any=.any)(E:Γ)(t:Nat):lk (E.map λp=>(p.1,g p.2)) t=g (lk E t):=by
 unfold lk
 induction E with
 |nil=>exact hg.symm
 |cons p r ih=>
  grind
theorem Jz{g:Obj->Obj}(S:ι)(i:Nat):ls (S.map λp=>(p.1,g p.2)) i=(ls S i).map g:=by
 unfold ls
 induction S with
 |nil=>rfl
 |cons p r ih=>
  grind
theorem Z9v(E' : Γ)(S' : ι)(hE:E.map (λp=>(p.1,p.2.frz k n f))=E')(hS:S.map (λp=>(p.1,p.2.frz k n f))=S')(hk:(S.map (·.1)).contains k=false)(h:Kn C nt E' S' K):Kn C nt E ((k,.arr es n f)::S) K:=by
 subst hE hS;intro R η a w m
 have A:ls ((k,.arr es n f)::S) k=some (.arr es n f):=by unfold ls;rw[iw];simp
 have G:ls S k=none:=by
  cases ho:ls S k with
  |none=>rfl
  |some o=>
   have:k∈S.map (·.1):=eF.2 ⟨_,y6 ho,rfl⟩
   grind
 have l:∀i o,ls S i=some o->ls ((k,.arr es n f)::S) i=some o/\i≠k:=by
  intro i o d;have r:i≠k:=by intro h;rw[h,G]at d;cases d
  refine⟨?_,r⟩;unfold ls;rw[iw]
  have:(i==k)=false:=by simpa using r
  rw[this];exact d
 have y:∀b,dV (ls (S.map λp=>(p.1,p.2.frz k n f))) η b->dV (ls S) η b:=by
  rintro b ⟨i,N,d,q⟩;rw[Jz]at d
  cases ho:ls S i with
  |none=>rw[ho]at d;cases d
  |some o=>exact⟨i,o,ho,q⟩
 have M:∀b,¬XS C (ls ((k,.arr es n f)::S)) η b->¬XS C (ls (S.map λp=>(p.1,p.2.frz k n f))) η b:=by
  intro b v J;rcases J with x|x
  .exact v (.inl x)
  .obtain ⟨i,o,d,q⟩:=y b x
   exact v (.inr ⟨i,o,(l i o d).1,q⟩)
 have T:∀b,b<w.heap.size->¬XS C (ls ((k,.arr es n f)::S)) η b->w.heap[b]?=w.heap[b]? /\ ¬XS C (ls (S.map λp=>(p.1,p.2.frz k n f))) η b:=λb _ v=>⟨rfl,M b v⟩
 have F:∀b,b∈Y9 (η k)->¬XS C (ls (S.map λp=>(p.1,p.2.frz k n f))) η b:=by
  intro b v x;rcases x with ⟨x,U⟩|x
  .rcases m.ow k _ b A v with ⟨z,_⟩|V|W
   .cases z
   .exact U (m.ok.md b V)
   .have:=m.ok.lt b x;omega
  .obtain ⟨i,o,d,q⟩:=y b x
   obtain⟨I,H⟩:=l i o d;exact H (m.ds i k b (by rw[I];simp) (by rw[A];simp) q v)
 have B:aA w (XS C (ls (S.map λp=>(p.1,p.2.frz k n f))) η) (η k) (.lst n f):=by
  have:=m.st k _ A
  generalize hu:η k=u at this F
  cases this with
  |nil ad es f=>exact .nil ad 0 f
  |arr b n cap es c e f I H h3 h4 h5 h6 h7=>
   have v:¬XS C (ls (S.map λp=>(p.1,p.2.frz k n f))) η b:=F b (by simp[Y9];omega);refine .lst b 0 n cap c e _ f es v I h3 (by rw[H,eH];exact eu _ h3) h6 λi j d D=>?_
   rw[eH];exact(h7 i j d D).mono T
 refine h R η a w ⟨m.ok,m.df,m.sz,λt=>?_,λt i d=>?_,λi N d=>?_,λi N d=>?_,λi j b d D=>?_,λi N b d=>?_,m.fr,m.pn⟩
 .rw [Ff (g:=ai.frz k n f) rfl]
  exact(m.ev t).frz M B
 .rw [Ff (g:=ai.frz k n f) rfl]at d
  exact m.er t i (Y0m _ i d)
 .rw [Jz]at d
  cases ho:ls S i with
  |none=>rw[ho]at d;cases d
  |some o=>
   rw[ho]at d;cases d
   exact(m.st i o (l i o ho).1).frz M B
 .rw [Jz]at d
  cases ho:ls S i with
  |none=>rw[ho]at d;cases d
  |some o=>
   rw[ho]at d;cases d
   have:=m.sr i o (l i o ho).1
   exact⟨this.1,λj D=>this.2 j (Z9i o j D)⟩
 .have r:∀ i,ls (S.map fun p=>(p.1,p.2.frz k n f)) i≠none->ls ((k,.arr es n f)::S) i≠none:=by
   intro i d O;apply d
   rw[Jz]
   cases ho:ls S i with
   |none=>rfl
   |some o=>rw[(l i o ho).1]at O;cases O
  exact m.ds i j b (r i d) (r j D)
 .rw [Jz]at d
  cases ho:ls S i with
  |none=>rw[ho]at d;cases d
  |some o=>
   rw[ho]at d;cases d
   have z:(o.frz k n f).ro=o.ro:=by cases o<;>rfl
   rw[z];exact m.ow i o b (l i o ho).1
def gd{R:Type}(p:Prop)[Decidable p](x:Option R):Option R:=if p then x else none
theorem Zf{R:Type}{p:Prop}[Decidable p]{x:Option R}{r:R}(h:gd p x=some r):p/\x=some r:=by
 unfold gd at h
 grind
theorem YQ{α R:Type}{x:Option α}{f:α->Option R}{r:R}(h:x.bind f=some r):∃z,x=some z/\f z=some r:=by
 cases x with
 |none=>cases h
 |some z=>exact⟨z,rfl,h⟩
def br{R:Type}(b:Bool)(x y:Option R):Option R:=match b with|true=>x|false=>y
theorem Z7X{R:Type}{x y:Option R}{r:R}(h:br b x y=some r)(hb:b=true):x=some r:=by subst hb;exact h
theorem Z7Z{R:Type}{x y:Option R}{r:R}(h:br b x y=some r)(hb:b=false):y=some r:=by subst hb;exact h
def Y4{σ R:Type}(body:(σ->Option R)->σ->Option R):Nat->σ->Option R
 |0,_=>none
 |n+1,z=>body (Y4 body n) z
theorem OH{σ R:Type}{r:R}{x y:Code}(f:σ->Option R)(E' : σ->Γ)(S' : σ->ι)(hy:∀z,f z=some r->AW P C nt y (E' z) (S' z) Q)(hx:∀J:Act->World->Prop,(∀z,f z=some r->Kn C nt (E' z) (S' z) J)->AW P C nt x E S (Exit.then J Q)):AW P C nt (.seq x y) E S Q:=
 B8 (hx _ λz a=>hy z a)
theorem Iv{σ R:Type}{r:R}{c:Code}{body:(σ->Option R)->σ->Option R}(E' : σ->Γ)(S' : σ->ι)(round:∀(again:σ->Option R) (z:σ) (J:Act->World->Prop),(∀z',again z'=some r->Kn C nt (E' z') (S' z') J)->body again z=some r->AW P C nt c (E' z) (S' z) (Exit.then J Q)){z0:σ}(h:Y4 body n z0=some r):AW P C nt (.loop c) (E' z0) (S' z0) Q:=by
 refine Nf (σ:=Nat×σ) (λp=>Y4 body p.1 p.2=some r) (λp=>p.1) (λp=>E' p.2) (λp=>S' p.2) (λp b=>?_) (n,z0) h;obtain⟨m,z⟩:=p
 cases m with
 |zero=>cases b
 |succ m=>
  refine round (Y4 body m) z _ (λz' a=>?_) b;exact Z9w (I:=λp:Nat×σ=>Y4 body p.1 p.2=some r/\p.1<m+1) (E':=λp=>E' p.2) (S':=λp=>S' p.2) (m,z') ⟨a,Nat.lt_succ_self m⟩
def J0(L:dj)(ops:Array Oper):List Oper->List dH->U5->U8->Nat->U5
 |o::os,d::ds,e,s,k+1=>J0 L ops os ds (ZN o.dst (Vi L ops o d e s).v e) (ZR (Vi L ops o d e s).l s) k
 |_,_,e,_,_=>e
def QC(L:dj)(ops:Array Oper):List Oper->List dH->U5->U8->Nat->U8
 |o::os,d::ds,e,s,k+1=>QC L ops os ds (ZN o.dst (Vi L ops o d e s).v e) (ZR (Vi L ops o d e s).l s) k
 |_,_,_,s,_=>s
def Y6:List Oper->Nat->Oper
 |[],_=>default
 |o::_,0=>o
 |_::os,k+1=>Y6 os k
@[reducible] def IT(ops:Array Oper)(k:Nat):Oper:=Y6 ops.toList k
@[reducible] def No(L:dj)(ops:Array Oper)(ds:List dH)(e:U5)(s:U8)(k:Nat):U5:=J0 L ops ops.toList ds e s k
@[reducible] def OF(L:dj)(ops:Array Oper)(ds:List dH)(e:U5)(s:U8)(k:Nat):U8:=QC L ops ops.toList ds e s k
def Ql:List dH->Nat->Array Oper->Oper->U5->eJ
 |.k f::_,0=>f
 |_::ds,k+1=>Ql ds k
 |_,_=>λ_ _ _=>default
def J9(P:Program)(C:da)(nt:Nat)(L:dj)(ops:Array Oper)(ds:List dH)(e:U5)(s:U8)(k:Nat):Prop:=
 WE P C nt ops (IT ops k) (Ql ds k ops (IT ops k) (No L ops ds e s k)) (No L ops ds e s k) (OF L ops ds e s k)
theorem ID(Fm:Fr P L C pins)(ds:List dH)(ρ:List (Nat×Nat))(c:ξ->Prop)(E' : Γ)(S' : ι)(hc:c (J9 P C nt L ops ds (lk E) (ls S)))(hchk:LX L pins nt ops draw ds E S ρ S'=true)(hC:KT P C nt L ops ops.toList ds (lk E) (ls S)=c (J9 P C nt L ops ds (lk E) (ls S)))(he0:E'.map (λp=>JH ops.toList (VW L ops ops.toList ds (lk E) (ls S)) (lk E) p.1)=E'.map (λp=>p.2.ren (J1 ρ)))(hs0:S'.map (λp=>JG (VW L ops ops.toList ds (lk E) (ls S)) (ls S) (J1 ρ p.1))=S'.map (λp=>some (p.2.ren (J1 ρ))))(k:Kn C nt E' S' (Q .normal)):AW P C nt (.region id ops draw) E S Q:=IE Fm ds ρ hchk (hC ▸ hc) he0 hs0 k
def Bn(o:Oper):Bool:=match o.op with|.call {callee:=.value _,..}=>true|_=>false
def UZ(o:Oper):Operand:=match o.op with|.call {callee:=.value fx,..}=>fx|_=>.const undef
def callXs(o:Oper):Array Operand:=match o.op with|.call {callee:=.value _,args,..}=>args|_=> #[]
theorem Mo(h:Bn o=true):∃tys,o.op=.call {callee:=.value (UZ o),args:=callXs o,argTypes:=tys}:=by
 unfold Bn at h;split at h
 .rename_i c b tys a
  exact⟨tys,by simp only[UZ,callXs,a]⟩
 .cases h
def cE(m:List (Nat×Nat))(extra:υ)(r:ai)(Si So:ι):Array Oper->Oper->U5->eJ:=λops o e=>qb ops o e (J1 m) extra r Si So
def sE(r:ai):Array Oper->Oper->U5->eJ:=λops o e=>Kk ops o e r
def Gd(C:da)(nt:Nat)(e:U5)(s:U8)(Si:ι)(m:Nat->Nat)(rd ids:υ):List Operand->List ai->Prop
 |[],[]=>True
 |x::xs,y::ys=>YU C nt e s Si m rd ids x y/\Gd C nt e s Si m rd ids xs ys
 |_,_=>False
theorem Gd.spec{C:da}{nt:Nat}{e:U5}{s:U8}{Si:ι}{m:Nat->Nat}{rd ids:υ}{xs:List Operand}{ys:List ai}(h:Gd C nt e s Si m rd ids xs ys):
  xs.length=ys.length/\∀j,j<ys.length->YU C nt e s Si m rd ids (xs.getD j (.const undef)) (ys.getD j .any):=by
 induction xs generalizing ys with
 |nil=>cases ys with
  |nil=>exact⟨rfl,λj a=>by simp at a⟩
  |cons y ys=>exact h.elim
 |cons x xs ih=>cases ys with
  |nil=>exact h.elim
  |cons y ys=>
   obtain⟨b,c⟩:=h
   grind
theorem qy{C:da}{nt:Nat}{e:U5}{s:U8}{Si:ι}{m:Nat->Nat}{rd ids:υ}:∀{xs:List Operand} {ys:List ai},xs.all (Qt rd)=true->ys.all ai.noSem=true->xs.map (Y3 e)=ys.map (ai.ren m)->Gd C nt e s Si m rd ids xs ys
 |[],[],_,_,_=>trivial
 |[],_::_,_,_,h=>by cases h
 |_::_,[],_,_,h=>by cases h
 |x::xs,y::ys,h1,h2,h3=>by
  simp only[m7,dc]at h1 h2;simp only[eP,lB]at h3
  exact⟨Rz (Z5.of_eq h3.1) h1.1 h2.1,qy h1.2 h2.2 h3.2⟩
def FH(f:Nat):ai->Bool
 |.v (.c (.clo g []))=>g==f
 |_=>false
theorem xM{f:Nat}{x:ai}(h:FH f x=true):x=.v (.c (.clo f [])):=by
 unfold FH at h
 grind
def callB(ops:Array Oper)(nt:Nat)(e:U5)(o:Oper)(f:Nat)(m:List (Nat×Nat))(r:ai)(Si So:ι):Bool:=
 Bn o&&FH f (Y3 e (UZ o))&&Qt (Qs o++Qk ops o) (UZ o)&&WD (J1 m) r Si So&&QM nt o&&(Ze ops e o==some true)
theorem uN{f:Nat}(hspec:J7 P f args Si r So)(hcall:∀ args w,(callFunc f args).run P w=.ok (.enter f args) w)(m:List (Nat×Nat))(extra:υ)(hk:Ql ds k=cE m extra r Si So)(hb:callB ops nt (No L ops ds e s k) (IT ops k) f m r Si So=true)(hsi:Si.map (fun p=>QC L ops ops.toList ds e s k (J1 m p.1))=Si.map (fun p=>some (p.2.ren (J1 m))))(hargs:Gd C nt (No L ops ds e s k) (OF L ops ds e s k) Si (J1 m) (Qs (IT ops k)++Qk ops (IT ops k)) (WA (No L ops ds e s k) (IT ops k)++(Si.map (fun p=>J1 m p.1)++extra))
   (callXs (IT ops k)).toList args):J9 P C nt L ops ds e s k:=by
 unfold J9;rw[hk]
 simp only[callB,dc]at hb;obtain⟨⟨⟨⟨⟨c,l⟩,o⟩,d⟩,h⟩,u⟩:=hb
 obtain⟨t,a⟩:=Mo c;obtain⟨q,g⟩:=hargs.spec
 exact H8 hcall a (xM l) o hspec (by simpa using q) (J1 m) extra (λj i=>g j i) (λp b=>⟨_,JC hsi p b,J2.refl _⟩) d h (by simpa using u)
theorem Eo{f:Nat}(hspec:J7 P f args Si r So)(hcall:∀args w,(callFunc f args).run P w=.ok (.enter f args) w)(m:List (Nat×Nat))(hk:Ql ds k=cE m [] r Si So)(hb:callB ops nt (No L ops ds e s k) (IT ops k) f m r Si So=true)(hsi:Si.map (λp=>QC L ops ops.toList ds e s k (J1 m p.1))=Si.map (λp=>some (p.2.ren (J1 m))))(hrd:((callXs (IT ops k)).toList.all (Qt (Qs (IT ops k)++Qk ops (IT ops k)))&&args.all ai.noSem)=true)(hargs:(callXs (IT ops k)).toList.map (Y3 (No L ops ds e s k))=args.map (ai.ren (J1 m))):J9 P C nt L ops ds e s k:=by
 rw[dc]at hrd;exact uN hspec hcall m [] hk hb hsi (qy hrd.1 hrd.2 hargs)
def wO(ops:Array Oper)(nt:Nat)(e:U5)(o:Oper)(args:List ai)(r:ai):Bool:=
 Bn o&&Qt (Qs o++Qk ops o) (UZ o)&&(callXs o).toList.all (Qt (Qs o++Qk ops o))&&args.all ai.closed&&r.closed&&QM nt o&&(Ze ops e o==some true)
theorem Vd(hF:F args r)(hk:Ql ds k=sE r)(hb:wO ops nt (No L ops ds e s k) (IT ops k) args r=true:=by kernel_rfl)(hfx:Y3 (No L ops ds e s k) (UZ (IT ops k))=YG P F:=by kernel_rfl)(hargs:(callXs (IT ops k)).toList.map (Y3 (No L ops ds e s k))=args:=by kernel_rfl):J9 P C nt L ops ds e s k:=by
 unfold J9;rw[hk]
 simp only[wO,dc]at hb;obtain⟨⟨⟨⟨⟨⟨d,l⟩,o⟩,g⟩,h⟩,u⟩,p⟩:=hb
 obtain⟨q,a⟩:=Mo d;have b:(callXs (IT ops k)).size=args.length:=by rw[<-hargs];simp
 refine Q8T a hfx hF b ⟨l,λx t=>en.1 o x t⟩ (λj c=>?_) h u (by simpa using p);have i : j<(callXs (IT ops k)).toList.length:=by simpa[b]using c
 have m:Y3 (No L ops ds e s k) ((callXs (IT ops k)).toList.getD j (.const undef))=args.getD j .any:=by
  grind
 exact⟨Z5.of_eq m,en.1 g _ (YN c)⟩
instance (n:Int):Decidable (Q7 n):=inferInstanceAs (Decidable (_/\_))
def gl{α:Type}[aN α](l:List α)(i:Nat):α:=l.getD i aN.d
def y7(es:Nat)(ds:Ψ)(i:Nat):Ψ:=(ds.drop (i*es)).take es
theorem J8{i:Int}(h:0<=i/\i<(n:Int)):i.toNat<n:=by omega
theorem FE.refl:∀E:Γ,FE E E
 |[]=>trivial
 |(_,_)::E=>⟨rfl,Z5.refl _,FE.refl E⟩
instance:aN Int:=⟨λx=>[.int .i64 x],1,0,λ_=>rfl⟩
instance:aN Bool:=⟨λx=>[.bool x],1,false,λ_=>rfl⟩
instance:aN ByteArray:=⟨λx=>[.str x],1,ByteArray.empty,λ_=>rfl⟩
instance {α:Type} [aN α]:aN (List α):=⟨λx=>[DL x],1,[],λ_=>rfl⟩
theorem Kd(hr:r.refs=[])(hdo:QM nt o=true)(hg:Ze ops e o=some true)(hex:∀ (R:ξ) (η:Nat->Value) (e0:U5) (s0:U8) (a:Act) (w:World),(∀ t ∈ Qs o++Qk ops o,e0 t=e t)->aK C nt R η e0 s0 a w->∃ v,(execOp a.eval o).run P w=.ok (.value v) w/\aQ w (XS C s0 η) η C v r):
  WE P C nt ops o (Kk ops o e r) e s:=by
 intro R η e0 s0 a w c h x d K Q A;have z:=UE (e:=e) d (λt p=>c t (dv.2 (.inr p))) hg
 rw[av z];obtain⟨v,q,b⟩:=hex R η e0 s0 a w c d
 unfold Oper.wp;rw[q]
 show K (a.put o.dst v) w;refine A η _ w ?_
 have:=d.val o.dst (YO hdo) r v λ_=>⟨b,λj g=>by rw[hr]at g;cases g⟩
 have m:ZR (Kk ops o e r).l s0=s0:=by funext i;rfl
 rw[m];have y:ZN o.dst (Kk ops o e r).v e0=SR.env {v:=r} o.dst e0:=rfl
 rw[y];exact this.wider λi u=>.inl u
def kI(d:TypeDesc)(x y:CV):π:=
 match d,x,y with
 |.int _,.d (.int k a),.d (.int k' b)=>if k=k' then some (a==b)else none
 |.bool,.d (.bool a),.d (.bool b)=>some (a==b)
 |.string,.d (.str a),.d (.str b)=>some (a.toList==b.toList)
 |_,_,_=>none
def Lt(P:Program)(xs ys:List CV):List Field->π
 |[]=>some true
 |f::fs=>if f.name= "_" then none else match P.underlying f.type,xs[f.offset]?,ys[f.offset]?,Lt P xs ys fs with
  |some d,some x,some y,some c=>match kI d x y with
   |some b=>some (b&&c)
   |none=>none
  |_,_,_,_=>none
theorem NK{x:CV}(h:kI d x y=some b){u v:Value}(hu:aX w X η C u x)(hv:aX w X η C v y)(ht:P.underlying t=some d)(n:Nat):
  (isAgg t).run P w1=.ok false w1/\(Op.equalIn (n+1) t u v).run P w1=.ok b w1:=by
 unfold kI at h;split at h
 .split at h
  .cases h
   rename_i a
   subst a
   cases hu with|d _ _ hu=>cases hu with|int=>
   cases hv with|d _ _ hv=>cases hv with|int=>
   exact⟨by simp[isAgg,ef ht],run_equalIn_int _ _ _ _ _ _ _ ht⟩
  .cases h
 .cases h
  cases hu with|d _ _ hu=>cases hu with|bool=>
  cases hv with|d _ _ hv=>cases hv with|bool=>
  exact⟨by simp[isAgg,ef ht],run_equalIn_bool' _ _ _ _ _ ht⟩
 .cases h
  cases hu with|d _ _ hu=>cases hu with|str=>
  cases hv with|d _ _ hv=>cases hv with|str=>
  exact⟨by simp[isAgg,ef ht],run_equalIn_string _ _ _ _ _ ht⟩
 .cases h
theorem u5(h:Qj w X η C vs xs){x:CV}(hx:xs[j]?=some x):∃v,vs[j]?=some v/\aX w X η C v x:=by
 have b:j<xs.length:=(lH.1 hx).1;have a : j<vs.size:=by rw[h.1];exact b
 refine⟨vs[j],iD a,?_⟩;have:=h.2 j b
 rw[aY,hx]at this;simpa[hU,iD a]using this
theorem rk{w:World}{X:ξ}{η:Nat->Value}{xs ys:List CV}{us vs:Ξ}(hu:Qj w X η C us xs)(hv:Qj w X η C vs ys)(n:Nat)(w1:World):∀(fs:List Field) (b:Bool),Lt P xs ys fs=some b->(Op.eqFields (n+1) us vs fs).run P w1=.ok b w1
 |[],b,h=>by cases h;simp[Op.eqFields]
 |f::fs,b,h=>by
  simp only[Lt]at h;split at h
  .cases h
  .rename_i g
   split at h
   .rename_i d x y c A F G D
    split at h
    .rename_i B l
     cases h
     obtain⟨u,o,j⟩:=u5 hu F;obtain⟨v,m,i⟩:=u5 hv G
     obtain⟨p,t⟩:=NK (P:=P) (w1:=w1) l j i A n;have q:=rk hu hv n w1 fs c D
     have z:(part f.type us f.offset).run P w1=.ok u w1:=by simp[part,p,o]
     have r:(part f.type vs f.offset).run P w1=.ok v w1:=by simp[part,p,m]
     have a : f.name ≠ "_":=g;simp only[Op.eqFields,a,ne_eq,not_false_eq_true,if_true,Sem.run_bind,z,r,t,Result.andThen_ok]
     cases B with
     |true=>simpa using q
     |false=>simp
    .cases h
   .cases h
def Va(o:Oper):Operand:=match o.op with|.binOp _ _ x _ _=>x|_=>.const undef
def WZ(o:Oper):Operand:=match o.op with|.binOp _ _ _ y _=>y|_=>.const undef
def MJ(o:Oper)(t:TypeId):π:=match o.op with
 |.binOp op t' _ _ _=>if t=t' then match op with
  |.eql=>some true
  |.neq=>some false
  |_=>none else none
 |_=>none
theorem kH(h:MJ o t=some q):∃t',o.op=.binOp (if q then .eql else .neq) t (Va o) (WZ o) t':=by
 unfold MJ at h;split at h
 .rename_i op d x y b a
  split at h
  .rename_i c
   subst c;split at h
   .cases h;exact⟨b,by simp only[Va,WZ,a];rfl⟩
   .cases h;exact⟨b,by simp only[Va,WZ,a];rfl⟩
   .cases h
  .cases h
 .cases h
structure mh (P:Program) (t:TypeId):Prop where
 und:P.underlying t=some (.struct (P.fieldsOf t))
 held:P.stoodInHeld t=false
 guard:P.eqGuardType P.depth t=false
def Bv(ops:Array Oper)(nt:Nat)(e:U5)(o:Oper):Bool:=Qt (Qs o++Qk ops o) (Va o)&&Qt (Qs o++Qk ops o) (WZ o)&&QM nt o&&(Ze ops e o==some true)
theorem Rt(ht:mh P t)(q:Bool)(hk:Ql ds k=sE (vb (if q then b else !b)))(hop:MJ (IT ops k) t=some q)(hb:Bv ops nt (No L ops ds e s k) (IT ops k)=true:=by kernel_rfl)(hx:Y3 (No L ops ds e s k) (Va (IT ops k))=.v (.g xs):=by kernel_rfl)(hy:Y3 (No L ops ds e s k) (WZ (IT ops k))=.v (.g ys):=by kernel_rfl)(hfl:Lt P xs ys (P.fieldsOf t).toList=some b:=by kernel_rfl):J9 P C nt L ops ds e s k:=by
 unfold J9;rw[hk]
 simp only[Bv,dc]at hb;obtain⟨⟨⟨p,y⟩,z⟩,r⟩:=hb
 obtain⟨B,h⟩:=kH hop;refine Kd rfl z (by simpa using r) λR η A D a w l m=>⟨.bool (if q then b else !b),?_,.v _ _ (.c _ _ (.d _ _ (.bool _)))⟩
 have j:=(K3 m (Va (IT ops k))).1;rw[ZL l p,hx]at j
 have i:=(K3 m (WZ (IT ops k))).1;rw[ZL l y,hy]at i
 generalize hu:a.eval (Va (IT ops k))=u at j;generalize hv:a.eval (WZ (IT ops k))=v at i
 cases j with|v _ _ j=>cases j with|g us _ j=>
 cases i with|v _ _ i=>cases i with|g vs _ i=>
 have x:=rk (P:=P) j i 9998 w _ b hfl;have o:(Op.equalIn 10000 t (.agg us) (.agg vs)).run P w=.ok b w:=by
  rw[run_equalIn_agg w 9999 t us vs ht.und ht.held];exact x
 cases q with
 |true=>simp only[execOp,h,fJ,eX,hu,hv,run_eqGuard_agg w _ _ _ _ _ _ ht.guard,fh,run_eql_struct,o,fB]
 |false=>simp only[execOp,h,iS,fC,eX,hu,hv,run_eqGuard_agg w _ _ _ _ _ _ ht.guard,fh,run_neq_struct,o,fB]
def nbP(n:Nat):World->ξ->ξ->Value->Prop:=λ_ _ _ v=>∃b,v=.bool b/\(b=true->n=0)
def nb(n:Nat):ai:=.v (.c (.sem (nbP n)))
def aH.flat:aH->Bool
 |.int _ _=>true
 |.bool _=>true
 |.str _=>true
 |_=>false
def CV.flat:CV->Bool
 |.d x=>x.flat
 |_=>false
def TV.flat:TV->Bool
 |.c x=>x.flat
 |.g xs=>xs.all CV.flat
def ai.flat:ai->Bool
 |.any=>true
 |.v x=>x.flat
 |.t xs=>xs.all TV.flat
theorem aX.flat{v:Value}{x:CV}(h:aX w X η C v x)(hx:x.flat=true):aX w' X' η' C' v x:=by
 cases h with
 |d _ _ h=>cases h with
  |int=>exact .d _ _ (.int _ _)
  |bool=>exact .d _ _ (.bool _)
  |str=>exact .d _ _ (.str _)
  |any=>cases hx
  |nil=>cases hx
  |lst=>cases hx
  |mp=>cases hx
 |_=>cases hx
theorem dy.flat{v:Value}{x:TV}(h:dy w X η C v x)(hx:x.flat=true):dy w' X' η' C' v x:=by
 cases h with
 |c _ _ h=>exact .c _ _ (h.flat hx)
 |g _ _ h=>exact .g _ _ ⟨h.1,λj a=>(h.2 j a).flat (en.1 hx _ (YN a))⟩
theorem aQ.flat{v:Value}{x:ai}(h:aQ w X η C v x)(hx:x.flat=true):aQ w' X' η' C' v x:=by
 cases h with
 |any=>exact .any v
 |v _ _ h=>exact .v _ _ (h.flat hx)
 |t us xs h1 h2=>exact .t us xs h1 λj a=>(h2 j a).flat (en.1 hx _ (YN a))
theorem ph{x:CV}(hx:x.flat=true):x.refs=[]:=by cases x<;>first|rfl|cases hx
theorem rA{x:TV}(hx:x.flat=true):x.refs=[]:=by
 cases x with
 |c x=>exact ph hx
 |g xs=>exact oF.2 λy a=>ph (en.1 hx y a)
theorem Ez{x:ai}(hx:x.flat=true):x.refs=[]:=by
 cases x with
 |any=>rfl
 |v x=>exact rA hx
 |t xs=>exact oF.2 λy a=>rA (en.1 hx y a)
theorem jl{t:Nat}{x y:Code}(ht:n=0->AW P C nt x E S Q)(hf:AW P C nt y E S Q)(hb:lk E t=nb n:=by kernel_rfl):AW P C nt (.cond (.tmp t) x y) E S Q:=by
 intro R η a w d;have g:=d.ev t
 rw[hb]at g;have:∃b,a.eval (.tmp t)=.bool b/\(b=true->n=0):=by
  change ∃b,a.tmps.getD t undef=.bool b/\(b=true->n=0);generalize a.tmps.getD t undef=u at g
  cases g with|v _ _ h=>cases h with|c _ _ h=>cases h with|sem _ _ h _=>exact h
 obtain⟨b,ev,i⟩:=this
 cases b with
 |true=>exact wp_cond_true ev (ht (i rfl) R η a w d)
 |false=>exact nq ev (hf R η a w d)
def xk:ai->Option Nat
 |.v (.c (.d (.lst n _)))=>some n
 |.v (.c (.fl n _))=>some n
 |_=>none
theorem M8{v:Value}{x:ai}(h:xk x=some n)(hv:aQ w X η C v x):∃ad cap,v=.slice ad n cap/\(ad=none->n=0):=by
 unfold xk at h;split at h
 .cases h
  cases hv with|v _ _ hv=>cases hv with|c _ _ hv=>cases hv with|d _ _ hv=>cases hv with
   |nil a cap f=>exact⟨a,cap,rfl,λ_=>rfl⟩
   |lst b off n cap c e fz f es=>exact⟨_,_,rfl,λh=>by cases h⟩
 .cases h
  cases hv with|v _ _ hv=>cases hv with|c _ _ hv=>cases hv with|fl a n f hv=>cases hv with
   |nil a cap f=>exact⟨_,_,rfl,λ_=>rfl⟩
   |lst b off n cap c e fz f es=>exact⟨_,_,rfl,λh=>by cases h⟩
 .cases h
def xK(x:Operand):Bool:=match x with|.const (.slice none 0 0)=>true|_=>false
theorem Z5l(h:xK x=true):x=.const (.slice none 0 0):=by
 unfold xK at h;split at h
 .rfl
 .cases h
theorem Z1f(ht:P.underlying t=some (.slice el))(d:Nat)(ad:Option Addr)(n cap:Nat)(w:World):(Op.equalIn (d+1) t (.slice ad n cap) (.slice none 0 0)).run P w=.ok ad.isNone w:=by
 cases ad<;>simp only[Op.equalIn,eX,ef ht,fh,fB]<;>rfl
theorem Z1g(ht:P.underlying t=some (.slice el))(ad:Option Addr)(n cap:Nat)(w:World):(binOp .eql t (.slice ad n cap) (.slice none 0 0)).run P w=.ok (.bool ad.isNone) w:=by
 have h:binOp .eql t (.slice ad n cap) (.slice none 0 0)=(do pure (.bool (<-Op.equalIn Op.maxDepth t (.slice ad n cap) (.slice none 0 0)))):=rfl;have a:=Z1f ht 9999 ad n cap w
 rw[h,eX];have b:(Op.equalIn Op.maxDepth t (.slice ad n cap) (.slice none 0 0)).run P w=.ok ad.isNone w:=a
 rw[b];rfl
theorem gX(hk:Ql ds k=sE (nb n))(hop:MJ (IT ops k) t=some true)(ht:P.underlying t=some (.slice el):=by kernel_rfl)(hb:Bv ops nt (No L ops ds e s k) (IT ops k)=true:=by kernel_rfl)(hx:xk (Y3 (No L ops ds e s k) (Va (IT ops k)))=some n:=by kernel_rfl)(hy:xK (WZ (IT ops k))=true:=by kernel_rfl):J9 P C nt L ops ds e s k:=by
 unfold J9;rw[hk]
 simp only[Bv,dc]at hb;obtain⟨⟨⟨l,B⟩,r⟩,m⟩:=hb
 obtain⟨z,b⟩:=kH hop;simp only[fJ]at b
 refine Kd rfl r (by simpa using m) λR η y A a w d u=>?_
 have i:=(K3 u (Va (IT ops k))).1;rw[ZL d l]at i
 obtain⟨j,h,p,g⟩:=M8 hx i;refine⟨.bool j.isNone,?_,.v _ _ (.c _ _ (.sem _ _ ⟨_,rfl,λq=>g (by simpa using q)⟩ rfl))⟩
 have o:a.eval (WZ (IT ops k))=.slice none 0 0:=by rw[Z5l hy];rfl
 have x:(eqGuard .eql t (Va (IT ops k)) (WZ (IT ops k)) (.slice j n h) (.slice none 0 0)).run P w=.ok () w:=rfl;simp only[execOp,b,eX,o,p,x,fh,Z1g ht,fB]
def WF(P:Program)(e:U5)(s:U8)(K4:υ)(rd:υ)(x:Operand)(y:ai):Prop:=
 Qt rd x=true/\((Z5 (Y3 e x) y/\y.closed=true)\/(∃k es n f,k∈K4/\Y3 e x=.v (.c (.own k))/\s k=some (.arr es n f)/\y=.v (.c (.d (.lst n f))))\/∃F,Y3 e x=YG P F/\y=YG P F)
theorem Q8V{f:Nat}(hcall:∀args w,(callFunc f args).run P w=.ok (.enter f args) w){xs:Array Operand}(hop:o.op=.call {callee:=.value fx,args:=xs,argTypes:=tys})(hfx:Y3 e fx=.v (.c (.clo f [])))(hrf:Qt (Qs o++Qk ops o) fx=true)(hspec:J7 P f args [] r [])(hlen:xs.size=args.length)(K4:υ)(hargs:∀j,j<args.length->WF P e s K4 (Qs o++Qk ops o) (xs.toList.getD j (.const undef)) (args.getD j .any))(hids:∀k∈K4,k∈WA e o)(hr:r.flat=true)(hdo:QM nt o=true)(hg:Ze ops e o=some true):WE P C nt ops o (Kk ops o e r) e s:=by
 intro R η e0 G a w J a6 d4 x K Q hK;have hw:=UE (e:=e) x (λt ht=>J t (dv.2 (.inr ht))) hg
 rw[av hw];have a7:=(K3 x fx).1
 rw[ZL J hrf,hfx]at a7;have b1:=MG (w:=w) hop (BJ a7) hcall
 have a1:=x.xl
 let X1:Nat->Prop:=λb=>XS C G η b/\∀k∈K4,s k≠none->b∉Y9 (η k)
 have b3:QP w w (XS C G η) X1:=λb _ q=>⟨rfl,λm=>q m.1⟩
 have b4:=hspec w X1 η (xs.map a.eval++(([]:υ).map η).toArray) (a1.sub λb q=>q.1) (λb ⟨i,y,p,_⟩=>by cases p) (λi y p=>by cases p) (λi j b p=>absurd rfl p) (by simp[hlen]) (λj N=>by
  have c1 : j<xs.size:=by omega
  have e1:(xs.map a.eval++(([]:υ).map η).toArray).getD j undef=a.eval (xs.toList.getD j (.const undef)):=by simp[aY,c1]
  rw[e1];obtain⟨g0,g⟩:=hargs j N
  have m:=(K3 x (xs.toList.getD j (.const undef))).1;rw[ZL J g0]at m
  rcases g with ⟨T,U⟩|⟨k,es,n,fl,T,U,g3,g4⟩|⟨F,T,U⟩
  .exact ((T.1 _ _ _ _ _ m).mono (η':=η) b3 (λ_ _=>rfl)).free U
  .rw [U]at m
   rw[g4];have hv:a.eval (xs.toList.getD j (.const undef))=η k:=by
    generalize a.eval (xs.toList.getD j (.const undef))=u at m
    cases m with|v _ _ m=>cases m with|c _ _ m=>cases m with|own _ _ h _=>exact h
   rw[hv];have I:G k=some (.arr es n fl):=by rw[a6 k (hids k T)];exact g3
   have O:=x.st k _ I;have a0:∀b,b∈Y9 (η k)->¬X1 b:=λb q m=>m.2 k T (by rw[g3];simp) q
   refine .v _ _ (.c _ _ (.d _ _ ?_));generalize η k=u at O a0
   cases O with
   |nil ad es _=>exact .nil ad 0 fl
   |arr b n cap es c e _ B h2 h3 h4 h5 h6 h7=>
    refine .lst b 0 n cap c e _ fl es (a0 b (by simp[Y9];omega)) B h3 (by rw[h2,eH];exact eu _ h3) h6 λi j p N=>?_
    rw[eH];exact(h7 i j p N).mono λb q hX=>⟨rfl,λm=>hX m.1⟩
  .rw [T]at m
   rw[U];have Z:Qv P F C.w0 C.D C.X (a.eval (xs.toList.getD j (.const undef)))/\(a.eval (xs.toList.getD j (.const undef))).oneCell'=true:=by
    generalize a.eval (xs.toList.getD j (.const undef))=u at m
    cases m with|v _ _ h=>cases h with|c _ _ h=>cases h with|sem _ _ h B=>exact⟨h,B⟩
   obtain⟨⟨ff,a3,b5,A,b8⟩,W⟩:=Z;refine .v _ _ (.c _ _ (.sem _ _ ⟨ff,a3,b5,A,?_⟩ W))
   intro w1 X2 vs M r2 hF b2 a8 c0 c3 b9 z;have a5 : w.heap.size<=w1.heap.size:=b2
   have a4:∀b,¬(Qh ([]:ι) w X1 η).D b:=by rintro b ⟨i,y,p,_⟩;cases p
   refine b8 w1 X2 vs M r2 hF (dP x.fr.size a5) (λb q Y=>?_) c0 (λb q Y=>?_) b9 z
   .have H:b<w.heap.size:=fH q x.fr.size
    exact(a8 b H (a4 b)).trans (x.fr.block b q λhM=>Y (x.ok.md b hM))
   .have H:b<w.heap.size:=fH q x.fr.size
    rw[c3 b H (a4 b)];have a2:∀i y,G i=some y -> b∉Y9 (η i):=by
     intro i y p V;rcases x.ow i y b p V with ⟨_,B⟩|B|B
     .exact Y B
     .exact Y (x.ok.md b B)
     .omega
    constructor
    .rintro ⟨⟨m,_⟩|⟨i,y,p,V⟩,_⟩
     all_goals grind
    .refine λm=>⟨.inl ⟨m,Y⟩,λk hk I=>?_⟩
     obtain⟨y,b7⟩:=dS.1 I;exact a2 k y (by rw[a6 k (hids k hk)];exact b7))
 unfold Oper.wp;rw[b1]
 show Calls P f _ w _;refine b4.mono λen w' hh=>?_
 obtain⟨v,η',rfl,q⟩:=hh;have a9:aM (λ_=>False) w w':=q.stp.mono λb _ hM=>by obtain⟨i,y,p,_⟩:=hM;cases p
 have hs:SR.sto {v:=r} o.dst G=G:=by funext i;simp[SR.sto]
 have he:SR.eta {v:=r} o.dst v η=η:=by funext i;simp[SR.eta]
 have b6:SR.rng {v:=r} o.dst R=R:=by funext i;simp[SR.rng]
 have:=x.step o.dst (YO hdo) {v:=r} v w' (λ_=>False) a9 (λb q=>q.elim) (λo dd O=>by cases O) (λk o O=>by cases O)
  (λ_=>by rw[hs,he];refine⟨q.res.flat hr,λj N=>?_⟩;simp only at N;rw[Ez hr]at N;cases N)
 rw[hs,he,b6]at this;refine hK η _ w' ?_
 have hu:ZR (Kk ops o e r).l G=G:=by funext i;rfl
 rw[hu];exact this.wider λi p=>.inl p
def Ry(P:Program)(e:U5)(s:U8)(K4:υ)(rd:υ):List Operand->List ai->Prop
 |[],[]=>True
 |x::xs,y::ys=>WF P e s K4 rd x y/\Ry P e s K4 rd xs ys
 |_,_=>False
theorem Ry.spec{xs:List Operand}{ys:List ai}(h:Ry P e s K4 rd xs ys):xs.length=ys.length/\∀j,j<ys.length->WF P e s K4 rd (xs.getD j (.const undef)) (ys.getD j .any):=by
 induction xs generalizing ys with
 |nil=>cases ys with
  |nil=>exact⟨rfl,λj a=>by simp at a⟩
  |cons y ys=>exact h.elim
 |cons x xs ih=>cases ys with
  |nil=>exact h.elim
  |cons y ys=>
   obtain⟨b,c⟩:=h
   grind
theorem WF.own(k:Nat)(h0:Qt rd x=true:=by kernel_rfl)(h1:K4.contains k=true:=by kernel_rfl)(h2:Y3 e x=.v (.c (.own k)):=by kernel_rfl)(h3:s k=some (.arr es n f):=by kernel_rfl):WF P e s K4 rd x (.v (.c (.d (.lst n f)))):=
 ⟨h0,.inr (.inl ⟨k,es,n,f,by simpa using h1,h2,h3,rfl⟩)⟩
theorem Er{y:ai}(h1:Z5 (Y3 e x) y)(h0:Qt rd x=true:=by kernel_rfl)(h2:y.closed=true:=by kernel_rfl):WF P e s K4 rd x y:=⟨h0,.inl ⟨h1,h2⟩⟩
theorem WF.sem(h0:Qt rd x=true:=by kernel_rfl)(h1:Y3 e x=YG P F:=by kernel_rfl):WF P e s K4 rd x (YG P F):=⟨h0,.inr (.inr ⟨F,h1,rfl⟩)⟩
def callBB(ops:Array Oper)(nt:Nat)(e:U5)(o:Oper)(f:Nat)(r:ai)(K4:υ):Bool:=
 Bn o&&FH f (Y3 e (UZ o))&&Qt (Qs o++Qk ops o) (UZ o)&&r.flat&&K4.all (λk=>(WA e o).contains k)&&QM nt o&&(Ze ops e o==some true)
theorem Oy{f:Nat}(hspec:J7 P f args [] r [])(hcall:∀args w,(callFunc f args).run P w=.ok (.enter f args) w)(K4:υ)(hk:Ql ds k=sE r)(hb:callBB ops nt (No L ops ds e s k) (IT ops k) f r K4=true)(hargs:Ry P (No L ops ds e s k) (OF L ops ds e s k) K4 (Qs (IT ops k)++Qk ops (IT ops k)) (callXs (IT ops k)).toList args):J9 P C nt L ops ds e s k:=by
 unfold J9;rw[hk]
 simp only[callBB,dc]at hb;obtain⟨⟨⟨⟨⟨⟨b,i⟩,l⟩,c⟩,g⟩,q⟩,o⟩:=hb
 obtain⟨p,a⟩:=Mo b;obtain⟨m,d⟩:=hargs.spec
 exact Q8V hcall a (xM i) l hspec (by simpa using m) K4 (λj h=>d j h) (λk hk=>by simpa using en.1 g k hk) c q (by simpa using o)
theorem I7{f:Nat}(hspec:J7 P f args Si r So)(hcall:∀args w,(callFunc f args).run P w=.ok (.enter f args) w)(m:List (Nat×Nat))(extra:υ)(xs:List Operand)(hk:Ql ds k=cE m extra r Si So)(hb:Go.Ab.callB ops nt (No L ops ds e s k) (IT ops k) f m r Si So=true)(hsi:Si.map (λp=>QC L ops ops.toList ds e s k (J1 m p.1))=Si.map (λp=>some (p.2.ren (J1 m))))(hxs:(Go.Ab.callXs (IT ops k)).toList=xs)(hargs:Gd C nt (No L ops ds e s k) (OF L ops ds e s k) Si (J1 m) (Qs (IT ops k)++Qk ops (IT ops k)) (WA (No L ops ds e s k) (IT ops k)++(Si.map (λp=>J1 m p.1)++extra)) xs args):J9 P C nt L ops ds e s k:=
 uN hspec hcall m extra hk hb hsi (hxs ▸ hargs)
theorem Ru{f:Nat}(hspec:J7 P f args [] r [])(hcall:∀args w,(callFunc f args).run P w=.ok (.enter f args) w)(K4:υ)(xs:List Operand)(hk:Ql ds k=sE r)(hargs:Ry P (No L ops ds e s k) (OF L ops ds e s k) K4 (Qs (IT ops k)++Qk ops (IT ops k)) xs args)(hb:Go.Ab.callBB ops nt (No L ops ds e s k) (IT ops k) f r K4=true:=by kernel_rfl)(hxs:(Go.Ab.callXs (IT ops k)).toList=xs:=by kernel_rfl):J9 P C nt L ops ds e s k:=
 Oy hspec hcall K4 hk hb (hxs ▸ hargs)
def DP(s:U8)(Si:ι)(m:Nat->Nat)(ids cids:υ):Bool:=Si.all λp=>(s (m p.1)).isSome&&ids.contains (m p.1) && !cids.contains (m p.1)
theorem Ki(h:DP s Si m ids cids=true):(∀p∈Si,∃o1,s (m p.1)=some o1)/\(∀p∈Si,m p.1∈ids)/\∀p∈Si,m p.1∉cids:=by
 refine⟨λp a=>?_,λp a=>?_,λp a=>?_⟩<;>(have:=en.1 h p a;simp only[dc,iE]at this)
 .exact mu.1 this.1.1
 all_goals grind
theorem JQ(hx:Qt rd x=true:=by kernel_rfl)(hv:Y3 e x=YG P F:=by kernel_rfl)(hsi:DP s Si m ids []=true:=by kernel_rfl):YU C nt e s Si m rd ids x (YG P F):=
 YU.sem hx hv (Ki hsi).1 (Ki hsi).2.1
def Rb(s:U8):υ->List (List CV)->Prop
 |[],[]=>True
 |i::is,c::cs=>(∃ro,s i=some (.box ro c))/\Rb s is cs
 |_,_=>False
theorem sO{is:υ}{cs:List (List CV)}(h:Rb s is cs):is.length=cs.length/\∀k,k<cs.length->∃ro,s (is.getD k 0)=some (.box ro (cs.getD k [])):=by
 induction is generalizing cs with
 |nil=>cases cs with
  |nil=>exact⟨rfl,λk a=>by simp at a⟩
  |cons c cs=>exact h.elim
 |cons i is ih=>cases cs with
  |nil=>exact h.elim
  |cons c cs=>
   obtain⟨b,d⟩:=h
   grind
theorem Z9W{f:Nat}(hcall:∀args w,(callFunc f args).run P w=.ok (.enter f args) w)(cs:List (List CV))(hspec:∀args r,F args r->J7 P f (args++WL cs) (ZK cs) r (ZK cs))(hres:∀args r,F args r->r.closed=true)(hx:Qt rd x=true)(cids:υ)(hv:Y3 e x=.v (.c (.clo f cids)))(hnd:(Yr cids&&cs.all (λc=>c.all CV.closed)&&cids.all (λi=>ids.contains i))=true)(hbox:Rb s cids cs)(hsi:DP s Si m ids cids=true):YU C nt e s Si m rd ids x (YG P F):=by
 simp only[dc]at hnd;obtain⟨b,d⟩:=sO hbox
 exact YU.clo hcall hspec hres hx hv b hnd.1.1 d hnd.1.2 (Ki hsi).1 (Ki hsi).2.1 (λi a=>by simpa using en.1 hnd.2 i a) (Ki hsi).2.2
def Xn{R:Type}(p:Prop)(x:Option R):Option R:= @gd R p (Classical.propDecidable p) x
theorem C3{R:Type}{p:Prop}{x:Option R}{r:R}(h:Xn p x=some r):p/\x=some r:= @Zf R p (Classical.propDecidable p) x r h
def XG{R:Type}(n:Nat)(x y:Option R):Option R:=match n with
 |0=>Xn (x=y) x
 |_+1=>y
theorem gv{R:Type}{x y:Option R}{r:R}(h:XG n x y=some r)(hn:n=0):x=some r:=by subst hn;exact(C3 h).2
theorem gw{R:Type}{x y:Option R}{r:R}(h:XG n x y=some r):y=some r:=by
 cases n with
 |zero=>obtain⟨a,b⟩:=C3 h;exact a ▸ b
 |succ n=>exact h
def YR(s:U8)(es:Nat):ai->Option (Nat×Nat×Nat)
 |.v (.c (.own id))=>match s id with
  |some (.arr es' N _)=>if es=es' then some (id,0,N)else none
  |_=>none
 |.v (.c (.sub id es' lo n))=>if es=es' then some (id,lo,n)else none
 |_=>none
section
variable {R:ξ}
inductive lr (w:World) (X:ξ) (η:Nat->Value) (id es N:Nat) (f:Δ) (lo n:Nat):Value->Prop
 | some (b cap:Nat) (c:Ξ) (e' : TypeId):η id=.slice (some ⟨b,0,none⟩) N cap->w.heap[b]?=some (.cells c e' (0,0))->c.size=cap*es->N<=cap->cap<=maxLen ->
   (∀i,i<N->(f i).length=es)->(∀i j,i<N->j<es->aA w X (c.getD (i*es+j) undef) ((f i).getD j .any))->lo+n<=N->lo<cap ->
   lr w X η id es N f lo n (.slice (some ⟨b,lo*es,none⟩) n (cap-lo))
 |nil (ad ad' : Option Addr):η id=.slice ad N N->lo=N->n=0->lr w X η id es N f lo n (.slice ad' 0 0)
theorem RJ(h:aK C nt R η e s a w)(hx:YR s es (Y3 e x)=some (id,lo,n))(hs:s id=some (.arr es N f)):
  lr w (XS C s η) η id es N f lo n (a.eval x):=by
 have g:=(K3 h x).1;have d:=h.st id _ hs
 unfold YR at hx;split at hx
 .rename_i o m
  split at hx
  .rename_i l p t i
   split at hx
   .cases hx
    rw[hs]at i;cases i
    rw[m]at g;rw[Vm g]
    generalize hu:η id=u at d
    cases d with
    |nil ad=>exact .nil ad ad hu rfl rfl
    |arr b _ cap _ c e' _ h1 h2 h3 h4 h5 h6 h7=>
     have:=lr.some (w:=w) (X:=XS C s η) (η:=η) (id:=id) (f:=f) (lo:=0) b cap c e' hu h1 h2 h3 h4 h6 h7 (lU (eH _)) h5
     grind
   .cases hx
  .cases hx
 .rename_i o l q r m
  split at hx
  .rename_i j
   cases hx
   subst j;rw[m]at g
   generalize a.eval x=v at g
   cases g with|v _ _ g=>cases g with|c _ _ g=>cases g with
    |sub b p cap _ _ _ _ hη h1 h2=>
     rw[hη]at d
     cases d with
     |nil=>omega
     |arr _ _ _ _ c e' _ g1 g2 g3 g4 g5 g6 g7=>exact .some b cap c e' hη g1 g2 g3 g4 g6 g7 h1 h2
    |subN ad ad' p _ _ hη=>
     rw[hη]at d
     cases d with
     |nil=>exact .nil _ _ hη rfl rfl
     |arr _ _ _ _ c e' _ g1 g2 g3 g4 g5 g6 g7=>exact .nil _ _ hη rfl rfl
  .cases hx
 .cases hx
theorem lr.slice{v:Value}(h:lr w X η id es N f lo n v):∃ad cap,v=.slice ad n cap/\(n<=cap)/\lo+n<=N:=by
 cases h with
 |some b cap c e' h1 h2 h3 h4 h5 h6 h7 h8 h9=>exact⟨_,_,rfl,by omega,h8⟩
 |nil ad ad' h1 h2 h3=>exact⟨_,_,by rw[h3],by omega,by omega⟩
theorem lr.part{X X' : Nat->Prop}{ad:Option Addr}{id es N lo n cap:Nat}{f:Δ}(h:lr w X η id es N f lo n (.slice ad n cap)){l u:Nat}(hlu:l<=u)(hu:lo+u<=N):
  aQ w X' η C (.slice (if cap=l then ad else ad.map (·.add (l*es))) (u-l) (cap-l)) (.v (.c (.sub id es (lo+l) (u-l)))):=by
 generalize hv:Value.slice ad n cap=v at h
 cases h with
 |some b cap' c e' h1 h2 h3 h4 h5 h6 h7 h8 h9=>
  cases hv
  by_cases hc:cap' - lo=l
  .have d:u-l=0:=by omega
   have g:cap' - lo-l=0:=by omega
   have j:lo+l=N:=by omega
   have i:cap'=N:=by omega
   rw[d,g,j];subst i
   exact .v _ _ (.c _ _ (.subN _ _ _ _ _ h1))
  .rw [an hc]
   simp only[iU,add_lit];have d:lo*es+l*es=(lo+l)*es:=by rw[fQ]
   have g:cap' - lo-l=cap' - (lo+l):=by omega
   rw[d,g];exact .v _ _ (.c _ _ (.sub b N cap' id es (lo+l) (u-l) h1 (by omega) (by omega)))
 |nil ad0 ad' h1 h2 h3=>
  cases hv
  have d:u-l=0:=by omega
  have g:lo+l=N:=by omega
  rw[d,g,Nat.zero_sub];exact .v _ _ (.c _ _ (.subN ad0 _ N id es h1))
theorem Z0A(h:aK C nt R η e s a w){lo:Option Operand}(hl:oI e lo=some l)(hu:oI e hi=some u)(n cap:Nat)(hc:0<=l.getD 0/\l.getD 0<=u.getD n/\u.getD n<=cap):
  (Instr.sliceBounds true n cap (lo.map a.eval) (hi.map a.eval) none).run P w=.ok ((l.getD 0).toNat,(u.getD n).toNat,cap) w:=by
 rcases CW h hl with ⟨h1,h2⟩|⟨k,m,h1,h2⟩<;>rcases CW h hu with ⟨h3,h4⟩|⟨k',m',h3,h4⟩<;>subst h2<;>subst h4<;>simp only[nB,Option.getD_none]at hc
 .subst h1;subst h3
  simp[Instr.sliceBounds]
 .subst h1
  simp[Instr.sliceBounds,h3,UM m' cap _ ⟨hc.2.1,by omega⟩]
 .subst h3
  have b:=UM (P:=P) (w:=w) m n .sliceB ⟨hc.1,by omega⟩ k;simp[Instr.sliceBounds,h1,b]
 .have b:=UM (P:=P) (w:=w) m m'.toNat .sliceB ⟨hc.1,by omega⟩ k
  simp[Instr.sliceBounds,h1,h3,UM m' cap _ ⟨by omega,by omega⟩,b]
theorem Ek(hL:Qa P L)(h:aK C nt R η e s a w)(hd:∀ x,o.dst=some x->x<nt){lo:Option Operand}(hop:o.op=.slice t x lo hi none){ti:TI}(ht:L t=some ti){el:Nat}(hk:ti.kind=.slice el)(hte:L el=some te)(hl:oI e lo=some l)(hu:oI e hi=some u)(hx:YR s te.size (Y3 e x)=some (id,lo0,n))(hs:s id=some (.arr te.size N f))(hc:0<=l.getD 0/\l.getD 0<=u.getD n/\(lo0:Int)+u.getD n<=N):
  Qe P C nt R η e s a w o {v:=.v (.c (.sub id te.size (lo0+(l.getD 0).toNat) ((u.getD n).toNat-(l.getD 0).toNat)))}:=by
 obtain⟨i,dd,z,q⟩:=hL t ti ht;obtain⟨J,F,I,p⟩:=hL el te hte
 have g:=q.kind;rw[hk]at g
 simp only[ZZ]at g;have d:=RJ h hx hs
 obtain⟨A,m,ev,H,G⟩:=d.slice;have r:(u.getD n)<=m:=by
  rw[ev]at d;generalize hv:Value.slice A n m=v at d
  cases d with
  |some b cap' c e' h1 h2 h3 h4 h5 h6 h7 h8 h9=>cases hv;omega
  |nil ad0 ad' h1 h2 h3=>cases hv;omega
 rw[ev]at d;have D:=Z0A (P:=P) h hl hu n m ⟨hc.1,hc.2.1,r⟩
 have B:∀j∈(ai.v (.c (.sub id te.size (lo0+(l.getD 0).toNat) ((u.getD n).toNat-(l.getD 0).toNat)))).refs,R j:=by
  intro j y;simp[ai.refs,TV.refs,CV.refs]at y
  rw[y];exact(h.sr id _ hs).1
 refine Zm h hd ?_ (d.part (l:=(l.getD 0).toNat) (u:=(u.getD n).toNat) (by omega) (by omega)) B;simp only[execOp,hop,eX,Instr.sliceAt,ef q.und,fh,g,Instr.slice,ev,mX,D,YV p,fB]
theorem Q9y(hL:Qa P L)(h:aK C nt R η e s a w)(hd:∀x,o.dst=some x->x<nt)(hop:o.op=.call {callee:=.builtin .len,args:= #[x],argTypes:= #[t]})(ht:L t=some ti){el:Nat}(hk:ti.kind=.slice el)(hx:YR s es (Y3 e x)=some (id,lo,n))(hs:s id=some (.arr es N f)):Qe P C nt R η e s a w o {v:=vi n}:=by
 obtain⟨i,dd,z,c⟩:=hL t ti ht;have b:=c.kind
 rw[hk]at b;simp only[ZZ]at b
 obtain⟨g,d,ev,_⟩:=(RJ h hx hs).slice;refine Zm h hd (v:=.int .i64 n) ?_ (WY _ _ _) (by simp[vi,ai.refs,TV.refs,CV.refs])
 simp[execOp,hop,resolve,invoke,builtin,Builtin.len_,ef c.und,b,ev,goInt]
theorem El(hL:Qa P L)(h:aK C nt R η e s a w){o:Oper}(hd:∀ x,o.dst=some x->x<nt){t:TypeId}{x i:Operand}(hop:o.op=.indexAddr t x i){ti:TI}(ht:L t=some ti){el:Nat}(hk:ti.kind=.slice el){te:TI}(hte:L el=some te){m:Int}(hi:ZY (Y3 e i)=some m){id lo n N:Nat}{f:Δ}(hx:YR s te.size (Y3 e x)=some (id,lo,n))(hs:s id=some (.arr te.size N f))(hc:0<=m/\m<n):
  Qe P C nt R η e s a w o {v:=.v (.c (.pte id te.size (lo+m.toNat) 0))}:=by
 obtain⟨y,d1,z,p⟩:=hL t ti ht;obtain⟨D,A,B,g⟩:=hL el te hte
 have d:=p.kind;rw[hk]at d
 simp only[ZZ]at d;subst d
 obtain⟨k,r⟩:=BN h hi;have l:=RJ h hx hs
 generalize ev:a.eval x=v at l
 cases l with
 |some b cap c e' h1 h2 h3 h4 h5 h6 h7 h8 h9=>
  refine Zm h hd (v:=.pointer (some ⟨b,(lo+m.toNat)*te.size+0,none⟩)) ?_ (.v _ _ (.c _ _ (.pte b N cap _ _ _ _ h1))) (λj q=>by simp[ai.refs,TV.refs,CV.refs]at q;rw[q];exact(h.sr id _ hs).1);have u:lo*te.size+m.toNat*te.size=(lo+m.toNat)*te.size:=by rw[fQ]
  simp[execOp,hop,Instr.indexAt,r,ev,asIntOf,ef p.und,hc,YV g,add_lit,u]
 |nil ad0 ad' h1 h2 h3=>omega
theorem bt(h:aK C nt R η e s a w)(hd:∀x,o.dst=some x->x<nt){ob ob' : Obj}(hs:s id=some ob)(hro:ob.ro=false)(hro' : ob'.ro=false)(hrf:∀j∈ob'.refs,R j){v:Value}{x:ai}(hstp:aM (λb=>b∈Y9 (η id)) w w')(hrun:(execOp a.eval o).run P w=.ok (.value v) w')(hob:∀X',QP w w' (XS C s η) X' -> db w' X' η C (η id) ob')(hv:∀X',aQ w' X' η C v x)(hx:∀j∈x.refs,R j):Qe P C nt R η e s a w o {v:=x,upd:=some (id,ob')}:=by
 have m:=JA (C:=C) (s:=s) (η:=η) {v:=x,upd:=some (id,ob')} o.dst v (λb=>b∈Y9 (η id)) hstp (λb g=>⟨id,ob,hs,g⟩) (λ_ _ d=>by cases d)
  (λk o d=>by cases d;rw[hs];simp)
 have c:SR.eta {v:=x,upd:=some (id,ob')} o.dst v η=η:=by funext i;simp[SR.eta]
 refine⟨v,w',.inl hrun,?_⟩;refine h.step o.dst hd _ _ _ (λb=>b∈Y9 (η id)) hstp ?_ (λ_ _ d=>by cases d) ?_ (λ_=>⟨?_,λj p=>.inl (hx j p)⟩)
 .intro b g
  refine⟨⟨id,.inr ⟨ob',rfl⟩,by rw[hs];simp,g⟩,?_⟩;rcases h.ow id ob _ hs g with ⟨l,_⟩|l
  .rw [hro]at l;cases l
  .exact l
 .intro k q d
  cases d
  refine⟨⟨ob,hs,hro⟩,hro',by simp,hrf,?_⟩;rw[c]
  rw[c]at m;exact hob _ m
 .rw [c];exact hv _
theorem Z3s{b:Nat}{g:Δ}{c:Ξ}(hX:QP w (w.setRow b (c.toList.take (lo*es)++news++c.toList.drop (lo*es+news.length)).toArray) (XS C s η) X')(h1:η id=.slice (some ⟨b,0,none⟩) N cap)(h2:w.heap[b]?=some (.cells c e' (0,0)))(h3:c.size=cap*es)(h4:N<=cap)(h5:cap<=maxLen)(h50:0<cap)(h6:∀ i,i<N->(f i).length=es)(h7:∀ i j,i<N->j<es->aA w (XS C s η) (c.getD (i*es+j) undef) ((f i).getD j .any))(hk:lo+k<=N)(hn:news.length=k*es)(g1:∀ i,i<k->(g i).length=es)(g2:∀ i j,i<k->j<es->aA w (XS C s η) (news.getD (i*es+j) undef) ((g i).getD j .any)):
  db (w.setRow b (c.toList.take (lo*es)++news++c.toList.drop (lo*es+news.length)).toArray) X' η C (η id) (.arr es N λi=>if lo<=i/\i<lo+k then g (i-lo)else f i):=by
 have h:lo*es+news.length<=c.size:=by rw[hn,h3, <-fQ];exact eu _ (by omega)
 obtain⟨t,v⟩:=SY c (lo*es) news h;rw[h1]
 refine .arr b N cap es _ e' _ (mR w b c _ e' _ h2) (by rw[t];exact h3) h4 h5 h50 (λi m=>?_) (λi j m r=>?_)
 .by_cases hc:lo<=i/\i<lo+k
  .simp only[hc,and_self,fJ];exact g1 _ (by omega)
  .simp only[hc,fC];exact h6 i m
 .rw [v]
  have d:∀{p q:Nat},p<q->p*es+es<=q*es:=λ{p q} hpq=>by
   have:(p+1)*es<=q*es:=eu _ hpq
   grind
  by_cases hc:lo<=i/\i<lo+k
  .have B:lo*es<=i*es:=eu _ hc.1
   have y:=d hc.2;rw[fQ]at y
   rw[av ⟨by omega,by omega⟩];simp only[hc,and_self,fJ]
   have u:i*es+j-lo*es=(i-lo)*es+j:=by rw[Nat.sub_mul];omega
   rw[u];exact(g2 (i-lo) j (by omega) r).mono λx o hn=>hX x o hn
  .rw [an]
   .simp only[hc,fC];exact(h7 i j m r).mono λx o hn=>hX x o hn
   .rintro ⟨A,D⟩
    rcases eK i lo with l|z
    .have:=d l;omega
    .have:(lo+k)*es<=i*es:=eu _ (by omega)
     rw[fQ]at this;omega
theorem X5{b:Nat}(h1:η id=.slice (some ⟨b,0,none⟩) N cap)(h:0<cap)(cs:Ξ):aM (λx=>x∈Y9 (η id)) w (w.setRow b cs):=
 (setRow_stp w b cs).mono λx _ c=>by have e:x=b:=c;rw[h1,e];simp[Y9];omega
theorem Z6b{g:Δ}(h:k=0):(λi=>if lo<=i/\i<lo+k then g (i-lo)else f i)=f:=by
 grind
def Wp(x y:aH):Prop:=∀w X v,aA w X v x->aA w X v y
theorem Wp.refl(x:aH):Wp x x:=λ_ _ _ h=>h
theorem Wp.nil(f g:Δ):Wp (.lst 0 f) (.lst 0 g):=λw X v h=>by
 cases h with
 |nil a cap=>exact .nil a cap g
 |lst b off n cap c e fz f es=>exact .nil _ cap g
def Rx:Ψ->Ψ->Prop
 |[],[]=>True
 |x::xs,y::ys=>Wp x y/\Rx xs ys
 |_,_=>False
theorem Rx.spec{xs ys:Ψ}(h:Rx xs ys):xs.length=ys.length/\∀j,Wp (xs.getD j .any) (ys.getD j .any):=by
 induction xs generalizing ys with
 |nil=>cases ys with
  |nil=>exact⟨rfl,λj=>Wp.refl _⟩
  |cons y ys=>exact h.elim
 |cons x xs ih=>cases ys with
  |nil=>exact h.elim
  |cons y ys=>
   obtain⟨d,g⟩:=h;obtain⟨c,b⟩:=ih g
   refine⟨by simp[c],λj=>?_⟩
   cases j with
   |zero=>exact d
   |succ j=>exact b j
theorem Q9A(hL:Qa P L)(h:aK C nt R η e s a w){o:Oper}(hd:∀ x,o.dst=some x->x<nt){x:Operand}(hop:o.op=.call { callee:=.builtin .clear,args:= #[x],argTypes:= #[t] })(ht:L t=some ti){el:Nat}(hk:ti.kind=.slice el)(hte:L el=some te)(h0:0<te.size)(hzl:te.zero.length=te.size)(hz:Uc te.zero=some zd0)(hle:Rx zd0 zd){lo N:Nat}{f:Δ}(hx:YR s te.size (Y3 e x)=some (id,lo,n))(hs:s id=some (.arr te.size N f)):
  Qe P C nt R η e s a w o {v:=.any,upd:=some (id,.arr te.size N λi=>if lo<=i/\i<lo+n then(λ_=>zd) (i-lo)else f i)}:=by
 obtain⟨i,dd,z,A⟩:=hL t ti ht;obtain⟨i2,d2,d,p⟩:=hL el te hte
 have B:=A.kind;rw[hk]at B
 simp only[ZZ]at B;subst B
 have J:=RJ h hx hs;have V:=h.st id _ hs
 have U:∀j∈(ai.any).refs,R j:=λj G=>by cases G
 have a0:∀v,a.eval x=v->(∃Y F,v=.slice Y 0 F)->n=0->Qe P C nt R η e s a w o {v:=.any,upd:=some (id,.arr te.size N λi=>if lo<=i/\i<lo+n then(λ_=>zd) (i-lo)else f i)}:=by
  rintro v ev ⟨Y,F,rfl⟩ W;have m:(execOp a.eval o).run P w=.ok (.value (.tuple #[])) w:=by
   cases Y<;>simp[execOp,hop,resolve,invoke,builtin,Builtin.clear_,ef A.und,ev]
  refine bt h hd hs rfl rfl (by simp[Obj.refs]) (aM.refl _ _) m (λX' Z=>?_) (λX'=>.any _) U;have M:db w X' η C (η id) (.arr te.size N f):=V.mono Z (λj G=>rfl) λb hb=>rfl
  rw[<-Z6b (k:=n) (lo:=lo) (f:=f) (g:=λ_=>zd) W]at M;exact M
 generalize ev:a.eval x=v at J
 cases J with
 |some b F c e' h1 h2 h3 h4 h5 h6 h7 h8 h9=>
  by_cases W:n=0
  .grind
  .have l:d.cells.size=te.size:=by rw[(p.zrep w (XS C s η) η C).1,hzl]
   obtain⟨D,H⟩:=qY (p.zrep w (XS C s η) η C) hz;have T:(Builtin.zeroCells d.cells n).toList.length=n*te.size:=by simp[Builtin.zeroCells,l]
   have O:∀u∈(Builtin.zeroCells d.cells n).toList,u.oneCell'=true:=by
    intro u hu;simp only[Builtin.zeroCells,Array.toList_map,eF]at hu
    obtain⟨q,hq,rfl⟩:=hu;have r:q % d.cells.size<d.cells.size:=mi _ (by rw[l];exact h0)
    have:=(H (q % d.cells.size) (by rw[D];exact r)).one
    simpa[r]using this
   have I:lo*te.size+0+(Builtin.zeroCells d.cells n).toList.length<=c.size:=by rw[T,h3,fU, <-fQ];exact eu _ (by omega)
   have y:=lZ P b (lo*te.size) e' (Builtin.zeroCells d.cells n).toList 0 c w h2 I O;simp only[fU]at y
   have m:(execOp a.eval o).run P w=.ok (.value (.tuple #[])) (w.setRow b (c.toList.take (lo*te.size)++(Builtin.zeroCells d.cells n).toList++c.toList.drop (lo*te.size+(Builtin.zeroCells d.cells n).toList.length)).toArray):=by
    simp[execOp,hop,resolve,invoke,builtin,Builtin.clear_,ef A.und,ev,Tn p,y,W]
   refine bt h hd hs rfl rfl (by simp[Obj.refs]) (X5 h1 (by omega) _) m (λX' Z=>?_) (λX'=>.any _) U;refine Z3s Z h1 h2 h3 h4 h5 (by omega) h6 h7 h8 T (λi _=>by rw[<-hle.spec.1,D,l]) λi j hi G=>?_
   have r:i*te.size+j<n*te.size:=by
    have:(i+1)*te.size<=n*te.size:=eu _ hi
    grind
   have hm:(i*te.size+j) % te.size=j:=by rw[ln,nQ,ml G]
   have hg:(Builtin.zeroCells d.cells n).toList.getD (i*te.size+j) undef=d.cells.getD j undef:=by
    have:=vG (n*d.cells.size) (λi=>d.cells[i % d.cells.size]!) (i*te.size+j) (by rw[l];exact r)
    have e1:(Builtin.zeroCells d.cells n).toList.getD (i*te.size+j) undef=(Builtin.zeroCells d.cells n).getD (i*te.size+j) undef:=by simp[aY,hU]
    rw[e1];unfold Builtin.zeroCells
    rw[this,l,hm];have:j<d.cells.size:=by rw[l];exact G
    simp[this]
   rw[hg];exact hle.spec.2 j _ _ _ (H j (by rw[D,l];exact G))
 |nil ad0 ad' h1 h2 h3=>exact a0 _ ev ⟨_,_,rfl⟩ h3
end
def rE(r:SR):Array Oper->Oper->U5->eJ:=λops o e=>Xu ops o e r r.v
theorem Jn(hdo:QM nt o=true){r:SR}(hg:Ze ops e o=some true)(hsnd:∀ (R:ξ) (η:Nat->Value) (e0:U5) (s0:U8) (a:Act) (w:World),(∀ x ∈ o.op.operands.toList,Y3 e0 x=Y3 e x)->(∀ x ∈ o.op.operands.toList,∀ i ∈ (Y3 e x).refs,s0 i=s i)->(∀ d,o.dst=some d->r.new≠none->¬ R d) ->
   aK C nt R η e0 s0 a w->Qe P C nt R η e0 s0 a w o r):WE P C nt ops o (Xu ops o e r r.v) e s:=by
 intro R η e0 s0 a w h j A b K Q M;have m:∀x∈o.op.operands.toList,Y3 e0 x=Y3 e x:=by
  intro x m
  cases x with
  |tmp t=>exact h t (dv.2 (.inl (mG.2 ⟨_,m,rfl⟩)))
  |const v=>rfl
  |global g=>rfl
  |func f=>rfl
 have u:∀x∈o.op.operands.toList,∀i∈(Y3 e x).refs,s0 i=s i:=λx m i H=>j i (eE.2 ⟨x,m,H⟩)
 have J:=UE (e:=e) b (λt F=>h t (dv.2 (.inr F))) hg;rw[av J]
 have B:=hsnd R η e0 s0 a w m u (λd D I=>A d (by
  obtain⟨N,y⟩:=dS.1 I;simp[Xu,SR.nw,y,D])) b
 refine B.wp λη' G w' q=>M η' G w' ?_
 have z:=q.wider (zI r o.dst R);have p:ZR (Xu ops o e r r.v).l s0=r.sto o.dst s0:=zH r o.dst s0
 rw[p];have c:ZN o.dst (Xu ops o e r r.v).v e0=r.env o.dst e0:=rfl
 rw[c];exact z
theorem qk{x:ai}(h:∀i∈x.refs,s0 i=s i):YR s0 es x=YR s es x:=by
 unfold YR;split
 .rw [h _ (by simp[ai.refs,TV.refs,CV.refs])]
 .rfl
 .rfl
theorem qj{x:ai}(h:YR s es x=some (id,lo,n)):id∈x.refs:=by
 unfold YR at h;split at h
 .split at h
  .split at h
   .cases h;simp[ai.refs,TV.refs,CV.refs]
   .cases h
  .cases h
 .split at h
  .cases h;simp[ai.refs,TV.refs,CV.refs]
  .cases h
 .cases h
def Vj(L:dj)(t:TypeId)(te:TI):Prop:=∃ti el,L t=some ti/\ti.kind=.slice el/\L el=some te
theorem XP(hL:Qa P L)(hT:Vj L t te){lo:Option Operand}(hk:Ql ds k=rE {v:=r})(hop:(IT ops k).op=.slice t x lo hi none)(hc:0<=l.getD 0/\l.getD 0<=u.getD n/\(lo0:Int)+u.getD n<=N)(hdo:(QM nt (IT ops k)&&(Ze ops (No L ops ds e s k) (IT ops k)==some true))=true:=by kernel_rfl)(hl:oI (No L ops ds e s k) lo=some l:=by kernel_rfl)(hu:oI (No L ops ds e s k) hi=some u:=by kernel_rfl)(hx:YR (OF L ops ds e s k) te.size (Y3 (No L ops ds e s k) x)=some (id,lo0,n):=by kernel_rfl)(hs:QC L ops ops.toList ds e s k id=some (.arr te.size N f):=by kernel_rfl)(hr:r=.v (.c (.sub id te.size (lo0+(l.getD 0).toNat) ((u.getD n).toNat-(l.getD 0).toNat))):=by kernel_rfl):J9 P C nt L ops ds e s k:=by
 unfold J9;rw[hk]
 simp only[dc,eY]at hdo;obtain⟨J,I,H,m,D⟩:=hT
 refine Jn hdo.1 hdo.2 λR η j F a w B g _ p=>?_
 have b:∀y,(y=x\/lo=some y\/hi=some y)->y∈(IT ops k).op.operands.toList:=by
  intro y i;rw[hop]
  rcases i with h|h|h
  .subst h;simp[Op.operands]
  .subst h;simp[Op.operands,optional]
  .subst h;simp[Op.operands,optional]
 have o:YR F te.size (Y3 j x)=some (id,lo0,n):=by
  rw[B x (b x (.inl rfl)),qk (g x (b x (.inl rfl)))];exact hx
 have q:F id=some (.arr te.size N f):=by rw[g x (b x (.inl rfl)) id (qj hx)];exact hs
 have A:oI j lo=some l:=by rw[CX λy i=>B y (b y (.inr (.inl i)))];exact hl
 have z:oI j hi=some u:=by rw[CX λy i=>B y (b y (.inr (.inr i)))];exact hu
 rw[hr];exact Ek hL p (λd G=>YO hdo.1 d G) hop H m D A z o q hc
theorem uy(hL:Qa P L)(hT:Vj L t te)(hk:Ql ds k=rE {v:=vi n})(hop:(IT ops k).op=.call {callee:=.builtin .len,args:= #[x],argTypes:= #[t]})(hdo:(QM nt (IT ops k)&&(Ze ops (No L ops ds e s k) (IT ops k)==some true))=true:=by kernel_rfl)(hx:YR (OF L ops ds e s k) es (Y3 (No L ops ds e s k) x)=some (id,lo0,n):=by kernel_rfl)(hs:QC L ops ops.toList ds e s k id=some (.arr es N f):=by kernel_rfl):J9 P C nt L ops ds e s k:=by
 unfold J9;rw[hk]
 simp only[dc,eY]at hdo;obtain⟨y,u,p,g,r⟩:=hT
 refine Jn hdo.1 hdo.2 λR η m l a w q b _ i=>?_
 have c:x∈(IT ops k).op.operands.toList:=by rw[hop];simp[Op.operands,Call.operands]
 have h:YR l es (Y3 m x)=some (id,lo0,n):=by
  rw[q x c,qk (b x c)];exact hx
 have j:l id=some (.arr es N f):=by rw[b x c id (qj hx)];exact hs
 exact Q9y hL i (λd o=>YO hdo.1 d o) hop p g h j
theorem gV(hL:Qa P L)(hT:Vj L t te){m:Int}(hk:Ql ds k=rE {v:=r})(hop:(IT ops k).op=.indexAddr t x i)(hc:0<=m/\m<n)(hdo:(QM nt (IT ops k)&&(Ze ops (No L ops ds e s k) (IT ops k)==some true))=true:=by kernel_rfl)(hi:ZY (Y3 (No L ops ds e s k) i)=some m:=by kernel_rfl)(hx:YR (OF L ops ds e s k) te.size (Y3 (No L ops ds e s k) x)=some (id,lo0,n):=by kernel_rfl)(hs:QC L ops ops.toList ds e s k id=some (.arr te.size N f):=by kernel_rfl)(hr:r=.v (.c (.pte id te.size (lo0+m.toNat) 0)):=by kernel_rfl):J9 P C nt L ops ds e s k:=by
 unfold J9;rw[hk]
 simp only[dc,eY]at hdo;obtain⟨F,D,B,h,q⟩:=hT
 refine Jn hdo.1 hdo.2 λR η z u a w y b _ o=>?_
 have g:x∈(IT ops k).op.operands.toList:=by rw[hop];simp[Op.operands]
 have l:i∈(IT ops k).op.operands.toList:=by rw[hop];simp[Op.operands]
 have j:YR u te.size (Y3 z x)=some (id,lo0,n):=by
  rw[y x g,qk (b x g)];exact hx
 have p:u id=some (.arr te.size N f):=by rw[b x g id (qj hx)];exact hs
 rw[<-y i l]at hi;rw[hr]
 exact El hL o (λd A=>YO hdo.1 d A) hop B h q hi j p hc
theorem gW(hL:Qa P L)(hT:Vj L t te){g:Δ}(zd0 zd:Ψ)(hle:Rx zd0 zd)(hk:Ql ds k=rE {v:=.any,upd:=some (id,.arr te.size N g)})(hop:(IT ops k).op=.call {callee:=.builtin .clear,args:= #[x],argTypes:= #[t]})(h0:0<te.size)(hg:g=λi=>if lo0<=i/\i<lo0+n then(λ_=>zd) (i-lo0)else f i)(hdo:(QM nt (IT ops k)&&(Ze ops (No L ops ds e s k) (IT ops k)==some true))=true:=by kernel_rfl)(hzl:te.zero.length=te.size:=by kernel_rfl)(hz:Uc te.zero=some zd0:=by kernel_rfl)(hx:YR (OF L ops ds e s k) te.size (Y3 (No L ops ds e s k) x)=some (id,lo0,n):=by kernel_rfl)(hs:QC L ops ops.toList ds e s k id=some (.arr te.size N f):=by kernel_rfl):J9 P C nt L ops ds e s k:=by
 unfold J9;rw[hk,hg]
 simp only[dc,eY]at hdo;obtain⟨A,z,u,h,o⟩:=hT
 refine Jn hdo.1 hdo.2 λR η q p a w y b _ l=>?_
 have c:x∈(IT ops k).op.operands.toList:=by rw[hop];simp[Op.operands,Call.operands]
 have j:YR p te.size (Y3 q x)=some (id,lo0,n):=by
  rw[y x c,qk (b x c)];exact hx
 have m:p id=some (.arr te.size N f):=by rw[b x c id (qj hx)];exact hs
 exact Q9A hL l (λd r=>YO hdo.1 d r) hop u h o h0 hzl hz hle j m
section
theorem Qo(k:Nat)(o:Obj)(S:ι)(i:Nat):ls ((k,o)::S) i=if i=k then some o else ls S i:=by
 unfold ls
 grind
theorem Me(k:Nat)(o:ai)(E:Γ)(i:Nat):lk ((k,o)::E) i=if i=k then o else lk E i:=by
 unfold lk
 grind
