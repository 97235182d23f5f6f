/- Abstract states over the model. -/
import Derived.Test.YtlhhgeknhlkakaaGreatDoorAbA
import Derived.KernelRfl
import Derived.Laws.StructEq
set_option linter.unusedVariables false
set_option linter.unusedSimpArgs false
namespace Go.Ab
noncomputable section
variable {x fx:Operand}{vs:Array Value}{cs xs ys:List CV}{o:Oper}{ρ m:Nat->Nat}{rd ids G8:List Nat}{t el:TypeId}{Si So:List (Nat×Obj)}{y:CV}{η:Nat->Value}{w:World}{r:AVal}{tys:Array TypeId}{f:Nat->List DVal}{args:List AVal}{n k es id lo N lo0:Nat}{b:Bool}{u l:Option Int}{hi:Option Operand}{te:TI}
section
def CV.noSem:CV->Bool
 |.sem _=>false
 |_=>true
def TV.noSem:TV->Bool
 |.c x=>x.noSem
 |.g xs=>xs.all CV.noSem
def AVal.noSem:AVal->Bool
 |.any=>true
 |.v x=>x.noSem
 |.t xs=>xs.all TV.noSem
def Obj.noSem:Obj->Bool
 |.box _ cs=>cs.all CV.noSem
 |.arr _ _ _=>true
 |.ext _=>true
 |.exr _ _=>true
section
variable {w:World} {X:Nat->Prop} {η:Nat->Value} {C C' : Ctx}
theorem CRep.ctx{v:Value}{x:CV}(h:CRep w X η C v x)(hx:x.noSem=true):CRep w X η C' v x:=by
 cases h with
 |d _ _ h=>exact .d _ _ h
 |fl _ _ _ h=>exact .fl _ _ _ h
 |own _ _ h h1=>exact .own _ _ h h1
 |ptr _ _ _ h=>exact .ptr _ _ _ h
 |pte _ _ _ _ _ _ _ h=>exact .pte _ _ _ _ _ _ _ h
 |sub b N cap _ es lo n h h1 h2=>exact .sub b N cap _ es lo n h h1 h2
 |subN ad ad' N _ es h=>exact .subN ad ad' N _ es h
 |elm _ _ _ _ _ _ h1 h2 h3 h4=>exact .elm _ _ _ _ _ _ h1 h2 h3 h4
 |clo _ _ _ h=>exact .clo _ _ _ h
 |sem _ _ h h1=>cases hx
 |ap _ _ h h1=>exact .ap _ _ h h1
 |bnd _ _ _ h1 h2=>exact .bnd _ _ _ h1 h2
 |cp _ _ _ _ h h1 h2=>exact .cp _ _ _ _ h h1 h2
theorem Qf.ctx(h:Qf w X η C vs cs)(hx:cs.all CV.noSem=true):Qf w X η C' vs cs:=
 ⟨h.1,λj a=>(h.2 j a).ctx (Qb8.1 hx _ (Ya a))⟩
theorem TRep.ctx{v:Value}{x:TV}(h:TRep w X η C v x)(hx:x.noSem=true):TRep w X η C' v x:=by
 cases h with
 |c _ _ h=>exact .c _ _ (h.ctx hx)
 |g _ _ h=>exact .g _ _ (h.ctx hx)
theorem ARep.ctx{v:Value}{x:AVal}(h:ARep w X η C v x)(hx:x.noSem=true):ARep w X η C' v x:=by
 cases h with
 |any=>exact .any v
 |v _ _ h=>exact .v _ _ (h.ctx hx)
 |t us xs h1 h2=>exact .t us xs h1 λj a=>(h2 j a).ctx (Qb8.1 hx _ (Ya a))
theorem ORep.ctx{v:Value}{o:Obj}(h:ORep w X η C v o)(hx:o.noSem=true):ORep w X η C' v o:=by
 cases h with
 |box b ro c e cs h1 h2=>exact .box b ro c e cs h1 (h2.ctx hx)
 |nil ad es f=>exact .nil ad es f
 |arr b n cap es c e f h1 h2 h3 h4 h5 h6 h7=>exact .arr b n cap es c e f h1 h2 h3 h4 h5 h6 h7
 |ext _ _ h1 h2 h3=>exact .ext _ _ h1 h2 h3
 |exr _ _ _ h1 h2 h3=>exact .exr _ _ _ h1 h2 h3
theorem CRep.toRen{v:Value}{x:CV}(h:CRep w X (λi=>η (ρ i)) C v x):CRep w X η C v (x.ren ρ):=by
 cases h with
 |d _ _ h=>exact .d _ _ h
 |fl _ _ _ h=>exact .fl _ _ _ h
 |own _ _ h h1=>exact .own _ _ h h1
 |ptr _ _ _ h=>exact .ptr _ _ _ h
 |pte _ _ _ _ _ _ _ h=>exact .pte _ _ _ _ _ _ _ h
 |sub b N cap _ es lo n h h1 h2=>exact .sub b N cap _ es lo n h h1 h2
 |subN ad ad' N _ es h=>exact .subN ad ad' N _ es h
 |elm _ _ _ _ _ _ h1 h2 h3 h4=>exact .elm _ _ _ _ _ _ h1 h2 h3 h4
 |clo f ids vs h=>exact .clo f _ vs (by rw[h,Qn3];rfl)
 |sem _ _ h h1=>exact .sem _ _ h h1
 |ap _ _ h h1=>exact .ap _ _ h h1
 |bnd _ _ _ h1 h2=>exact .bnd _ _ _ h1 h2
 |cp _ _ _ _ h h1 h2=>exact .cp _ _ _ _ h h1 h2
theorem Qf.toRen(h:Qf w X (λi=>η (ρ i)) C vs cs):Qf w X η C vs (cs.map (CV.ren ρ)):=by
 refine⟨by simpa using h.1,λj b=>?_⟩;have a : j<cs.length:=by simpa using b
 have:=(h.2 j a).toRen
 grind
theorem TRep.toRen{v:Value}{x:TV}(h:TRep w X (λi=>η (ρ i)) C v x):TRep w X η C v (x.ren ρ):=by
 cases h with
 |c _ _ h=>exact .c _ _ h.toRen
 |g _ _ h=>exact .g _ _ h.toRen
theorem ARep.toRen{v:Value}{x:AVal}(h:ARep w X (λi=>η (ρ i)) C v x):ARep w X η C v (x.ren ρ):=by
 cases h with
 |any=>exact .any v
 |v _ _ h=>exact .v _ _ h.toRen
 |t us xs h1 h2=>
  refine .t us _ (by simpa using h1) λj b=>?_
  have a : j<xs.length:=by simpa using b
  have:=(h2 j a).toRen
  grind
theorem ORep.toRen{v:Value}{o:Obj}(h:ORep w X (λi=>η (ρ i)) C v o):ORep w X η C v (o.ren ρ):=by
 cases h with
 |box b ro c e cs h1 h2=>exact .box b ro c e _ h1 h2.toRen
 |nil ad es f=>exact .nil ad es f
 |arr b n cap es c e f h1 h2 h3 h4 h5 h6 h7=>exact .arr b n cap es c e f h1 h2 h3 h4 h5 h6 h7
 |ext _ _ h1 h2 h3=>exact .ext _ _ h1 h2 h3
 |exr _ refs p h1 h2 h3=>
  have e:refs.map (λi=>η (ρ i))=(refs.map ρ).map η:=by rw[Qn3];rfl
  rw[e]at h1 h2;exact .exr _ _ p h1 h2 h3
end
def YD(C:Ctx)(nt:Nat)(e:U8)(s:J0)(Si:List (Nat×Obj))(m:Nat->Nat)(rd ids:List Nat)(x:Operand)(y:AVal):Prop:=
 ∀R η e0 s0 a w,(∀t∈rd,e0 t=e t)->(∀i∈ids,s0 i=s i)->Conc C nt R η e0 s0 a w ->
  ARep w (XS C s0 η) (λi=>η (m i)) (Qk Si w (XS C s0 η) λi=>η (m i)) (a.eval x) y
section
variable {P:Program} {C:Ctx} {nt:Nat} {e:U8} {s:J0}
def QD(rd:List Nat)(x:Operand):Bool:=match x with|.tmp t=>rd.contains t|_=>true
theorem Z0b{t:Nat}(h:QD rd (.tmp t)=true):t∈rd:=by
 simpa[QD]using h
theorem ZL{e0 e:U8}(hrd:∀t∈rd,e0 t=e t)(hx:QD rd x=true):Y5 e0 x=Y5 e x:=by
 cases x<;>first|rfl|exact hrd _ (Z0b hx)
theorem HV{y:AVal}(hx:QD rd x=true)(hle:Y4 (Y5 e x) (y.ren m))(hs:y.noSem=true):YD C nt e s Si m rd ids x y:=by
 intro R η g h a w b c f;have d:=(K3 f x).1
 rw[ZL b hx]at d;exact(ARep.unren (hle.1 _ _ _ _ _ d)).ctx hs
def xK(ops:Array Oper)(o:Oper)(e:U8)(m:Nat->Nat)(extra:List Nat)(r:AVal)(Si So:List (Nat×Obj)):Eff where
 rd:=QG o++Qt ops o
 ids:=Wu e o++(Si.map (λp=>m p.1)++extra)
 v:=r.ren m
 l:=(So.map λp=>(m p.1,some (p.2.ren m)))++Si.map λp=>(m p.1,none)
 news:=(So.filter λp=> !(Si.map (·.1)).contains p.1).map λp=>m p.1
def Vf(m:Nat->Nat)(r:AVal)(Si So:List (Nat×Obj)):Bool:=
 ZV (Si.map (·.1))&&ZV (So.map (·.1))&&ZV ((So.filter λp=> !(Si.map (·.1)).contains p.1).map (λp=>m p.1)++Si.map λp=>m p.1) &&
 r.refs.all (λi=>(So.map (·.1)).contains i)&&So.all (λp=>p.2.refs.all λi=>(So.map (·.1)).contains i)&&r.noSem&&Si.all (λp=>p.2.noSem)&&So.all (λp=>p.2.noSem) &&
 So.all (λp=> !(Si.map (·.1)).contains p.1||Si.any λq=>q.1==p.1&&q.2.ro==p.2.ro)&&So.all (λp=>(Si.map (·.1)).contains p.1 || !p.2.ro)
theorem kx(x:CV):∀j∈(x.ren ρ).refs,∃i∈x.refs,j=ρ i:=by
 cases x<;>simp[CV.refs,CV.ren]
 grind
theorem vI{α β:Type}{f:α->List Nat}{g:α->α}{l:List α}(h:∀x,∀j∈f (g x),∃i∈f x,j=ρ i)(_:β):∀j∈(l.map g).flatMap f,∃i∈l.flatMap f,j=ρ i:=by
 grind
theorem Q3y(x:TV):∀j∈(x.ren ρ).refs,∃i∈x.refs,j=ρ i:=by
 cases x with
 |c x=>exact kx x
 |g xs=>exact vI (f:=CV.refs) kx ()
theorem Z6m(x:AVal):∀j∈(x.ren ρ).refs,∃i∈x.refs,j=ρ i:=by
 cases x with
 |any=>intro j a;cases a
 |v x=>exact Q3y x
 |t xs=>exact vI (f:=TV.refs) Q3y ()
theorem Z5q(o:Obj):∀j∈(o.ren ρ).refs,∃i∈o.refs,j=ρ i:=by
 cases o with
 |box ro cs=>exact vI (f:=CV.refs) kx ()
 |arr es n f=>intro j a;cases a
 |ext p=>intro j a;cases a
 |exr refs p=>
  intro j a;obtain⟨i,b,rfl⟩:=Qc7.1 a
  exact⟨i,b,rfl⟩
theorem Conc.call{R:Nat->Prop}{e0:U8}{s0:J0}{a:Act}(h:Conc C nt R η e0 s0 a w){d:Option Tmp}(hd:∀ x,d=some x->x<nt)(hchk:Vf m r Si So=true)(hsi:∀ p ∈ Si,∃ o1,s0 (m p.1)=some o1/\J5 o1 (p.2.ren m))(hfr:∀ k ∈ (So.filter fun p=> !(Si.map (·.1)).contains p.1).map (fun p=>m p.1),¬ R k){v:Value}{η' : Nat->Value}{w' : World}(hb:Behind (Qk Si w (XS C s0 η) fun i=>η (m i)) r So v η' w'):
  ∃η1,Conc C nt (λi=>R i\/i∈(So.filter λp=> !(Si.map (·.1)).contains p.1).map λp=>m p.1) η1 (Zs d (r.ren m) e0) (Zw ((So.map λp=>(m p.1,some (p.2.ren m)))++Si.map λp=>(m p.1,none)) s0) (a.put d v) w':=by
 simp only[Vf,Qa4]at hchk;obtain⟨⟨⟨⟨⟨⟨⟨⟨⟨c1,c2⟩,c3⟩,c4⟩,c5⟩,c6⟩,c7⟩,c8⟩,c9⟩,h8⟩:=hchk
 have n1:=VW c1;have n2:=VW c2
 have n3:=VW c3
 let news:=(So.filter λp=> !(Si.map (·.1)).contains p.1).map λp=>m p.1
 have Q:∀i,i∈Si.map (·.1)->∃o,(i,o)∈Si:=λi c=>by obtain⟨p,A,rfl⟩:=Qc7.1 c;exact⟨p.2,A⟩
 have b7:∀i o,(i,o)∈Si->ls Si i=some o:=by
  intro i o c;unfold ls
  obtain⟨l1,l2,rfl⟩:=Ql3 c
  grind
 have E:∀i o,(i,o)∈So->ls So i=some o:=by
  intro i o c;unfold ls
  obtain⟨l1,l2,rfl⟩:=Ql3 c
  grind
 have K:∀p∈So,p.1∈Si.map (·.1)\/m p.1∈news:=by
  intro p A
  grind
 rw[Qm6]at n3;obtain⟨f7,h6,d4⟩:=n3
 have a6:∀{α:Type} (f:α->Nat) (l:List α),(l.map f).Nodup->∀x∈l,∀y∈l,f x=f y->x=y:=by
  intro α f l
  induction l with
  |nil=>intro _ x U;cases U
  |cons z l ih=>
   grind
 have f5:∀i j,i∈Si.map (·.1)->j∈Si.map (·.1)->m i=m j->i=j:=by
  grind
 have f4:∀p∈So,∀q∈So,m p.1=m q.1->p.1=q.1:=by
  intro p A q Z f3;rcases K p A with O|O<;>rcases K q Z with J|J
  .grind
  .grind
  .obtain ⟨oq,e3⟩:=Q _ J
   grind
  .obtain ⟨p',i4,e1⟩:=Qc7.1 O
   obtain⟨q',h7,e2⟩:=Qc7.1 J
   by_cases hps:p.1∈Si.map (·.1)
   .obtain ⟨op,e9⟩:=Q _ hps
    exact absurd rfl (d4 _ O _ (Qc7.2 ⟨_,e9,rfl⟩))
   .by_cases hqs:q.1∈Si.map (·.1)
    .obtain ⟨oq,e3⟩:=Q _ hqs
     exact absurd rfl (d4 _ J _ (Qc7.2 ⟨_,e3,rfl⟩))
    .have:=a6 (λp:Nat×Obj=>m p.1) _ f7 p (Qe6.2 ⟨A,by simpa using hps⟩) q (Qe6.2 ⟨Z,by simpa using hqs⟩) f3
     rw[this]
 let η1:Nat->Value:=λk=>match So.find? (λp=>m p.1==k)with|some p=>η' p.1|none=>η k
 have Y:∀p∈So,η1 (m p.1)=η' p.1:=by
  grind
 have d0:∀i,i∈Si.map (·.1)->η' i=η (m i):=by
  intro i c;obtain⟨o,G⟩:=Q i c
  refine hb.pn i _ ?_;have:=b7 i o G
  unfold ls at this;simp[Qk,this]
 have H:∀k,(∀p∈So,m p.1≠k)->η1 k=η k:=by
  grind
 have eR:∀k,R k->η1 k=η k:=by
  grind
 generalize hs1:Zw ((So.map λp=>(m p.1,some (p.2.ren m)))++Si.map λp=>(m p.1,none)) s0=s1;have B:∀k o,s1 k=some o->(∃p∈So,m p.1=k/\o=p.2.ren m)\/(s0 k=some o/\(∀p∈So,m p.1≠k)/\∀p∈Si,m p.1≠k):=by
  intro k o I;rw[<-hs1]at I
  unfold Zw at I;rw[Qs6]at I
  cases hl1:(So.map λp=>(m p.1,some (p.2.ren m))).lookup k with
  |some x=>
   rw[hl1]at I;simp only[Option.some_or]at I
   obtain⟨l1,l2,hl,_⟩:=Qi5.1 hl1;have b9:(k,x)∈So.map λp=>(m p.1,some (p.2.ren m)):=by rw[hl];simp
   grind
  |none=>
   rw[hl1]at I;simp only[Option.none_or]at I
   have f8:∀p∈So,m p.1≠k:=by
    intro p A hh;rw[Qu9]at hl1
    have:=hl1 _ (Qw9 A)
    grind
   cases hl2:(Si.map λp=>(m p.1,(none:Option Obj))).lookup k with
   |some x=>
    rw[hl2]at I;obtain⟨l1,l2,hl,_⟩:=Qi5.1 hl2
    have b9:(k,x)∈Si.map λp=>(m p.1,(none:Option Obj)):=by rw[hl];simp
    grind
   |none=>
    rw[hl2]at I;refine .inr ⟨I,f8,λp A hh=>?_⟩
    rw[Qu9]at hl2;have:=hl2 _ (Qw9 A)
    grind
 have W:∀i o,ls Si i=some o->∀b,b∈V8 (η (m i))->Own s0 η b:=by
  intro i o c b b5;obtain⟨o1,O,_⟩:=hsi _ (Qd c)
  exact⟨m i,o1,O,b5⟩
 have L:∀k o i F b,s0 k=some o->ls Si i=some F->b∈V8 (η k)->b∈V8 (η (m i))->k=m i:=by
  intro k o i F b I c b3 a3;obtain⟨o1,O,_⟩:=hsi _ (Qd c)
  exact h.ds k (m i) b (by rw[I];simp) (by rw[O];simp) b3 a3
 have a0:∀i F b,ls Si i=some F->F.ro=false->b∈V8 (η (m i))->C.M b\/C.w0.heap.size<=b:=by
  intro i F b c a5 b5;obtain⟨o1,O,g0⟩:=hsi _ (Qd c)
  rcases h.ow _ o1 b O b5 with ⟨J,_⟩|J
  .have:o1.ro=F.ro:=by rw[<-g0.2.1,FP]
   grind
  .exact J
 have d2:∀b,XS C s1 η1 b->(b<w.heap.size->XS C s0 η b)/\XS (Qk Si w (XS C s0 η) λi=>η (m i)) (ls So) η' b:=by
  intro b U;rcases U with ⟨U,hD⟩|⟨k,o,I,D⟩
  .refine ⟨λ_=>.inl ⟨U,hD⟩,.inl ⟨.inl ⟨U,hD⟩,λG=>?_⟩⟩
   obtain⟨i,o,c,g⟩:=G;obtain⟨o1,O,_⟩:=hsi _ (Qd c)
   have a7:=h.ok.lt b U;rcases h.ow _ o1 b O g with ⟨_,J⟩|J|J
   .exact hD J
   .exact hD (h.ok.md b J)
   .omega
  .rcases B k o I with ⟨p,A,rfl,rfl⟩|⟨G,N,V⟩
   .rw [Y p A]at D
    refine⟨λa7=>?_,.inr ⟨p.1,p.2,E _ _ A,D⟩⟩;rcases hb.ow p.1 p.2 b (E _ _ A) D with ⟨_,⟨i,F,c,g⟩⟩|⟨i,F,c,_,g⟩|a2
    .exact .inr (W i F c b g)
    .exact .inr (W i F c b g)
    .have:w.heap.size<=b:=a2
     omega
   .rw [H k N]at D
    have a9:Own s0 η b:=⟨k,o,G,D⟩;refine⟨λ_=>.inr a9,.inl ⟨.inr a9,λU=>?_⟩⟩
    obtain⟨i,F,c,g⟩:=U;exact V _ (Qd c) (L k o i F b G c D g).symm
 have b2:QQ w w' (XS C s0 η) (XS C s1 η1):=by
  intro b a7 hX;refine⟨hb.stp.block b a7 λhM=>?_,λU=>hX ((d2 b U).1 a7)⟩
  obtain⟨i,F,c,_,g⟩:=hM;exact hX (.inr (W i F c b g))
 have d8:QQ w' w' (XS (Qk Si w (XS C s0 η) λi=>η (m i)) (ls So) η') (XS C s1 η1):=λb _ hX=>⟨rfl,λU=>hX (d2 b U).2⟩
 have c0:∀p∈So,R (m p.1)\/m p.1∈news:=by
  intro p A;rcases K p A with O|O
  .obtain ⟨o,G⟩:=Q _ O
   obtain⟨o1,J,_⟩:=hsi _ G;exact .inl (h.sr _ o1 J).1
  .exact .inr O
 have a4:∀i,(So.map (·.1)).contains i=true->∃p∈So,p.1=i:=by
  grind
 have b4:∀p∈So,ORep w' (XS C s1 η1) η1 C (η1 (m p.1)) (p.2.ren m):=by
  intro p A;have O:=hb.objs p.1 p.2 (E _ _ A)
  have J:=O.mono (η':=λi=>η1 (m i)) d8 (λi c=>by
   obtain⟨q,Z,rfl⟩:=a4 i (Qb8.1 (Qb8.1 c5 p A) i c)
   grind) (λ_ _=>rfl)
  rw[Y p A];exact(J.toRen).ctx (by
   have:=Qb8.1 c8 p A
   cases hp2:p.2 with
   |box ro cs=>
    rw[hp2]at this;simp only[Obj.ren,Obj.noSem,Qx4]
    rw[Qb8];intro x U
    have:=Qb8.1 this x U
    cases x<;>first|rfl|cases this
   |arr es n f=>rfl
   |ext p=>rfl
   |exr refs p=>rfl)
 refine⟨η1,h.ok,by rw[Q0m];exact h.df,by rw[Q0l];exact h.sz,λt=>?_,λt i c=>?_,λk o I=>?_,λk o I=>?_,λi j b c hj S T=>?_,λk o b I D=>?_,?_,λi u c=>?_⟩
 .rw [yf a d v t (by rw[h.sz];exact hd)]
  unfold Zs;have g9:ARep w' (XS C s1 η1) η1 C v (r.ren m):=by
   have J:=hb.res.mono (η':=λi=>η1 (m i)) d8 (λi c=>by
    grind)
   exact(J.ctx c6).toRen
  cases d with
  |none=>exact(h.ev t).mono b2 λi c=>eR i (h.er t i c)
  |some d=>
   simp only[Qi9]
   by_cases htd:t=d
   .grind
   .rw [Qa1 (λhh=>htd hh.symm),Qa1 htd]
    exact(h.ev t).mono b2 λi c=>eR i (h.er t i c)
 .unfold Zs at c
  have b8:i∈(e0 t).refs->R i\/i∈news:=λhh=>.inl (h.er t i hh)
  have g8:i∈(r.ren m).refs->R i\/i∈news:=by
   intro hh;obtain⟨j,hj,rfl⟩:=Z6m r i hh
   grind
  cases d with
  |none=>exact b8 c
  |some d=>
   grind
 .rcases B k o I with ⟨p,A,rfl,rfl⟩|⟨G,N,V⟩
  .exact b4 p A
  .rw [H k N]
   refine(h.st k o G).mono b2 (λj hj=>eR j ((h.sr k o G).2 j hj)) λb D=>?_
   refine hb.stp.block b ((h.st k o G).lt D) λhM=>?_
   obtain⟨i,F,c,_,g⟩:=hM;exact V _ (Qd c) (L k o i F b G c D g).symm
 .rcases B k o I with ⟨p,A,rfl,rfl⟩|⟨G,N,V⟩
  .refine ⟨c0 p A,λj hj=>?_⟩
   obtain⟨i,c,rfl⟩:=Z5q p.2 j hj;obtain⟨q,Z,rfl⟩:=a4 i (Qb8.1 (Qb8.1 c5 p A) i c)
   exact c0 q Z
  .exact ⟨.inl (h.sr k o G).1,λj hj=>.inl ((h.sr k o G).2 j hj)⟩
 .obtain ⟨F,f9⟩:=Qa9.1 c
  obtain⟨oj,f1⟩:=Qa9.1 hj;have a1:∀p∈So,∀k o,s0 k=some o->(∀p∈Si,m p.1≠k)->∀b,b∈V8 (η' p.1)->b∈V8 (η k)->False:=by
   intro p A k o G hn b b3 a3;rcases hb.ow p.1 p.2 b (E _ _ A) b3 with ⟨_,⟨i,F,c,g⟩⟩|⟨i,F,c,_,g⟩|a2
   .exact hn _ (Qd c) (L k o i F b G c a3 g).symm
   .exact hn _ (Qd c) (L k o i F b G c a3 g).symm
   .have O:w.heap.size<=b:=a2
    have J:=(h.st k o G).lt a3;omega
  rcases B i F f9 with ⟨p,A,rfl,rfl⟩|⟨G,N,V⟩<;>rcases B j oj f1 with ⟨q,Z,rfl,rfl⟩|⟨d5,a8,d6⟩
  .rw [Y p A]at S;rw[Y q Z]at T
   rw[hb.ds p.1 q.1 b (by rw[E _ _ A];simp) (by rw[E _ _ Z];simp) S T]
  .rw [Y p A]at S;rw[H _ a8]at T
   exact(a1 p A _ _ d5 d6 b S T).elim
  .rw [Y q Z]at T;rw[H _ N]at S
   exact(a1 q Z _ _ G V b T S).elim
  .rw [H _ N]at S;rw[H _ a8]at T
   exact h.ds i j b (by rw[G];simp) (by rw[d5];simp) S T
 .rcases B k o I with ⟨p,A,rfl,rfl⟩|⟨G,N,V⟩
  .rw [Y p A]at D
   rw[FP];rcases hb.ow p.1 p.2 b (E _ _ A) D with ⟨a5,_⟩|⟨i,F,c,a5,g⟩|a2
   .
    have d9:p.1∈Si.map (·.1):=by
     grind
    have h9:=Qb8.1 c9 p A;have e5 : (Si.map (·.1)).contains p.1=true:=by simpa using d9
    simp only[e5,Bool.not_true,Qj7,Qd3]at h9;obtain⟨q,Z,b1⟩:=h9
    simp only[Qa4,Qg6]at b1;obtain⟨o1,g1,g2⟩:=hsi q Z
    rw[b1.1]at g1;rw[d0 _ d9]at D
    have e4:o1.ro=p.2.ro:=by rw[<-g2.2.1,FP,b1.2]
    rw[<-e4];exact h.ow _ o1 b g1 D
   .exact .inr (a0 i F b c a5 g)
   .exact .inr (.inr (Qc9 h.fr.size a2))
  .rw [H k N]at D
   exact h.ow k o b G D
 .refine h.fr.trans (hb.stp.mono λb _ hM=>?_)
  obtain⟨i,F,c,a5,g⟩:=hM;exact a0 i F b c a5 g
 .have:=h.pn i u c
  exact⟨(eR i this.2).trans this.1,.inl this.2⟩
end
end
section
def CV.closed(x:CV):Bool:=x.refs.isEmpty&&x.noSem
def AVal.closed(x:AVal):Bool:=x.refs.isEmpty&&x.noSem
section
variable {w:World} {X:Nat->Prop} {η η' : Nat->Value} {C C' : Ctx}
theorem ARep.free{v:Value}{x:AVal}(h:ARep w X η C v x)(hx:x.closed=true):ARep w X η' C' v x:=by
 simp only[AVal.closed,Qa4,Qk7]at hx;exact(h.mono (λb _ c=>⟨rfl,c⟩) (λi a=>by rw[hx.1]at a;cases a)).ctx hx.2
theorem Qf.free(h:Qf w X η C vs cs)(hx:cs.all CV.closed=true):Qf w X η' C' vs cs:=by
 refine⟨h.1,λj a=>?_⟩;have:=Qb8.1 hx _ (Ya (d:=.d .any) a)
 simp only[CV.closed,Qa4,Qk7]at this;exact((h.2 j a).mono (λb _ f=>⟨rfl,f⟩) (λi c=>by rw[this.1]at c;cases c)).ctx this.2
end
def Qp(P:Program)(F:List AVal->AVal->Prop)(w0:World)(D X:Nat->Prop)(v:Value):Prop:=
 ∃f caps,v=.func (.func f) #[] caps/\(∀args w,(callFunc f args).run P w=.ok (.enter f args) w) /\
  ∀(w1:World) (X1:Nat->Prop) (vs:Array Value) (args:List AVal) (r:AVal),F args r->w0.heap.size<=w1.heap.size->(∀b,b<w0.heap.size->¬D b->w1.heap[b]?=w0.heap[b]?)->(∀b,X1 b->b<w1.heap.size) ->
   (∀b,b<w0.heap.size->¬D b->(X1 b↔X b))->vs.size=args.length->(∀j,j<args.length->∀η C,ARep w1 X1 η C (vs.getD j undef) (args.getD j .any)) ->
   Calls P f (vs++caps) w1 λe w'=>∃v',e=.returned v' /\ Stp (λ_=>False) w1 w' /\ ∀η C,ARep w' X1 η C v' r
def Yl(P:Program)(F:List AVal->AVal->Prop):AVal:=.v (.c (.sem (Qp P F)))
section
variable {P:Program} {C:Ctx} {nt:Nat} {ops:Array Oper} {e:U8} {s:J0}
theorem CI{xs:Array Operand}(hop:o.op=.call {callee:=.value fx,args:=xs,argTypes:=tys}){a:Act}{f:Nat}{caps:Array Value}(hf:a.eval fx=.func (.func f) #[] caps)(hcall:∀args w,(callFunc f args).run P w=.ok (.enter f args) w):(execOp a.eval o).run P w=.ok (.enter f (xs.map a.eval++caps)) w:=by
 simp[execOp,hop,resolve,Deferred.ofValue,hf,invoke,hcall]
theorem YO(hdo:QJ nt o=true):∀x,o.dst=some x->x<nt:=by
 intro x a;simp only[QJ,a,Qa4,Qb7]at hdo
 exact hdo.1
theorem Hy{X:Nat->Prop}{v:Value}{f:Nat}(h:ARep w X η C v (.v (.c (.clo f ids)))):v=.func (.func f) #[] (ids.map η).toArray:=by
 cases h with|v _ _ h=>cases h with|c _ _ h=>cases h with|clo _ _ vs h=>rw[h]
theorem Q5o{f:Nat}(hcall:∀args w,(callFunc f args).run P w=.ok (.enter f args) w){xs:Array Operand}(hop:o.op=.call {callee:=.value fx,args:=xs,argTypes:=tys})(hfx:Y5 e fx=.v (.c (.clo f [])))(hrf:QD (QG o++Qt ops o) fx=true)(hspec:G4 P f args Si r So)(hlen:xs.size=args.length)(m:Nat->Nat)(extra:List Nat)(hargs:∀j,j<args.length->YD C nt e s Si m (QG o++Qt ops o) (Wu e o++(Si.map (λp=>m p.1)++extra)) (xs.toList.getD j (.const undef)) (args.getD j .any))(hsi:∀p∈Si,∃o1,s (m p.1)=some o1/\J5 o1 (p.2.ren m))(hchk:Vf m r Si So=true)(hdo:QJ nt o=true)(hg:QW ops e o=some true):Wo P C nt ops o (xK ops o e m extra r Si So) e s:=by
 intro R η Y F a w q k J h K Q hK;have V:=Ur (e:=e) h (λt ht=>q t (Qb2.2 (.inr ht))) hg
 rw[Qa2 V];have z:=(K3 h fx).1
 rw[ZL q hrf,hfx]at z;have B:=Hy z
 have L:=CI (w:=w) hop B hcall;have d:∀p∈Si,∃o1,F (m p.1)=some o1/\J5 o1 (p.2.ren m):=by
  intro p S;rw[k (m p.1) (Qb2.2 (.inr (Qb2.2 (.inl (Qc7.2 ⟨p,S,rfl⟩)))))]
  exact hsi p S
 simp only[Vf,Qa4]at hchk;have l:=hchk
 obtain⟨⟨⟨⟨⟨⟨⟨⟨⟨c1,c2⟩,U⟩,c4⟩,c5⟩,c6⟩,c7⟩,c8⟩,c9⟩,a6⟩:=hchk;have y:∀b,XS C F η b->b<w.heap.size:=by
  rintro b (⟨hx,_⟩|hx)
  .exact Qc4 (h.ok.lt b hx) h.fr.size
  .exact h.lt hx
 have D:∀i u,ls Si i=some u -> u.noSem=true:=λi u g=>Qb8.1 c7 _ (Qd g)
 have I:=hspec w (XS C F η) (λi=>η (m i)) (xs.map a.eval++(([]:List Nat).map η).toArray) y
  (λb ⟨i,u,g,hib⟩=>by obtain⟨o1,A,_⟩:=d _ (Qd g);exact .inr ⟨m i,o1,A,hib⟩)
  (λi u g=>by
   obtain⟨o1,A,M⟩:=d _ (Qd g);exact(ORep.unren (M.1 _ _ _ _ _ (h.st _ o1 A))).ctx (D i u g))
  (λi j b g x G H=>by
   obtain⟨oi,g⟩:=Qa9.1 g;obtain⟨oj,x⟩:=Qa9.1 x
   obtain⟨o1,A,_⟩:=d _ (Qd g);obtain⟨o2,T,_⟩:=d _ (Qd x)
   have E:m i=m j:=h.ds _ _ b (by rw[A];simp) (by rw[T];simp) G H;have n3:=VW U
   rw[Qm6]at n3;exact vk (ρ:=m) n3.2.1 (by rw[g];simp) (by rw[x];simp) E)
  (by simp[hlen])
  (λj x=>by
   have O : j<xs.size:=by omega
   have e1:(xs.map a.eval++(([]:List Nat).map η).toArray).getD j undef=a.eval (xs.toList.getD j (.const undef)):=by
    simp[Qa0,O]
   rw[e1];exact hargs j x R η Y F a w q k h)
 unfold Oper.wp;rw[L]
 show Calls P f _ w _;refine I.mono λen W hh=>?_
 obtain⟨v,η',rfl,Z⟩:=hh;have n:Vf m r Si So=true:=by simp only[Vf,Qa4];exact l
 obtain⟨η1,N⟩:=h.call (YO hdo) n d J Z;exact hK η1 _ W N
def Ji(ops:Array Oper)(o:Oper)(e:U8)(r:AVal):Eff where
 rd:=QG o++Qt ops o
 ids:=Wu e o
 v:=r
 l:=[]
 news:=[]
theorem Q5l{F:List AVal->AVal->Prop}{xs:Array Operand}(hop:o.op=.call {callee:=.value fx,args:=xs,argTypes:=tys})(hfx:Y5 e fx=Yl P F)(hF:F args r)(hlen:xs.size=args.length)(hrd' : QD (QG o++Qt ops o) fx=true/\∀x∈xs.toList,QD (QG o++Qt ops o) x=true)(hargs:∀j,j<args.length->Y4 (Y5 e (xs.toList.getD j (.const undef))) (args.getD j .any)/\(args.getD j .any).closed=true)(hr:r.closed=true)(hdo:QJ nt o=true)(hg:QW ops e o=some true):Wo P C nt ops o (Ji ops o e r) e s:=by
 intro R η e0 q a w p W a7 g K Q hK;have hw:=Ur (e:=e) g (λt ht=>p t (Qb2.2 (.inr ht))) hg
 rw[Qa2 hw];have m:=(K3 g fx).1
 rw[ZL p hrd'.1,hfx]at m;have z:Qp P F C.w0 C.D C.X (a.eval fx):=by
  generalize a.eval fx=u at m
  cases m with|v _ _ h=>cases h with|c _ _ h=>cases h with|sem _ _ h _=>exact h
 obtain⟨f,a1,N,n,J⟩:=z;have O:=CI (w:=w) hop N n
 have y:∀b,XS C q η b->b<w.heap.size:=by
  rintro b (⟨d,_⟩|d)
  .exact Qc4 (g.ok.lt b d) g.fr.size
  .exact g.lt d
 have T:=J w (XS C q η) (xs.map a.eval) args r hF g.fr.size (λb H I=>g.fr.block b H λhM=>I (g.ok.md b hM)) y
  (λb H I=>⟨λd=>by
   rcases d with ⟨d,_⟩|⟨i,o',M,V⟩
   .exact d
   .rcases g.ow i o' b M V with ⟨_,L⟩|L|L
    .grind
    .exact absurd (g.ok.md b L) I
    all_goals grind,λd=>.inl ⟨d,I⟩⟩) (by simp[hlen])
  (λj B η2 C2=>by
   have G : j<xs.size:=by omega
   have e1:(xs.map a.eval).getD j undef=a.eval (xs.toList.getD j (.const undef)):=by simp[Qa0,G]
   rw[e1];obtain⟨g1,g2⟩:=hargs j B
   have d:=(K3 g (xs.toList.getD j (.const undef))).1;rw[ZL p (hrd'.2 _ (Ya (by simpa using G)))]at d
   exact(g1.1 _ _ _ _ _ d).free g2)
 unfold Oper.wp;rw[O]
 show Calls P f _ w _;refine T.mono λen Y hh=>?_
 obtain⟨v,rfl,A,E⟩:=hh;have Z:SR.sto {v:=r} o.dst q=q:=by funext i;simp[SR.sto]
 have he:SR.eta {v:=r} o.dst v η=η:=by funext i;simp[SR.eta]
 have S:SR.rng {v:=r} o.dst R=R:=by funext i;simp[SR.rng]
 have:=g.step o.dst (YO hdo) {v:=r} v Y (λ_=>False) A (λb H=>H.elim) (λo dd U=>by cases U) (λk o U=>by cases U)
  (λ_=>by rw[Z,he];refine⟨E _ _,λj B=>?_⟩;simp only[AVal.closed,Qa4,Qk7]at hr;simp only at B;rw[hr.1]at B;cases B)
 rw[Z,he,S]at this;refine hK η _ Y ?_
 have hu:Zw (Ji ops o e r).l q=q:=by funext i;rfl
 rw[hu];exact this.wider λi M=>.inl M
theorem YD.sem{F:List AVal->AVal->Prop}(hx:QD rd x=true)(hv:Y5 e x=Yl P F)(hsi:∀p∈Si,∃o1,s (m p.1)=some o1)(hin:∀p∈Si,m p.1∈ids):YD C nt e s Si m rd ids x (Yl P F):=by
 intro R η e0 W a w T z j;have l:=(K3 j x).1
 rw[ZL T hx,hv]at l;have B:Qp P F C.w0 C.D C.X (a.eval x)/\(a.eval x).oneCell'=true:=by
  generalize a.eval x=u at l
  cases l with|v _ _ h=>cases h with|c _ _ h=>cases h with|sem _ _ h d=>exact⟨h,d⟩
 obtain⟨⟨f,H,O,n,M⟩,J⟩:=B;refine .v _ _ (.c _ _ (.sem _ _ ⟨f,H,O,n,?_⟩ J))
 intro V Y vs E r Z S A U Q N t;have I : w.heap.size<=V.heap.size:=S
 have K:∀b,Own (ls Si) (λi=>η (m i)) b->Own W η b:=by
  rintro b ⟨i,L,y,g⟩;obtain⟨o1,d⟩:=hsi _ (Qd y)
  exact⟨m i,o1,by rw[z _ (hin _ (Qd y))];exact d,g⟩
 have G:∀b,b<C.w0.heap.size->¬C.D b->¬Own (ls Si) (λi=>η (m i)) b:=by
  intro b o k ho;obtain⟨i,L,y,g⟩:=K b ho
  rcases j.ow i L b y g with ⟨_,d⟩|d|d
  .exact k d
  .exact k (j.ok.md b d)
  .omega
 refine M V Y vs E r Z (Qc9 j.fr.size I) (λb o k=>?_) U (λb o k=>?_) N t
 .have q:b<w.heap.size:=Qc4 o j.fr.size
  exact(A b q (G b o k)).trans (j.fr.block b o λhM=>k (j.ok.md b hM))
 .have q:b<w.heap.size:=Qc4 o j.fr.size
  rw[Q b q (G b o k)];constructor
  .rintro (⟨hx,_⟩|⟨i,L,y,g⟩)
   .exact hx
   .rcases j.ow i L b y g with ⟨_,d⟩|d|d
    .grind
    .exact absurd (j.ok.md b d) k
    .omega
  .exact λhx=>.inl ⟨hx,k⟩
def Zq(cs:List (List CV)):List (Nat×Obj):=cs.zipIdx.map λp=>(p.2,.box true p.1)
def Wl(cs:List (List CV)):List AVal:=(List.range cs.length).map λk=>.v (.c (.ptr k 0))
theorem Q2Z(cs:List (List CV))(k:Nat):ls (Zq cs) k=(cs[k]?).map (Obj.box true):=by
 have a:∀(l:List (List CV)) (n k:Nat),((l.zipIdx n).map λp=>(p.2,Obj.box true p.1)).lookup k=if k<n then none else(l[k-n]?).map (Obj.box true):=by
  intro l
  induction l with
  |nil=>intro n k;simp
  |cons x l ih=>
   intro n k;simp only[Qq2,Qg4,Qg7]
   grind
 have:=a cs 0 k
 simpa[ls,Zq]using this
theorem YD.clo{f:Nat}(hcall:∀args w,(callFunc f args).run P w=.ok (.enter f args) w){F:List AVal->AVal->Prop}{cs:List (List CV)}(hspec:∀args r,F args r->G4 P f (args++Wl cs) (Zq cs) r (Zq cs))(hres:∀args r,F args r->r.closed=true)(hx:QD rd x=true){cids:List Nat}(hv:Y5 e x=.v (.c (.clo f cids)))(hlen:cids.length=cs.length)(hnd:ZV cids=true)(hbox:∀k,k<cs.length->∃ro,s (cids.getD k 0)=some (.box ro (cs.getD k [])))(hcl:cs.all (λc=>c.all CV.closed)=true)(hsi:∀p∈Si,∃o1,s (m p.1)=some o1)(hin:∀p∈Si,m p.1∈ids)(hcin:∀i∈cids,i∈ids)(hapart:∀p∈Si,m p.1∉cids):YD C nt e s Si m rd ids x (Yl P F):=by
 intro R η e0 Z a w a8 J T;have Y:=(K3 T x).1
 rw[ZL a8 hx,hv]at Y;have a1:=Hy Y
 refine .v _ _ (.c _ _ (.sem _ _ ⟨f,_,a1,hcall,?_⟩ (by rw[a1];rfl)));intro W Q K args r hF c1 I a9 a2 a4 b8
 have c3 : w.heap.size<=W.heap.size:=c1;have G:∀k,k<cs.length->cids.getD k 0∈cids:=λk D=>Ya (by omega)
 have n:∀k,k<cs.length->∃ro,Z (cids.getD k 0)=some (.box ro (cs.getD k [])):=by
  grind
 have t:∀k,k<cs.length->∃b N O,η (cids.getD k 0)=.pointer (some ⟨b,0,none⟩)/\w.heap[b]?=some (.cells N O (0,0))/\Qf w (XS C Z η) η C N (cs.getD k []):=by
  intro k D;obtain⟨ro,q⟩:=n k D
  have:=T.st _ _ q
  generalize η (cids.getD k 0)=u at this
  cases this with
  |box b _ N O _ B hcs=>exact⟨b,N,O,rfl,B,hcs⟩
 have z:∀k,k<cs.length->∀b,b∈V8 (η (cids.getD k 0))->¬Own (ls Si) (λi=>η (m i)) b:=by
  rintro k D b B ⟨i,y,d,l⟩;obtain⟨ro,q⟩:=n k D
  obtain⟨o1,E⟩:=hsi _ (Qd d);have c0 : Z (m i)=some o1:=by rw[J _ (hin _ (Qd d))];exact E
  have:=T.ds _ _ b (by rw[q];simp) (by rw[c0];simp) B l
  exact hapart _ (Qd d) (this ▸ G k D)
 have b1:∀b,Own (ls Si) (λi=>η (m i)) b->XS C Z η b:=by
  rintro b ⟨i,y,d,l⟩;obtain⟨o1,E⟩:=hsi _ (Qd d)
  exact .inr ⟨m i,o1,by rw[J _ (hin _ (Qd d))];exact E,l⟩
 have D:QQ w W (XS C Z η) Q:=by
  intro b B hX;have a0:¬Own (ls Si) (λi=>η (m i)) b:=λV=>hX (b1 b V)
  exact⟨I b B a0,λhx=>hX ((a2 b B a0).1 hx)⟩
 have h:∀k o,ls (Zq cs) k=some o->k<cs.length/\o=.box true (cs.getD k []):=by
  intro k o D;rw[Q2Z]at D
  grind
 have A:∀b,Own (ls (Zq cs)) (λk=>η (cids.getD k 0)) b->Q b:=by
  rintro b ⟨k,y,L,M⟩;obtain⟨g,_⟩:=h k y L
  obtain⟨ro,q⟩:=n k g;have b2:b<w.heap.size:=(T.st _ _ q).lt M
  exact(a2 b b2 (z k g b M)).2 (.inr ⟨_,_,q,M⟩)
 have b6:=hspec args r hF W Q (λk=>η (cids.getD k 0)) (K++(cids.map η).toArray) a9 A
  (λk o L=>by
   obtain⟨g,rfl⟩:=h k o L;obtain⟨b,N,O,q,E,h3⟩:=t k g
   have c2:=z k g b (by rw[q];simp[V8]);show ORep W Q _ _ (η (cids.getD k 0)) _
   rw[q];have b9:(cs.getD k []).all CV.closed=true:=Qb8.1 hcl _ (Ya g)
   exact .box b true N O _ ((I b (J8 E) c2).trans E) ((h3.mono (η':=η) D (λ_ _=>rfl)).free b9))
  (λi j b d S b3 b4=>by
   obtain⟨oi,d⟩:=Qa9.1 d;obtain⟨oj,S⟩:=Qa9.1 S
   obtain⟨a6,_⟩:=h i oi d;obtain⟨a7,_⟩:=h j oj S
   obtain⟨r1,q⟩:=n i a6;obtain⟨r2,E⟩:=n j a7
   have U:=T.ds _ _ b (by rw[q];simp) (by rw[E];simp) b3 b4;have hn:=VW hnd
   have b0:i<cids.length:=by omega
   have b7:j<cids.length:=by omega
   rw[Qa0,Qa0,Qc0 b0,Qc0 b7]at U;exact(Qn9 hn).1 (by simpa using U))
  (by simp[a4,Wl,hlen])
  (λj S=>by
   rw[Qb5]at S
   by_cases hja:j<args.length
   .have e1:(K++(cids.map η).toArray).getD j undef=K.getD j undef:=by
     have:j<K.size:=by omega
     simp[Qe9,Qg2,this]
    have e2:(args++Wl cs).getD j .any=args.getD j .any:=by simp[Qa0,Qf8,hja]
    grind
   .have g:j-args.length<cs.length:=by simp[Wl]at S;omega
    obtain⟨b,N,O,q,E,h3⟩:=t _ g;have e1:(K++(cids.map η).toArray).getD j undef=η (cids.getD (j-args.length) 0):=by
     have g1:¬j<K.size:=by omega
     have g2:j-K.size<cids.length:=by omega
     have g3:j-args.length<cids.length:=by omega
     have:j-K.size=j-args.length:=by omega
     simp[Qe9,Qg2,g1,Qa0,this,g3]
    have e2:(args++Wl cs).getD j .any=.v (.c (.ptr (j-args.length) 0)):=by
     simp[Qa0,Qf8,hja,Wl,g]
    rw[e1,e2,q];exact .v _ _ (.c _ _ (.ptr b _ 0 q)))
 refine b6.mono λen w' hh=>?_
 obtain⟨v,η',rfl,B⟩:=hh;refine⟨v,rfl,B.stp.mono λb _ hM=>?_,λη2 C2=>?_⟩
 .obtain ⟨i,y,d,b5,_⟩:=hM
  obtain⟨_,rfl⟩:=h i y d;cases b5
 .have hX:∀ b,XS (Qk (Zq cs) W Q fun k=>η (cids.getD k 0)) (ls (Zq cs)) η' b↔Q b:=by
   have H:∀i y,ls (Zq cs) i=some y -> η' i=η (cids.getD i 0):=by
    intro i y d;refine B.pn i _ ?_
    unfold ls at d;simp[Qk,d]
   intro b;constructor
   .rintro (⟨hx,_⟩|⟨i,y,d,l⟩)
    .exact hx
    .rw [H i y d]at l
     exact A b ⟨i,y,d,l⟩
   .intro hx
    rcases Qn2 (Own (ls (Zq cs)) (λk=>η (cids.getD k 0)) b)with V|V
    .obtain ⟨i,y,d,l⟩:=V
     exact .inr ⟨i,y,d,by rw[H i y d];exact l⟩
    .exact .inl ⟨hx,V⟩
  exact(B.res.mono (η':=η') (λb _ hx=>⟨rfl,λa5=>hx ((hX b).2 a5)⟩) (λ_ _=>rfl)).free (hres args r hF)
end
end
section
class Emb (α:Type) where
 cells:α->List DVal
 es:Nat
 d:α
 len:∀x,(cells x).length=es
section
variable {α:Type} [Emb α]
def LF(l:List α)(i:Nat):List DVal:=Emb.cells (l.getD i Emb.d)
def DL(l:List α):DVal:=.lst l.length (LF l)
def AL(l:List α):AVal:=.v (.c (.d (DL l)))
def AO(l:List α):Obj:=.arr (Emb.es α) l.length (LF l)
structure Is (n:Nat) (f:Nat->List DVal) (l:List α):Prop where
 len_eq:n=l.length
 at_eq:∀i,i<n->f i=LF l i
theorem Is.refl(l:List α):Is l.length (LF l) l:=⟨rfl,λ_ _=>rfl⟩
theorem Is.nil:Is 0 f ([]:List α):=⟨rfl,λi a=>by omega⟩
theorem Is.app{g:Nat->List DVal}{l m:List α}(h:Is n f l)(h' : Is k g m):Is (n+k) (Qw n f g) (l++m):=by
 obtain⟨b,a⟩:=h;obtain⟨c,d⟩:=h'
 subst b c;refine⟨by simp,λi j=>?_⟩
 unfold Qw LF
 by_cases hil:i<l.length
 .rw [Qa2 hil,a i hil,LF,Qa0,Qa0,Qh4 hil]
 .rw [Qa1 hil,d _ (by omega),LF,Qa0,Qa0,Ql6 (by omega)]
theorem Z0Z{β γ:Type}{l:List β}{m:List γ}{δ:Type}{f:β->δ}{g:γ->δ}(h:l.map f=m.map g)(i:Nat):(l[i]?).map f=(m[i]?).map g:=by
 rw[<-Qk3, <-Qk3,h]
theorem Is.lit{g:Nat->List DVal}(ys:List α)(h:(List.range k).map g=ys.map Emb.cells):Is k g ys:=by
 have a:k=ys.length:=by simpa using congrArg List.length h
 refine⟨a,λi b=>?_⟩;have:=Z0Z h i
 rw[Qo6 b,Qc0 (by omega)]at this;simp only[Qj0,Qi9]at this
 rw[this,LF,Qa0,Qc0 (by omega)];rfl
theorem Is.set{i:Nat}{l:List α}{off:Nat}{ds:List DVal}(h:Is n f l)(hi:i<n)(y:α)(hy:Yf (f i) off ds=Emb.cells y):
  Is n (λj=>if j=i then Yf (f i) off ds else f j) (l.set i y):=by
 obtain⟨c,a⟩:=h;refine⟨by simpa using c,λj b=>?_⟩
 unfold LF;rw[Qa0]
 by_cases hji:j=i
 .subst hji
  rw[Qa2 rfl,hy,List.getElem?_set_self (by omega)];rfl
 .rw [Qa1 hji,List.getElem?_set_ne (λh=>hji h.symm),a j b,LF,Qa0]
theorem Is.take{l:List α}(h:Is n f l){k:Int}(hk:k<=n):Is k.toNat f (l.take k.toNat):=by
 obtain⟨c,a⟩:=h;refine⟨by simp;omega,λj b=>?_⟩
 rw[a j (by omega),LF,LF,Qa0,Qa0,Qj4,Qa2 b]
theorem Is.rep{z:List DVal}(hz:z=Emb.cells (Emb.d:α)):Is n (λ_=>z) (List.replicate n (Emb.d:α)):=by
 refine⟨by simp,λj a=>?_⟩;rw[hz,LF,Qa0,List.getElem?_replicate,Qa2 a];rfl
theorem Is.len{l:List α}(h:Is n f l):∀j,j<n->(f j).length=Emb.es α:=λj a=>by rw[h.at_eq j a];exact Emb.len _
theorem DRep.is{X:Nat->Prop}{v:Value}{l:List α}(h:Is n f l)(hr:DRep w X v (.lst n f)):DRep w X v (DL l):=by
 obtain⟨k,g⟩:=h;unfold DL
 cases hr with
 |nil a cap _=>
  have:l.length=0:=k.symm
  rw[this];exact .nil a cap _
 |lst b off n cap c e fz _ es g1 g2 g3 g4 g5 g6=>
  rw[<-k];exact .lst b off n cap c e fz _ es g1 g2 g3 g4 (λi d=>by rw[<-g i d];exact g5 i d) λi j d m=>by rw[<-g i d];exact g6 i j d m
theorem J5.is{l:List α}(h:Is n f l):J5 (.arr (Emb.es α) n f) (AO l):=by
 refine⟨λw X η C v k=>?_,rfl,λi a=>by cases a⟩;obtain⟨g,d⟩:=h
 unfold AO
 cases k with
 |nil ad es _=>
  have:l.length=0:=g.symm
  rw[this];exact .nil ad _ _
 |arr b n cap es c e _ g1 g2 g3 g4 g5 g6 g7=>
  rw[<-g];exact .arr b n cap _ c e _ g1 g2 g3 g4 g5 (λi a=>by rw[<-d i a];exact g6 i a) λi j a m=>by rw[<-d i a];exact g7 i j a m
theorem Wj(l:List α)(lo hi:Option Int)(h:(sl l.length (LF l) lo hi).2):Is (sl l.length (LF l) lo hi).1.1 (sl l.length (LF l) lo hi).1.2
  (match lo,hi with|none,none=>l|some a,none=>l.drop a.toNat|none,some b=>l.take b.toNat|some a,some b=>(l.take b.toNat).drop a.toNat):=by
 cases lo with
 |none=>cases hi with
  |none=>exact .refl l
  |some b=>exact(Is.refl l).take h.2
 |some a=>cases hi with
  |none=>
   refine⟨by simp[sl],λi hi=>?_⟩;simp only[sl,LF,Qa0,Qs5]
  |some b=>
   simp only[sl]at h;refine⟨by simp only[sl,Qk8,Qd1];omega,λi hi=>?_⟩
   simp only[sl]at hi;simp only[sl,LF,Qa0,Qs5,Qj4]
   grind
end
def G3(x y:CV):Prop:=(∀w X η C v,CRep w X η C v x->CRep w X η C v y)/\∀i∈y.refs,i∈x.refs
theorem G3.refl(x:CV):G3 x x:=⟨λ_ _ _ _ _ h=>h,λ_ h=>h⟩
theorem G3.lst{α:Type}[Emb α]{l:List α}(h:Is n f l):G3 (.d (.lst n f)) (.d (DL l)):=
 ⟨λw X η C v a=>by cases a with|d _ _ a=>exact .d _ _ (a.is h),λi b=>by cases b⟩
theorem G3.fl{α:Type}[Emb α]{l:List α}(h:Is n f l):G3 (.fl n f) (.d (DL l)):=
 ⟨λw X η C v a=>by cases a with|fl _ _ _ a=>exact .d _ _ (a.is h),λi b=>by cases b⟩
theorem Z5X{α:Type}[Emb α]{l:List α}(h:Is n f l):G3 (.fl n f) (.fl l.length (LF l)):=
 ⟨λw X η C v a=>by
  cases a with
  |fl _ _ _ a=>
   have:=a.is h
   unfold DL at this;have c:=h.len_eq
   subst c;exact .fl _ _ _ this,λi b=>by cases b⟩
def JT:List CV->List CV->Prop
 |[],[]=>True
 |x::xs,y::ys=>G3 x y/\JT xs ys
 |_,_=>False
theorem JT.spec(h:JT xs ys):xs.length=ys.length/\(∀j,G3 (xs.getD j (.d .any)) (ys.getD j (.d .any)))/\∀i∈ys.flatMap CV.refs,i∈xs.flatMap CV.refs:=by
 induction xs generalizing ys with
 |nil=>cases ys with
  |nil=>exact⟨rfl,λj=>G3.refl _,λi a=>a⟩
  |cons y ys=>exact h.elim
 |cons x xs ih=>cases ys with
  |nil=>exact h.elim
  |cons y ys=>
   obtain⟨b,c⟩:=h;obtain⟨f,g,k⟩:=ih c
   refine⟨by simp[f],λj=>?_,λi a=>?_⟩
   .cases j with
    |zero=>exact b
    |succ j=>exact g j
   .simp only[Qm7,Qb2]at a⊢
    rcases a with a|a
    .exact .inl (b.2 i a)
    all_goals grind
theorem JT.rep(h:JT xs ys){X:Nat->Prop}{C:Ctx}(hv:Qf w X η C vs xs):Qf w X η C vs ys:=by
 obtain⟨a,b,_⟩:=h.spec;exact⟨hv.1.trans a,λj c=>(b j).1 _ _ _ _ _ (hv.2 j (by omega))⟩
def HI(x y:TV):Prop:=(∀w X η C v,TRep w X η C v x->TRep w X η C v y)/\∀i∈y.refs,i∈x.refs
theorem HI.c{x:CV}(h:G3 x y):HI (.c x) (.c y):=⟨λw X η C v a=>by cases a with|c _ _ a=>exact .c _ _ (h.1 _ _ _ _ _ a),h.2⟩
theorem HI.g(h:JT xs ys):HI (.g xs) (.g ys):=⟨λw X η C v a=>by cases a with|g _ _ a=>exact .g _ _ (h.rep a),h.spec.2.2⟩
theorem Y4.v{x y:TV}(h:HI x y):Y4 (.v x) (.v y):=⟨λw X η C v a=>by cases a with|v _ _ a=>exact .v _ _ (h.1 _ _ _ _ _ a),h.2⟩
theorem Y4.c{x:CV}(h:G3 x y):Y4 (.v (.c x)) (.v (.c y)):=.v (.c h)
theorem Y4.g(h:JT xs ys):Y4 (.v (.g xs)) (.v (.g ys)):=.v (.g h)
theorem J5.box{ro:Bool}(h:JT xs ys):J5 (.box ro xs) (.box ro ys):=
 ⟨λw X η C v a=>by cases a with|box b _ c e _ h1 h2=>exact .box b ro c e _ h1 (h.rep h2),rfl,h.spec.2.2⟩
theorem Y4.lst{α:Type}[Emb α]{l:List α}(h:Is n f l):Y4 (.v (.c (.d (.lst n f)))) (AL l):=.c (.lst h)
theorem Y4.bool{c:Bool}(h:b=c):Y4 (vb b) (vb c):=.of_eq (congrArg vb h)
def FE:List (Nat×AVal)->List (Nat×AVal)->Prop
 |[],[]=>True
 |(t,x)::E,(u,y)::E'=>t=u/\Y4 x y/\FE E E'
 |_,_=>False
def HS:List (Nat×Obj)->List (Nat×Obj)->Prop
 |[],[]=>True
 |(t,x)::E,(u,y)::E'=>t=u/\J5 x y/\HS E E'
 |_,_=>False
theorem FE.lk{E E' : List (Nat×AVal)}(h:FE E E')(t:Nat):Y4 (lk E t) (lk E' t):=by
 induction E generalizing E' with
 |nil=>cases E' with
  |nil=>exact Y4.refl _
  |cons p r=>exact h.elim
 |cons p r ih=>cases E' with
  |nil=>exact h.elim
  |cons q s=>
   obtain⟨b,c,a⟩:=h;have:=ih a
   unfold Ab.lk at this⊢
   grind
theorem HS.ls{S S' : List (Nat×Obj)}(h:HS S S')(i:Nat)(o' : Obj)(hi:ls S' i=some o'):∃o,ls S i=some o/\J5 o o':=by
 induction S generalizing S' with
 |nil=>cases S' with
  |nil=>cases hi
  |cons p r=>exact h.elim
 |cons p r ih=>cases S' with
  |nil=>exact h.elim
  |cons q s=>
   obtain⟨b,c,a⟩:=h;have:=ih a
   unfold Ab.ls at this hi⊢
   grind
section
variable {P:Program} {C:Ctx} {nt:Nat} {L:Lay} {pins:List Nat} {K:Act->World->Prop} {E:List (Nat×AVal)} {S:List (Nat×Obj)} {Q:Exit->Act->World->Prop}
theorem JP(E' : List (Nat×AVal))(S' : List (Nat×Obj))(hE:FE E E')(hS:HS S S')(h:Kn C nt E' S' K):Kn C nt E S K:=by
 intro R η a w c;refine h R (λi=>η i) a w (c.conv (λi=>i) (λt=>by rw[HX];exact hE.lk t) (λi x b=>?_) (λi j b f d=>d) (λu i b=>c.er u i ((hE.lk u).2 i b)) (λi x b=>?_) (λi b=>?_))
 .rw [HO];exact hS.ls i x b
 .obtain ⟨o,l,g⟩:=hS.ls i x b
  have:=c.sr i o l
  exact⟨this.1,λj f=>this.2 j (g.2.2 j f)⟩
 .obtain ⟨v,k⟩:=Qa9.1 b
  exact⟨rfl,(c.pn i v k).2⟩
theorem Fr.pinsB(Fm:Fr P L C pins){ρ:List (Nat×Nat)}(h:pins.all (λi=>J3 ρ i==i)=true):pinsB C (J3 ρ):=λi a=>by
 have:=Qb8.1 h i (Fm.pin i a)
 grind
theorem kb(Fm:Fr P L C pins)(ρ:List (Nat×Nat))(E' : List (Nat×AVal))(S' : List (Nat×Obj))(hp:pins.all (λi=>J3 ρ i==i)=true)(hE:E'.map (λp=>lk E p.1)=E'.map (λp=>p.2.ren (J3 ρ)))(hS:S'.map (λp=>ls S (J3 ρ p.1))=S'.map (λp=>some (p.2.ren (J3 ρ))))(hinj:ZV (S'.map λp=>J3 ρ p.1)=true)(h:Kn C nt E' S' K):Kn C nt E S K:=
 Z5t ρ (Fm.pinsB hp) hE hS hinj h
def CV.frz(k n:Nat)(f:Nat->List DVal):CV->CV
 |.own i=>if i=k then .d (.lst n f)else .own i
 |.ap i=>if i=k then .d (.lst n f)else .ap i
 |x=>x
def TV.frz(k n:Nat)(f:Nat->List DVal):TV->TV
 |.c x=>.c (x.frz k n f)
 |.g xs=>.g (xs.map (CV.frz k n f))
def AVal.frz(k n:Nat)(f:Nat->List DVal):AVal->AVal
 |.any=>.any
 |.v x=>.v (x.frz k n f)
 |.t xs=>.t (xs.map (TV.frz k n f))
def Obj.frz(k n:Nat)(f:Nat->List DVal):Obj->Obj
 |.box ro cs=>.box ro (cs.map (CV.frz k n f))
 |o=>o
end
section
variable {w:World} {X X' : Nat->Prop} {η:Nat->Value} {C:Ctx} {k n:Nat} {f:Nat->List DVal}
theorem CRep.frz{v:Value}{x:CV}(h:CRep w X η C v x)(hX:∀b,¬X b->¬X' b)(hk:DRep w X' (η k) (.lst n f)):CRep w X' η C v (x.frz k n f):=by
 have a:∀b,b<w.heap.size->¬X b->w.heap[b]?=w.heap[b]? /\ ¬X' b:=λb _ o=>⟨rfl,hX b o⟩
 cases h with
 |d _ _ h=>exact .d _ _ (h.mono a)
 |fl _ _ _ h=>exact .fl _ _ _ (h.mono a)
 |own _ i h h1=>
  simp only[CV.frz];split
  .rename_i m;subst m;rw[h];exact .d _ _ hk
  .exact .own _ _ h h1
 |ptr _ _ _ h=>exact .ptr _ _ _ h
 |pte _ _ _ _ _ _ _ h=>exact .pte _ _ _ _ _ _ _ h
 |sub b N cap _ es lo n h h1 h2=>exact .sub b N cap _ es lo n h h1 h2
 |subN ad ad' N _ es h=>exact .subN ad ad' N _ es h
 |elm b off c e fz cs h1 h2 h3 h4=>exact .elm b off c e fz cs (hX _ h1) h2 h3 λj g=>(h4 j g).mono a
 |clo _ _ _ h=>exact .clo _ _ _ h
 |sem _ _ h h1=>exact .sem _ _ h h1
 |ap v i h h1=>
  simp only[CV.frz];split
  .rename_i m
   subst m;rcases h with h|h|⟨l,h⟩
   .rw [<-h];exact .d _ _ hk
   .rw [h]at hk;cases hk
   .rw [h]at hk;cases hk
  .exact .ap _ _ h h1
 |bnd f vs cs h1 h2=>exact .bnd f vs cs h1 λj g=>(h2 j g).mono a
 |cp _ id j vs h h1 h2=>exact .cp _ id j vs h h1 h2
theorem Qf.frz(h:Qf w X η C vs cs)(hX:∀b,¬X b->¬X' b)(hk:DRep w X' (η k) (.lst n f)):Qf w X' η C vs (cs.map (CV.frz k n f)):=by
 refine⟨by simpa using h.1,λj c=>?_⟩;have a : j<cs.length:=by simpa using c
 have:=(h.2 j a).frz hX hk
 grind
theorem TRep.frz{v:Value}{x:TV}(h:TRep w X η C v x)(hX:∀b,¬X b->¬X' b)(hk:DRep w X' (η k) (.lst n f)):TRep w X' η C v (x.frz k n f):=by
 cases h with
 |c _ _ h=>exact .c _ _ (h.frz hX hk)
 |g _ _ h=>exact .g _ _ (h.frz hX hk)
theorem ARep.frz{v:Value}{x:AVal}(h:ARep w X η C v x)(hX:∀b,¬X b->¬X' b)(hk:DRep w X' (η k) (.lst n f)):ARep w X' η C v (x.frz k n f):=by
 cases h with
 |any=>exact .any v
 |v _ _ h=>exact .v _ _ (h.frz hX hk)
 |t us xs h1 h2=>
  refine .t us _ (by simpa using h1) λj c=>?_
  have a : j<xs.length:=by simpa using c
  have:=(h2 j a).frz hX hk
  grind
theorem ORep.frz{v:Value}{o:Obj}(h:ORep w X η C v o)(hX:∀b,¬X b->¬X' b)(hk:DRep w X' (η k) (.lst n f)):ORep w X' η C v (o.frz k n f):=by
 cases h with
 |box b ro c e cs h1 h2=>exact .box b ro c e _ h1 (h2.frz hX hk)
 |nil ad es f=>exact .nil ad es f
 |arr b n cap es c e f h1 h2 h3 h4 h5 h6 h7=>exact .arr b n cap es c e f h1 h2 h3 h4 h5 h6 λi j g d=>(h7 i j g d).mono λb _ a=>⟨rfl,hX b a⟩
 |ext _ p h1 h2 h3=>exact .ext _ p (h2 w w X X' (λb _ a=>⟨rfl,hX b a⟩) (λ_ _=>rfl) h1) h2 h3
 |exr _ refs p h1 h2 h3=>exact .exr _ refs p (h2 w w X X' (λb _ a=>⟨rfl,hX b a⟩) (λ_ _=>rfl) h1) h2 h3
theorem GX{α β:Type}{fr:α->List Nat}{gr:β->List Nat}{g:α->β}{l:List α}(h:∀x,∀j∈gr (g x),j∈fr x):∀j∈(l.map g).flatMap gr,j∈l.flatMap fr:=by
 grind
theorem kz(x:CV):∀j∈(x.frz k n f).refs,j∈x.refs:=by
 cases x<;>simp only[CV.frz]<;>try exact λj a=>a
 all_goals
  split
  .intro j a;cases a
  .exact λj a=>a
theorem Q3A(x:TV):∀j∈(x.frz k n f).refs,j∈x.refs:=by
 cases x with
 |c x=>exact kz x
 |g xs=>exact GX kz
theorem Z6n(x:AVal):∀j∈(x.frz k n f).refs,j∈x.refs:=by
 cases x with
 |any=>exact λj a=>a
 |v x=>exact Q3A x
 |t xs=>exact GX Q3A
theorem Z5r(o:Obj):∀j∈(o.frz k n f).refs,j∈o.refs:=by
 cases o with
 |box ro cs=>exact GX kz
 |arr es n f=>exact λj a=>a
 |ext p=>exact λj a=>a
 |exr refs p=>exact λj a=>a
end
end
section
section
variable {P:Program} {C:Ctx} {nt:Nat} {L:Lay} {pins:List Nat} {K:Act->World->Prop} {E:List (Nat×AVal)} {S:List (Nat×Obj)} {Q:Exit->Act->World->Prop}
theorem Tx{g:AVal->AVal}(hg:g .any=.any)(E:List (Nat×AVal))(t:Nat):lk (E.map λp=>(p.1,g p.2)) t=g (lk E t):=by
 unfold lk
 induction E with
 |nil=>exact hg.symm
 |cons p r ih=>
  grind
theorem UD{g:Obj->Obj}(S:List (Nat×Obj))(i:Nat):ls (S.map λp=>(p.1,g p.2)) i=(ls S i).map g:=by
 unfold ls
 induction S with
 |nil=>rfl
 |cons p r ih=>
  grind
theorem Z5D(E' : List (Nat×AVal))(S' : List (Nat×Obj))(hE:E.map (λp=>(p.1,p.2.frz k n f))=E')(hS:S.map (λp=>(p.1,p.2.frz k n f))=S')(hk:(S.map (·.1)).contains k=false)(h:Kn C nt E' S' K):Kn C nt E ((k,.arr es n f)::S) K:=by
 subst hE hS;intro R η a w m
 have z:ls ((k,.arr es n f)::S) k=some (.arr es n f):=by unfold ls;rw[Qg7];simp
 have N:ls S k=none:=by
  cases ho:ls S k with
  |none=>rfl
  |some o=>
   have:k∈S.map (·.1):=Qc7.2 ⟨_,Qd ho,rfl⟩
   grind
 have l:∀i o,ls S i=some o->ls ((k,.arr es n f)::S) i=some o/\i≠k:=by
  intro i o d;have q:i≠k:=by intro h;rw[h,N]at d;cases d
  refine⟨?_,q⟩;unfold ls;rw[Qg7]
  have:(i==k)=false:=by simpa using q
  rw[this];exact d
 have y:∀b,Own (ls (S.map λp=>(p.1,p.2.frz k n f))) η b->Own (ls S) η b:=by
  rintro b ⟨i,H,d,r⟩;rw[UD]at d
  cases ho:ls S i with
  |none=>rw[ho]at d;cases d
  |some o=>exact⟨i,o,ho,r⟩
 have I:∀b,¬XS C (ls ((k,.arr es n f)::S)) η b->¬XS C (ls (S.map λp=>(p.1,p.2.frz k n f))) η b:=by
  intro b x M;rcases M with v|v
  .exact x (.inl v)
  .obtain ⟨i,o,d,r⟩:=y b v
   exact x (.inr ⟨i,o,(l i o d).1,r⟩)
 have T:∀b,b<w.heap.size->¬XS C (ls ((k,.arr es n f)::S)) η b->w.heap[b]?=w.heap[b]? /\ ¬XS C (ls (S.map λp=>(p.1,p.2.frz k n f))) η b:=λb _ x=>⟨rfl,I b x⟩
 have B:∀b,b∈V8 (η k)->¬XS C (ls (S.map λp=>(p.1,p.2.frz k n f))) η b:=by
  intro b x v;rcases v with ⟨v,U⟩|v
  .rcases m.ow k _ b z x with ⟨A,_⟩|V|W
   .cases A
   .exact U (m.ok.md b V)
   .have:=m.ok.lt b v;omega
  .obtain ⟨i,o,d,r⟩:=y b v
   obtain⟨J,G⟩:=l i o d;exact G (m.ds i k b (by rw[J];simp) (by rw[z];simp) r x)
 have F:DRep w (XS C (ls (S.map λp=>(p.1,p.2.frz k n f))) η) (η k) (.lst n f):=by
  have:=m.st k _ z
  generalize hu:η k=u at this B
  cases this with
  |nil ad es f=>exact .nil ad 0 f
  |arr b n cap es c e f J G h3 h4 h5 h6 h7=>
   have x:¬XS C (ls (S.map λp=>(p.1,p.2.frz k n f))) η b:=B b (by simp[V8];omega);refine .lst b 0 n cap c e _ f es x J h3 (by rw[G,Qd2];exact Qb4 _ h3) h6 λi j d D=>?_
   rw[Qd2];exact(h7 i j d D).mono T
 refine h R η a w ⟨m.ok,m.df,m.sz,λt=>?_,λt i d=>?_,λi H d=>?_,λi H d=>?_,λi j b d D=>?_,λi H b d=>?_,m.fr,m.pn⟩
 .rw [Tx (g:=AVal.frz k n f) rfl]
  exact(m.ev t).frz I F
 .rw [Tx (g:=AVal.frz k n f) rfl]at d
  exact m.er t i (Z6n _ i d)
 .rw [UD]at d
  cases ho:ls S i with
  |none=>rw[ho]at d;cases d
  |some o=>
   rw[ho]at d;cases d
   exact(m.st i o (l i o ho).1).frz I F
 .rw [UD]at d
  cases ho:ls S i with
  |none=>rw[ho]at d;cases d
  |some o=>
   rw[ho]at d;cases d
   have:=m.sr i o (l i o ho).1
   exact⟨this.1,λj D=>this.2 j (Z5r o j D)⟩
 .have q:∀ i,ls (S.map fun p=>(p.1,p.2.frz k n f)) i≠none->ls ((k,.arr es n f)::S) i≠none:=by
   intro i d O;apply d
   rw[UD]
   cases ho:ls S i with
   |none=>rfl
   |some o=>rw[(l i o ho).1]at O;cases O
  exact m.ds i j b (q i d) (q j D)
 .rw [UD]at d
  cases ho:ls S i with
  |none=>rw[ho]at d;cases d
  |some o=>
   rw[ho]at d;cases d
   have A:(o.frz k n f).ro=o.ro:=by cases o<;>rfl
   rw[A];exact m.ow i o b (l i o ho).1
def gd{R:Type}(p:Prop)[Decidable p](x:Option R):Option R:=if p then x else none
theorem Ct{R:Type}{p:Prop}[Decidable p]{x:Option R}{r:R}(h:gd p x=some r):p/\x=some r:=by
 unfold gd at h
 grind
theorem Q3j{α R:Type}{x:Option α}{f:α->Option R}{r:R}(h:x.bind f=some r):∃z,x=some z/\f z=some r:=by
 cases x with
 |none=>cases h
 |some z=>exact⟨z,rfl,h⟩
def br{R:Type}(b:Bool)(x y:Option R):Option R:=match b with|true=>x|false=>y
theorem Z4C{R:Type}{x y:Option R}{r:R}(h:br b x y=some r)(hb:b=true):x=some r:=by subst hb;exact h
theorem Z4E{R:Type}{x y:Option R}{r:R}(h:br b x y=some r)(hb:b=false):y=some r:=by subst hb;exact h
def Y3{σ R:Type}(body:(σ->Option R)->σ->Option R):Nat->σ->Option R
 |0,_=>none
 |n+1,z=>body (Y3 body n) z
theorem Z6i{σ R:Type}{r:R}{x y:Code}(f:σ->Option R)(E' : σ->List (Nat×AVal))(S' : σ->List (Nat×Obj))(hy:∀z,f z=some r->AW P C nt y (E' z) (S' z) Q)(hx:∀J:Act->World->Prop,(∀z,f z=some r->Kn C nt (E' z) (S' z) J)->AW P C nt x E S (Exit.then J Q)):AW P C nt (.seq x y) E S Q:=
 Q3T (hx _ λz a=>hy z a)
theorem Z6f{σ R:Type}{r:R}{c:Code}{body:(σ->Option R)->σ->Option R}(E' : σ->List (Nat×AVal))(S' : σ->List (Nat×Obj))(round:∀(again:σ->Option R) (z:σ) (J:Act->World->Prop),(∀z',again z'=some r->Kn C nt (E' z') (S' z') J)->body again z=some r->AW P C nt c (E' z) (S' z) (Exit.then J Q)){z0:σ}(h:Y3 body n z0=some r):AW P C nt (.loop c) (E' z0) (S' z0) Q:=by
 refine Z6g (σ:=Nat×σ) (λp=>Y3 body p.1 p.2=some r) (λp=>p.1) (λp=>E' p.2) (λp=>S' p.2) (λp b=>?_) (n,z0) h;obtain⟨m,z⟩:=p
 cases m with
 |zero=>cases b
 |succ m=>
  refine round (Y3 body m) z _ (λz' a=>?_) b;exact Z5E (I:=λp:Nat×σ=>Y3 body p.1 p.2=some r/\p.1<m+1) (E':=λp=>E' p.2) (S':=λp=>S' p.2) (m,z') ⟨a,Nat.lt_succ_self m⟩
def J4(L:Lay)(ops:Array Oper):List Oper->List Dir->U8->J0->Nat->U8
 |o::os,d::ds,e,s,k+1=>J4 L ops os ds (Zs o.dst (WC L ops o d e s).v e) (Zw (WC L ops o d e s).l s) k
 |_,_,e,_,_=>e
def QM(L:Lay)(ops:Array Oper):List Oper->List Dir->U8->J0->Nat->J0
 |o::os,d::ds,e,s,k+1=>QM L ops os ds (Zs o.dst (WC L ops o d e s).v e) (Zw (WC L ops o d e s).l s) k
 |_,_,_,s,_=>s
def U2:List Oper->Nat->Oper
 |[],_=>default
 |o::_,0=>o
 |_::os,k+1=>U2 os k
def QA:List Dir->Nat->Array Oper->Oper->U8->Eff
 |.k f::_,0=>f
 |_::ds,k+1=>QA ds k
 |_,_=>λ_ _ _=>default
def G2(P:Program)(C:Ctx)(nt:Nat)(L:Lay)(ops:Array Oper)(ds:List Dir)(e:U8)(s:J0)(k:Nat):Prop:=
 Wo P C nt ops (U2 ops.toList k) (QA ds k ops (U2 ops.toList k) (J4 L ops ops.toList ds e s k)) (J4 L ops ops.toList ds e s k) (QM L ops ops.toList ds e s k)
theorem Z6d(Fm:Fr P L C pins){ops:Array Oper}{draw:Bool}(ds:List Dir)(ρ:List (Nat×Nat))(c:(Nat->Prop)->Prop)(E' : List (Nat×AVal))(S' : List (Nat×Obj))(hc:c (G2 P C nt L ops ds (lk E) (ls S)))(hchk:FB L pins nt ops draw ds E S ρ S'=true)(hC:JN P C nt L ops ops.toList ds (lk E) (ls S)=c (G2 P C nt L ops ds (lk E) (ls S)))(he0:E'.map (λp=>UL ops.toList (Vj L ops ops.toList ds (lk E) (ls S)) (lk E) p.1)=E'.map (λp=>p.2.ren (J3 ρ)))(hs0:S'.map (λp=>UK (Vj L ops ops.toList ds (lk E) (ls S)) (ls S) (J3 ρ p.1))=S'.map (λp=>some (p.2.ren (J3 ρ))))(k:Kn C nt E' S' (Q .normal)):AW P C nt (.region id ops draw) E S Q:=Z6c Fm ds ρ hchk (hC ▸ hc) he0 hs0 k
end
end
section
def XF(o:Oper):Bool:=match o.op with|.call {callee:=.value _,..}=>true|_=>false
def Uj(o:Oper):Operand:=match o.op with|.call {callee:=.value fx,..}=>fx|_=>.const undef
def callXs(o:Oper):Array Operand:=match o.op with|.call {callee:=.value _,args,..}=>args|_=> #[]
theorem Cd(h:XF o=true):∃tys,o.op=.call {callee:=.value (Uj o),args:=callXs o,argTypes:=tys}:=by
 unfold XF at h;split at h
 .rename_i b c tys a
  exact⟨tys,by simp only[Uj,callXs,a]⟩
 .cases h
def cE(m:List (Nat×Nat))(extra:List Nat)(r:AVal)(Si So:List (Nat×Obj)):Array Oper->Oper->U8->Eff:=λops o e=>xK ops o e (J3 m) extra r Si So
def sE(r:AVal):Array Oper->Oper->U8->Eff:=λops o e=>Ji ops o e r
def Gu(C:Ctx)(nt:Nat)(e:U8)(s:J0)(Si:List (Nat×Obj))(m:Nat->Nat)(rd ids:List Nat):List Operand->List AVal->Prop
 |[],[]=>True
 |x::xs,y::ys=>YD C nt e s Si m rd ids x y/\Gu C nt e s Si m rd ids xs ys
 |_,_=>False
theorem Gu.spec{C:Ctx}{nt:Nat}{e:U8}{s:J0}{Si:List (Nat×Obj)}{m:Nat->Nat}{rd ids:List Nat}{xs:List Operand}{ys:List AVal}(h:Gu C nt e s Si m rd ids xs ys):
  xs.length=ys.length/\∀j,j<ys.length->YD C nt e s Si m rd ids (xs.getD j (.const undef)) (ys.getD j .any):=by
 induction xs generalizing ys with
 |nil=>cases ys with
  |nil=>exact⟨rfl,λj a=>by simp at a⟩
  |cons y ys=>exact h.elim
 |cons x xs ih=>cases ys with
  |nil=>exact h.elim
  |cons y ys=>
   obtain⟨b,c⟩:=h
   grind
theorem kA{C:Ctx}{nt:Nat}{e:U8}{s:J0}{Si:List (Nat×Obj)}{m:Nat->Nat}{rd ids:List Nat}:∀{xs:List Operand} {ys:List AVal},xs.all (QD rd)=true->ys.all AVal.noSem=true->xs.map (Y5 e)=ys.map (AVal.ren m)->Gu C nt e s Si m rd ids xs ys
 |[],[],_,_,_=>trivial
 |[],_::_,_,_,h=>by cases h
 |_::_,[],_,_,h=>by cases h
 |x::xs,y::ys,h1,h2,h3=>by
  simp only[Qs9,Qa4]at h1 h2;simp only[Qg4,Ql5]at h3
  exact⟨HV h1.1 (Y4.of_eq h3.1) h2.1,kA h1.2 h2.2 h3.2⟩
def Cc(f:Nat):AVal->Bool
 |.v (.c (.clo g []))=>g==f
 |_=>false
theorem Q1e{f:Nat}{x:AVal}(h:Cc f x=true):x=.v (.c (.clo f [])):=by
 unfold Cc at h
 grind
def callB(ops:Array Oper)(nt:Nat)(e:U8)(o:Oper)(f:Nat)(m:List (Nat×Nat))(r:AVal)(Si So:List (Nat×Obj)):Bool:=
 XF o&&Cc f (Y5 e (Uj o))&&QD (QG o++Qt ops o) (Uj o)&&Vf (J3 m) r Si So&&QJ nt o&&(QW ops e o==some true)
section
variable {P:Program} {C:Ctx} {nt:Nat} {L:Lay} {ops:Array Oper} {ds:List Dir} {e:U8} {s:J0}
theorem Q3L{f:Nat}(hspec:G4 P f args Si r So)(hcall:∀ args w,(callFunc f args).run P w=.ok (.enter f args) w)(m:List (Nat×Nat))(extra:List Nat)(hk:QA ds k=cE m extra r Si So)(hb:callB ops nt (J4 L ops ops.toList ds e s k) (U2 ops.toList k) f m r Si So=true)(hsi:Si.map (fun p=>QM L ops ops.toList ds e s k (J3 m p.1))=Si.map (fun p=>some (p.2.ren (J3 m))))(hargs:Gu C nt (J4 L ops ops.toList ds e s k) (QM L ops ops.toList ds e s k) Si (J3 m) (QG (U2 ops.toList k)++Qt ops (U2 ops.toList k)) (Wu (J4 L ops ops.toList ds e s k) (U2 ops.toList k)++(Si.map (fun p=>J3 m p.1)++extra))
   (callXs (U2 ops.toList k)).toList args):G2 P C nt L ops ds e s k:=by
 unfold G2;rw[hk]
 simp only[callB,Qa4]at hb;obtain⟨⟨⟨⟨⟨u,c⟩,o⟩,g⟩,q⟩,b⟩:=hb
 obtain⟨d,a⟩:=Cd u;obtain⟨h,t⟩:=hargs.spec
 exact Q5o hcall a (Q1e c) o hspec (by simpa using h) (J3 m) extra (λj l=>t j l) (λp i=>⟨_,JG hsi p i,J5.refl _⟩) g q (by simpa using b)
theorem Z5S{f:Nat}(hspec:G4 P f args Si r So)(hcall:∀args w,(callFunc f args).run P w=.ok (.enter f args) w)(m:List (Nat×Nat))(hk:QA ds k=cE m [] r Si So)(hb:callB ops nt (J4 L ops ops.toList ds e s k) (U2 ops.toList k) f m r Si So=true)(hsi:Si.map (λp=>QM L ops ops.toList ds e s k (J3 m p.1))=Si.map (λp=>some (p.2.ren (J3 m))))(hrd:((callXs (U2 ops.toList k)).toList.all (QD (QG (U2 ops.toList k)++Qt ops (U2 ops.toList k)))&&args.all AVal.noSem)=true)(hargs:(callXs (U2 ops.toList k)).toList.map (Y5 (J4 L ops ops.toList ds e s k))=args.map (AVal.ren (J3 m))):G2 P C nt L ops ds e s k:=by
 rw[Qa4]at hrd;exact Q3L hspec hcall m [] hk hb hsi (kA hrd.1 hrd.2 hargs)
def jK(ops:Array Oper)(nt:Nat)(e:U8)(o:Oper)(args:List AVal)(r:AVal):Bool:=
 XF o&&QD (QG o++Qt ops o) (Uj o)&&(callXs o).toList.all (QD (QG o++Qt ops o))&&args.all AVal.closed&&r.closed&&QJ nt o&&(QW ops e o==some true)
theorem Wx{F:List AVal->AVal->Prop}(hF:F args r)(hk:QA ds k=sE r)(hb:jK ops nt (J4 L ops ops.toList ds e s k) (U2 ops.toList k) args r=true)(hfx:Y5 (J4 L ops ops.toList ds e s k) (Uj (U2 ops.toList k))=Yl P F)(hargs:(callXs (U2 ops.toList k)).toList.map (Y5 (J4 L ops ops.toList ds e s k))=args):G2 P C nt L ops ds e s k:=by
 unfold G2;rw[hk]
 simp only[jK,Qa4]at hb;obtain⟨⟨⟨⟨⟨⟨t,i⟩,p⟩,o⟩,q⟩,h⟩,d⟩:=hb
 obtain⟨m,a⟩:=Cd t;have b:(callXs (U2 ops.toList k)).size=args.length:=by rw[<-hargs];simp
 refine Q5l a hfx hF b ⟨i,λx g=>Qb8.1 p x g⟩ (λj c=>?_) q h (by simpa using d);have u : j<(callXs (U2 ops.toList k)).toList.length:=by simpa[b]using c
 have l:Y5 (J4 L ops ops.toList ds e s k) ((callXs (U2 ops.toList k)).toList.getD j (.const undef))=args.getD j .any:=by
  grind
 exact⟨Y4.of_eq l,Qb8.1 o _ (Ya c)⟩
end
end
instance (n:Int):Decidable (Q5 n):=inferInstanceAs (Decidable (_/\_))
def gl{α:Type}[Emb α](l:List α)(i:Nat):α:=l.getD i Emb.d
def QE(es:Nat)(ds:List DVal)(i:Nat):List DVal:=(ds.drop (i*es)).take es
theorem U9{i:Int}(h:0<=i/\i<(n:Int)):i.toNat<n:=by omega
theorem FE.refl:∀E:List (Nat×AVal),FE E E
 |[]=>trivial
 |(_,_)::E=>⟨rfl,Y4.refl _,FE.refl E⟩
instance:Emb Int:=⟨λx=>[.int .i64 x],1,0,λ_=>rfl⟩
instance:Emb Bool:=⟨λx=>[.bool x],1,false,λ_=>rfl⟩
instance:Emb ByteArray:=⟨λx=>[.str x],1,ByteArray.empty,λ_=>rfl⟩
instance {α:Type} [Emb α]:Emb (List α):=⟨λx=>[DL x],1,[],λ_=>rfl⟩
section
section
variable {P:Program} {C:Ctx} {nt:Nat} {L:Lay} {ops:Array Oper} {ds:List Dir} {e:U8} {s:J0}
theorem JZ(hr:r.refs=[])(hdo:QJ nt o=true)(hg:QW ops e o=some true)(hex:∀ (R:Nat->Prop) (η:Nat->Value) (e0:U8) (s0:J0) (a:Act) (w:World),(∀ t ∈ QG o++Qt ops o,e0 t=e t)->Conc C nt R η e0 s0 a w->∃ v,(execOp a.eval o).run P w=.ok (.value v) w/\ARep w (XS C s0 η) η C v r):
  Wo P C nt ops o (Ji ops o e r) e s:=by
 intro R η e0 s0 a w b g p d K Q A;have u:=Ur (e:=e) d (λt y=>b t (Qb2.2 (.inr y))) hg
 rw[Qa2 u];obtain⟨v,q,c⟩:=hex R η e0 s0 a w b d
 unfold Oper.wp;rw[q]
 show K (a.put o.dst v) w;refine A η _ w ?_
 have:=d.val o.dst (YO hdo) r v λ_=>⟨c,λj h=>by rw[hr]at h;cases h⟩
 have x:Zw (Ji ops o e r).l s0=s0:=by funext i;rfl
 rw[x];have m:Zs o.dst (Ji ops o e r).v e0=SR.env {v:=r} o.dst e0:=rfl
 rw[m];exact this.wider λi z=>.inl z
def xd(d:TypeDesc)(x y:CV):Option Bool:=
 match d,x,y with
 |.int _,.d (.int k a),.d (.int k' b)=>if k=k' then some (a==b)else none
 |.bool,.d (.bool a),.d (.bool b)=>some (a==b)
 |_,_,_=>none
def CP(P:Program)(xs ys:List CV):List Field->Option Bool
 |[]=>some true
 |f::fs=>if f.name= "_" then none else match P.underlying f.type,xs[f.offset]?,ys[f.offset]?,CP P xs ys fs with
  |some d,some x,some y,some c=>match xd d x y with
   |some b=>some (b&&c)
   |none=>none
  |_,_,_,_=>none
theorem Z3v{w1:World}{X:Nat->Prop}{d:TypeDesc}{x:CV}(h:xd d x y=some b){u v:Value}(hu:CRep w X η C u x)(hv:CRep w X η C v y)(ht:P.underlying t=some d)(n:Nat):
  (isAgg t).run P w1=.ok false w1/\(Op.equalIn (n+1) t u v).run P w1=.ok b w1:=by
 unfold xd at h;split at h
 .split at h
  .cases h
   rename_i a
   subst a
   cases hu with|d _ _ hu=>cases hu with|int=>
   cases hv with|d _ _ hv=>cases hv with|int=>
   exact⟨by simp[isAgg,Qb9 ht],run_equalIn_int _ _ _ _ _ _ _ ht⟩
  .cases h
 .cases h
  cases hu with|d _ _ hu=>cases hu with|bool=>
  cases hv with|d _ _ hv=>cases hv with|bool=>
  exact⟨by simp[isAgg,Qb9 ht],run_equalIn_bool' _ _ _ _ _ ht⟩
 .cases h
theorem Q2E{X:Nat->Prop}(h:Qf w X η C vs xs){j:Nat}{x:CV}(hx:xs[j]?=some x):∃v,vs[j]?=some v/\CRep w X η C v x:=by
 have b:j<xs.length:=(Qj1.1 hx).1;have a : j<vs.size:=by rw[h.1];exact b
 refine⟨vs[j],Qe7 a,?_⟩;have:=h.2 j b
 rw[Qa0,hx]at this;simpa[Qe9,Qe7 a]using this
theorem Q2c{w:World}{X:Nat->Prop}{η:Nat->Value}{xs ys:List CV}{us vs:Array Value}(hu:Qf w X η C us xs)(hv:Qf w X η C vs ys)(n:Nat)(w1:World):∀(fs:List Field) (b:Bool),CP P xs ys fs=some b->(Op.eqFields (n+1) us vs fs).run P w1=.ok b w1
 |[],b,h=>by cases h;simp[Op.eqFields]
 |f::fs,b,h=>by
  simp only[CP]at h;split at h
  .cases h
  .rename_i g
   split at h
   .rename_i d x y c B A q r
    split at h
    .rename_i z i
     cases h
     obtain⟨u,l,j⟩:=Q2E hu A;obtain⟨v,o,m⟩:=Q2E hv q
     obtain⟨p,G⟩:=Z3v (P:=P) (w1:=w1) i j m B n;have t:=Q2c hu hv n w1 fs c r
     have D:(part f.type us f.offset).run P w1=.ok u w1:=by simp[part,p,l]
     have F:(part f.type vs f.offset).run P w1=.ok v w1:=by simp[part,p,o]
     have a : f.name ≠ "_":=g;simp only[Op.eqFields,a,ne_eq,not_false_eq_true,if_true,Sem.run_bind,D,F,G,Result.andThen_ok]
     cases z with
     |true=>simpa using t
     |false=>simp
    .cases h
   .cases h
def Uf(o:Oper):Operand:=match o.op with|.binOp _ _ x _ _=>x|_=>.const undef
def Ue(o:Oper):Operand:=match o.op with|.binOp _ _ _ y _=>y|_=>.const undef
def CO(o:Oper)(t:TypeId):Option Bool:=match o.op with
 |.binOp op t' _ _ _=>if t=t' then match op with
  |.eql=>some true
  |.neq=>some false
  |_=>none else none
 |_=>none
theorem Q2b{q:Bool}(h:CO o t=some q):∃t',o.op=.binOp (if q then .eql else .neq) t (Uf o) (Ue o) t':=by
 unfold CO at h;split at h
 .rename_i op d x y b a
  split at h
  .rename_i c
   subst c;split at h
   .cases h;exact⟨b,by simp only[Uf,Ue,a];rfl⟩
   .cases h;exact⟨b,by simp only[Uf,Ue,a];rfl⟩
   .cases h
  .cases h
 .cases h
structure EqT (P:Program) (t:TypeId):Prop where
 und:P.underlying t=some (.struct (P.fieldsOf t))
 held:P.stoodInHeld t=false
 guard:P.eqGuardType P.depth t=false
def CQ(ops:Array Oper)(nt:Nat)(e:U8)(o:Oper):Bool:=QD (QG o++Qt ops o) (Uf o)&&QD (QG o++Qt ops o) (Ue o)&&QJ nt o&&(QW ops e o==some true)
theorem kl(ht:EqT P t)(q:Bool)(hk:QA ds k=sE (vb (if q then b else !b)))(hop:CO (U2 ops.toList k) t=some q)(hb:CQ ops nt (J4 L ops ops.toList ds e s k) (U2 ops.toList k)=true)(hx:Y5 (J4 L ops ops.toList ds e s k) (Uf (U2 ops.toList k))=.v (.g xs))(hy:Y5 (J4 L ops ops.toList ds e s k) (Ue (U2 ops.toList k))=.v (.g ys))(hfl:CP P xs ys (P.fieldsOf t).toList=some b):G2 P C nt L ops ds e s k:=by
 unfold G2;rw[hk]
 simp only[CQ,Qa4]at hb;obtain⟨⟨⟨z,r⟩,y⟩,x⟩:=hb
 obtain⟨B,h⟩:=Q2b hop;refine JZ rfl y (by simpa using x) λR η A D a w l m=>⟨.bool (if q then b else !b),?_,.v _ _ (.c _ _ (.d _ _ (.bool _)))⟩
 have j:=(K3 m (Uf (U2 ops.toList k))).1;rw[ZL l z,hx]at j
 have i:=(K3 m (Ue (U2 ops.toList k))).1;rw[ZL l r,hy]at i
 generalize hu:a.eval (Uf (U2 ops.toList k))=u at j;generalize hv:a.eval (Ue (U2 ops.toList k))=v at i
 cases j with|v _ _ j=>cases j with|g us _ j=>
 cases i with|v _ _ i=>cases i with|g vs _ i=>
 have p:=Q2c (P:=P) j i 9998 w _ b hfl;have o:(Op.equalIn 10000 t (.agg us) (.agg vs)).run P w=.ok b w:=by
  rw[run_equalIn_agg w 9999 t us vs ht.und ht.held];exact p
 cases q with
 |true=>simp only[execOp,h,Qi8,Qd8,hu,hv,run_eqGuard_agg w _ _ _ _ _ _ ht.guard,Qc5,run_eql_struct,o,Qf3]
 |false=>simp only[execOp,h,Qi1,Qi0,Qd8,hu,hv,run_eqGuard_agg w _ _ _ _ _ _ ht.guard,Qc5,run_neq_struct,o,Qf3]
end
end
section
def nbP(n:Nat):World->(Nat->Prop)->(Nat->Prop)->Value->Prop:=λ_ _ _ v=>∃b,v=.bool b/\(b=true->n=0)
def nb(n:Nat):AVal:=.v (.c (.sem (nbP n)))
def DVal.flat:DVal->Bool
 |.int _ _=>true
 |.bool _=>true
 |.str _=>true
 |_=>false
def CV.flat:CV->Bool
 |.d x=>x.flat
 |_=>false
def TV.flat:TV->Bool
 |.c x=>x.flat
 |.g xs=>xs.all CV.flat
def AVal.flat:AVal->Bool
 |.any=>true
 |.v x=>x.flat
 |.t xs=>xs.all TV.flat
section
variable {w w' : World} {X X' : Nat->Prop} {η η' : Nat->Value} {C C' : Ctx}
theorem CRep.flat{v:Value}{x:CV}(h:CRep w X η C v x)(hx:x.flat=true):CRep w' X' η' C' v x:=by
 cases h with
 |d _ _ h=>cases h with
  |int=>exact .d _ _ (.int _ _)
  |bool=>exact .d _ _ (.bool _)
  |str=>exact .d _ _ (.str _)
  |any=>cases hx
  |nil=>cases hx
  |lst=>cases hx
  |mp=>cases hx
 |_=>cases hx
theorem TRep.flat{v:Value}{x:TV}(h:TRep w X η C v x)(hx:x.flat=true):TRep w' X' η' C' v x:=by
 cases h with
 |c _ _ h=>exact .c _ _ (h.flat hx)
 |g _ _ h=>exact .g _ _ ⟨h.1,λj a=>(h.2 j a).flat (Qb8.1 hx _ (Ya a))⟩
theorem ARep.flat{v:Value}{x:AVal}(h:ARep w X η C v x)(hx:x.flat=true):ARep w' X' η' C' v x:=by
 cases h with
 |any=>exact .any v
 |v _ _ h=>exact .v _ _ (h.flat hx)
 |t us xs h1 h2=>exact .t us xs h1 λj a=>(h2 j a).flat (Qb8.1 hx _ (Ya a))
theorem Q3R{x:CV}(hx:x.flat=true):x.refs=[]:=by cases x<;>first|rfl|cases hx
theorem Q3B{x:TV}(hx:x.flat=true):x.refs=[]:=by
 cases x with
 |c x=>exact Q3R hx
 |g xs=>exact Qm2.2 λy a=>Q3R (Qb8.1 hx y a)
theorem Z6o{x:AVal}(hx:x.flat=true):x.refs=[]:=by
 cases x with
 |any=>rfl
 |v x=>exact Q3B hx
 |t xs=>exact Qm2.2 λy a=>Q3B (Qb8.1 hx y a)
end
section
variable {P:Program} {C:Ctx} {nt:Nat} {L:Lay} {ops:Array Oper} {ds:List Dir} {e:U8} {s:J0} {E:List (Nat×AVal)} {S:List (Nat×Obj)} {Q:Exit->Act->World->Prop}
theorem kD{t:Nat}{x y:Code}(hb:lk E t=nb n)(ht:n=0->AW P C nt x E S Q)(hf:AW P C nt y E S Q):AW P C nt (.cond (.tmp t) x y) E S Q:=by
 intro R η a w d;have g:=d.ev t
 rw[hb]at g;have:∃b,a.eval (.tmp t)=.bool b/\(b=true->n=0):=by
  change ∃b,a.tmps.getD t undef=.bool b/\(b=true->n=0);generalize a.tmps.getD t undef=u at g
  cases g with|v _ _ h=>cases h with|c _ _ h=>cases h with|sem _ _ h _=>exact h
 obtain⟨b,ev,i⟩:=this
 cases b with
 |true=>exact wp_cond_true ev (ht (i rfl) R η a w d)
 |false=>exact Qw8 ev (hf R η a w d)
def yF:AVal->Option Nat
 |.v (.c (.d (.lst n _)))=>some n
 |.v (.c (.fl n _))=>some n
 |_=>none
theorem Z1e{X:Nat->Prop}{v:Value}{x:AVal}(h:yF x=some n)(hv:ARep w X η C v x):∃ad cap,v=.slice ad n cap/\(ad=none->n=0):=by
 unfold yF at h;split at h
 .cases h
  cases hv with|v _ _ hv=>cases hv with|c _ _ hv=>cases hv with|d _ _ hv=>cases hv with
   |nil a cap f=>exact⟨a,cap,rfl,λ_=>rfl⟩
   |lst b off n cap c e fz f es=>exact⟨_,_,rfl,λh=>by cases h⟩
 .cases h
  cases hv with|v _ _ hv=>cases hv with|c _ _ hv=>cases hv with|fl a n f hv=>cases hv with
   |nil a cap f=>exact⟨_,_,rfl,λ_=>rfl⟩
   |lst b off n cap c e fz f es=>exact⟨_,_,rfl,λh=>by cases h⟩
 .cases h
def vh(x:Operand):Bool:=match x with|.const (.slice none 0 0)=>true|_=>false
theorem Z1Y(h:vh x=true):x=.const (.slice none 0 0):=by
 unfold vh at h;split at h
 .rfl
 .cases h
theorem Q7N(ht:P.underlying t=some (.slice el))(d:Nat)(ad:Option Addr)(n cap:Nat)(w:World):(Op.equalIn (d+1) t (.slice ad n cap) (.slice none 0 0)).run P w=.ok ad.isNone w:=by
 cases ad<;>simp only[Op.equalIn,Qd8,Qb9 ht,Qc5,Qf3]<;>rfl
theorem Q7O(ht:P.underlying t=some (.slice el))(ad:Option Addr)(n cap:Nat)(w:World):(binOp .eql t (.slice ad n cap) (.slice none 0 0)).run P w=.ok (.bool ad.isNone) w:=by
 have h:binOp .eql t (.slice ad n cap) (.slice none 0 0)=(do pure (.bool (<-Op.equalIn Op.maxDepth t (.slice ad n cap) (.slice none 0 0)))):=rfl;have a:=Q7N ht 9999 ad n cap w
 rw[h,Qd8];have b:(Op.equalIn Op.maxDepth t (.slice ad n cap) (.slice none 0 0)).run P w=.ok ad.isNone w:=a
 rw[b];rfl
theorem kj(ht:P.underlying t=some (.slice el))(hk:QA ds k=sE (nb n))(hop:CO (U2 ops.toList k) t=some true)(hb:CQ ops nt (J4 L ops ops.toList ds e s k) (U2 ops.toList k)=true)(hx:yF (Y5 (J4 L ops ops.toList ds e s k) (Uf (U2 ops.toList k)))=some n)(hy:vh (Ue (U2 ops.toList k))=true):G2 P C nt L ops ds e s k:=by
 unfold G2;rw[hk]
 simp only[CQ,Qa4]at hb;obtain⟨⟨⟨r,A⟩,x⟩,u⟩:=hb
 obtain⟨y,b⟩:=Q2b hop;simp only[Qi8]at b
 refine JZ rfl x (by simpa using u) λR η B z a w g m=>?_
 have i:=(K3 m (Uf (U2 ops.toList k))).1;rw[ZL g r]at i
 obtain⟨j,h,p,d⟩:=Z1e hx i;refine⟨.bool j.isNone,?_,.v _ _ (.c _ _ (.sem _ _ ⟨_,rfl,λo=>d (by simpa using o)⟩ rfl))⟩
 have l:a.eval (Ue (U2 ops.toList k))=.slice none 0 0:=by rw[Z1Y hy];rfl
 have q:(eqGuard .eql t (Uf (U2 ops.toList k)) (Ue (U2 ops.toList k)) (.slice j n h) (.slice none 0 0)).run P w=.ok () w:=rfl;simp only[execOp,b,Qd8,l,p,q,Qc5,Q7O ht,Qf3]
def Wy(P:Program)(e:U8)(s:J0)(G8:List Nat)(rd:List Nat)(x:Operand)(y:AVal):Prop:=
 QD rd x=true/\((Y4 (Y5 e x) y/\y.closed=true)\/(∃k es n f,k∈G8/\Y5 e x=.v (.c (.own k))/\s k=some (.arr es n f)/\y=.v (.c (.d (.lst n f))))\/∃F,Y5 e x=Yl P F/\y=Yl P F)
theorem Q5n{f:Nat}(hcall:∀args w,(callFunc f args).run P w=.ok (.enter f args) w){xs:Array Operand}(hop:o.op=.call {callee:=.value fx,args:=xs,argTypes:=tys})(hfx:Y5 e fx=.v (.c (.clo f [])))(hrf:QD (QG o++Qt ops o) fx=true)(hspec:G4 P f args [] r [])(hlen:xs.size=args.length)(G8:List Nat)(hargs:∀j,j<args.length->Wy P e s G8 (QG o++Qt ops o) (xs.toList.getD j (.const undef)) (args.getD j .any))(hids:∀k∈G8,k∈Wu e o)(hr:r.flat=true)(hdo:QJ nt o=true)(hg:QW ops e o=some true):Wo P C nt ops o (Ji ops o e r) e s:=by
 intro R η e0 z a w J a7 d4 x K Q hK;have hw:=Ur (e:=e) x (λt ht=>J t (Qb2.2 (.inr ht))) hg
 rw[Qa2 hw];have a2:=(K3 x fx).1
 rw[ZL J hrf,hfx]at a2;have b2:=CI (w:=w) hop (Hy a2) hcall
 have a1:∀b,XS C z η b->b<w.heap.size:=by
  rintro b (⟨m,_⟩|m)
  .exact Qc4 (x.ok.lt b m) x.fr.size
  .exact x.lt m
 let X1:Nat->Prop:=λb=>XS C z η b/\∀k∈G8,s k≠none->b∉V8 (η k)
 have c2:QQ w w (XS C z η) X1:=λb _ p=>⟨rfl,λm=>p m.1⟩
 have b8:=hspec w X1 η (xs.map a.eval++(([]:List Nat).map η).toArray) (λb p=>a1 b p.1) (λb ⟨i,y,q,_⟩=>by cases q) (λi y q=>by cases q) (λi j b q=>absurd rfl q) (by simp[hlen]) (λj N=>by
  have c3 : j<xs.size:=by omega
  have e1:(xs.map a.eval++(([]:List Nat).map η).toArray).getD j undef=a.eval (xs.toList.getD j (.const undef)):=by simp[Qa0,c3]
  rw[e1];obtain⟨g0,g⟩:=hargs j N
  have m:=(K3 x (xs.toList.getD j (.const undef))).1;rw[ZL J g0]at m
  rcases g with ⟨O,g2⟩|⟨k,es,n,fl,O,g2,g3,g4⟩|⟨F,O,g2⟩
  .exact ((O.1 _ _ _ _ _ m).mono (η':=η) c2 (λ_ _=>rfl)).free g2
  .rw [g2]at m
   rw[g4];have hv:a.eval (xs.toList.getD j (.const undef))=η k:=by
    generalize a.eval (xs.toList.getD j (.const undef))=u at m
    cases m with|v _ _ m=>cases m with|c _ _ m=>cases m with|own _ _ h _=>exact h
   rw[hv];have I:z k=some (.arr es n fl):=by rw[a7 k (hids k O)];exact g3
   have T:=x.st k _ I;have a9:∀b,b∈V8 (η k)->¬X1 b:=λb p m=>m.2 k O (by rw[g3];simp) p
   refine .v _ _ (.c _ _ (.d _ _ ?_));generalize η k=u at T a9
   cases T with
   |nil ad es _=>exact .nil ad 0 fl
   |arr b n cap es c e _ G h2 h3 h4 h5 h6 h7=>
    refine .lst b 0 n cap c e _ fl es (a9 b (by simp[V8];omega)) G h3 (by rw[h2,Qd2];exact Qb4 _ h3) h6 λi j q N=>?_
    rw[Qd2];exact(h7 i j q N).mono λb p hX=>⟨rfl,λm=>hX m.1⟩
  .rw [O]at m
   rw[g2];have U:Qp P F C.w0 C.D C.X (a.eval (xs.toList.getD j (.const undef)))/\(a.eval (xs.toList.getD j (.const undef))).oneCell'=true:=by
    generalize a.eval (xs.toList.getD j (.const undef))=u at m
    cases m with|v _ _ h=>cases h with|c _ _ h=>cases h with|sem _ _ h G=>exact⟨h,G⟩
   obtain⟨⟨ff,a6,b9,B,b6⟩,a8⟩:=U;refine .v _ _ (.c _ _ (.sem _ _ ⟨ff,a6,b9,B,?_⟩ a8))
   intro w1 X2 vs H r2 hF c1 Z b7 c0 b1 A;have W : w.heap.size<=w1.heap.size:=c1
   have a3:∀b,¬(Qk ([]:List (Nat×Obj)) w X1 η).D b:=by rintro b ⟨i,y,q,_⟩;cases q
   refine b6 w1 X2 vs H r2 hF (Qc9 x.fr.size W) (λb p hD=>?_) b7 (λb p hD=>?_) b1 A
   .have M:b<w.heap.size:=Qc4 p x.fr.size
    exact(Z b M (a3 b)).trans (x.fr.block b p λhM=>hD (x.ok.md b hM))
   .have M:b<w.heap.size:=Qc4 p x.fr.size
    rw[c0 b M (a3 b)];have a0:∀i y,z i=some y -> b∉V8 (η i):=by
     intro i y q Y;rcases x.ow i y b q Y with ⟨_,G⟩|G|G
     .exact hD G
     .exact hD (x.ok.md b G)
     .omega
    constructor
    .rintro ⟨⟨m,_⟩|⟨i,y,q,Y⟩,_⟩
     all_goals grind
    .refine λm=>⟨.inl ⟨m,hD⟩,λk hk I=>?_⟩
     obtain⟨y,b4⟩:=Qa9.1 I;exact a0 k y (by rw[a7 k (hids k hk)];exact b4))
 unfold Oper.wp;rw[b2]
 show Calls P f _ w _;refine b8.mono λen w' hh=>?_
 obtain⟨v,η',rfl,p⟩:=hh;have V:Stp (λ_=>False) w w':=p.stp.mono λb _ hM=>by obtain⟨i,y,q,_⟩:=hM;cases q
 have hs:SR.sto {v:=r} o.dst z=z:=by funext i;simp[SR.sto]
 have he:SR.eta {v:=r} o.dst v η=η:=by funext i;simp[SR.eta]
 have b3:SR.rng {v:=r} o.dst R=R:=by funext i;simp[SR.rng]
 have:=x.step o.dst (YO hdo) {v:=r} v w' (λ_=>False) V (λb p=>p.elim) (λo dd T=>by cases T) (λk o T=>by cases T)
  (λ_=>by rw[hs,he];refine⟨p.res.flat hr,λj N=>?_⟩;simp only at N;rw[Z6o hr]at N;cases N)
 rw[hs,he,b3]at this;refine hK η _ w' ?_
 have hu:Zw (Ji ops o e r).l z=z:=by funext i;rfl
 rw[hu];exact this.wider λi q=>.inl q
def HU(P:Program)(e:U8)(s:J0)(G8:List Nat)(rd:List Nat):List Operand->List AVal->Prop
 |[],[]=>True
 |x::xs,y::ys=>Wy P e s G8 rd x y/\HU P e s G8 rd xs ys
 |_,_=>False
theorem HU.spec{xs:List Operand}{ys:List AVal}(h:HU P e s G8 rd xs ys):xs.length=ys.length/\∀j,j<ys.length->Wy P e s G8 rd (xs.getD j (.const undef)) (ys.getD j .any):=by
 induction xs generalizing ys with
 |nil=>cases ys with
  |nil=>exact⟨rfl,λj a=>by simp at a⟩
  |cons y ys=>exact h.elim
 |cons x xs ih=>cases ys with
  |nil=>exact h.elim
  |cons y ys=>
   obtain⟨b,c⟩:=h
   grind
theorem Wy.own(k:Nat)(h0:QD rd x=true)(h1:G8.contains k=true)(h2:Y5 e x=.v (.c (.own k)))(h3:s k=some (.arr es n f)):Wy P e s G8 rd x (.v (.c (.d (.lst n f)))):=
 ⟨h0,.inr (.inl ⟨k,es,n,f,by simpa using h1,h2,h3,rfl⟩)⟩
theorem Wy.sem{F:List AVal->AVal->Prop}(h0:QD rd x=true)(h1:Y5 e x=Yl P F):Wy P e s G8 rd x (Yl P F):=⟨h0,.inr (.inr ⟨F,h1,rfl⟩)⟩
def callBB(ops:Array Oper)(nt:Nat)(e:U8)(o:Oper)(f:Nat)(r:AVal)(G8:List Nat):Bool:=
 XF o&&Cc f (Y5 e (Uj o))&&QD (QG o++Qt ops o) (Uj o)&&r.flat&&G8.all (λk=>(Wu e o).contains k)&&QJ nt o&&(QW ops e o==some true)
theorem Z5R{f:Nat}(hspec:G4 P f args [] r [])(hcall:∀args w,(callFunc f args).run P w=.ok (.enter f args) w)(G8:List Nat)(hk:QA ds k=sE r)(hb:callBB ops nt (J4 L ops ops.toList ds e s k) (U2 ops.toList k) f r G8=true)(hargs:HU P (J4 L ops ops.toList ds e s k) (QM L ops ops.toList ds e s k) G8 (QG (U2 ops.toList k)++Qt ops (U2 ops.toList k)) (callXs (U2 ops.toList k)).toList args):G2 P C nt L ops ds e s k:=by
 unfold G2;rw[hk]
 simp only[callBB,Qa4]at hb;obtain⟨⟨⟨⟨⟨⟨q,d⟩,m⟩,h⟩,o⟩,c⟩,b⟩:=hb
 obtain⟨g,a⟩:=Cd q;obtain⟨i,p⟩:=hargs.spec
 exact Q5n hcall a (Q1e d) m hspec (by simpa using i) G8 (λj l=>p j l) (λk hk=>by simpa using Qb8.1 o k hk) h c (by simpa using b)
end
end
section
section
variable {P:Program} {C:Ctx} {nt:Nat} {L:Lay} {ops:Array Oper} {ds:List Dir} {e:U8} {s:J0}
theorem Z5Q{f:Nat}(hspec:G4 P f args Si r So)(hcall:∀args w,(callFunc f args).run P w=.ok (.enter f args) w)(m:List (Nat×Nat))(extra:List Nat)(xs:List Operand)(hk:QA ds k=cE m extra r Si So)(hb:Go.Ab.callB ops nt (J4 L ops ops.toList ds e s k) (U2 ops.toList k) f m r Si So=true)(hsi:Si.map (λp=>QM L ops ops.toList ds e s k (J3 m p.1))=Si.map (λp=>some (p.2.ren (J3 m))))(hxs:(Go.Ab.callXs (U2 ops.toList k)).toList=xs)(hargs:Gu C nt (J4 L ops ops.toList ds e s k) (QM L ops ops.toList ds e s k) Si (J3 m) (QG (U2 ops.toList k)++Qt ops (U2 ops.toList k)) (Wu (J4 L ops ops.toList ds e s k) (U2 ops.toList k)++(Si.map (λp=>J3 m p.1)++extra)) xs args):G2 P C nt L ops ds e s k:=
 Q3L hspec hcall m extra hk hb hsi (hxs ▸ hargs)
theorem FT{f:Nat}(hspec:G4 P f args [] r [])(hcall:∀args w,(callFunc f args).run P w=.ok (.enter f args) w)(G8:List Nat)(xs:List Operand)(hk:QA ds k=sE r)(hb:Go.Ab.callBB ops nt (J4 L ops ops.toList ds e s k) (U2 ops.toList k) f r G8=true)(hxs:(Go.Ab.callXs (U2 ops.toList k)).toList=xs)(hargs:HU P (J4 L ops ops.toList ds e s k) (QM L ops ops.toList ds e s k) G8 (QG (U2 ops.toList k)++Qt ops (U2 ops.toList k)) xs args):G2 P C nt L ops ds e s k:=
 Z5R hspec hcall G8 hk hb (hxs ▸ hargs)
def PW(s:J0)(Si:List (Nat×Obj))(m:Nat->Nat)(ids cids:List Nat):Bool:=Si.all λp=>(s (m p.1)).isSome&&ids.contains (m p.1) && !cids.contains (m p.1)
theorem Jh{cids:List Nat}(h:PW s Si m ids cids=true):(∀p∈Si,∃o1,s (m p.1)=some o1)/\(∀p∈Si,m p.1∈ids)/\∀p∈Si,m p.1∉cids:=by
 refine⟨λp a=>?_,λp a=>?_,λp a=>?_⟩<;>(have:=Qb8.1 h p a;simp only[Qa4,Qh9]at this)
 .exact Ql9.1 this.1.1
 all_goals grind
theorem VI{F:List AVal->AVal->Prop}(hx:QD rd x=true)(hv:Y5 e x=Yl P F)(hsi:PW s Si m ids []=true):YD C nt e s Si m rd ids x (Yl P F):=
 YD.sem hx hv (Jh hsi).1 (Jh hsi).2.1
def HD(s:J0):List Nat->List (List CV)->Prop
 |[],[]=>True
 |i::is,c::cs=>(∃ro,s i=some (.box ro c))/\HD s is cs
 |_,_=>False
theorem Q3h{is:List Nat}{cs:List (List CV)}(h:HD s is cs):is.length=cs.length/\∀k,k<cs.length->∃ro,s (is.getD k 0)=some (.box ro (cs.getD k [])):=by
 induction is generalizing cs with
 |nil=>cases cs with
  |nil=>exact⟨rfl,λk a=>by simp at a⟩
  |cons c cs=>exact h.elim
 |cons i is ih=>cases cs with
  |nil=>exact h.elim
  |cons c cs=>
   obtain⟨b,d⟩:=h
   grind
theorem Z5Z{f:Nat}(hcall:∀args w,(callFunc f args).run P w=.ok (.enter f args) w){F:List AVal->AVal->Prop}(cs:List (List CV))(hspec:∀args r,F args r->G4 P f (args++Wl cs) (Zq cs) r (Zq cs))(hres:∀args r,F args r->r.closed=true)(hx:QD rd x=true)(cids:List Nat)(hv:Y5 e x=.v (.c (.clo f cids)))(hnd:(ZV cids&&cs.all (λc=>c.all CV.closed)&&cids.all (λi=>ids.contains i))=true)(hbox:HD s cids cs)(hsi:PW s Si m ids cids=true):YD C nt e s Si m rd ids x (Yl P F):=by
 simp only[Qa4]at hnd;obtain⟨a,b⟩:=Q3h hbox
 exact YD.clo hcall hspec hres hx hv a hnd.1.1 b hnd.1.2 (Jh hsi).1 (Jh hsi).2.1 (λi d=>by simpa using Qb8.1 hnd.2 i d) (Jh hsi).2.2
end
noncomputable def XK{R:Type}(p:Prop)(x:Option R):Option R:= @gd R p (Classical.propDecidable p) x
theorem Q1s{R:Type}{p:Prop}{x:Option R}{r:R}(h:XK p x=some r):p/\x=some r:= @Ct R p (Classical.propDecidable p) x r h
noncomputable def HC{R:Type}(n:Nat)(x y:Option R):Option R:=match n with
 |0=>XK (x=y) x
 |_+1=>y
theorem xM{R:Type}{x y:Option R}{r:R}(h:HC n x y=some r)(hn:n=0):x=some r:=by subst hn;exact(Q1s h).2
theorem xN{R:Type}{x y:Option R}{r:R}(h:HC n x y=some r):y=some r:=by
 cases n with
 |zero=>obtain⟨a,b⟩:=Q1s h;exact a ▸ b
 |succ n=>exact h
end
section
def Yr(s:J0)(es:Nat):AVal->Option (Nat×Nat×Nat)
 |.v (.c (.own id))=>match s id with
  |some (.arr es' N _)=>if es=es' then some (id,0,N)else none
  |_=>none
 |.v (.c (.sub id es' lo n))=>if es=es' then some (id,lo,n)else none
 |_=>none
section
variable {P:Program} {L:Lay} {C:Ctx} {nt:Nat} {R:Nat->Prop} {η:Nat->Value} {e:U8} {s:J0} {a:Act} {w:World}
inductive VOk (w:World) (X:Nat->Prop) (η:Nat->Value) (id es N:Nat) (f:Nat->List DVal) (lo n:Nat):Value->Prop
 | some (b cap:Nat) (c:Array Value) (e' : TypeId):η id=.slice (some ⟨b,0,none⟩) N cap->w.heap[b]?=some (.cells c e' (0,0))->c.size=cap*es->N<=cap->cap<=maxLen ->
   (∀i,i<N->(f i).length=es)->(∀i j,i<N->j<es->DRep w X (c.getD (i*es+j) undef) ((f i).getD j .any))->lo+n<=N->lo<cap ->
   VOk w X η id es N f lo n (.slice (some ⟨b,lo*es,none⟩) n (cap-lo))
 |nil (ad ad' : Option Addr):η id=.slice ad N N->lo=N->n=0->VOk w X η id es N f lo n (.slice ad' 0 0)
theorem Md(h:Conc C nt R η e s a w)(hx:Yr s es (Y5 e x)=some (id,lo,n))(hs:s id=some (.arr es N f)):
  VOk w (XS C s η) η id es N f lo n (a.eval x):=by
 have g:=(K3 h x).1;have d:=h.st id _ hs
 unfold Yr at hx;split at hx
 .rename_i m j
  split at hx
  .rename_i o p t i
   split at hx
   .cases hx
    rw[hs]at i;cases i
    rw[j]at g;rw[WE g]
    generalize hu:η id=u at d
    cases d with
    |nil ad=>exact .nil ad ad hu rfl rfl
    |arr b _ cap _ c e' _ h1 h2 h3 h4 h5 h6 h7=>
     have:=VOk.some (w:=w) (X:=XS C s η) (η:=η) (id:=id) (f:=f) (lo:=0) b cap c e' hu h1 h2 h3 h4 h6 h7 (Nat.le_of_eq (Qd2 _)) h5
     grind
   .cases hx
  .cases hx
 .rename_i m o q r j
  split at hx
  .rename_i l
   cases hx
   subst l;rw[j]at g
   generalize a.eval x=v at g
   cases g with|v _ _ g=>cases g with|c _ _ g=>cases g with
    |sub b p cap _ _ _ _ hη h1 h2=>
     rw[hη]at d
     cases d with
     |nil=>omega
     |arr _ _ _ _ c e' _ g1 g2 g3 g4 g5 g6 g7=>exact .some b cap c e' hη g1 g2 g3 g4 g6 g7 h1 h2
    |subN ad ad' p _ _ hη=>
     rw[hη]at d
     cases d with
     |nil=>exact .nil _ _ hη rfl rfl
     |arr _ _ _ _ c e' _ g1 g2 g3 g4 g5 g6 g7=>exact .nil _ _ hη rfl rfl
  .cases hx
 .cases hx
theorem VOk.slice{X:Nat->Prop}{v:Value}(h:VOk w X η id es N f lo n v):∃ad cap,v=.slice ad n cap/\(n<=cap)/\lo+n<=N:=by
 cases h with
 |some b cap c e' h1 h2 h3 h4 h5 h6 h7 h8 h9=>exact⟨_,_,rfl,by omega,h8⟩
 |nil ad ad' h1 h2 h3=>exact⟨_,_,by rw[h3],by omega,by omega⟩
theorem VOk.part{X X' : Nat->Prop}{ad:Option Addr}{id es N lo n cap:Nat}{f:Nat->List DVal}(h:VOk w X η id es N f lo n (.slice ad n cap)){l u:Nat}(hlu:l<=u)(hu:lo+u<=N):
  ARep w X' η C (.slice (if cap=l then ad else ad.map (·.add (l*es))) (u-l) (cap-l)) (.v (.c (.sub id es (lo+l) (u-l)))):=by
 generalize hv:Value.slice ad n cap=v at h
 cases h with
 |some b cap' c e' h1 h2 h3 h4 h5 h6 h7 h8 h9=>
  cases hv
  by_cases hc:cap' - lo=l
  .have d:u-l=0:=by omega
   have g:cap' - lo-l=0:=by omega
   have i:lo+l=N:=by omega
   have j:cap'=N:=by omega
   rw[d,g,i];subst j
   exact .v _ _ (.c _ _ (.subN _ _ _ _ _ h1))
  .rw [Qa1 hc]
   simp only[Qj0,add_lit];have d:lo*es+l*es=(lo+l)*es:=by rw[Qg8]
   have g:cap' - lo-l=cap' - (lo+l):=by omega
   rw[d,g];exact .v _ _ (.c _ _ (.sub b N cap' id es (lo+l) (u-l) h1 (by omega) (by omega)))
 |nil ad0 ad' h1 h2 h3=>
  cases hv
  have d:u-l=0:=by omega
  have g:lo+l=N:=by omega
  rw[d,g,Nat.zero_sub];exact .v _ _ (.c _ _ (.subN ad0 _ N id es h1))
theorem Q7n(h:Conc C nt R η e s a w){lo:Option Operand}(hl:oI e lo=some l)(hu:oI e hi=some u)(n cap:Nat)(hc:0<=l.getD 0/\l.getD 0<=u.getD n/\u.getD n<=cap):
  (Instr.sliceBounds true n cap (lo.map a.eval) (hi.map a.eval) none).run P w=.ok ((l.getD 0).toNat,(u.getD n).toNat,cap) w:=by
 rcases Tp h hl with ⟨h1,h2⟩|⟨k,m,h1,h2⟩<;>rcases Tp h hu with ⟨h3,h4⟩|⟨k',m',h3,h4⟩<;>subst h2<;>subst h4<;>simp only[Qu1,Option.getD_none]at hc
 .subst h1;subst h3
  simp[Instr.sliceBounds]
 .subst h1
  simp[Instr.sliceBounds,h3,VP m' cap _ ⟨hc.2.1,by omega⟩]
 .subst h3
  have b:=VP (P:=P) (w:=w) m n .sliceB ⟨hc.1,by omega⟩ k;simp[Instr.sliceBounds,h1,b]
 .have b:=VP (P:=P) (w:=w) m m'.toNat .sliceB ⟨hc.1,by omega⟩ k
  simp[Instr.sliceBounds,h1,h3,VP m' cap _ ⟨by omega,by omega⟩,b]
theorem Q6j(hL:Qi P L)(h:Conc C nt R η e s a w)(hd:∀ x,o.dst=some x->x<nt){lo:Option Operand}(hop:o.op=.slice t x lo hi none){ti:TI}(ht:L t=some ti){el:Nat}(hk:ti.kind=.slice el)(hte:L el=some te)(hl:oI e lo=some l)(hu:oI e hi=some u)(hx:Yr s te.size (Y5 e x)=some (id,lo0,n))(hs:s id=some (.arr te.size N f))(hc:0<=l.getD 0/\l.getD 0<=u.getD n/\(lo0:Int)+u.getD n<=N):
  y8 P C nt R η e s a w o {v:=.v (.c (.sub id te.size (lo0+(l.getD 0).toNat) ((u.getD n).toNat-(l.getD 0).toNat)))}:=by
 obtain⟨i,dd,z,q⟩:=hL t ti ht;obtain⟨H,F,G,p⟩:=hL el te hte
 have m:=q.kind;rw[hk]at m
 simp only[ZE]at m;have d:=Md h hx hs
 obtain⟨A,g,ev,J,I⟩:=d.slice;have r:(u.getD n)<=g:=by
  rw[ev]at d;generalize hv:Value.slice A n g=v at d
  cases d with
  |some b cap' c e' h1 h2 h3 h4 h5 h6 h7 h8 h9=>cases hv;omega
  |nil ad0 ad' h1 h2 h3=>cases hv;omega
 rw[ev]at d;have B:=Q7n (P:=P) h hl hu n g ⟨hc.1,hc.2.1,r⟩
 have D:∀j∈(AVal.v (.c (.sub id te.size (lo0+(l.getD 0).toNat) ((u.getD n).toNat-(l.getD 0).toNat)))).refs,R j:=by
  intro j y;simp[AVal.refs,TV.refs,CV.refs]at y
  rw[y];exact(h.sr id _ hs).1
 refine QU h hd ?_ (d.part (l:=(l.getD 0).toNat) (u:=(u.getD n).toNat) (by omega) (by omega)) D;simp only[execOp,hop,Qd8,Instr.sliceAt,Qb9 q.und,Qc5,m,Instr.slice,ev,Qq9,B,Yu p,Qf3]
theorem Q6k(hL:Qi P L)(h:Conc C nt R η e s a w)(hd:∀x,o.dst=some x->x<nt)(hop:o.op=.call {callee:=.builtin .len,args:= #[x],argTypes:= #[t]}){ti:TI}(ht:L t=some ti){el:Nat}(hk:ti.kind=.slice el)(hx:Yr s es (Y5 e x)=some (id,lo,n))(hs:s id=some (.arr es N f)):y8 P C nt R η e s a w o {v:=vi n}:=by
 obtain⟨i,dd,z,c⟩:=hL t ti ht;have b:=c.kind
 rw[hk]at b;simp only[ZE]at b
 obtain⟨g,d,ev,_⟩:=(Md h hx hs).slice;refine QU h hd (v:=.int .i64 n) ?_ (Wt _ _ _) (by simp[vi,AVal.refs,TV.refs,CV.refs])
 simp[execOp,hop,resolve,invoke,builtin,Builtin.len_,Qb9 c.und,b,ev,goInt]
theorem Q6l(hL:Qi P L)(h:Conc C nt R η e s a w){o:Oper}(hd:∀ x,o.dst=some x->x<nt){t:TypeId}{x i:Operand}(hop:o.op=.indexAddr t x i){ti:TI}(ht:L t=some ti){el:Nat}(hk:ti.kind=.slice el){te:TI}(hte:L el=some te){m:Int}(hi:ZD (Y5 e i)=some m){id lo n N:Nat}{f:Nat->List DVal}(hx:Yr s te.size (Y5 e x)=some (id,lo,n))(hs:s id=some (.arr te.size N f))(hc:0<=m/\m<n):
  y8 P C nt R η e s a w o {v:=.v (.c (.pte id te.size (lo+m.toNat) 0))}:=by
 obtain⟨D,d1,A,l⟩:=hL t ti ht;obtain⟨B,y,z,p⟩:=hL el te hte
 have d:=l.kind;rw[hk]at d
 simp only[ZE]at d;subst d
 obtain⟨k,u⟩:=Pc h hi;have g:=Md h hx hs
 generalize ev:a.eval x=v at g
 cases g with
 |some b cap c e' h1 h2 h3 h4 h5 h6 h7 h8 h9=>
  refine QU h hd (v:=.pointer (some ⟨b,(lo+m.toNat)*te.size+0,none⟩)) ?_ (.v _ _ (.c _ _ (.pte b N cap _ _ _ _ h1))) (λj q=>by simp[AVal.refs,TV.refs,CV.refs]at q;rw[q];exact(h.sr id _ hs).1);have r:lo*te.size+m.toNat*te.size=(lo+m.toNat)*te.size:=by rw[Qg8]
  simp[execOp,hop,Instr.indexAt,u,ev,asIntOf,Qb9 l.und,hc,Yu p,add_lit,r]
 |nil ad0 ad' h1 h2 h3=>omega
theorem gW(h:Conc C nt R η e s a w)(hd:∀x,o.dst=some x->x<nt){ob ob' : Obj}(hs:s id=some ob)(hro:ob.ro=false)(hro' : ob'.ro=false)(hrf:∀j∈ob'.refs,R j){w' : World}{v:Value}{x:AVal}(hstp:Stp (λb=>b∈V8 (η id)) w w')(hrun:(execOp a.eval o).run P w=.ok (.value v) w')(hob:∀X',QQ w w' (XS C s η) X' -> ORep w' X' η C (η id) ob')(hv:∀X',ARep w' X' η C v x)(hx:∀j∈x.refs,R j):y8 P C nt R η e s a w o {v:=x,upd:=some (id,ob')}:=by
 have m:=UF (C:=C) (s:=s) (η:=η) {v:=x,upd:=some (id,ob')} o.dst v (λb=>b∈V8 (η id)) hstp (λb g=>⟨id,ob,hs,g⟩) (λ_ _ d=>by cases d)
  (λk o d=>by cases d;rw[hs];simp)
 have c:SR.eta {v:=x,upd:=some (id,ob')} o.dst v η=η:=by funext i;simp[SR.eta]
 refine⟨v,w',.inl hrun,?_⟩;refine h.step o.dst hd _ _ _ (λb=>b∈V8 (η id)) hstp ?_ (λ_ _ d=>by cases d) ?_ (λ_=>⟨?_,λj p=>.inl (hx j p)⟩)
 .intro b g
  refine⟨⟨id,.inr ⟨ob',rfl⟩,by rw[hs];simp,g⟩,?_⟩;rcases h.ow id ob _ hs g with ⟨l,_⟩|l
  .rw [hro]at l;cases l
  .exact l
 .intro k q d
  cases d
  refine⟨⟨ob,hs,hro⟩,hro',by simp,hrf,?_⟩;rw[c]
  rw[c]at m;exact hob _ m
 .rw [c];exact hv _
theorem Z0c{X' : Nat->Prop}{cap b:Nat}{g:Nat->List DVal}{c:Array Value}{e' : TypeId}{news:List Value}(hX:QQ w (w.setRow b (c.toList.take (lo*es)++news++c.toList.drop (lo*es+news.length)).toArray) (XS C s η) X')(h1:η id=.slice (some ⟨b,0,none⟩) N cap)(h2:w.heap[b]?=some (.cells c e' (0,0)))(h3:c.size=cap*es)(h4:N<=cap)(h5:cap<=maxLen)(h50:0<cap)(h6:∀ i,i<N->(f i).length=es)(h7:∀ i j,i<N->j<es->DRep w (XS C s η) (c.getD (i*es+j) undef) ((f i).getD j .any))(hk:lo+k<=N)(hn:news.length=k*es)(g1:∀ i,i<k->(g i).length=es)(g2:∀ i j,i<k->j<es->DRep w (XS C s η) (news.getD (i*es+j) undef) ((g i).getD j .any)):
  ORep (w.setRow b (c.toList.take (lo*es)++news++c.toList.drop (lo*es+news.length)).toArray) X' η C (η id) (.arr es N λi=>if lo<=i/\i<lo+k then g (i-lo)else f i):=by
 have h:lo*es+news.length<=c.size:=by rw[hn,h3, <-Qg8];exact Qb4 _ (by omega)
 obtain⟨t,v⟩:=Rh c (lo*es) news h;rw[h1]
 refine .arr b N cap es _ e' _ (Qv7 w b c _ e' _ h2) (by rw[t];exact h3) h4 h5 h50 (λi o=>?_) (λi j o r=>?_)
 .by_cases hc:lo<=i/\i<lo+k
  .simp only[hc,and_self,Qi8];exact g1 _ (by omega)
  .simp only[hc,Qi0];exact h6 i o
 .rw [v]
  have d:∀{p q:Nat},p<q->p*es+es<=q*es:=λ{p q} hpq=>by
   have:(p+1)*es<=q*es:=Qb4 _ hpq
   grind
  by_cases hc:lo<=i/\i<lo+k
  .have A:lo*es<=i*es:=Qb4 _ hc.1
   have y:=d hc.2;rw[Qg8]at y
   rw[Qa2 ⟨by omega,by omega⟩];simp only[hc,and_self,Qi8]
   have u:i*es+j-lo*es=(i-lo)*es+j:=by rw[Nat.sub_mul];omega
   rw[u];exact(g2 (i-lo) j (by omega) r).mono λx m hn=>hX x m hn
  .rw [Qa1]
   .simp only[hc,Qi0];exact(h7 i j o r).mono λx m hn=>hX x m hn
   .rintro ⟨B,D⟩
    rcases Qc8 i lo with l|z
    .have:=d l;omega
    .have:(lo+k)*es<=i*es:=Qb4 _ (by omega)
     rw[Qg8]at this;omega
theorem Q7v{cap b:Nat}(h1:η id=.slice (some ⟨b,0,none⟩) N cap)(h:0<cap)(cs:Array Value):Stp (λx=>x∈V8 (η id)) w (w.setRow b cs):=
 (setRow_stp w b cs).mono λx _ c=>by have e:x=b:=c;rw[h1,e];simp[V8];omega
theorem Z2L{g:Nat->List DVal}(h:k=0):(λi=>if lo<=i/\i<lo+k then g (i-lo)else f i)=f:=by
 grind
def YV(x y:DVal):Prop:=∀w X v,DRep w X v x->DRep w X v y
theorem YV.refl(x:DVal):YV x x:=λ_ _ _ h=>h
theorem YV.nil(f g:Nat->List DVal):YV (.lst 0 f) (.lst 0 g):=λw X v h=>by
 cases h with
 |nil a cap=>exact .nil a cap g
 |lst b off n cap c e fz f es=>exact .nil _ cap g
def HT:List DVal->List DVal->Prop
 |[],[]=>True
 |x::xs,y::ys=>YV x y/\HT xs ys
 |_,_=>False
theorem HT.spec{xs ys:List DVal}(h:HT xs ys):xs.length=ys.length/\∀j,YV (xs.getD j .any) (ys.getD j .any):=by
 induction xs generalizing ys with
 |nil=>cases ys with
  |nil=>exact⟨rfl,λj=>YV.refl _⟩
  |cons y ys=>exact h.elim
 |cons x xs ih=>cases ys with
  |nil=>exact h.elim
  |cons y ys=>
   obtain⟨d,b⟩:=h;obtain⟨c,g⟩:=ih b
   refine⟨by simp[c],λj=>?_⟩
   cases j with
   |zero=>exact d
   |succ j=>exact g j
theorem Q6m(hL:Qi P L)(h:Conc C nt R η e s a w){o:Oper}(hd:∀ x,o.dst=some x->x<nt){t:TypeId}{x:Operand}(hop:o.op=.call { callee:=.builtin .clear,args:= #[x],argTypes:= #[t] }){ti:TI}(ht:L t=some ti){el:Nat}(hk:ti.kind=.slice el){te:TI}(hte:L el=some te)(h0:0<te.size)(hzl:te.zero.length=te.size){zd0 zd:List DVal}(hz:Vm te.zero=some zd0)(hle:HT zd0 zd){id lo n N:Nat}{f:Nat->List DVal}(hx:Yr s te.size (Y5 e x)=some (id,lo,n))(hs:s id=some (.arr te.size N f)):
  y8 P C nt R η e s a w o {v:=.any,upd:=some (id,.arr te.size N λi=>if lo<=i/\i<lo+n then(λ_=>zd) (i-lo)else f i)}:=by
 obtain⟨i,dd,z,B⟩:=hL t ti ht;obtain⟨i2,d2,d,m⟩:=hL el te hte
 have F:=B.kind;rw[hk]at F
 simp only[ZE]at F;subst F
 have H:=Md h hx hs;have Y:=h.st id _ hs
 have J:∀j∈(AVal.any).refs,R j:=λj G=>by cases G
 have Z:∀v,a.eval x=v->(∃W D,v=.slice W 0 D)->n=0->y8 P C nt R η e s a w o {v:=.any,upd:=some (id,.arr te.size N λi=>if lo<=i/\i<lo+n then(λ_=>zd) (i-lo)else f i)}:=by
  rintro v ev ⟨W,D,rfl⟩ hn;have p:(execOp a.eval o).run P w=.ok (.value (.tuple #[])) w:=by
   cases W<;>simp[execOp,hop,resolve,invoke,builtin,Builtin.clear_,Qb9 B.und,ev]
  refine gW h hd hs rfl rfl (by simp[Obj.refs]) (Stp.refl _ _) p (λX' V=>?_) (λX'=>.any _) J;have T:ORep w X' η C (η id) (.arr te.size N f):=Y.mono V (λj G=>rfl) λb hb=>rfl
  rw[<-Z2L (k:=n) (lo:=lo) (f:=f) (g:=λ_=>zd) hn]at T;exact T
 generalize ev:a.eval x=v at H
 cases H with
 |some b D c e' h1 h2 h3 h4 h5 h6 h7 h8 h9=>
  by_cases hn:n=0
  .grind
  .have l:d.cells.size=te.size:=by rw[(m.zrep w (XS C s η) η C).1,hzl]
   obtain⟨A,I⟩:=Lr (m.zrep w (XS C s η) η C) hz;have O:(Builtin.zeroCells d.cells n).toList.length=n*te.size:=by simp[Builtin.zeroCells,l]
   have U:∀u∈(Builtin.zeroCells d.cells n).toList,u.oneCell'=true:=by
    intro u hu;simp only[Builtin.zeroCells,Array.toList_map,Qc7]at hu
    obtain⟨q,hq,rfl⟩:=hu;have r:q % d.cells.size<d.cells.size:=Qt4 _ (by rw[l];exact h0)
    have:=(I (q % d.cells.size) (by rw[A];exact r)).one
    simpa[r]using this
   have M:lo*te.size+0+(Builtin.zeroCells d.cells n).toList.length<=c.size:=by rw[O,h3,Ql2, <-Qg8];exact Qb4 _ (by omega)
   have y:=Qp5 P b (lo*te.size) e' (Builtin.zeroCells d.cells n).toList 0 c w h2 M U;simp only[Ql2]at y
   have p:(execOp a.eval o).run P w=.ok (.value (.tuple #[])) (w.setRow b (c.toList.take (lo*te.size)++(Builtin.zeroCells d.cells n).toList++c.toList.drop (lo*te.size+(Builtin.zeroCells d.cells n).toList.length)).toArray):=by
    simp[execOp,hop,resolve,invoke,builtin,Builtin.clear_,Qb9 B.und,ev,Rx m,y,hn]
   refine gW h hd hs rfl rfl (by simp[Obj.refs]) (Q7v h1 (by omega) _) p (λX' V=>?_) (λX'=>.any _) J;refine Z0c V h1 h2 h3 h4 h5 (by omega) h6 h7 h8 O (λi _=>by rw[<-hle.spec.1,A,l]) λi j hi G=>?_
   have r:i*te.size+j<n*te.size:=by
    have:(i+1)*te.size<=n*te.size:=Qb4 _ hi
    grind
   have hm:(i*te.size+j) % te.size=j:=by rw[Qn0,Qo4,Qq3 G]
   have hg:(Builtin.zeroCells d.cells n).toList.getD (i*te.size+j) undef=d.cells.getD j undef:=by
    have:=ye (n*d.cells.size) (λi=>d.cells[i % d.cells.size]!) (i*te.size+j) (by rw[l];exact r)
    have e1:(Builtin.zeroCells d.cells n).toList.getD (i*te.size+j) undef=(Builtin.zeroCells d.cells n).getD (i*te.size+j) undef:=by simp[Qa0,Qe9]
    rw[e1];unfold Builtin.zeroCells
    rw[this,l,hm];have:j<d.cells.size:=by rw[l];exact G
    simp[this]
   rw[hg];exact hle.spec.2 j _ _ _ (I j (by rw[A,l];exact G))
 |nil ad0 ad' h1 h2 h3=>exact Z _ ev ⟨_,_,rfl⟩ h3
end
end
section
section
variable {P:Program} {C:Ctx} {nt:Nat} {L:Lay} {ops:Array Oper} {ds:List Dir} {e:U8} {s:J0}
def rE(r:SR):Array Oper->Oper->U8->Eff:=λops o e=>Hu ops o e r r.v
theorem Ut(hdo:QJ nt o=true){r:SR}(hg:QW ops e o=some true)(hsnd:∀ (R:Nat->Prop) (η:Nat->Value) (e0:U8) (s0:J0) (a:Act) (w:World),(∀ x ∈ o.op.operands.toList,Y5 e0 x=Y5 e x)->(∀ x ∈ o.op.operands.toList,∀ i ∈ (Y5 e x).refs,s0 i=s i)->(∀ d,o.dst=some d->r.new≠none->¬ R d) ->
   Conc C nt R η e0 s0 a w->y8 P C nt R η e0 s0 a w o r):Wo P C nt ops o (Hu ops o e r r.v) e s:=by
 intro R η e0 s0 a w p c u b K Q M;have m:∀x∈o.op.operands.toList,Y5 e0 x=Y5 e x:=by
  intro x m
  cases x with
  |tmp t=>exact p t (Qb2.2 (.inl (Qp2.2 ⟨_,m,rfl⟩)))
  |const v=>rfl
  |global g=>rfl
  |func f=>rfl
 have y:∀x∈o.op.operands.toList,∀i∈(Y5 e x).refs,s0 i=s i:=λx m i I=>c i (Qc1.2 ⟨x,m,I⟩)
 have D:=Ur (e:=e) b (λt G=>p t (Qb2.2 (.inr G))) hg;rw[Qa2 D]
 have F:=hsnd R η e0 s0 a w m y (λd H J=>u d (by
  obtain⟨N,q⟩:=Qa9.1 J;simp[Hu,SR.nw,q,H])) b
 refine F.wp λη' B w' A=>M η' B w' ?_
 have z:=A.wider (LS r o.dst R);have h:Zw (Hu ops o e r r.v).l s0=r.sto o.dst s0:=LR r o.dst s0
 rw[h];have j:Zs o.dst (Hu ops o e r r.v).v e0=r.env o.dst e0:=rfl
 rw[j];exact z
theorem FL{s0:J0}{x:AVal}(h:∀i∈x.refs,s0 i=s i):Yr s0 es x=Yr s es x:=by
 unfold Yr;split
 .rw [h _ (by simp[AVal.refs,TV.refs,CV.refs])]
 .rfl
 .rfl
theorem FK{x:AVal}(h:Yr s es x=some (id,lo,n)):id∈x.refs:=by
 unfold Yr at h;split at h
 .split at h
  .split at h
   .cases h;simp[AVal.refs,TV.refs,CV.refs]
   .cases h
  .cases h
 .split at h
  .cases h;simp[AVal.refs,TV.refs,CV.refs]
  .cases h
 .cases h
def Vq(L:Lay)(t:TypeId)(te:TI):Prop:=∃ti el,L t=some ti/\ti.kind=.slice el/\L el=some te
variable {k:Nat}
theorem UQ(hL:Qi P L)(hT:Vq L t te){lo:Option Operand}(hk:QA ds k=rE {v:=r})(hop:(U2 ops.toList k).op=.slice t x lo hi none)(hdo:(QJ nt (U2 ops.toList k)&&(QW ops (J4 L ops ops.toList ds e s k) (U2 ops.toList k)==some true))=true)(hl:oI (J4 L ops ops.toList ds e s k) lo=some l)(hu:oI (J4 L ops ops.toList ds e s k) hi=some u)(hx:Yr (QM L ops ops.toList ds e s k) te.size (Y5 (J4 L ops ops.toList ds e s k) x)=some (id,lo0,n))(hs:QM L ops ops.toList ds e s k id=some (.arr te.size N f))(hc:0<=l.getD 0/\l.getD 0<=u.getD n/\(lo0:Int)+u.getD n<=N)(hr:r=.v (.c (.sub id te.size (lo0+(l.getD 0).toNat) ((u.getD n).toNat-(l.getD 0).toNat)))):G2 P C nt L ops ds e s k:=by
 unfold G2;rw[hk]
 simp only[Qa4,Qg6]at hdo;obtain⟨J,I,G,D,q⟩:=hT
 refine Ut hdo.1 hdo.2 λR η A F a w j g _ o=>?_
 have i:∀y,(y=x\/lo=some y\/hi=some y)->y∈(U2 ops.toList k).op.operands.toList:=by
  intro y b;rw[hop]
  rcases b with h|h|h
  .subst h;simp[Op.operands]
  .subst h;simp[Op.operands,optional]
  .subst h;simp[Op.operands,optional]
 have B:Yr F te.size (Y5 A x)=some (id,lo0,n):=by
  rw[j x (i x (.inl rfl)),FL (g x (i x (.inl rfl)))];exact hx
 have p:F id=some (.arr te.size N f):=by rw[g x (i x (.inl rfl)) id (FK hx)];exact hs
 have m:oI A lo=some l:=by rw[Tq λy b=>j y (i y (.inr (.inl b)))];exact hl
 have z:oI A hi=some u:=by rw[Tq λy b=>j y (i y (.inr (.inr b)))];exact hu
 rw[hr];exact Q6j hL o (λd H=>YO hdo.1 d H) hop G D q m z B p hc
theorem Q3K(hL:Qi P L)(hT:Vq L t te)(hk:QA ds k=rE {v:=vi n})(hop:(U2 ops.toList k).op=.call {callee:=.builtin .len,args:= #[x],argTypes:= #[t]})(hdo:(QJ nt (U2 ops.toList k)&&(QW ops (J4 L ops ops.toList ds e s k) (U2 ops.toList k)==some true))=true)(hx:Yr (QM L ops ops.toList ds e s k) es (Y5 (J4 L ops ops.toList ds e s k) x)=some (id,lo0,n))(hs:QM L ops ops.toList ds e s k id=some (.arr es N f)):G2 P C nt L ops ds e s k:=by
 unfold G2;rw[hk]
 simp only[Qa4,Qg6]at hdo;obtain⟨y,u,p,j,o⟩:=hT
 refine Ut hdo.1 hdo.2 λR η q l a w m b _ c=>?_
 have h:x∈(U2 ops.toList k).op.operands.toList:=by rw[hop];simp[Op.operands,Call.operands]
 have i:Yr l es (Y5 q x)=some (id,lo0,n):=by
  rw[m x h,FL (b x h)];exact hx
 have g:l id=some (.arr es N f):=by rw[b x h id (FK hx)];exact hs
 exact Q6k hL c (λd r=>YO hdo.1 d r) hop p j i g
theorem kg(hL:Qi P L)(hT:Vq L t te){i:Operand}{m:Int}(hk:QA ds k=rE {v:=r})(hop:(U2 ops.toList k).op=.indexAddr t x i)(hdo:(QJ nt (U2 ops.toList k)&&(QW ops (J4 L ops ops.toList ds e s k) (U2 ops.toList k)==some true))=true)(hi:ZD (Y5 (J4 L ops ops.toList ds e s k) i)=some m)(hx:Yr (QM L ops ops.toList ds e s k) te.size (Y5 (J4 L ops ops.toList ds e s k) x)=some (id,lo0,n))(hs:QM L ops ops.toList ds e s k id=some (.arr te.size N f))(hc:0<=m/\m<n)(hr:r=.v (.c (.pte id te.size (lo0+m.toNat) 0))):G2 P C nt L ops ds e s k:=by
 unfold G2;rw[hk]
 simp only[Qa4,Qg6]at hdo;obtain⟨F,D,z,q,j⟩:=hT
 refine Ut hdo.1 hdo.2 λR η A y a w u b _ g=>?_
 have o:x∈(U2 ops.toList k).op.operands.toList:=by rw[hop];simp[Op.operands]
 have h:i∈(U2 ops.toList k).op.operands.toList:=by rw[hop];simp[Op.operands]
 have p:Yr y te.size (Y5 A x)=some (id,lo0,n):=by
  rw[u x o,FL (b x o)];exact hx
 have l:y id=some (.arr te.size N f):=by rw[b x o id (FK hx)];exact hs
 rw[<-u i h]at hi;rw[hr]
 exact Q6l hL g (λd B=>YO hdo.1 d B) hop z q j hi p l hc
theorem kh(hL:Qi P L)(hT:Vq L t te){g:Nat->List DVal}(zd0 zd:List DVal)(hle:HT zd0 zd)(hk:QA ds k=rE {v:=.any,upd:=some (id,.arr te.size N g)})(hop:(U2 ops.toList k).op=.call {callee:=.builtin .clear,args:= #[x],argTypes:= #[t]})(hdo:(QJ nt (U2 ops.toList k)&&(QW ops (J4 L ops ops.toList ds e s k) (U2 ops.toList k)==some true))=true)(h0:0<te.size)(hzl:te.zero.length=te.size)(hz:Vm te.zero=some zd0)(hx:Yr (QM L ops ops.toList ds e s k) te.size (Y5 (J4 L ops ops.toList ds e s k) x)=some (id,lo0,n))(hs:QM L ops ops.toList ds e s k id=some (.arr te.size N f))(hg:g=λi=>if lo0<=i/\i<lo0+n then(λ_=>zd) (i-lo0)else f i):G2 P C nt L ops ds e s k:=by
 unfold G2;rw[hk,hg]
 simp only[Qa4,Qg6]at hdo;obtain⟨A,z,r,o,j⟩:=hT
 refine Ut hdo.1 hdo.2 λR η u p a w q b _ c=>?_
 have l:x∈(U2 ops.toList k).op.operands.toList:=by rw[hop];simp[Op.operands,Call.operands]
 have m:Yr p te.size (Y5 u x)=some (id,lo0,n):=by
  rw[q x l,FL (b x l)];exact hx
 have h:p id=some (.arr te.size N f):=by rw[b x l id (FK hx)];exact hs
 exact Q6m hL c (λd y=>YO hdo.1 d y) hop r o j h0 hzl hz hle m h
end
end
section
section
variable {P:Program} {C:Ctx} {nt:Nat} {L:Lay} {pins:List Nat} {K:Act->World->Prop}
theorem Qe(k:Nat)(o:Obj)(S:List (Nat×Obj))(i:Nat):ls ((k,o)::S) i=if i=k then some o else ls S i:=by
 unfold ls
 grind
theorem DB(k:Nat)(o:AVal)(E:List (Nat×AVal))(i:Nat):lk ((k,o)::E) i=if i=k then o else lk E i:=by
 unfold lk
 grind
end
end
end
end Go.Ab
