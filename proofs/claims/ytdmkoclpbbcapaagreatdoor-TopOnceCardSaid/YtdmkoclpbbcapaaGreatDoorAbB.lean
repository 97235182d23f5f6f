/- Abstract states over the model. -/
import Derived.Test.YtdmkoclpbbcapaaGreatDoorAbA
import Derived.KernelRfl
import Derived.Laws.StructEq
set_option linter.unusedVariables false
set_option linter.unusedSimpArgs false
namespace Go.Ab
noncomputable section
variable {x fx:Operand}{vs:Array Value}{cs xs ys:List CV}{o:Oper}{ρ m:Nat->Nat}{rd ids G5:List Nat}{t el:TypeId}{Si So:List (Nat×Obj)}{y:CV}{η:Nat->Value}{w:World}{r:AVal}{tys:Array TypeId}{f:Nat->List DVal}{args:List AVal}{n k es id lo N lo0:Nat}{b:Bool}{u l:Option Int}{hi:Option Operand}{te:TI}
section
def CV.noSem:CV->Bool
 |.sem _=>false
 |_=>true
def TV.noSem:TV->Bool
 |.c x=>x.noSem
 |.g xs=>xs.all CV.noSem
def AVal.noSem:AVal->Bool
 |.any=>true
 |.v x=>x.noSem
 |.t xs=>xs.all TV.noSem
def Obj.noSem:Obj->Bool
 |.box _ cs=>cs.all CV.noSem
 |.arr _ _ _=>true
 |.ext _=>true
 |.exr _ _=>true
section
variable {w:World} {X:Nat->Prop} {η:Nat->Value} {C C' : Ctx}
theorem CRep.ctx{v:Value}{x:CV}(h:CRep w X η C v x)(hx:x.noSem=true):CRep w X η C' v x:=by
 cases h with
 |d _ _ h=>exact .d _ _ h
 |fl _ _ _ h=>exact .fl _ _ _ h
 |own _ _ h h1=>exact .own _ _ h h1
 |ptr _ _ _ h=>exact .ptr _ _ _ h
 |pte _ _ _ _ _ _ _ h=>exact .pte _ _ _ _ _ _ _ h
 |sub b N cap _ es lo n h h1 h2=>exact .sub b N cap _ es lo n h h1 h2
 |subN ad ad' N _ es h=>exact .subN ad ad' N _ es h
 |elm _ _ _ _ _ _ h1 h2 h3 h4=>exact .elm _ _ _ _ _ _ h1 h2 h3 h4
 |clo _ _ _ h=>exact .clo _ _ _ h
 |sem _ _ h h1=>cases hx
 |ap _ _ h h1=>exact .ap _ _ h h1
 |bnd _ _ _ h1 h2=>exact .bnd _ _ _ h1 h2
 |cp _ _ _ _ h h1 h2=>exact .cp _ _ _ _ h h1 h2
theorem y9.ctx(h:y9 w X η C vs cs)(hx:cs.all CV.noSem=true):y9 w X η C' vs cs:=
 ⟨h.1,λj a=>(h.2 j a).ctx (Qc0.1 hx _ (Yv a))⟩
theorem TRep.ctx{v:Value}{x:TV}(h:TRep w X η C v x)(hx:x.noSem=true):TRep w X η C' v x:=by
 cases h with
 |c _ _ h=>exact .c _ _ (h.ctx hx)
 |g _ _ h=>exact .g _ _ (h.ctx hx)
theorem ARep.ctx{v:Value}{x:AVal}(h:ARep w X η C v x)(hx:x.noSem=true):ARep w X η C' v x:=by
 cases h with
 |any=>exact .any v
 |v _ _ h=>exact .v _ _ (h.ctx hx)
 |t us xs h1 h2=>exact .t us xs h1 λj a=>(h2 j a).ctx (Qc0.1 hx _ (Yv a))
theorem ORep.ctx{v:Value}{o:Obj}(h:ORep w X η C v o)(hx:o.noSem=true):ORep w X η C' v o:=by
 cases h with
 |box b ro c e cs h1 h2=>exact .box b ro c e cs h1 (h2.ctx hx)
 |nil ad es f=>exact .nil ad es f
 |arr b n cap es c e f h1 h2 h3 h4 h5 h6 h7=>exact .arr b n cap es c e f h1 h2 h3 h4 h5 h6 h7
 |ext _ _ h1 h2 h3=>exact .ext _ _ h1 h2 h3
 |exr _ _ _ h1 h2 h3=>exact .exr _ _ _ h1 h2 h3
theorem CRep.toRen{v:Value}{x:CV}(h:CRep w X (λi=>η (ρ i)) C v x):CRep w X η C v (x.ren ρ):=by
 cases h with
 |d _ _ h=>exact .d _ _ h
 |fl _ _ _ h=>exact .fl _ _ _ h
 |own _ _ h h1=>exact .own _ _ h h1
 |ptr _ _ _ h=>exact .ptr _ _ _ h
 |pte _ _ _ _ _ _ _ h=>exact .pte _ _ _ _ _ _ _ h
 |sub b N cap _ es lo n h h1 h2=>exact .sub b N cap _ es lo n h h1 h2
 |subN ad ad' N _ es h=>exact .subN ad ad' N _ es h
 |elm _ _ _ _ _ _ h1 h2 h3 h4=>exact .elm _ _ _ _ _ _ h1 h2 h3 h4
 |clo f ids vs h=>exact .clo f _ vs (by rw[h,Qn8];rfl)
 |sem _ _ h h1=>exact .sem _ _ h h1
 |ap _ _ h h1=>exact .ap _ _ h h1
 |bnd _ _ _ h1 h2=>exact .bnd _ _ _ h1 h2
 |cp _ _ _ _ h h1 h2=>exact .cp _ _ _ _ h h1 h2
theorem y9.toRen(h:y9 w X (λi=>η (ρ i)) C vs cs):y9 w X η C vs (cs.map (CV.ren ρ)):=by
 refine⟨by simpa using h.1,λj b=>?_⟩;have a : j<cs.length:=by simpa using b
 have:=(h.2 j a).toRen
 grind
theorem TRep.toRen{v:Value}{x:TV}(h:TRep w X (λi=>η (ρ i)) C v x):TRep w X η C v (x.ren ρ):=by
 cases h with
 |c _ _ h=>exact .c _ _ h.toRen
 |g _ _ h=>exact .g _ _ h.toRen
theorem ARep.toRen{v:Value}{x:AVal}(h:ARep w X (λi=>η (ρ i)) C v x):ARep w X η C v (x.ren ρ):=by
 cases h with
 |any=>exact .any v
 |v _ _ h=>exact .v _ _ h.toRen
 |t us xs h1 h2=>
  refine .t us _ (by simpa using h1) λj b=>?_
  have a : j<xs.length:=by simpa using b
  have:=(h2 j a).toRen
  grind
theorem ORep.toRen{v:Value}{o:Obj}(h:ORep w X (λi=>η (ρ i)) C v o):ORep w X η C v (o.ren ρ):=by
 cases h with
 |box b ro c e cs h1 h2=>exact .box b ro c e _ h1 h2.toRen
 |nil ad es f=>exact .nil ad es f
 |arr b n cap es c e f h1 h2 h3 h4 h5 h6 h7=>exact .arr b n cap es c e f h1 h2 h3 h4 h5 h6 h7
 |ext _ _ h1 h2 h3=>exact .ext _ _ h1 h2 h3
 |exr _ refs p h1 h2 h3=>
  have e:refs.map (λi=>η (ρ i))=(refs.map ρ).map η:=by rw[Qn8];rfl
  rw[e]at h1 h2;exact .exr _ _ p h1 h2 h3
end
def YJ(C:Ctx)(nt:Nat)(e:U4)(s:U6)(Si:List (Nat×Obj))(m:Nat->Nat)(rd ids:List Nat)(x:Operand)(y:AVal):Prop:=
 ∀R η e0 s0 a w,(∀t∈rd,e0 t=e t)->(∀i∈ids,s0 i=s i)->Conc C nt R η e0 s0 a w ->
  ARep w (XS C s0 η) (λi=>η (m i)) (Qd Si w (XS C s0 η) λi=>η (m i)) (a.eval x) y
section
variable {P:Program} {C:Ctx} {nt:Nat} {e:U4} {s:U6}
def QB(rd:List Nat)(x:Operand):Bool:=match x with|.tmp t=>rd.contains t|_=>true
theorem Z0q{t:Nat}(h:QB rd (.tmp t)=true):t∈rd:=by
 simpa[QB]using h
theorem ZS{e0 e:U4}(hrd:∀t∈rd,e0 t=e t)(hx:QB rd x=true):Y2 e0 x=Y2 e x:=by
 cases x<;>first|rfl|exact hrd _ (Z0q hx)
theorem Mk{y:AVal}(hx:QB rd x=true)(hle:Y5 (Y2 e x) (y.ren m))(hs:y.noSem=true):YJ C nt e s Si m rd ids x y:=by
 intro R η g h a w b d f;have c:=(J9 f x).1
 rw[ZS b hx]at c;exact(ARep.unren (hle.1 _ _ _ _ _ c)).ctx hs
def xI(ops:Array Oper)(o:Oper)(e:U4)(m:Nat->Nat)(extra:List Nat)(r:AVal)(Si So:List (Nat×Obj)):Eff where
 rd:=QD o++Qo ops o
 ids:=WG e o++(Si.map (λp=>m p.1)++extra)
 v:=r.ren m
 l:=(So.map λp=>(m p.1,some (p.2.ren m)))++Si.map λp=>(m p.1,none)
 news:=(So.filter λp=> !(Si.map (·.1)).contains p.1).map λp=>m p.1
def Vx(m:Nat->Nat)(r:AVal)(Si So:List (Nat×Obj)):Bool:=
 Yc (Si.map (·.1))&&Yc (So.map (·.1))&&Yc ((So.filter λp=> !(Si.map (·.1)).contains p.1).map (λp=>m p.1)++Si.map λp=>m p.1) &&
 r.refs.all (λi=>(So.map (·.1)).contains i)&&So.all (λp=>p.2.refs.all λi=>(So.map (·.1)).contains i)&&r.noSem&&Si.all (λp=>p.2.noSem)&&So.all (λp=>p.2.noSem) &&
 So.all (λp=> !(Si.map (·.1)).contains p.1||Si.any λq=>q.1==p.1&&q.2.ro==p.2.ro)&&So.all (λp=>(Si.map (·.1)).contains p.1 || !p.2.ro)
theorem ku(x:CV):∀j∈(x.ren ρ).refs,∃i∈x.refs,j=ρ i:=by
 cases x<;>simp[CV.refs,CV.ren]
 grind
theorem vu{α β:Type}{f:α->List Nat}{g:α->α}{l:List α}(h:∀x,∀j∈f (g x),∃i∈f x,j=ρ i)(_:β):∀j∈(l.map g).flatMap f,∃i∈l.flatMap f,j=ρ i:=by
 grind
theorem Q4a(x:TV):∀j∈(x.ren ρ).refs,∃i∈x.refs,j=ρ i:=by
 cases x with
 |c x=>exact ku x
 |g xs=>exact vu (f:=CV.refs) ku ()
theorem Z7k(x:AVal):∀j∈(x.ren ρ).refs,∃i∈x.refs,j=ρ i:=by
 cases x with
 |any=>intro j a;cases a
 |v x=>exact Q4a x
 |t xs=>exact vu (f:=TV.refs) Q4a ()
theorem Z6k(o:Obj):∀j∈(o.ren ρ).refs,∃i∈o.refs,j=ρ i:=by
 cases o with
 |box ro cs=>exact vu (f:=CV.refs) ku ()
 |arr es n f=>intro j a;cases a
 |ext p=>intro j a;cases a
 |exr refs p=>
  intro j a;obtain⟨i,b,rfl⟩:=Qc5.1 a
  exact⟨i,b,rfl⟩
theorem Conc.call{R:Nat->Prop}{e0:U4}{s0:U6}{a:Act}(h:Conc C nt R η e0 s0 a w){d:Option Tmp}(hd:∀ x,d=some x->x<nt)(hchk:Vx m r Si So=true)(hsi:∀ p ∈ Si,∃ o1,s0 (m p.1)=some o1/\J3 o1 (p.2.ren m))(hfr:∀ k ∈ (So.filter fun p=> !(Si.map (·.1)).contains p.1).map (fun p=>m p.1),¬ R k){v:Value}{η' : Nat->Value}{w' : World}(hb:Behind (Qd Si w (XS C s0 η) fun i=>η (m i)) r So v η' w'):
  ∃η1,Conc C nt (λi=>R i\/i∈(So.filter λp=> !(Si.map (·.1)).contains p.1).map λp=>m p.1) η1 (Zu d (r.ren m) e0) (ZC ((So.map λp=>(m p.1,some (p.2.ren m)))++Si.map λp=>(m p.1,none)) s0) (a.put d v) w':=by
 simp only[Vx,Qa4]at hchk;obtain⟨⟨⟨⟨⟨⟨⟨⟨⟨c1,c2⟩,c3⟩,c4⟩,c5⟩,c6⟩,c7⟩,c8⟩,c9⟩,h0⟩:=hchk
 have n1:=Ut c1;have n2:=Ut c2
 have n3:=Ut c3
 let news:=(So.filter λp=> !(Si.map (·.1)).contains p.1).map λp=>m p.1
 have Q:∀i,i∈Si.map (·.1)->∃o,(i,o)∈Si:=λi c=>by obtain⟨p,A,rfl⟩:=Qc5.1 c;exact⟨p.2,A⟩
 have b4:∀i o,(i,o)∈Si->ls Si i=some o:=by
  intro i o c;unfold ls
  obtain⟨l1,l2,rfl⟩:=Ql8 c
  grind
 have E:∀i o,(i,o)∈So->ls So i=some o:=by
  intro i o c;unfold ls
  obtain⟨l1,l2,rfl⟩:=Ql8 c
  grind
 have J:∀p∈So,p.1∈Si.map (·.1)\/m p.1∈news:=by
  intro p A
  grind
 rw[Qn4]at n3;obtain⟨f2,i1,d7⟩:=n3
 have a7:∀{α:Type} (f:α->Nat) (l:List α),(l.map f).Nodup->∀x∈l,∀y∈l,f x=f y->x=y:=by
  intro α f l
  induction l with
  |nil=>intro _ x W;cases W
  |cons z l ih=>
   grind
 have f1:∀i j,i∈Si.map (·.1)->j∈Si.map (·.1)->m i=m j->i=j:=by
  grind
 have g0:∀p∈So,∀q∈So,m p.1=m q.1->p.1=q.1:=by
  intro p A q Z f6;rcases J p A with O|O<;>rcases J q Z with N|N
  .grind
  .grind
  .obtain ⟨oq,d6⟩:=Q _ N
   grind
  .obtain ⟨p',i2,e1⟩:=Qc5.1 O
   obtain⟨q',i4,e2⟩:=Qc5.1 N
   by_cases hps:p.1∈Si.map (·.1)
   .obtain ⟨op,f9⟩:=Q _ hps
    exact absurd rfl (d7 _ O _ (Qc5.2 ⟨_,f9,rfl⟩))
   .by_cases hqs:q.1∈Si.map (·.1)
    .obtain ⟨oq,d6⟩:=Q _ hqs
     exact absurd rfl (d7 _ N _ (Qc5.2 ⟨_,d6,rfl⟩))
    .have:=a7 (λp:Nat×Obj=>m p.1) _ f2 p (Qf9.2 ⟨A,by simpa using hps⟩) q (Qf9.2 ⟨Z,by simpa using hqs⟩) f6
     rw[this]
 let η1:Nat->Value:=λk=>match So.find? (λp=>m p.1==k)with|some p=>η' p.1|none=>η k
 have V:∀p∈So,η1 (m p.1)=η' p.1:=by
  grind
 have d8:∀i,i∈Si.map (·.1)->η' i=η (m i):=by
  intro i c;obtain⟨o,G⟩:=Q i c
  refine hb.pn i _ ?_;have:=b4 i o G
  unfold ls at this;simp[Qd,this]
 have H:∀k,(∀p∈So,m p.1≠k)->η1 k=η k:=by
  grind
 have eR:∀k,R k->η1 k=η k:=by
  grind
 generalize hs1:ZC ((So.map λp=>(m p.1,some (p.2.ren m)))++Si.map λp=>(m p.1,none)) s0=s1;have B:∀k o,s1 k=some o->(∃p∈So,m p.1=k/\o=p.2.ren m)\/(s0 k=some o/\(∀p∈So,m p.1≠k)/\∀p∈Si,m p.1≠k):=by
  intro k o I;rw[<-hs1]at I
  unfold ZC at I;rw[Qt3]at I
  cases hl1:(So.map λp=>(m p.1,some (p.2.ren m))).lookup k with
  |some x=>
   rw[hl1]at I;simp only[Option.some_or]at I
   obtain⟨l1,l2,hl,_⟩:=Qi7.1 hl1;have e4:(k,x)∈So.map λp=>(m p.1,some (p.2.ren m)):=by rw[hl];simp
   grind
  |none=>
   rw[hl1]at I;simp only[Option.none_or]at I
   have f3:∀p∈So,m p.1≠k:=by
    intro p A hh;rw[Qv6]at hl1
    have:=hl1 _ (Qx4 A)
    grind
   cases hl2:(Si.map λp=>(m p.1,(none:Option Obj))).lookup k with
   |some x=>
    rw[hl2]at I;obtain⟨l1,l2,hl,_⟩:=Qi7.1 hl2
    have e4:(k,x)∈Si.map λp=>(m p.1,(none:Option Obj)):=by rw[hl];simp
    grind
   |none=>
    rw[hl2]at I;refine .inr ⟨I,f3,λp A hh=>?_⟩
    rw[Qv6]at hl2;have:=hl2 _ (Qx4 A)
    grind
 have Y:∀i o,ls Si i=some o->∀b,b∈Y7 (η (m i))->Own s0 η b:=by
  intro i o c b b2;obtain⟨o1,O,_⟩:=hsi _ (y8 c)
  exact⟨m i,o1,O,b2⟩
 have L:∀k o i F b,s0 k=some o->ls Si i=some F->b∈Y7 (η k)->b∈Y7 (η (m i))->k=m i:=by
  intro k o i F b I c b3 a4;obtain⟨o1,O,_⟩:=hsi _ (y8 c)
  exact h.ds k (m i) b (by rw[I];simp) (by rw[O];simp) b3 a4
 have a2:∀i F b,ls Si i=some F->F.ro=false->b∈Y7 (η (m i))->C.M b\/C.w0.heap.size<=b:=by
  intro i F b c a5 b2;obtain⟨o1,O,f4⟩:=hsi _ (y8 c)
  rcases h.ow _ o1 b O b2 with ⟨N,_⟩|N
  .have:o1.ro=F.ro:=by rw[<-f4.2.1,FU]
   grind
  .exact N
 have c0:∀b,XS C s1 η1 b->(b<w.heap.size->XS C s0 η b)/\XS (Qd Si w (XS C s0 η) λi=>η (m i)) (ls So) η' b:=by
  intro b W;rcases W with ⟨W,hD⟩|⟨k,o,I,D⟩
  .refine ⟨λ_=>.inl ⟨W,hD⟩,.inl ⟨.inl ⟨W,hD⟩,λG=>?_⟩⟩
   obtain⟨i,o,c,g⟩:=G;obtain⟨o1,O,_⟩:=hsi _ (y8 c)
   have a6:=h.ok.lt b W;rcases h.ow _ o1 b O g with ⟨_,N⟩|N|N
   .exact hD N
   .exact hD (h.ok.md b N)
   .omega
  .rcases B k o I with ⟨p,A,rfl,rfl⟩|⟨G,K,U⟩
   .rw [V p A]at D
    refine⟨λa6=>?_,.inr ⟨p.1,p.2,E _ _ A,D⟩⟩;rcases hb.ow p.1 p.2 b (E _ _ A) D with ⟨_,⟨i,F,c,g⟩⟩|⟨i,F,c,_,g⟩|a3
    .exact .inr (Y i F c b g)
    .exact .inr (Y i F c b g)
    .have:w.heap.size<=b:=a3
     omega
   .rw [H k K]at D
    have b0:Own s0 η b:=⟨k,o,G,D⟩;refine⟨λ_=>.inr b0,.inl ⟨.inr b0,λW=>?_⟩⟩
    obtain⟨i,F,c,g⟩:=W;exact U _ (y8 c) (L k o i F b G c D g).symm
 have b5:QS w w' (XS C s0 η) (XS C s1 η1):=by
  intro b a6 hX;refine⟨hb.stp.block b a6 λhM=>?_,λW=>hX ((c0 b W).1 a6)⟩
  obtain⟨i,F,c,_,g⟩:=hM;exact hX (.inr (Y i F c b g))
 have e5:QS w' w' (XS (Qd Si w (XS C s0 η) λi=>η (m i)) (ls So) η') (XS C s1 η1):=λb _ hX=>⟨rfl,λW=>hX (c0 b W).2⟩
 have d4:∀p∈So,R (m p.1)\/m p.1∈news:=by
  intro p A;rcases J p A with O|O
  .obtain ⟨o,G⟩:=Q _ O
   obtain⟨o1,N,_⟩:=hsi _ G;exact .inl (h.sr _ o1 N).1
  .exact .inr O
 have a0:∀i,(So.map (·.1)).contains i=true->∃p∈So,p.1=i:=by
  grind
 have b6:∀p∈So,ORep w' (XS C s1 η1) η1 C (η1 (m p.1)) (p.2.ren m):=by
  intro p A;have O:=hb.objs p.1 p.2 (E _ _ A)
  have N:=O.mono (η':=λi=>η1 (m i)) e5 (λi c=>by
   obtain⟨q,Z,rfl⟩:=a0 i (Qc0.1 (Qc0.1 c5 p A) i c)
   grind) (λ_ _=>rfl)
  rw[V p A];exact(N.toRen).ctx (by
   have:=Qc0.1 c8 p A
   cases hp2:p.2 with
   |box ro cs=>
    rw[hp2]at this;simp only[Obj.ren,Obj.noSem,Qx9]
    rw[Qc0];intro x W
    have:=Qc0.1 this x W
    cases x<;>first|rfl|cases this
   |arr es n f=>rfl
   |ext p=>rfl
   |exr refs p=>rfl)
 refine⟨η1,h.ok,by rw[Q0n];exact h.df,by rw[Q0m];exact h.sz,λt=>?_,λt i c=>?_,λk o I=>?_,λk o I=>?_,λi j b c hj S T=>?_,λk o b I D=>?_,?_,λi u c=>?_⟩
 .rw [To a d v t (by rw[h.sz];exact hd)]
  unfold Zu;have g9:ARep w' (XS C s1 η1) η1 C v (r.ren m):=by
   have N:=hb.res.mono (η':=λi=>η1 (m i)) e5 (λi c=>by
    grind)
   exact(N.ctx c6).toRen
  cases d with
  |none=>exact(h.ev t).mono b5 λi c=>eR i (h.er t i c)
  |some d=>
   simp only[Qj8]
   by_cases htd:t=d
   .grind
   .rw [Qa1 (λhh=>htd hh.symm),Qa1 htd]
    exact(h.ev t).mono b5 λi c=>eR i (h.er t i c)
 .unfold Zu at c
  have d5:i∈(e0 t).refs->R i\/i∈news:=λhh=>.inl (h.er t i hh)
  have g8:i∈(r.ren m).refs->R i\/i∈news:=by
   intro hh;obtain⟨j,hj,rfl⟩:=Z7k r i hh
   grind
  cases d with
  |none=>exact d5 c
  |some d=>
   grind
 .rcases B k o I with ⟨p,A,rfl,rfl⟩|⟨G,K,U⟩
  .exact b6 p A
  .rw [H k K]
   refine(h.st k o G).mono b5 (λj hj=>eR j ((h.sr k o G).2 j hj)) λb D=>?_
   refine hb.stp.block b ((h.st k o G).lt D) λhM=>?_
   obtain⟨i,F,c,_,g⟩:=hM;exact U _ (y8 c) (L k o i F b G c D g).symm
 .rcases B k o I with ⟨p,A,rfl,rfl⟩|⟨G,K,U⟩
  .refine ⟨d4 p A,λj hj=>?_⟩
   obtain⟨i,c,rfl⟩:=Z6k p.2 j hj;obtain⟨q,Z,rfl⟩:=a0 i (Qc0.1 (Qc0.1 c5 p A) i c)
   exact d4 q Z
  .exact ⟨.inl (h.sr k o G).1,λj hj=>.inl ((h.sr k o G).2 j hj)⟩
 .obtain ⟨F,f5⟩:=Qa7.1 c
  obtain⟨oj,f8⟩:=Qa7.1 hj;have a1:∀p∈So,∀k o,s0 k=some o->(∀p∈Si,m p.1≠k)->∀b,b∈Y7 (η' p.1)->b∈Y7 (η k)->False:=by
   intro p A k o G hn b b3 a4;rcases hb.ow p.1 p.2 b (E _ _ A) b3 with ⟨_,⟨i,F,c,g⟩⟩|⟨i,F,c,_,g⟩|a3
   .exact hn _ (y8 c) (L k o i F b G c a4 g).symm
   .exact hn _ (y8 c) (L k o i F b G c a4 g).symm
   .have O:w.heap.size<=b:=a3
    have N:=(h.st k o G).lt a4;omega
  rcases B i F f5 with ⟨p,A,rfl,rfl⟩|⟨G,K,U⟩<;>rcases B j oj f8 with ⟨q,Z,rfl,rfl⟩|⟨d0,a9,d9⟩
  .rw [V p A]at S;rw[V q Z]at T
   rw[hb.ds p.1 q.1 b (by rw[E _ _ A];simp) (by rw[E _ _ Z];simp) S T]
  .rw [V p A]at S;rw[H _ a9]at T
   exact(a1 p A _ _ d0 d9 b S T).elim
  .rw [V q Z]at T;rw[H _ K]at S
   exact(a1 q Z _ _ G U b T S).elim
  .rw [H _ K]at S;rw[H _ a9]at T
   exact h.ds i j b (by rw[G];simp) (by rw[d0];simp) S T
 .rcases B k o I with ⟨p,A,rfl,rfl⟩|⟨G,K,U⟩
  .rw [V p A]at D
   rw[FU];rcases hb.ow p.1 p.2 b (E _ _ A) D with ⟨a5,_⟩|⟨i,F,c,a5,g⟩|a3
   .
    have d2:p.1∈Si.map (·.1):=by
     grind
    have h9:=Qc0.1 c9 p A;have b8 : (Si.map (·.1)).contains p.1=true:=by simpa using d2
    simp only[b8,Bool.not_true,Qk0,Qc6]at h9;obtain⟨q,Z,b1⟩:=h9
    simp only[Qa4,Qg4]at b1;obtain⟨o1,g1,g2⟩:=hsi q Z
    rw[b1.1]at g1;rw[d8 _ d2]at D
    have b9:o1.ro=p.2.ro:=by rw[<-g2.2.1,FU,b1.2]
    rw[<-b9];exact h.ow _ o1 b g1 D
   .exact .inr (a2 i F b c a5 g)
   .exact .inr (.inr (Qc4 h.fr.size a3))
  .rw [H k K]at D
   exact h.ow k o b G D
 .refine h.fr.trans (hb.stp.mono λb _ hM=>?_)
  obtain⟨i,F,c,a5,g⟩:=hM;exact a2 i F b c a5 g
 .have:=h.pn i u c
  exact⟨(eR i this.2).trans this.1,.inl this.2⟩
end
end
section
def CV.closed(x:CV):Bool:=x.refs.isEmpty&&x.noSem
def AVal.closed(x:AVal):Bool:=x.refs.isEmpty&&x.noSem
section
variable {w:World} {X:Nat->Prop} {η η' : Nat->Value} {C C' : Ctx}
theorem ARep.free{v:Value}{x:AVal}(h:ARep w X η C v x)(hx:x.closed=true):ARep w X η' C' v x:=by
 simp only[AVal.closed,Qa4,Qq6]at hx;exact(h.mono (λb _ c=>⟨rfl,c⟩) (λi a=>by rw[hx.1]at a;cases a)).ctx hx.2
theorem y9.free(h:y9 w X η C vs cs)(hx:cs.all CV.closed=true):y9 w X η' C' vs cs:=by
 refine⟨h.1,λj c=>?_⟩;have:=Qc0.1 hx _ (Yv (d:=.d .any) c)
 simp only[CV.closed,Qa4,Qq6]at this;exact((h.2 j c).mono (λb _ f=>⟨rfl,f⟩) (λi a=>by rw[this.1]at a;cases a)).ctx this.2
end
def Qg(P:Program)(F:List AVal->AVal->Prop)(w0:World)(D X:Nat->Prop)(v:Value):Prop:=
 ∃f caps,v=.func (.func f) #[] caps/\(∀args w,(callFunc f args).run P w=.ok (.enter f args) w) /\
  ∀(w1:World) (X1:Nat->Prop) (vs:Array Value) (args:List AVal) (r:AVal),F args r->w0.heap.size<=w1.heap.size->(∀b,b<w0.heap.size->¬D b->w1.heap[b]?=w0.heap[b]?)->(∀b,X1 b->b<w1.heap.size) ->
   (∀b,b<w0.heap.size->¬D b->(X1 b↔X b))->vs.size=args.length->(∀j,j<args.length->∀η C,ARep w1 X1 η C (vs.getD j undef) (args.getD j .any)) ->
   Calls P f (vs++caps) w1 λe w'=>∃v',e=.returned v' /\ Stp (λ_=>False) w1 w' /\ ∀η C,ARep w' X1 η C v' r
def ZX(P:Program)(F:List AVal->AVal->Prop):AVal:=.v (.c (.sem (Qg P F)))
section
variable {P:Program} {C:Ctx} {nt:Nat} {ops:Array Oper} {e:U4} {s:U6}
theorem CM{xs:Array Operand}(hop:o.op=.call {callee:=.value fx,args:=xs,argTypes:=tys}){a:Act}{f:Nat}{caps:Array Value}(hf:a.eval fx=.func (.func f) #[] caps)(hcall:∀args w,(callFunc f args).run P w=.ok (.enter f args) w):(execOp a.eval o).run P w=.ok (.enter f (xs.map a.eval++caps)) w:=by
 simp[execOp,hop,resolve,Deferred.ofValue,hf,invoke,hcall]
theorem YH(hdo:QL nt o=true):∀x,o.dst=some x->x<nt:=by
 intro x a;simp only[QL,a,Qa4,Qb5]at hdo
 exact hdo.1
theorem HJ{X:Nat->Prop}{v:Value}{f:Nat}(h:ARep w X η C v (.v (.c (.clo f ids)))):v=.func (.func f) #[] (ids.map η).toArray:=by
 cases h with|v _ _ h=>cases h with|c _ _ h=>cases h with|clo _ _ vs h=>rw[h]
theorem Q5U{f:Nat}(hcall:∀args w,(callFunc f args).run P w=.ok (.enter f args) w){xs:Array Operand}(hop:o.op=.call {callee:=.value fx,args:=xs,argTypes:=tys})(hfx:Y2 e fx=.v (.c (.clo f [])))(hrf:QB (QD o++Qo ops o) fx=true)(hspec:G3 P f args Si r So)(hlen:xs.size=args.length)(m:Nat->Nat)(extra:List Nat)(hargs:∀j,j<args.length->YJ C nt e s Si m (QD o++Qo ops o) (WG e o++(Si.map (λp=>m p.1)++extra)) (xs.toList.getD j (.const undef)) (args.getD j .any))(hsi:∀p∈Si,∃o1,s (m p.1)=some o1/\J3 o1 (p.2.ren m))(hchk:Vx m r Si So=true)(hdo:QL nt o=true)(hg:QX ops e o=some true):Wu P C nt ops o (xI ops o e m extra r Si So) e s:=by
 intro R η Z F a w n k J h K Q hK;have U:=UR (e:=e) h (λt ht=>n t (Qa9.2 (.inr ht))) hg
 rw[Qa2 U];have E:=(J9 h fx).1
 rw[ZS n hrf,hfx]at E;have z:=HJ E
 have H:=CM (w:=w) hop z hcall;have d:∀p∈Si,∃o1,F (m p.1)=some o1/\J3 o1 (p.2.ren m):=by
  intro p S;rw[k (m p.1) (Qa9.2 (.inr (Qa9.2 (.inl (Qc5.2 ⟨p,S,rfl⟩)))))]
  exact hsi p S
 simp only[Vx,Qa4]at hchk;have q:=hchk
 obtain⟨⟨⟨⟨⟨⟨⟨⟨⟨c1,c2⟩,c3⟩,c4⟩,c5⟩,c6⟩,Y⟩,c8⟩,c9⟩,T⟩:=hchk;have A:∀b,XS C F η b->b<w.heap.size:=by
  rintro b (⟨hx,_⟩|hx)
  .exact Qb6 (h.ok.lt b hx) h.fr.size
  .exact h.lt hx
 have D:∀i x,ls Si i=some x -> x.noSem=true:=λi x g=>Qc0.1 Y _ (y8 g)
 have O:=hspec w (XS C F η) (λi=>η (m i)) (xs.map a.eval++(([]:List Nat).map η).toArray) A
  (λb ⟨i,x,g,hib⟩=>by obtain⟨o1,B,_⟩:=d _ (y8 g);exact .inr ⟨m i,o1,B,hib⟩)
  (λi x g=>by
   obtain⟨o1,B,N⟩:=d _ (y8 g);exact(ORep.unren (N.1 _ _ _ _ _ (h.st _ o1 B))).ctx (D i x g))
  (λi j b g u G M=>by
   obtain⟨oi,g⟩:=Qa7.1 g;obtain⟨oj,u⟩:=Qa7.1 u
   obtain⟨o1,B,_⟩:=d _ (y8 g);obtain⟨o2,h2,_⟩:=d _ (y8 u)
   have y:m i=m j:=h.ds _ _ b (by rw[B];simp) (by rw[h2];simp) G M;have n3:=Ut c3
   rw[Qn4]at n3;exact yS (ρ:=m) n3.2.1 (by rw[g];simp) (by rw[u];simp) y)
  (by simp[hlen])
  (λj u=>by
   have L : j<xs.size:=by omega
   have e1:(xs.map a.eval++(([]:List Nat).map η).toArray).getD j undef=a.eval (xs.toList.getD j (.const undef)):=by
    simp[Qa0,L]
   rw[e1];exact hargs j u R η Z F a w n k h)
 unfold Oper.wp;rw[H]
 show Calls P f _ w _;refine O.mono λen V hh=>?_
 obtain⟨v,η',rfl,W⟩:=hh;have l:Vx m r Si So=true:=by simp only[Vx,Qa4];exact q
 obtain⟨η1,I⟩:=h.call (YH hdo) l d J W;exact hK η1 _ V I
def JI(ops:Array Oper)(o:Oper)(e:U4)(r:AVal):Eff where
 rd:=QD o++Qo ops o
 ids:=WG e o
 v:=r
 l:=[]
 news:=[]
theorem Q5R{F:List AVal->AVal->Prop}{xs:Array Operand}(hop:o.op=.call {callee:=.value fx,args:=xs,argTypes:=tys})(hfx:Y2 e fx=ZX P F)(hF:F args r)(hlen:xs.size=args.length)(hrd' : QB (QD o++Qo ops o) fx=true/\∀x∈xs.toList,QB (QD o++Qo ops o) x=true)(hargs:∀j,j<args.length->Y5 (Y2 e (xs.toList.getD j (.const undef))) (args.getD j .any)/\(args.getD j .any).closed=true)(hr:r.closed=true)(hdo:QL nt o=true)(hg:QX ops e o=some true):Wu P C nt ops o (JI ops o e r) e s:=by
 intro R η e0 q a w n a1 a4 d K Q hK;have hw:=UR (e:=e) d (λt ht=>n t (Qa9.2 (.inr ht))) hg
 rw[Qa2 hw];have p:=(J9 d fx).1
 rw[ZS n hrd'.1,hfx]at p;have G:Qg P F C.w0 C.D C.X (a.eval fx):=by
  generalize a.eval fx=u at p
  cases p with|v _ _ h=>cases h with|c _ _ h=>cases h with|sem _ _ h _=>exact h
 obtain⟨f,Z,J,m,N⟩:=G;have O:=CM (w:=w) hop J m
 have z:∀b,XS C q η b->b<w.heap.size:=by
  rintro b (⟨g,_⟩|g)
  .exact Qb6 (d.ok.lt b g) d.fr.size
  .exact d.lt g
 have S:=N w (XS C q η) (xs.map a.eval) args r hF d.fr.size (λb H I=>d.fr.block b H λhM=>I (d.ok.md b hM)) z
  (λb H I=>⟨λg=>by
   rcases g with ⟨g,_⟩|⟨i,o',L,T⟩
   .exact g
   .rcases d.ow i o' b L T with ⟨_,U⟩|U|U
    .grind
    .exact absurd (d.ok.md b U) I
    all_goals grind,λg=>.inl ⟨g,I⟩⟩) (by simp[hlen])
  (λj A η2 C2=>by
   have B : j<xs.size:=by omega
   have e1:(xs.map a.eval).getD j undef=a.eval (xs.toList.getD j (.const undef)):=by simp[Qa0,B]
   rw[e1];obtain⟨g1,g2⟩:=hargs j A
   have g:=(J9 d (xs.toList.getD j (.const undef))).1;rw[ZS n (hrd'.2 _ (Yv (by simpa using B)))]at g
   exact(g1.1 _ _ _ _ _ g).free g2)
 unfold Oper.wp;rw[O]
 show Calls P f _ w _;refine S.mono λen W hh=>?_
 obtain⟨v,rfl,y,E⟩:=hh;have Y:SR.sto {v:=r} o.dst q=q:=by funext i;simp[SR.sto]
 have he:SR.eta {v:=r} o.dst v η=η:=by funext i;simp[SR.eta]
 have V:SR.rng {v:=r} o.dst R=R:=by funext i;simp[SR.rng]
 have:=d.step o.dst (YH hdo) {v:=r} v W (λ_=>False) y (λb H=>H.elim) (λo dd M=>by cases M) (λk o M=>by cases M)
  (λ_=>by rw[Y,he];refine⟨E _ _,λj A=>?_⟩;simp only[AVal.closed,Qa4,Qq6]at hr;simp only at A;rw[hr.1]at A;cases A)
 rw[Y,he,V]at this;refine hK η _ W ?_
 have hu:ZC (JI ops o e r).l q=q:=by funext i;rfl
 rw[hu];exact this.wider λi L=>.inl L
theorem YJ.sem{F:List AVal->AVal->Prop}(hx:QB rd x=true)(hv:Y2 e x=ZX P F)(hsi:∀p∈Si,∃o1,s (m p.1)=some o1)(hin:∀p∈Si,m p.1∈ids):YJ C nt e s Si m rd ids x (ZX P F):=by
 intro R η e0 s0 a w T I j;have t:=(J9 j x).1
 rw[ZS T hx,hv]at t;have J:Qg P F C.w0 C.D C.X (a.eval x)/\(a.eval x).oneCell'=true:=by
  generalize a.eval x=u at t
  cases t with|v _ _ h=>cases h with|c _ _ h=>cases h with|sem _ _ h d=>exact⟨h,d⟩
 obtain⟨⟨f,G,N,o,S⟩,B⟩:=J;refine .v _ _ (.c _ _ (.sem _ _ ⟨f,G,N,o,?_⟩ B))
 intro V X1 Y H r Z U z O M Q q;have A : w.heap.size<=V.heap.size:=U
 have K:∀b,Own (ls Si) (λi=>η (m i)) b->Own s0 η b:=by
  rintro b ⟨i,L,y,g⟩;obtain⟨o1,d⟩:=hsi _ (y8 y)
  exact⟨m i,o1,by rw[I _ (hin _ (y8 y))];exact d,g⟩
 have E:∀b,b<C.w0.heap.size->¬C.D b->¬Own (ls Si) (λi=>η (m i)) b:=by
  intro b n k W;obtain⟨i,L,y,g⟩:=K b W
  rcases j.ow i L b y g with ⟨_,d⟩|d|d
  .exact k d
  .exact k (j.ok.md b d)
  .omega
 refine S V X1 Y H r Z (Qc4 j.fr.size A) (λb n k=>?_) O (λb n k=>?_) Q q
 .have l:b<w.heap.size:=Qb6 n j.fr.size
  exact(z b l (E b n k)).trans (j.fr.block b n λhM=>k (j.ok.md b hM))
 .have l:b<w.heap.size:=Qb6 n j.fr.size
  rw[M b l (E b n k)];constructor
  .rintro (⟨hx,_⟩|⟨i,L,y,g⟩)
   .exact hx
   .rcases j.ow i L b y g with ⟨_,d⟩|d|d
    .grind
    .exact absurd (j.ok.md b d) k
    .omega
  .exact λhx=>.inl ⟨hx,k⟩
def Zs(cs:List (List CV)):List (Nat×Obj):=cs.zipIdx.map λp=>(p.2,.box true p.1)
def Ws(cs:List (List CV)):List AVal:=(List.range cs.length).map λk=>.v (.c (.ptr k 0))
theorem Q3A(cs:List (List CV))(k:Nat):ls (Zs cs) k=(cs[k]?).map (Obj.box true):=by
 have a:∀(l:List (List CV)) (n k:Nat),((l.zipIdx n).map λp=>(p.2,Obj.box true p.1)).lookup k=if k<n then none else(l[k-n]?).map (Obj.box true):=by
  intro l
  induction l with
  |nil=>intro n k;simp
  |cons x l ih=>
   intro n k;simp only[Qq4,Qf7,Qh0]
   grind
 have:=a cs 0 k
 simpa[ls,Zs]using this
theorem YJ.clo{f:Nat}(hcall:∀args w,(callFunc f args).run P w=.ok (.enter f args) w){F:List AVal->AVal->Prop}{cs:List (List CV)}(hspec:∀args r,F args r->G3 P f (args++Ws cs) (Zs cs) r (Zs cs))(hres:∀args r,F args r->r.closed=true)(hx:QB rd x=true){cids:List Nat}(hv:Y2 e x=.v (.c (.clo f cids)))(hlen:cids.length=cs.length)(hnd:Yc cids=true)(hbox:∀k,k<cs.length->∃ro,s (cids.getD k 0)=some (.box ro (cs.getD k [])))(hcl:cs.all (λc=>c.all CV.closed)=true)(hsi:∀p∈Si,∃o1,s (m p.1)=some o1)(hin:∀p∈Si,m p.1∈ids)(hcin:∀i∈cids,i∈ids)(hapart:∀p∈Si,m p.1∉cids):YJ C nt e s Si m rd ids x (ZX P F):=by
 intro R η e0 s0 a w a6 I Y;have V:=(J9 Y x).1
 rw[ZS a6 hx,hv]at V;have Z:=HJ V
 refine .v _ _ (.c _ _ (.sem _ _ ⟨f,_,Z,hcall,?_⟩ (by rw[Z];rfl)));intro w1 O H args r hF c1 J a4 W b4 b8
 have c4 : w.heap.size<=w1.heap.size:=c1;have D:∀k,k<cs.length->cids.getD k 0∈cids:=λk E=>Yv (by omega)
 have n:∀k,k<cs.length->∃ro,s0 (cids.getD k 0)=some (.box ro (cs.getD k [])):=by
  grind
 have q:∀k,k<cs.length->∃b N S,η (cids.getD k 0)=.pointer (some ⟨b,0,none⟩)/\w.heap[b]?=some (.cells N S (0,0))/\y9 w (XS C s0 η) η C N (cs.getD k []):=by
  intro k E;obtain⟨ro,y⟩:=n k E
  have:=Y.st _ _ y
  generalize η (cids.getD k 0)=u at this
  cases this with
  |box b _ N S _ B hcs=>exact⟨b,N,S,rfl,B,hcs⟩
 have A:∀k,k<cs.length->∀b,b∈Y7 (η (cids.getD k 0))->¬Own (ls Si) (λi=>η (m i)) b:=by
  rintro k E b B ⟨i,t,d,l⟩;obtain⟨ro,y⟩:=n k E
  obtain⟨o1,G⟩:=hsi _ (y8 d);have b6 : s0 (m i)=some o1:=by rw[I _ (hin _ (y8 d))];exact G
  have:=Y.ds _ _ b (by rw[y];simp) (by rw[b6];simp) B l
  exact hapart _ (y8 d) (this ▸ D k E)
 have b7:∀b,Own (ls Si) (λi=>η (m i)) b->XS C s0 η b:=by
  rintro b ⟨i,t,d,l⟩;obtain⟨o1,G⟩:=hsi _ (y8 d)
  exact .inr ⟨m i,o1,by rw[I _ (hin _ (y8 d))];exact G,l⟩
 have E:QS w w1 (XS C s0 η) O:=by
  intro b B hX;have a0:¬Own (ls Si) (λi=>η (m i)) b:=λU=>hX (b7 b U)
  exact⟨J b B a0,λhx=>hX ((W b B a0).1 hx)⟩
 have h:∀k o,ls (Zs cs) k=some o->k<cs.length/\o=.box true (cs.getD k []):=by
  intro k o E;rw[Q3A]at E
  grind
 have z:∀b,Own (ls (Zs cs)) (λk=>η (cids.getD k 0)) b->O b:=by
  rintro b ⟨k,t,M,L⟩;obtain⟨g,_⟩:=h k t M
  obtain⟨ro,y⟩:=n k g;have a8:b<w.heap.size:=(Y.st _ _ y).lt L
  exact(W b a8 (A k g b L)).2 (.inr ⟨_,_,y,L⟩)
 have c2:=hspec args r hF w1 O (λk=>η (cids.getD k 0)) (H++(cids.map η).toArray) a4 z
  (λk o M=>by
   obtain⟨g,rfl⟩:=h k o M;obtain⟨b,N,S,y,G,h3⟩:=q k g
   have b2:=A k g b (by rw[y];simp[Y7]);show ORep w1 O _ _ (η (cids.getD k 0)) _
   rw[y];have a7:(cs.getD k []).all CV.closed=true:=Qc0.1 hcl _ (Yv g)
   exact .box b true N S _ ((J b (J2 G) b2).trans G) ((h3.mono (η':=η) E (λ_ _=>rfl)).free a7))
  (λi j b d Q b1 b9=>by
   obtain⟨oi,d⟩:=Qa7.1 d;obtain⟨oj,Q⟩:=Qa7.1 Q
   obtain⟨a9,_⟩:=h i oi d;obtain⟨b5,_⟩:=h j oj Q
   obtain⟨r1,y⟩:=n i a9;obtain⟨r2,G⟩:=n j b5
   have T:=Y.ds _ _ b (by rw[y];simp) (by rw[G];simp) b1 b9;have hn:=Ut hnd
   have b0:i<cids.length:=by omega
   have a5:j<cids.length:=by omega
   rw[Qa0,Qa0,Qb9 b0,Qb9 a5]at T;exact(Ql4 hn).1 (by simpa using T))
  (by simp[b4,Ws,hlen])
  (λj Q=>by
   rw[Qb7]at Q
   by_cases hja:j<args.length
   .have e1:(H++(cids.map η).toArray).getD j undef=H.getD j undef:=by
     have:j<H.size:=by omega
     simp[Qd4,Qf3,this]
    have e2:(args++Ws cs).getD j .any=args.getD j .any:=by simp[Qa0,Qf1,hja]
    grind
   .have g:j-args.length<cs.length:=by simp[Ws]at Q;omega
    obtain⟨b,N,S,y,G,h3⟩:=q _ g;have e1:(H++(cids.map η).toArray).getD j undef=η (cids.getD (j-args.length) 0):=by
     have g1:¬j<H.size:=by omega
     have g2:j-H.size<cids.length:=by omega
     have g3:j-args.length<cids.length:=by omega
     have:j-H.size=j-args.length:=by omega
     simp[Qd4,Qf3,g1,Qa0,this,g3]
    have e2:(args++Ws cs).getD j .any=.v (.c (.ptr (j-args.length) 0)):=by
     simp[Qa0,Qf1,hja,Ws,g]
    rw[e1,e2,y];exact .v _ _ (.c _ _ (.ptr b _ 0 y)))
 refine c2.mono λen w' hh=>?_
 obtain⟨v,η',rfl,B⟩:=hh;refine⟨v,rfl,B.stp.mono λb _ hM=>?_,λη2 C2=>?_⟩
 .obtain ⟨i,t,d,c0,_⟩:=hM
  obtain⟨_,rfl⟩:=h i t d;cases c0
 .have hX:∀ b,XS (Qd (Zs cs) w1 O fun k=>η (cids.getD k 0)) (ls (Zs cs)) η' b↔O b:=by
   have K:∀i t,ls (Zs cs) i=some t -> η' i=η (cids.getD i 0):=by
    intro i t d;refine B.pn i _ ?_
    unfold ls at d;simp[Qd,d]
   intro b;constructor
   .rintro (⟨hx,_⟩|⟨i,t,d,l⟩)
    .exact hx
    .rw [K i t d]at l
     exact z b ⟨i,t,d,l⟩
   .intro hx
    rcases Qk7 (Own (ls (Zs cs)) (λk=>η (cids.getD k 0)) b)with U|U
    .obtain ⟨i,t,d,l⟩:=U
     exact .inr ⟨i,t,d,by rw[K i t d];exact l⟩
    .exact .inl ⟨hx,U⟩
  exact(B.res.mono (η':=η') (λb _ hx=>⟨rfl,λb3=>hx ((hX b).2 b3)⟩) (λ_ _=>rfl)).free (hres args r hF)
end
end
section
class Emb (α:Type) where
 cells:α->List DVal
 es:Nat
 d:α
 len:∀x,(cells x).length=es
section
variable {α:Type} [Emb α]
def LF(l:List α)(i:Nat):List DVal:=Emb.cells (l.getD i Emb.d)
def DL(l:List α):DVal:=.lst l.length (LF l)
def AL(l:List α):AVal:=.v (.c (.d (DL l)))
def AO(l:List α):Obj:=.arr (Emb.es α) l.length (LF l)
structure Is (n:Nat) (f:Nat->List DVal) (l:List α):Prop where
 len_eq:n=l.length
 at_eq:∀i,i<n->f i=LF l i
theorem Is.refl(l:List α):Is l.length (LF l) l:=⟨rfl,λ_ _=>rfl⟩
theorem Is.nil:Is 0 f ([]:List α):=⟨rfl,λi a=>by omega⟩
theorem Is.app{g:Nat->List DVal}{l m:List α}(h:Is n f l)(h' : Is k g m):Is (n+k) (Qv n f g) (l++m):=by
 obtain⟨c,a⟩:=h;obtain⟨d,b⟩:=h'
 subst c d;refine⟨by simp,λi j=>?_⟩
 unfold Qv LF
 by_cases hil:i<l.length
 .rw [Qa2 hil,a i hil,LF,Qa0,Qa0,Qg0 hil]
 .rw [Qa1 hil,b _ (by omega),LF,Qa0,Qa0,Qk1 (by omega)]
theorem Z1v{β γ:Type}{l:List β}{m:List γ}{δ:Type}{f:β->δ}{g:γ->δ}(h:l.map f=m.map g)(i:Nat):(l[i]?).map f=(m[i]?).map g:=by
 rw[<-Qk9, <-Qk9,h]
theorem Is.lit{g:Nat->List DVal}(ys:List α)(h:(List.range k).map g=ys.map Emb.cells):Is k g ys:=by
 have b:k=ys.length:=by simpa using congrArg List.length h
 refine⟨b,λi a=>?_⟩;have:=Z1v h i
 rw[Qo9 a,Qb9 (by omega)]at this;simp only[Qj0,Qj8]at this
 rw[this,LF,Qa0,Qb9 (by omega)];rfl
theorem Is.set{i:Nat}{l:List α}{off:Nat}{ds:List DVal}(h:Is n f l)(hi:i<n)(y:α)(hy:Yo (f i) off ds=Emb.cells y):
  Is n (λj=>if j=i then Yo (f i) off ds else f j) (l.set i y):=by
 obtain⟨b,a⟩:=h;refine⟨by simpa using b,λj c=>?_⟩
 unfold LF;rw[Qa0]
 by_cases hji:j=i
 .subst hji
  rw[Qa2 rfl,hy,List.getElem?_set_self (by omega)];rfl
 .rw [Qa1 hji,List.getElem?_set_ne (λh=>hji h.symm),a j c,LF,Qa0]
theorem Is.take{l:List α}(h:Is n f l){k:Int}(hk:k<=n):Is k.toNat f (l.take k.toNat):=by
 obtain⟨c,a⟩:=h;refine⟨by simp;omega,λj b=>?_⟩
 rw[a j (by omega),LF,LF,Qa0,Qa0,Qk2,Qa2 b]
theorem Is.rep{z:List DVal}(hz:z=Emb.cells (Emb.d:α)):Is n (λ_=>z) (List.replicate n (Emb.d:α)):=by
 refine⟨by simp,λj a=>?_⟩;rw[hz,LF,Qa0,List.getElem?_replicate,Qa2 a];rfl
theorem Is.len{l:List α}(h:Is n f l):∀j,j<n->(f j).length=Emb.es α:=λj a=>by rw[h.at_eq j a];exact Emb.len _
theorem DRep.is{X:Nat->Prop}{v:Value}{l:List α}(h:Is n f l)(hr:DRep w X v (.lst n f)):DRep w X v (DL l):=by
 obtain⟨g,k⟩:=h;unfold DL
 cases hr with
 |nil a cap _=>
  have:l.length=0:=g.symm
  rw[this];exact .nil a cap _
 |lst b off n cap c e fz _ es g1 g2 g3 g4 g5 g6=>
  rw[<-g];exact .lst b off n cap c e fz _ es g1 g2 g3 g4 (λi d=>by rw[<-k i d];exact g5 i d) λi j d m=>by rw[<-k i d];exact g6 i j d m
theorem J3.is{l:List α}(h:Is n f l):J3 (.arr (Emb.es α) n f) (AO l):=by
 refine⟨λw X η C v k=>?_,rfl,λi a=>by cases a⟩;obtain⟨d,g⟩:=h
 unfold AO
 cases k with
 |nil ad es _=>
  have:l.length=0:=d.symm
  rw[this];exact .nil ad _ _
 |arr b n cap es c e _ g1 g2 g3 g4 g5 g6 g7=>
  rw[<-d];exact .arr b n cap _ c e _ g1 g2 g3 g4 g5 (λi a=>by rw[<-g i a];exact g6 i a) λi j a m=>by rw[<-g i a];exact g7 i j a m
theorem Wn(l:List α)(lo hi:Option Int)(h:(sl l.length (LF l) lo hi).2):Is (sl l.length (LF l) lo hi).1.1 (sl l.length (LF l) lo hi).1.2
  (match lo,hi with|none,none=>l|some a,none=>l.drop a.toNat|none,some b=>l.take b.toNat|some a,some b=>(l.take b.toNat).drop a.toNat):=by
 cases lo with
 |none=>cases hi with
  |none=>exact .refl l
  |some b=>exact(Is.refl l).take h.2
 |some a=>cases hi with
  |none=>
   refine⟨by simp[sl],λi hi=>?_⟩;simp only[sl,LF,Qa0,Qt2]
  |some b=>
   simp only[sl]at h;refine⟨by simp only[sl,Qo3,Qd7];omega,λi hi=>?_⟩
   simp only[sl]at hi;simp only[sl,LF,Qa0,Qt2,Qk2]
   grind
end
def G2(x y:CV):Prop:=(∀w X η C v,CRep w X η C v x->CRep w X η C v y)/\∀i∈y.refs,i∈x.refs
theorem G2.refl(x:CV):G2 x x:=⟨λ_ _ _ _ _ h=>h,λ_ h=>h⟩
theorem G2.lst{α:Type}[Emb α]{l:List α}(h:Is n f l):G2 (.d (.lst n f)) (.d (DL l)):=
 ⟨λw X η C v a=>by cases a with|d _ _ a=>exact .d _ _ (a.is h),λi b=>by cases b⟩
theorem G2.fl{α:Type}[Emb α]{l:List α}(h:Is n f l):G2 (.fl n f) (.d (DL l)):=
 ⟨λw X η C v a=>by cases a with|fl _ _ _ a=>exact .d _ _ (a.is h),λi b=>by cases b⟩
theorem Z6T{α:Type}[Emb α]{l:List α}(h:Is n f l):G2 (.fl n f) (.fl l.length (LF l)):=
 ⟨λw X η C v a=>by
  cases a with
  |fl _ _ _ a=>
   have:=a.is h
   unfold DL at this;have b:=h.len_eq
   subst b;exact .fl _ _ _ this,λi c=>by cases c⟩
def KC:List CV->List CV->Prop
 |[],[]=>True
 |x::xs,y::ys=>G2 x y/\KC xs ys
 |_,_=>False
theorem KC.spec(h:KC xs ys):xs.length=ys.length/\(∀j,G2 (xs.getD j (.d .any)) (ys.getD j (.d .any)))/\∀i∈ys.flatMap CV.refs,i∈xs.flatMap CV.refs:=by
 induction xs generalizing ys with
 |nil=>cases ys with
  |nil=>exact⟨rfl,λj=>G2.refl _,λi a=>a⟩
  |cons y ys=>exact h.elim
 |cons x xs ih=>cases ys with
  |nil=>exact h.elim
  |cons y ys=>
   obtain⟨b,f⟩:=h;obtain⟨g,c,k⟩:=ih f
   refine⟨by simp[g],λj=>?_,λi a=>?_⟩
   .cases j with
    |zero=>exact b
    |succ j=>exact c j
   .simp only[Qt8,Qa9]at a⊢
    rcases a with a|a
    .exact .inl (b.2 i a)
    all_goals grind
theorem KC.rep(h:KC xs ys){X:Nat->Prop}{C:Ctx}(hv:y9 w X η C vs xs):y9 w X η C vs ys:=by
 obtain⟨b,a,_⟩:=h.spec;exact⟨hv.1.trans b,λj c=>(a j).1 _ _ _ _ _ (hv.2 j (by omega))⟩
def HX(x y:TV):Prop:=(∀w X η C v,TRep w X η C v x->TRep w X η C v y)/\∀i∈y.refs,i∈x.refs
theorem HX.c{x:CV}(h:G2 x y):HX (.c x) (.c y):=⟨λw X η C v a=>by cases a with|c _ _ a=>exact .c _ _ (h.1 _ _ _ _ _ a),h.2⟩
theorem HX.g(h:KC xs ys):HX (.g xs) (.g ys):=⟨λw X η C v a=>by cases a with|g _ _ a=>exact .g _ _ (h.rep a),h.spec.2.2⟩
theorem Y5.v{x y:TV}(h:HX x y):Y5 (.v x) (.v y):=⟨λw X η C v a=>by cases a with|v _ _ a=>exact .v _ _ (h.1 _ _ _ _ _ a),h.2⟩
theorem Y5.c{x:CV}(h:G2 x y):Y5 (.v (.c x)) (.v (.c y)):=.v (.c h)
theorem Y5.g(h:KC xs ys):Y5 (.v (.g xs)) (.v (.g ys)):=.v (.g h)
theorem J3.box{ro:Bool}(h:KC xs ys):J3 (.box ro xs) (.box ro ys):=
 ⟨λw X η C v a=>by cases a with|box b _ c e _ h1 h2=>exact .box b ro c e _ h1 (h.rep h2),rfl,h.spec.2.2⟩
theorem Y5.lst{α:Type}[Emb α]{l:List α}(h:Is n f l):Y5 (.v (.c (.d (.lst n f)))) (AL l):=.c (.lst h)
theorem Y5.bool{c:Bool}(h:b=c):Y5 (vb b) (vb c):=.of_eq (congrArg vb h)
def FE:List (Nat×AVal)->List (Nat×AVal)->Prop
 |[],[]=>True
 |(t,x)::E,(u,y)::E'=>t=u/\Y5 x y/\FE E E'
 |_,_=>False
def Mh:List (Nat×Obj)->List (Nat×Obj)->Prop
 |[],[]=>True
 |(t,x)::E,(u,y)::E'=>t=u/\J3 x y/\Mh E E'
 |_,_=>False
theorem FE.lk{E E' : List (Nat×AVal)}(h:FE E E')(t:Nat):Y5 (lk E t) (lk E' t):=by
 induction E generalizing E' with
 |nil=>cases E' with
  |nil=>exact Y5.refl _
  |cons p r=>exact h.elim
 |cons p r ih=>cases E' with
  |nil=>exact h.elim
  |cons q s=>
   obtain⟨b,c,a⟩:=h;have:=ih a
   unfold Ab.lk at this⊢
   grind
theorem Mh.ls{S S' : List (Nat×Obj)}(h:Mh S S')(i:Nat)(o' : Obj)(hi:ls S' i=some o'):∃o,ls S i=some o/\J3 o o':=by
 induction S generalizing S' with
 |nil=>cases S' with
  |nil=>cases hi
  |cons p r=>exact h.elim
 |cons p r ih=>cases S' with
  |nil=>exact h.elim
  |cons q s=>
   obtain⟨b,c,a⟩:=h;have:=ih a
   unfold Ab.ls at this hi⊢
   grind
section
variable {P:Program} {C:Ctx} {nt:Nat} {L:Lay} {pins:List Nat} {K:Act->World->Prop} {E:List (Nat×AVal)} {S:List (Nat×Obj)} {Q:Exit->Act->World->Prop}
theorem Ky(E' : List (Nat×AVal))(S' : List (Nat×Obj))(hE:FE E E')(hS:Mh S S')(h:Kn C nt E' S' K):Kn C nt E S K:=by
 intro R η a w c;refine h R (λi=>η i) a w (c.conv (λi=>i) (λt=>by rw[Mn];exact hE.lk t) (λi x b=>?_) (λi j b f d=>d) (λu i b=>c.er u i ((hE.lk u).2 i b)) (λi x b=>?_) (λi b=>?_))
 .rw [Mc];exact hS.ls i x b
 .obtain ⟨o,g,l⟩:=hS.ls i x b
  have:=c.sr i o g
  exact⟨this.1,λj f=>this.2 j (l.2.2 j f)⟩
 .obtain ⟨v,k⟩:=Qa7.1 b
  exact⟨rfl,(c.pn i v k).2⟩
theorem Fr.pinsB(Fm:Fr P L C pins){ρ:List (Nat×Nat)}(h:pins.all (λi=>J0 ρ i==i)=true):pinsB C (J0 ρ):=λi a=>by
 have:=Qc0.1 h i (Fm.pin i a)
 grind
theorem ka(Fm:Fr P L C pins)(ρ:List (Nat×Nat))(E' : List (Nat×AVal))(S' : List (Nat×Obj))(hp:pins.all (λi=>J0 ρ i==i)=true)(hE:E'.map (λp=>lk E p.1)=E'.map (λp=>p.2.ren (J0 ρ)))(hS:S'.map (λp=>ls S (J0 ρ p.1))=S'.map (λp=>some (p.2.ren (J0 ρ))))(hinj:Yc (S'.map λp=>J0 ρ p.1)=true)(h:Kn C nt E' S' K):Kn C nt E S K:=
 Z6n ρ (Fm.pinsB hp) hE hS hinj h
def CV.frz(k n:Nat)(f:Nat->List DVal):CV->CV
 |.own i=>if i=k then .d (.lst n f)else .own i
 |.ap i=>if i=k then .d (.lst n f)else .ap i
 |x=>x
def TV.frz(k n:Nat)(f:Nat->List DVal):TV->TV
 |.c x=>.c (x.frz k n f)
 |.g xs=>.g (xs.map (CV.frz k n f))
def AVal.frz(k n:Nat)(f:Nat->List DVal):AVal->AVal
 |.any=>.any
 |.v x=>.v (x.frz k n f)
 |.t xs=>.t (xs.map (TV.frz k n f))
def Obj.frz(k n:Nat)(f:Nat->List DVal):Obj->Obj
 |.box ro cs=>.box ro (cs.map (CV.frz k n f))
 |o=>o
end
section
variable {w:World} {X X' : Nat->Prop} {η:Nat->Value} {C:Ctx} {k n:Nat} {f:Nat->List DVal}
theorem CRep.frz{v:Value}{x:CV}(h:CRep w X η C v x)(hX:∀b,¬X b->¬X' b)(hk:DRep w X' (η k) (.lst n f)):CRep w X' η C v (x.frz k n f):=by
 have a:∀b,b<w.heap.size->¬X b->w.heap[b]?=w.heap[b]? /\ ¬X' b:=λb _ o=>⟨rfl,hX b o⟩
 cases h with
 |d _ _ h=>exact .d _ _ (h.mono a)
 |fl _ _ _ h=>exact .fl _ _ _ (h.mono a)
 |own _ i h h1=>
  simp only[CV.frz];split
  .rename_i g;subst g;rw[h];exact .d _ _ hk
  .exact .own _ _ h h1
 |ptr _ _ _ h=>exact .ptr _ _ _ h
 |pte _ _ _ _ _ _ _ h=>exact .pte _ _ _ _ _ _ _ h
 |sub b N cap _ es lo n h h1 h2=>exact .sub b N cap _ es lo n h h1 h2
 |subN ad ad' N _ es h=>exact .subN ad ad' N _ es h
 |elm b off c e fz cs h1 h2 h3 h4=>exact .elm b off c e fz cs (hX _ h1) h2 h3 λj m=>(h4 j m).mono a
 |clo _ _ _ h=>exact .clo _ _ _ h
 |sem _ _ h h1=>exact .sem _ _ h h1
 |ap v i h h1=>
  simp only[CV.frz];split
  .rename_i g
   subst g;rcases h with h|h|⟨l,h⟩
   .rw [<-h];exact .d _ _ hk
   .rw [h]at hk;cases hk
   .rw [h]at hk;cases hk
  .exact .ap _ _ h h1
 |bnd f vs cs h1 h2=>exact .bnd f vs cs h1 λj m=>(h2 j m).mono a
 |cp _ id j vs h h1 h2=>exact .cp _ id j vs h h1 h2
theorem y9.frz(h:y9 w X η C vs cs)(hX:∀b,¬X b->¬X' b)(hk:DRep w X' (η k) (.lst n f)):y9 w X' η C vs (cs.map (CV.frz k n f)):=by
 refine⟨by simpa using h.1,λj c=>?_⟩;have a : j<cs.length:=by simpa using c
 have:=(h.2 j a).frz hX hk
 grind
theorem TRep.frz{v:Value}{x:TV}(h:TRep w X η C v x)(hX:∀b,¬X b->¬X' b)(hk:DRep w X' (η k) (.lst n f)):TRep w X' η C v (x.frz k n f):=by
 cases h with
 |c _ _ h=>exact .c _ _ (h.frz hX hk)
 |g _ _ h=>exact .g _ _ (h.frz hX hk)
theorem ARep.frz{v:Value}{x:AVal}(h:ARep w X η C v x)(hX:∀b,¬X b->¬X' b)(hk:DRep w X' (η k) (.lst n f)):ARep w X' η C v (x.frz k n f):=by
 cases h with
 |any=>exact .any v
 |v _ _ h=>exact .v _ _ (h.frz hX hk)
 |t us xs h1 h2=>
  refine .t us _ (by simpa using h1) λj c=>?_
  have a : j<xs.length:=by simpa using c
  have:=(h2 j a).frz hX hk
  grind
theorem ORep.frz{v:Value}{o:Obj}(h:ORep w X η C v o)(hX:∀b,¬X b->¬X' b)(hk:DRep w X' (η k) (.lst n f)):ORep w X' η C v (o.frz k n f):=by
 cases h with
 |box b ro c e cs h1 h2=>exact .box b ro c e _ h1 (h2.frz hX hk)
 |nil ad es f=>exact .nil ad es f
 |arr b n cap es c e f h1 h2 h3 h4 h5 h6 h7=>exact .arr b n cap es c e f h1 h2 h3 h4 h5 h6 λi j d g=>(h7 i j d g).mono λb _ a=>⟨rfl,hX b a⟩
 |ext _ p h1 h2 h3=>exact .ext _ p (h2 w w X X' (λb _ a=>⟨rfl,hX b a⟩) (λ_ _=>rfl) h1) h2 h3
 |exr _ refs p h1 h2 h3=>exact .exr _ refs p (h2 w w X X' (λb _ a=>⟨rfl,hX b a⟩) (λ_ _=>rfl) h1) h2 h3
theorem XL{α β:Type}{fr:α->List Nat}{gr:β->List Nat}{g:α->β}{l:List α}(h:∀x,∀j∈gr (g x),j∈fr x):∀j∈(l.map g).flatMap gr,j∈l.flatMap fr:=by
 grind
theorem kw(x:CV):∀j∈(x.frz k n f).refs,j∈x.refs:=by
 cases x<;>simp only[CV.frz]<;>try exact λj a=>a
 all_goals
  split
  .intro j a;cases a
  .exact λj a=>a
theorem Q4c(x:TV):∀j∈(x.frz k n f).refs,j∈x.refs:=by
 cases x with
 |c x=>exact kw x
 |g xs=>exact XL kw
theorem Z7l(x:AVal):∀j∈(x.frz k n f).refs,j∈x.refs:=by
 cases x with
 |any=>exact λj a=>a
 |v x=>exact Q4c x
 |t xs=>exact XL Q4c
theorem Z6l(o:Obj):∀j∈(o.frz k n f).refs,j∈o.refs:=by
 cases o with
 |box ro cs=>exact XL kw
 |arr es n f=>exact λj a=>a
 |ext p=>exact λj a=>a
 |exr refs p=>exact λj a=>a
end
end
section
section
variable {P:Program} {C:Ctx} {nt:Nat} {L:Lay} {pins:List Nat} {K:Act->World->Prop} {E:List (Nat×AVal)} {S:List (Nat×Obj)} {Q:Exit->Act->World->Prop}
theorem TG{g:AVal->AVal}(hg:g .any=.any)(E:List (Nat×AVal))(t:Nat):lk (E.map λp=>(p.1,g p.2)) t=g (lk E t):=by
 unfold lk
 induction E with
 |nil=>exact hg.symm
 |cons p r ih=>
  grind
theorem Jh{g:Obj->Obj}(S:List (Nat×Obj))(i:Nat):ls (S.map λp=>(p.1,g p.2)) i=(ls S i).map g:=by
 unfold ls
 induction S with
 |nil=>rfl
 |cons p r ih=>
  grind
theorem Z6x(E' : List (Nat×AVal))(S' : List (Nat×Obj))(hE:E.map (λp=>(p.1,p.2.frz k n f))=E')(hS:S.map (λp=>(p.1,p.2.frz k n f))=S')(hk:(S.map (·.1)).contains k=false)(h:Kn C nt E' S' K):Kn C nt E ((k,.arr es n f)::S) K:=by
 subst hE hS;intro R η a w m
 have z:ls ((k,.arr es n f)::S) k=some (.arr es n f):=by unfold ls;rw[Qh0];simp
 have G:ls S k=none:=by
  cases ho:ls S k with
  |none=>rfl
  |some o=>
   have:k∈S.map (·.1):=Qc5.2 ⟨_,y8 ho,rfl⟩
   grind
 have l:∀i o,ls S i=some o->ls ((k,.arr es n f)::S) i=some o/\i≠k:=by
  intro i o d;have r:i≠k:=by intro h;rw[h,G]at d;cases d
  refine⟨?_,r⟩;unfold ls;rw[Qh0]
  have:(i==k)=false:=by simpa using r
  rw[this];exact d
 have y:∀b,Own (ls (S.map λp=>(p.1,p.2.frz k n f))) η b->Own (ls S) η b:=by
  rintro b ⟨i,J,d,q⟩;rw[Jh]at d
  cases ho:ls S i with
  |none=>rw[ho]at d;cases d
  |some o=>exact⟨i,o,ho,q⟩
 have H:∀b,¬XS C (ls ((k,.arr es n f)::S)) η b->¬XS C (ls (S.map λp=>(p.1,p.2.frz k n f))) η b:=by
  intro b v I;rcases I with x|x
  .exact v (.inl x)
  .obtain ⟨i,o,d,q⟩:=y b x
   exact v (.inr ⟨i,o,(l i o d).1,q⟩)
 have T:∀b,b<w.heap.size->¬XS C (ls ((k,.arr es n f)::S)) η b->w.heap[b]?=w.heap[b]? /\ ¬XS C (ls (S.map λp=>(p.1,p.2.frz k n f))) η b:=λb _ v=>⟨rfl,H b v⟩
 have B:∀b,b∈Y7 (η k)->¬XS C (ls (S.map λp=>(p.1,p.2.frz k n f))) η b:=by
  intro b v x;rcases x with ⟨x,V⟩|x
  .rcases m.ow k _ b z v with ⟨A,_⟩|U|W
   .cases A
   .exact V (m.ok.md b U)
   .have:=m.ok.lt b x;omega
  .obtain ⟨i,o,d,q⟩:=y b x
   obtain⟨M,N⟩:=l i o d;exact N (m.ds i k b (by rw[M];simp) (by rw[z];simp) q v)
 have F:DRep w (XS C (ls (S.map λp=>(p.1,p.2.frz k n f))) η) (η k) (.lst n f):=by
  have:=m.st k _ z
  generalize hu:η k=u at this B
  cases this with
  |nil ad es f=>exact .nil ad 0 f
  |arr b n cap es c e f M N h3 h4 h5 h6 h7=>
   have v:¬XS C (ls (S.map λp=>(p.1,p.2.frz k n f))) η b:=B b (by simp[Y7];omega);refine .lst b 0 n cap c e _ f es v M h3 (by rw[N,Qd1];exact Qb3 _ h3) h6 λi j d D=>?_
   rw[Qd1];exact(h7 i j d D).mono T
 refine h R η a w ⟨m.ok,m.df,m.sz,λt=>?_,λt i d=>?_,λi J d=>?_,λi J d=>?_,λi j b d D=>?_,λi J b d=>?_,m.fr,m.pn⟩
 .rw [TG (g:=AVal.frz k n f) rfl]
  exact(m.ev t).frz H F
 .rw [TG (g:=AVal.frz k n f) rfl]at d
  exact m.er t i (Z7l _ i d)
 .rw [Jh]at d
  cases ho:ls S i with
  |none=>rw[ho]at d;cases d
  |some o=>
   rw[ho]at d;cases d
   exact(m.st i o (l i o ho).1).frz H F
 .rw [Jh]at d
  cases ho:ls S i with
  |none=>rw[ho]at d;cases d
  |some o=>
   rw[ho]at d;cases d
   have:=m.sr i o (l i o ho).1
   exact⟨this.1,λj D=>this.2 j (Z6l o j D)⟩
 .have r:∀ i,ls (S.map fun p=>(p.1,p.2.frz k n f)) i≠none->ls ((k,.arr es n f)::S) i≠none:=by
   intro i d O;apply d
   rw[Jh]
   cases ho:ls S i with
   |none=>rfl
   |some o=>rw[(l i o ho).1]at O;cases O
  exact m.ds i j b (r i d) (r j D)
 .rw [Jh]at d
  cases ho:ls S i with
  |none=>rw[ho]at d;cases d
  |some o=>
   rw[ho]at d;cases d
   have A:(o.frz k n f).ro=o.ro:=by cases o<;>rfl
   rw[A];exact m.ow i o b (l i o ho).1
def gd{R:Type}(p:Prop)[Decidable p](x:Option R):Option R:=if p then x else none
theorem Ua{R:Type}{p:Prop}[Decidable p]{x:Option R}{r:R}(h:gd p x=some r):p/\x=some r:=by
 unfold gd at h
 grind
theorem Yf{α R:Type}{x:Option α}{f:α->Option R}{r:R}(h:x.bind f=some r):∃z,x=some z/\f z=some r:=by
 cases x with
 |none=>cases h
 |some z=>exact⟨z,rfl,h⟩
def br{R:Type}(b:Bool)(x y:Option R):Option R:=match b with|true=>x|false=>y
theorem Z5q{R:Type}{x y:Option R}{r:R}(h:br b x y=some r)(hb:b=true):x=some r:=by subst hb;exact h
theorem Z5s{R:Type}{x y:Option R}{r:R}(h:br b x y=some r)(hb:b=false):y=some r:=by subst hb;exact h
def Y3{σ R:Type}(body:(σ->Option R)->σ->Option R):Nat->σ->Option R
 |0,_=>none
 |n+1,z=>body (Y3 body n) z
theorem Z7f{σ R:Type}{r:R}{x y:Code}(f:σ->Option R)(E' : σ->List (Nat×AVal))(S' : σ->List (Nat×Obj))(hy:∀z,f z=some r->AW P C nt y (E' z) (S' z) Q)(hx:∀J:Act->World->Prop,(∀z,f z=some r->Kn C nt (E' z) (S' z) J)->AW P C nt x E S (Exit.then J Q)):AW P C nt (.seq x y) E S Q:=
 Q4y (hx _ λz a=>hy z a)
theorem Z7b{σ R:Type}{r:R}{c:Code}{body:(σ->Option R)->σ->Option R}(E' : σ->List (Nat×AVal))(S' : σ->List (Nat×Obj))(round:∀(again:σ->Option R) (z:σ) (J:Act->World->Prop),(∀z',again z'=some r->Kn C nt (E' z') (S' z') J)->body again z=some r->AW P C nt c (E' z) (S' z) (Exit.then J Q)){z0:σ}(h:Y3 body n z0=some r):AW P C nt (.loop c) (E' z0) (S' z0) Q:=by
 refine Z7c (σ:=Nat×σ) (λp=>Y3 body p.1 p.2=some r) (λp=>p.1) (λp=>E' p.2) (λp=>S' p.2) (λp b=>?_) (n,z0) h;obtain⟨m,z⟩:=p
 cases m with
 |zero=>cases b
 |succ m=>
  refine round (Y3 body m) z _ (λz' a=>?_) b;exact Z6y (I:=λp:Nat×σ=>Y3 body p.1 p.2=some r/\p.1<m+1) (E':=λp=>E' p.2) (S':=λp=>S' p.2) (m,z') ⟨a,Nat.lt_succ_self m⟩
def U9(L:Lay)(ops:Array Oper):List Oper->List Dir->U4->U6->Nat->U4
 |o::os,d::ds,e,s,k+1=>U9 L ops os ds (Zu o.dst (WO L ops o d e s).v e) (ZC (WO L ops o d e s).l s) k
 |_,_,e,_,_=>e
def QH(L:Lay)(ops:Array Oper):List Oper->List Dir->U4->U6->Nat->U6
 |o::os,d::ds,e,s,k+1=>QH L ops os ds (Zu o.dst (WO L ops o d e s).v e) (ZC (WO L ops o d e s).l s) k
 |_,_,_,s,_=>s
def Y8:List Oper->Nat->Oper
 |[],_=>default
 |o::_,0=>o
 |_::os,k+1=>Y8 os k
def Qu:List Dir->Nat->Array Oper->Oper->U4->Eff
 |.k f::_,0=>f
 |_::ds,k+1=>Qu ds k
 |_,_=>λ_ _ _=>default
def K2(P:Program)(C:Ctx)(nt:Nat)(L:Lay)(ops:Array Oper)(ds:List Dir)(e:U4)(s:U6)(k:Nat):Prop:=
 Wu P C nt ops (Y8 ops.toList k) (Qu ds k ops (Y8 ops.toList k) (U9 L ops ops.toList ds e s k)) (U9 L ops ops.toList ds e s k) (QH L ops ops.toList ds e s k)
theorem Z6Z(Fm:Fr P L C pins){ops:Array Oper}{draw:Bool}(ds:List Dir)(ρ:List (Nat×Nat))(c:(Nat->Prop)->Prop)(E' : List (Nat×AVal))(S' : List (Nat×Obj))(hc:c (K2 P C nt L ops ds (lk E) (ls S)))(hchk:Fw L pins nt ops draw ds E S ρ S'=true)(hC:Ks P C nt L ops ops.toList ds (lk E) (ls S)=c (K2 P C nt L ops ds (lk E) (ls S)))(he0:E'.map (λp=>Jp ops.toList (VB L ops ops.toList ds (lk E) (ls S)) (lk E) p.1)=E'.map (λp=>p.2.ren (J0 ρ)))(hs0:S'.map (λp=>Jo (VB L ops ops.toList ds (lk E) (ls S)) (ls S) (J0 ρ p.1))=S'.map (λp=>some (p.2.ren (J0 ρ))))(k:Kn C nt E' S' (Q .normal)):AW P C nt (.region id ops draw) E S Q:=Z6Y Fm ds ρ hchk (hC ▸ hc) he0 hs0 k
end
end
section
def Pp(o:Oper):Bool:=match o.op with|.call {callee:=.value _,..}=>true|_=>false
def UJ(o:Oper):Operand:=match o.op with|.call {callee:=.value fx,..}=>fx|_=>.const undef
def callXs(o:Oper):Array Operand:=match o.op with|.call {callee:=.value _,args,..}=>args|_=> #[]
theorem Ci(h:Pp o=true):∃tys,o.op=.call {callee:=.value (UJ o),args:=callXs o,argTypes:=tys}:=by
 unfold Pp at h;split at h
 .rename_i b c tys a
  exact⟨tys,by simp only[UJ,callXs,a]⟩
 .cases h
def cE(m:List (Nat×Nat))(extra:List Nat)(r:AVal)(Si So:List (Nat×Obj)):Array Oper->Oper->U4->Eff:=λops o e=>xI ops o e (J0 m) extra r Si So
def sE(r:AVal):Array Oper->Oper->U4->Eff:=λops o e=>JI ops o e r
def Xh(C:Ctx)(nt:Nat)(e:U4)(s:U6)(Si:List (Nat×Obj))(m:Nat->Nat)(rd ids:List Nat):List Operand->List AVal->Prop
 |[],[]=>True
 |x::xs,y::ys=>YJ C nt e s Si m rd ids x y/\Xh C nt e s Si m rd ids xs ys
 |_,_=>False
theorem Xh.spec{C:Ctx}{nt:Nat}{e:U4}{s:U6}{Si:List (Nat×Obj)}{m:Nat->Nat}{rd ids:List Nat}{xs:List Operand}{ys:List AVal}(h:Xh C nt e s Si m rd ids xs ys):
  xs.length=ys.length/\∀j,j<ys.length->YJ C nt e s Si m rd ids (xs.getD j (.const undef)) (ys.getD j .any):=by
 induction xs generalizing ys with
 |nil=>cases ys with
  |nil=>exact⟨rfl,λj a=>by simp at a⟩
  |cons y ys=>exact h.elim
 |cons x xs ih=>cases ys with
  |nil=>exact h.elim
  |cons y ys=>
   obtain⟨b,c⟩:=h
   grind
theorem kx{C:Ctx}{nt:Nat}{e:U4}{s:U6}{Si:List (Nat×Obj)}{m:Nat->Nat}{rd ids:List Nat}:∀{xs:List Operand} {ys:List AVal},xs.all (QB rd)=true->ys.all AVal.noSem=true->xs.map (Y2 e)=ys.map (AVal.ren m)->Xh C nt e s Si m rd ids xs ys
 |[],[],_,_,_=>trivial
 |[],_::_,_,_,h=>by cases h
 |_::_,[],_,_,h=>by cases h
 |x::xs,y::ys,h1,h2,h3=>by
  simp only[Qx1,Qa4]at h1 h2;simp only[Qf7,Qm8]at h3
  exact⟨Mk h1.1 (Y5.of_eq h3.1) h2.1,kx h1.2 h2.2 h3.2⟩
def Ch(f:Nat):AVal->Bool
 |.v (.c (.clo g []))=>g==f
 |_=>false
theorem Q1m{f:Nat}{x:AVal}(h:Ch f x=true):x=.v (.c (.clo f [])):=by
 unfold Ch at h
 grind
def callB(ops:Array Oper)(nt:Nat)(e:U4)(o:Oper)(f:Nat)(m:List (Nat×Nat))(r:AVal)(Si So:List (Nat×Obj)):Bool:=
 Pp o&&Ch f (Y2 e (UJ o))&&QB (QD o++Qo ops o) (UJ o)&&Vx (J0 m) r Si So&&QL nt o&&(QX ops e o==some true)
section
variable {P:Program} {C:Ctx} {nt:Nat} {L:Lay} {ops:Array Oper} {ds:List Dir} {e:U4} {s:U6}
theorem Q4m{f:Nat}(hspec:G3 P f args Si r So)(hcall:∀ args w,(callFunc f args).run P w=.ok (.enter f args) w)(m:List (Nat×Nat))(extra:List Nat)(hk:Qu ds k=cE m extra r Si So)(hb:callB ops nt (U9 L ops ops.toList ds e s k) (Y8 ops.toList k) f m r Si So=true)(hsi:Si.map (fun p=>QH L ops ops.toList ds e s k (J0 m p.1))=Si.map (fun p=>some (p.2.ren (J0 m))))(hargs:Xh C nt (U9 L ops ops.toList ds e s k) (QH L ops ops.toList ds e s k) Si (J0 m) (QD (Y8 ops.toList k)++Qo ops (Y8 ops.toList k)) (WG (U9 L ops ops.toList ds e s k) (Y8 ops.toList k)++(Si.map (fun p=>J0 m p.1)++extra))
   (callXs (Y8 ops.toList k)).toList args):K2 P C nt L ops ds e s k:=by
 unfold K2;rw[hk]
 simp only[callB,Qa4]at hb;obtain⟨⟨⟨⟨⟨b,l⟩,u⟩,d⟩,t⟩,c⟩:=hb
 obtain⟨q,a⟩:=Ci b;obtain⟨o,g⟩:=hargs.spec
 exact Q5U hcall a (Q1m l) u hspec (by simpa using o) (J0 m) extra (λj h=>g j h) (λp i=>⟨_,Km hsi p i,J3.refl _⟩) d t (by simpa using c)
theorem Z6N{f:Nat}(hspec:G3 P f args Si r So)(hcall:∀args w,(callFunc f args).run P w=.ok (.enter f args) w)(m:List (Nat×Nat))(hk:Qu ds k=cE m [] r Si So)(hb:callB ops nt (U9 L ops ops.toList ds e s k) (Y8 ops.toList k) f m r Si So=true)(hsi:Si.map (λp=>QH L ops ops.toList ds e s k (J0 m p.1))=Si.map (λp=>some (p.2.ren (J0 m))))(hrd:((callXs (Y8 ops.toList k)).toList.all (QB (QD (Y8 ops.toList k)++Qo ops (Y8 ops.toList k)))&&args.all AVal.noSem)=true)(hargs:(callXs (Y8 ops.toList k)).toList.map (Y2 (U9 L ops ops.toList ds e s k))=args.map (AVal.ren (J0 m))):K2 P C nt L ops ds e s k:=by
 rw[Qa4]at hrd;exact Q4m hspec hcall m [] hk hb hsi (kx hrd.1 hrd.2 hargs)
def jJ(ops:Array Oper)(nt:Nat)(e:U4)(o:Oper)(args:List AVal)(r:AVal):Bool:=
 Pp o&&QB (QD o++Qo ops o) (UJ o)&&(callXs o).toList.all (QB (QD o++Qo ops o))&&args.all AVal.closed&&r.closed&&QL nt o&&(QX ops e o==some true)
theorem Wv{F:List AVal->AVal->Prop}(hF:F args r)(hk:Qu ds k=sE r)(hb:jJ ops nt (U9 L ops ops.toList ds e s k) (Y8 ops.toList k) args r=true)(hfx:Y2 (U9 L ops ops.toList ds e s k) (UJ (Y8 ops.toList k))=ZX P F)(hargs:(callXs (Y8 ops.toList k)).toList.map (Y2 (U9 L ops ops.toList ds e s k))=args):K2 P C nt L ops ds e s k:=by
 unfold K2;rw[hk]
 simp only[jJ,Qa4]at hb;obtain⟨⟨⟨⟨⟨⟨h,o⟩,u⟩,q⟩,t⟩,i⟩,m⟩:=hb
 obtain⟨g,a⟩:=Ci h;have c:(callXs (Y8 ops.toList k)).size=args.length:=by rw[<-hargs];simp
 refine Q5R a hfx hF c ⟨o,λx p=>Qc0.1 u x p⟩ (λj b=>?_) t i (by simpa using m);have d : j<(callXs (Y8 ops.toList k)).toList.length:=by simpa[c]using b
 have l:Y2 (U9 L ops ops.toList ds e s k) ((callXs (Y8 ops.toList k)).toList.getD j (.const undef))=args.getD j .any:=by
  grind
 exact⟨Y5.of_eq l,Qc0.1 q _ (Yv b)⟩
end
end
instance (n:Int):Decidable (Q8 n):=inferInstanceAs (Decidable (_/\_))
def gl{α:Type}[Emb α](l:List α)(i:Nat):α:=l.getD i Emb.d
def QR(es:Nat)(ds:List DVal)(i:Nat):List DVal:=(ds.drop (i*es)).take es
theorem J7{i:Int}(h:0<=i/\i<(n:Int)):i.toNat<n:=by omega
theorem FE.refl:∀E:List (Nat×AVal),FE E E
 |[]=>trivial
 |(_,_)::E=>⟨rfl,Y5.refl _,FE.refl E⟩
instance:Emb Int:=⟨λx=>[.int .i64 x],1,0,λ_=>rfl⟩
instance:Emb Bool:=⟨λx=>[.bool x],1,false,λ_=>rfl⟩
instance:Emb ByteArray:=⟨λx=>[.str x],1,ByteArray.empty,λ_=>rfl⟩
instance {α:Type} [Emb α]:Emb (List α):=⟨λx=>[DL x],1,[],λ_=>rfl⟩
section
section
variable {P:Program} {C:Ctx} {nt:Nat} {L:Lay} {ops:Array Oper} {ds:List Dir} {e:U4} {s:U6}
theorem KI(hr:r.refs=[])(hdo:QL nt o=true)(hg:QX ops e o=some true)(hex:∀ (R:Nat->Prop) (η:Nat->Value) (e0:U4) (s0:U6) (a:Act) (w:World),(∀ t ∈ QD o++Qo ops o,e0 t=e t)->Conc C nt R η e0 s0 a w->∃ v,(execOp a.eval o).run P w=.ok (.value v) w/\ARep w (XS C s0 η) η C v r):
  Wu P C nt ops o (JI ops o e r) e s:=by
 intro R η e0 s0 a w c g A d K Q y;have q:=UR (e:=e) d (λt x=>c t (Qa9.2 (.inr x))) hg
 rw[Qa2 q];obtain⟨v,m,b⟩:=hex R η e0 s0 a w c d
 unfold Oper.wp;rw[m]
 show K (a.put o.dst v) w;refine y η _ w ?_
 have:=d.val o.dst (YH hdo) r v λ_=>⟨b,λj h=>by rw[hr]at h;cases h⟩
 have z:ZC (JI ops o e r).l s0=s0:=by funext i;rfl
 rw[z];have u:Zu o.dst (JI ops o e r).v e0=SR.env {v:=r} o.dst e0:=rfl
 rw[u];exact this.wider λi p=>.inl p
def vR(d:TypeDesc)(x y:CV):Option Bool:=
 match d,x,y with
 |.int _,.d (.int k a),.d (.int k' b)=>if k=k' then some (a==b)else none
 |.bool,.d (.bool a),.d (.bool b)=>some (a==b)
 |_,_,_=>none
def CT(P:Program)(xs ys:List CV):List Field->Option Bool
 |[]=>some true
 |f::fs=>if f.name= "_" then none else match P.underlying f.type,xs[f.offset]?,ys[f.offset]?,CT P xs ys fs with
  |some d,some x,some y,some c=>match vR d x y with
   |some b=>some (b&&c)
   |none=>none
  |_,_,_,_=>none
theorem Z3W{w1:World}{X:Nat->Prop}{d:TypeDesc}{x:CV}(h:vR d x y=some b){u v:Value}(hu:CRep w X η C u x)(hv:CRep w X η C v y)(ht:P.underlying t=some d)(n:Nat):
  (isAgg t).run P w1=.ok false w1/\(Op.equalIn (n+1) t u v).run P w1=.ok b w1:=by
 unfold vR at h;split at h
 .split at h
  .cases h
   rename_i a
   subst a
   cases hu with|d _ _ hu=>cases hu with|int=>
   cases hv with|d _ _ hv=>cases hv with|int=>
   exact⟨by simp[isAgg,Qc1 ht],run_equalIn_int _ _ _ _ _ _ _ ht⟩
  .cases h
 .cases h
  cases hu with|d _ _ hu=>cases hu with|bool=>
  cases hv with|d _ _ hv=>cases hv with|bool=>
  exact⟨by simp[isAgg,Qc1 ht],run_equalIn_bool' _ _ _ _ _ ht⟩
 .cases h
theorem Q2H{X:Nat->Prop}(h:y9 w X η C vs xs){j:Nat}{x:CV}(hx:xs[j]?=some x):∃v,vs[j]?=some v/\CRep w X η C v x:=by
 have b:j<xs.length:=(Qj1.1 hx).1;have a : j<vs.size:=by rw[h.1];exact b
 refine⟨vs[j],Qe3 a,?_⟩;have:=h.2 j b
 rw[Qa0,hx]at this;simpa[Qd4,Qe3 a]using this
theorem Q2p{w:World}{X:Nat->Prop}{η:Nat->Value}{xs ys:List CV}{us vs:Array Value}(hu:y9 w X η C us xs)(hv:y9 w X η C vs ys)(n:Nat)(w1:World):∀(fs:List Field) (b:Bool),CT P xs ys fs=some b->(Op.eqFields (n+1) us vs fs).run P w1=.ok b w1
 |[],b,h=>by cases h;simp[Op.eqFields]
 |f::fs,b,h=>by
  simp only[CT]at h;split at h
  .cases h
  .rename_i g
   split at h
   .rename_i d x y c z G B q
    split at h
    .rename_i r i
     cases h
     obtain⟨u,o,j⟩:=Q2H hu G;obtain⟨v,l,m⟩:=Q2H hv B
     obtain⟨p,D⟩:=Z3W (P:=P) (w1:=w1) i j m z n;have F:=Q2p hu hv n w1 fs c q
     have t:(part f.type us f.offset).run P w1=.ok u w1:=by simp[part,p,o]
     have A:(part f.type vs f.offset).run P w1=.ok v w1:=by simp[part,p,l]
     have a : f.name ≠ "_":=g;simp only[Op.eqFields,a,ne_eq,not_false_eq_true,if_true,Sem.run_bind,t,A,D,Result.andThen_ok]
     cases r with
     |true=>simpa using F
     |false=>simp
    .cases h
   .cases h
def UE(o:Oper):Operand:=match o.op with|.binOp _ _ x _ _=>x|_=>.const undef
def UD(o:Oper):Operand:=match o.op with|.binOp _ _ _ y _=>y|_=>.const undef
def CS(o:Oper)(t:TypeId):Option Bool:=match o.op with
 |.binOp op t' _ _ _=>if t=t' then match op with
  |.eql=>some true
  |.neq=>some false
  |_=>none else none
 |_=>none
theorem Q2o{q:Bool}(h:CS o t=some q):∃t',o.op=.binOp (if q then .eql else .neq) t (UE o) (UD o) t':=by
 unfold CS at h;split at h
 .rename_i op d x y b a
  split at h
  .rename_i c
   subst c;split at h
   .cases h;exact⟨b,by simp only[UE,UD,a];rfl⟩
   .cases h;exact⟨b,by simp only[UE,UD,a];rfl⟩
   .cases h
  .cases h
 .cases h
structure EqT (P:Program) (t:TypeId):Prop where
 und:P.underlying t=some (.struct (P.fieldsOf t))
 held:P.stoodInHeld t=false
 guard:P.eqGuardType P.depth t=false
def CU(ops:Array Oper)(nt:Nat)(e:U4)(o:Oper):Bool:=QB (QD o++Qo ops o) (UE o)&&QB (QD o++Qo ops o) (UD o)&&QL nt o&&(QX ops e o==some true)
theorem kg(ht:EqT P t)(q:Bool)(hk:Qu ds k=sE (vb (if q then b else !b)))(hop:CS (Y8 ops.toList k) t=some q)(hb:CU ops nt (U9 L ops ops.toList ds e s k) (Y8 ops.toList k)=true)(hx:Y2 (U9 L ops ops.toList ds e s k) (UE (Y8 ops.toList k))=.v (.g xs))(hy:Y2 (U9 L ops ops.toList ds e s k) (UD (Y8 ops.toList k))=.v (.g ys))(hfl:CT P xs ys (P.fieldsOf t).toList=some b):K2 P C nt L ops ds e s k:=by
 unfold K2;rw[hk]
 simp only[CU,Qa4]at hb;obtain⟨⟨⟨p,r⟩,y⟩,x⟩:=hb
 obtain⟨D,h⟩:=Q2o hop;refine KI rfl y (by simpa using x) λR η A B a w l m=>⟨.bool (if q then b else !b),?_,.v _ _ (.c _ _ (.d _ _ (.bool _)))⟩
 have i:=(J9 m (UE (Y8 ops.toList k))).1;rw[ZS l p,hx]at i
 have j:=(J9 m (UD (Y8 ops.toList k))).1;rw[ZS l r,hy]at j
 generalize hu:a.eval (UE (Y8 ops.toList k))=u at i;generalize hv:a.eval (UD (Y8 ops.toList k))=v at j
 cases i with|v _ _ i=>cases i with|g us _ i=>
 cases j with|v _ _ j=>cases j with|g vs _ j=>
 have z:=Q2p (P:=P) i j 9998 w _ b hfl;have o:(Op.equalIn 10000 t (.agg us) (.agg vs)).run P w=.ok b w:=by
  rw[run_equalIn_agg w 9999 t us vs ht.und ht.held];exact z
 cases q with
 |true=>simp only[execOp,h,Qh8,Qd9,hu,hv,run_eqGuard_agg w _ _ _ _ _ _ ht.guard,Qd0,run_eql_struct,o,Qe9]
 |false=>simp only[execOp,h,Qh1,Qh2,Qd9,hu,hv,run_eqGuard_agg w _ _ _ _ _ _ ht.guard,Qd0,run_neq_struct,o,Qe9]
end
end
section
def nbP(n:Nat):World->(Nat->Prop)->(Nat->Prop)->Value->Prop:=λ_ _ _ v=>∃b,v=.bool b/\(b=true->n=0)
def nb(n:Nat):AVal:=.v (.c (.sem (nbP n)))
def DVal.flat:DVal->Bool
 |.int _ _=>true
 |.bool _=>true
 |.str _=>true
 |_=>false
def CV.flat:CV->Bool
 |.d x=>x.flat
 |_=>false
def TV.flat:TV->Bool
 |.c x=>x.flat
 |.g xs=>xs.all CV.flat
def AVal.flat:AVal->Bool
 |.any=>true
 |.v x=>x.flat
 |.t xs=>xs.all TV.flat
section
variable {w w' : World} {X X' : Nat->Prop} {η η' : Nat->Value} {C C' : Ctx}
theorem CRep.flat{v:Value}{x:CV}(h:CRep w X η C v x)(hx:x.flat=true):CRep w' X' η' C' v x:=by
 cases h with
 |d _ _ h=>cases h with
  |int=>exact .d _ _ (.int _ _)
  |bool=>exact .d _ _ (.bool _)
  |str=>exact .d _ _ (.str _)
  |any=>cases hx
  |nil=>cases hx
  |lst=>cases hx
  |mp=>cases hx
 |_=>cases hx
theorem TRep.flat{v:Value}{x:TV}(h:TRep w X η C v x)(hx:x.flat=true):TRep w' X' η' C' v x:=by
 cases h with
 |c _ _ h=>exact .c _ _ (h.flat hx)
 |g _ _ h=>exact .g _ _ ⟨h.1,λj a=>(h.2 j a).flat (Qc0.1 hx _ (Yv a))⟩
theorem ARep.flat{v:Value}{x:AVal}(h:ARep w X η C v x)(hx:x.flat=true):ARep w' X' η' C' v x:=by
 cases h with
 |any=>exact .any v
 |v _ _ h=>exact .v _ _ (h.flat hx)
 |t us xs h1 h2=>exact .t us xs h1 λj a=>(h2 j a).flat (Qc0.1 hx _ (Yv a))
theorem Q4w{x:CV}(hx:x.flat=true):x.refs=[]:=by cases x<;>first|rfl|cases hx
theorem Q4d{x:TV}(hx:x.flat=true):x.refs=[]:=by
 cases x with
 |c x=>exact Q4w hx
 |g xs=>exact Qp8.2 λy a=>Q4w (Qc0.1 hx y a)
theorem Z7m{x:AVal}(hx:x.flat=true):x.refs=[]:=by
 cases x with
 |any=>rfl
 |v x=>exact Q4d hx
 |t xs=>exact Qp8.2 λy a=>Q4d (Qc0.1 hx y a)
end
section
variable {P:Program} {C:Ctx} {nt:Nat} {L:Lay} {ops:Array Oper} {ds:List Dir} {e:U4} {s:U6} {E:List (Nat×AVal)} {S:List (Nat×Obj)} {Q:Exit->Act->World->Prop}
theorem Mm{t:Nat}{x y:Code}(hb:lk E t=nb n)(ht:n=0->AW P C nt x E S Q)(hf:AW P C nt y E S Q):AW P C nt (.cond (.tmp t) x y) E S Q:=by
 intro R η a w d;have g:=d.ev t
 rw[hb]at g;have:∃b,a.eval (.tmp t)=.bool b/\(b=true->n=0):=by
  change ∃b,a.tmps.getD t undef=.bool b/\(b=true->n=0);generalize a.tmps.getD t undef=u at g
  cases g with|v _ _ h=>cases h with|c _ _ h=>cases h with|sem _ _ h _=>exact h
 obtain⟨b,ev,i⟩:=this
 cases b with
 |true=>exact wp_cond_true ev (ht (i rfl) R η a w d)
 |false=>exact Qx2 ev (hf R η a w d)
def yo:AVal->Option Nat
 |.v (.c (.d (.lst n _)))=>some n
 |.v (.c (.fl n _))=>some n
 |_=>none
theorem Z1z{X:Nat->Prop}{v:Value}{x:AVal}(h:yo x=some n)(hv:ARep w X η C v x):∃ad cap,v=.slice ad n cap/\(ad=none->n=0):=by
 unfold yo at h;split at h
 .cases h
  cases hv with|v _ _ hv=>cases hv with|c _ _ hv=>cases hv with|d _ _ hv=>cases hv with
   |nil a cap f=>exact⟨a,cap,rfl,λ_=>rfl⟩
   |lst b off n cap c e fz f es=>exact⟨_,_,rfl,λh=>by cases h⟩
 .cases h
  cases hv with|v _ _ hv=>cases hv with|c _ _ hv=>cases hv with|fl a n f hv=>cases hv with
   |nil a cap f=>exact⟨_,_,rfl,λ_=>rfl⟩
   |lst b off n cap c e fz f es=>exact⟨_,_,rfl,λh=>by cases h⟩
 .cases h
def yQ(x:Operand):Bool:=match x with|.const (.slice none 0 0)=>true|_=>false
theorem Z2u(h:yQ x=true):x=.const (.slice none 0 0):=by
 unfold yQ at h;split at h
 .rfl
 .cases h
theorem Q8v(ht:P.underlying t=some (.slice el))(d:Nat)(ad:Option Addr)(n cap:Nat)(w:World):(Op.equalIn (d+1) t (.slice ad n cap) (.slice none 0 0)).run P w=.ok ad.isNone w:=by
 cases ad<;>simp only[Op.equalIn,Qd9,Qc1 ht,Qd0,Qe9]<;>rfl
theorem Q8w(ht:P.underlying t=some (.slice el))(ad:Option Addr)(n cap:Nat)(w:World):(binOp .eql t (.slice ad n cap) (.slice none 0 0)).run P w=.ok (.bool ad.isNone) w:=by
 have h:binOp .eql t (.slice ad n cap) (.slice none 0 0)=(do pure (.bool (<-Op.equalIn Op.maxDepth t (.slice ad n cap) (.slice none 0 0)))):=rfl;have b:=Q8v ht 9999 ad n cap w
 rw[h,Qd9];have a:(Op.equalIn Op.maxDepth t (.slice ad n cap) (.slice none 0 0)).run P w=.ok ad.isNone w:=b
 rw[a];rfl
theorem Me(ht:P.underlying t=some (.slice el))(hk:Qu ds k=sE (nb n))(hop:CS (Y8 ops.toList k) t=some true)(hb:CU ops nt (U9 L ops ops.toList ds e s k) (Y8 ops.toList k)=true)(hx:yo (Y2 (U9 L ops ops.toList ds e s k) (UE (Y8 ops.toList k)))=some n)(hy:yQ (UD (Y8 ops.toList k))=true):K2 P C nt L ops ds e s k:=by
 unfold K2;rw[hk]
 simp only[CU,Qa4]at hb;obtain⟨⟨⟨p,y⟩,u⟩,r⟩:=hb
 obtain⟨z,b⟩:=Q2o hop;simp only[Qh8]at b
 refine KI rfl u (by simpa using r) λR η A B a w g m=>?_
 have j:=(J9 m (UE (Y8 ops.toList k))).1;rw[ZS g p]at j
 obtain⟨i,h,o,d⟩:=Z1z hx j;refine⟨.bool i.isNone,?_,.v _ _ (.c _ _ (.sem _ _ ⟨_,rfl,λl=>d (by simpa using l)⟩ rfl))⟩
 have x:a.eval (UD (Y8 ops.toList k))=.slice none 0 0:=by rw[Z2u hy];rfl
 have q:(eqGuard .eql t (UE (Y8 ops.toList k)) (UD (Y8 ops.toList k)) (.slice i n h) (.slice none 0 0)).run P w=.ok () w:=rfl;simp only[execOp,b,Qd9,x,o,q,Qd0,Q8w ht,Qe9]
def Ww(P:Program)(e:U4)(s:U6)(G5:List Nat)(rd:List Nat)(x:Operand)(y:AVal):Prop:=
 QB rd x=true/\((Y5 (Y2 e x) y/\y.closed=true)\/(∃k es n f,k∈G5/\Y2 e x=.v (.c (.own k))/\s k=some (.arr es n f)/\y=.v (.c (.d (.lst n f))))\/∃F,Y2 e x=ZX P F/\y=ZX P F)
theorem Q5T{f:Nat}(hcall:∀args w,(callFunc f args).run P w=.ok (.enter f args) w){xs:Array Operand}(hop:o.op=.call {callee:=.value fx,args:=xs,argTypes:=tys})(hfx:Y2 e fx=.v (.c (.clo f [])))(hrf:QB (QD o++Qo ops o) fx=true)(hspec:G3 P f args [] r [])(hlen:xs.size=args.length)(G5:List Nat)(hargs:∀j,j<args.length->Ww P e s G5 (QD o++Qo ops o) (xs.toList.getD j (.const undef)) (args.getD j .any))(hids:∀k∈G5,k∈WG e o)(hr:r.flat=true)(hdo:QL nt o=true)(hg:QX ops e o=some true):Wu P C nt ops o (JI ops o e r) e s:=by
 intro R η e0 A a w I a7 e3 x K Q hK;have hw:=UR (e:=e) x (λt ht=>I t (Qa9.2 (.inr ht))) hg
 rw[Qa2 hw];have a2:=(J9 x fx).1
 rw[ZS I hrf,hfx]at a2;have b2:=CM (w:=w) hop (HJ a2) hcall
 have Z:∀b,XS C A η b->b<w.heap.size:=by
  rintro b (⟨m,_⟩|m)
  .exact Qb6 (x.ok.lt b m) x.fr.size
  .exact x.lt m
 let X1:Nat->Prop:=λb=>XS C A η b/\∀k∈G5,s k≠none->b∉Y7 (η k)
 have c2:QS w w (XS C A η) X1:=λb _ p=>⟨rfl,λm=>p m.1⟩
 have c3:=hspec w X1 η (xs.map a.eval++(([]:List Nat).map η).toArray) (λb p=>Z b p.1) (λb ⟨i,y,q,_⟩=>by cases q) (λi y q=>by cases q) (λi j b q=>absurd rfl q) (by simp[hlen]) (λj M=>by
  have b3 : j<xs.size:=by omega
  have e1:(xs.map a.eval++(([]:List Nat).map η).toArray).getD j undef=a.eval (xs.toList.getD j (.const undef)):=by simp[Qa0,b3]
  rw[e1];obtain⟨g0,g⟩:=hargs j M
  have m:=(J9 x (xs.toList.getD j (.const undef))).1;rw[ZS I g0]at m
  rcases g with ⟨T,g2⟩|⟨k,es,n,fl,T,g2,g3,g4⟩|⟨F,T,g2⟩
  .exact ((T.1 _ _ _ _ _ m).mono (η':=η) c2 (λ_ _=>rfl)).free g2
  .rw [g2]at m
   rw[g4];have hv:a.eval (xs.toList.getD j (.const undef))=η k:=by
    generalize a.eval (xs.toList.getD j (.const undef))=u at m
    cases m with|v _ _ m=>cases m with|c _ _ m=>cases m with|own _ _ h _=>exact h
   rw[hv];have J:A k=some (.arr es n fl):=by rw[a7 k (hids k T)];exact g3
   have O:=x.st k _ J;have a0:∀b,b∈Y7 (η k)->¬X1 b:=λb p m=>m.2 k T (by rw[g3];simp) p
   refine .v _ _ (.c _ _ (.d _ _ ?_));generalize η k=u at O a0
   cases O with
   |nil ad es _=>exact .nil ad 0 fl
   |arr b n cap es c e _ G h2 h3 h4 h5 h6 h7=>
    refine .lst b 0 n cap c e _ fl es (a0 b (by simp[Y7];omega)) G h3 (by rw[h2,Qd1];exact Qb3 _ h3) h6 λi j q M=>?_
    rw[Qd1];exact(h7 i j q M).mono λb p hX=>⟨rfl,λm=>hX m.1⟩
  .rw [T]at m
   rw[g2];have a3:Qg P F C.w0 C.D C.X (a.eval (xs.toList.getD j (.const undef)))/\(a.eval (xs.toList.getD j (.const undef))).oneCell'=true:=by
    generalize a.eval (xs.toList.getD j (.const undef))=u at m
    cases m with|v _ _ h=>cases h with|c _ _ h=>cases h with|sem _ _ h G=>exact⟨h,G⟩
   obtain⟨⟨ff,V,b6,B,b8⟩,U⟩:=a3;refine .v _ _ (.c _ _ (.sem _ _ ⟨ff,V,b6,B,?_⟩ U))
   intro w1 X2 vs N r2 hF c1 a4 b9 b5 b7 z;have a5 : w.heap.size<=w1.heap.size:=c1
   have Y:∀b,¬(Qd ([]:List (Nat×Obj)) w X1 η).D b:=by rintro b ⟨i,y,q,_⟩;cases q
   refine b8 w1 X2 vs N r2 hF (Qc4 x.fr.size a5) (λb p hD=>?_) b9 (λb p hD=>?_) b7 z
   .have H:b<w.heap.size:=Qb6 p x.fr.size
    exact(a4 b H (Y b)).trans (x.fr.block b p λhM=>hD (x.ok.md b hM))
   .have H:b<w.heap.size:=Qb6 p x.fr.size
    rw[b5 b H (Y b)];have a6:∀i y,A i=some y -> b∉Y7 (η i):=by
     intro i y q a8;rcases x.ow i y b q a8 with ⟨_,G⟩|G|G
     .exact hD G
     .exact hD (x.ok.md b G)
     .omega
    constructor
    .rintro ⟨⟨m,_⟩|⟨i,y,q,a8⟩,_⟩
     all_goals grind
    .refine λm=>⟨.inl ⟨m,hD⟩,λk hk J=>?_⟩
     obtain⟨y,b1⟩:=Qa7.1 J;exact a6 k y (by rw[a7 k (hids k hk)];exact b1))
 unfold Oper.wp;rw[b2]
 show Calls P f _ w _;refine c3.mono λen w' hh=>?_
 obtain⟨v,η',rfl,p⟩:=hh;have W:Stp (λ_=>False) w w':=p.stp.mono λb _ hM=>by obtain⟨i,y,q,_⟩:=hM;cases q
 have hs:SR.sto {v:=r} o.dst A=A:=by funext i;simp[SR.sto]
 have he:SR.eta {v:=r} o.dst v η=η:=by funext i;simp[SR.eta]
 have b4:SR.rng {v:=r} o.dst R=R:=by funext i;simp[SR.rng]
 have:=x.step o.dst (YH hdo) {v:=r} v w' (λ_=>False) W (λb p=>p.elim) (λo dd O=>by cases O) (λk o O=>by cases O)
  (λ_=>by rw[hs,he];refine⟨p.res.flat hr,λj M=>?_⟩;simp only at M;rw[Z7m hr]at M;cases M)
 rw[hs,he,b4]at this;refine hK η _ w' ?_
 have hu:ZC (JI ops o e r).l A=A:=by funext i;rfl
 rw[hu];exact this.wider λi q=>.inl q
def Mj(P:Program)(e:U4)(s:U6)(G5:List Nat)(rd:List Nat):List Operand->List AVal->Prop
 |[],[]=>True
 |x::xs,y::ys=>Ww P e s G5 rd x y/\Mj P e s G5 rd xs ys
 |_,_=>False
theorem Mj.spec{xs:List Operand}{ys:List AVal}(h:Mj P e s G5 rd xs ys):xs.length=ys.length/\∀j,j<ys.length->Ww P e s G5 rd (xs.getD j (.const undef)) (ys.getD j .any):=by
 induction xs generalizing ys with
 |nil=>cases ys with
  |nil=>exact⟨rfl,λj a=>by simp at a⟩
  |cons y ys=>exact h.elim
 |cons x xs ih=>cases ys with
  |nil=>exact h.elim
  |cons y ys=>
   obtain⟨b,c⟩:=h
   grind
theorem Ww.own(k:Nat)(h0:QB rd x=true)(h1:G5.contains k=true)(h2:Y2 e x=.v (.c (.own k)))(h3:s k=some (.arr es n f)):Ww P e s G5 rd x (.v (.c (.d (.lst n f)))):=
 ⟨h0,.inr (.inl ⟨k,es,n,f,by simpa using h1,h2,h3,rfl⟩)⟩
theorem Ww.sem{F:List AVal->AVal->Prop}(h0:QB rd x=true)(h1:Y2 e x=ZX P F):Ww P e s G5 rd x (ZX P F):=⟨h0,.inr (.inr ⟨F,h1,rfl⟩)⟩
def callBB(ops:Array Oper)(nt:Nat)(e:U4)(o:Oper)(f:Nat)(r:AVal)(G5:List Nat):Bool:=
 Pp o&&Ch f (Y2 e (UJ o))&&QB (QD o++Qo ops o) (UJ o)&&r.flat&&G5.all (λk=>(WG e o).contains k)&&QL nt o&&(QX ops e o==some true)
theorem Z6M{f:Nat}(hspec:G3 P f args [] r [])(hcall:∀args w,(callFunc f args).run P w=.ok (.enter f args) w)(G5:List Nat)(hk:Qu ds k=sE r)(hb:callBB ops nt (U9 L ops ops.toList ds e s k) (Y8 ops.toList k) f r G5=true)(hargs:Mj P (U9 L ops ops.toList ds e s k) (QH L ops ops.toList ds e s k) G5 (QD (Y8 ops.toList k)++Qo ops (Y8 ops.toList k)) (callXs (Y8 ops.toList k)).toList args):K2 P C nt L ops ds e s k:=by
 unfold K2;rw[hk]
 simp only[callBB,Qa4]at hb;obtain⟨⟨⟨⟨⟨⟨c,l⟩,q⟩,o⟩,p⟩,d⟩,i⟩:=hb
 obtain⟨b,a⟩:=Ci c;obtain⟨m,h⟩:=hargs.spec
 exact Q5T hcall a (Q1m l) q hspec (by simpa using m) G5 (λj g=>h j g) (λk hk=>by simpa using Qc0.1 p k hk) o d (by simpa using i)
end
end
section
section
variable {P:Program} {C:Ctx} {nt:Nat} {L:Lay} {ops:Array Oper} {ds:List Dir} {e:U4} {s:U6}
theorem Z6L{f:Nat}(hspec:G3 P f args Si r So)(hcall:∀args w,(callFunc f args).run P w=.ok (.enter f args) w)(m:List (Nat×Nat))(extra:List Nat)(xs:List Operand)(hk:Qu ds k=cE m extra r Si So)(hb:Go.Ab.callB ops nt (U9 L ops ops.toList ds e s k) (Y8 ops.toList k) f m r Si So=true)(hsi:Si.map (λp=>QH L ops ops.toList ds e s k (J0 m p.1))=Si.map (λp=>some (p.2.ren (J0 m))))(hxs:(Go.Ab.callXs (Y8 ops.toList k)).toList=xs)(hargs:Xh C nt (U9 L ops ops.toList ds e s k) (QH L ops ops.toList ds e s k) Si (J0 m) (QD (Y8 ops.toList k)++Qo ops (Y8 ops.toList k)) (WG (U9 L ops ops.toList ds e s k) (Y8 ops.toList k)++(Si.map (λp=>J0 m p.1)++extra)) xs args):K2 P C nt L ops ds e s k:=
 Q4m hspec hcall m extra hk hb hsi (hxs ▸ hargs)
theorem Mf{f:Nat}(hspec:G3 P f args [] r [])(hcall:∀args w,(callFunc f args).run P w=.ok (.enter f args) w)(G5:List Nat)(xs:List Operand)(hk:Qu ds k=sE r)(hb:Go.Ab.callBB ops nt (U9 L ops ops.toList ds e s k) (Y8 ops.toList k) f r G5=true)(hxs:(Go.Ab.callXs (Y8 ops.toList k)).toList=xs)(hargs:Mj P (U9 L ops ops.toList ds e s k) (QH L ops ops.toList ds e s k) G5 (QD (Y8 ops.toList k)++Qo ops (Y8 ops.toList k)) xs args):K2 P C nt L ops ds e s k:=
 Z6M hspec hcall G5 hk hb (hxs ▸ hargs)
def BI(s:U6)(Si:List (Nat×Obj))(m:Nat->Nat)(ids cids:List Nat):Bool:=Si.all λp=>(s (m p.1)).isSome&&ids.contains (m p.1) && !cids.contains (m p.1)
theorem JH{cids:List Nat}(h:BI s Si m ids cids=true):(∀p∈Si,∃o1,s (m p.1)=some o1)/\(∀p∈Si,m p.1∈ids)/\∀p∈Si,m p.1∉cids:=by
 refine⟨λp a=>?_,λp a=>?_,λp a=>?_⟩<;>(have:=Qc0.1 h p a;simp only[Qa4,Qh7]at this)
 .exact Qm3.1 this.1.1
 all_goals grind
theorem UO{F:List AVal->AVal->Prop}(hx:QB rd x=true)(hv:Y2 e x=ZX P F)(hsi:BI s Si m ids []=true):YJ C nt e s Si m rd ids x (ZX P F):=
 YJ.sem hx hv (JH hsi).1 (JH hsi).2.1
def HV(s:U6):List Nat->List (List CV)->Prop
 |[],[]=>True
 |i::is,c::cs=>(∃ro,s i=some (.box ro c))/\HV s is cs
 |_,_=>False
theorem Q3I{is:List Nat}{cs:List (List CV)}(h:HV s is cs):is.length=cs.length/\∀k,k<cs.length->∃ro,s (is.getD k 0)=some (.box ro (cs.getD k [])):=by
 induction is generalizing cs with
 |nil=>cases cs with
  |nil=>exact⟨rfl,λk a=>by simp at a⟩
  |cons c cs=>exact h.elim
 |cons i is ih=>cases cs with
  |nil=>exact h.elim
  |cons c cs=>
   obtain⟨b,d⟩:=h
   grind
theorem Z6V{f:Nat}(hcall:∀args w,(callFunc f args).run P w=.ok (.enter f args) w){F:List AVal->AVal->Prop}(cs:List (List CV))(hspec:∀args r,F args r->G3 P f (args++Ws cs) (Zs cs) r (Zs cs))(hres:∀args r,F args r->r.closed=true)(hx:QB rd x=true)(cids:List Nat)(hv:Y2 e x=.v (.c (.clo f cids)))(hnd:(Yc cids&&cs.all (λc=>c.all CV.closed)&&cids.all (λi=>ids.contains i))=true)(hbox:HV s cids cs)(hsi:BI s Si m ids cids=true):YJ C nt e s Si m rd ids x (ZX P F):=by
 simp only[Qa4]at hnd;obtain⟨d,b⟩:=Q3I hbox
 exact YJ.clo hcall hspec hres hx hv d hnd.1.1 b hnd.1.2 (JH hsi).1 (JH hsi).2.1 (λi a=>by simpa using Qc0.1 hnd.2 i a) (JH hsi).2.2
end
noncomputable def Vs{R:Type}(p:Prop)(x:Option R):Option R:= @gd R p (Classical.propDecidable p) x
theorem Q1G{R:Type}{p:Prop}{x:Option R}{r:R}(h:Vs p x=some r):p/\x=some r:= @Ua R p (Classical.propDecidable p) x r h
noncomputable def Ju{R:Type}(n:Nat)(x y:Option R):Option R:=match n with
 |0=>Vs (x=y) x
 |_+1=>y
theorem HT{R:Type}{x y:Option R}{r:R}(h:Ju n x y=some r)(hn:n=0):x=some r:=by subst hn;exact(Q1G h).2
theorem HU{R:Type}{x y:Option R}{r:R}(h:Ju n x y=some r):y=some r:=by
 cases n with
 |zero=>obtain⟨a,b⟩:=Q1G h;exact a ▸ b
 |succ n=>exact h
end
section
def Yx(s:U6)(es:Nat):AVal->Option (Nat×Nat×Nat)
 |.v (.c (.own id))=>match s id with
  |some (.arr es' N _)=>if es=es' then some (id,0,N)else none
  |_=>none
 |.v (.c (.sub id es' lo n))=>if es=es' then some (id,lo,n)else none
 |_=>none
section
variable {P:Program} {L:Lay} {C:Ctx} {nt:Nat} {R:Nat->Prop} {η:Nat->Value} {e:U4} {s:U6} {a:Act} {w:World}
inductive VOk (w:World) (X:Nat->Prop) (η:Nat->Value) (id es N:Nat) (f:Nat->List DVal) (lo n:Nat):Value->Prop
 | some (b cap:Nat) (c:Array Value) (e' : TypeId):η id=.slice (some ⟨b,0,none⟩) N cap->w.heap[b]?=some (.cells c e' (0,0))->c.size=cap*es->N<=cap->cap<=maxLen ->
   (∀i,i<N->(f i).length=es)->(∀i j,i<N->j<es->DRep w X (c.getD (i*es+j) undef) ((f i).getD j .any))->lo+n<=N->lo<cap ->
   VOk w X η id es N f lo n (.slice (some ⟨b,lo*es,none⟩) n (cap-lo))
 |nil (ad ad' : Option Addr):η id=.slice ad N N->lo=N->n=0->VOk w X η id es N f lo n (.slice ad' 0 0)
theorem Mu(h:Conc C nt R η e s a w)(hx:Yx s es (Y2 e x)=some (id,lo,n))(hs:s id=some (.arr es N f)):
  VOk w (XS C s η) η id es N f lo n (a.eval x):=by
 have g:=(J9 h x).1;have d:=h.st id _ hs
 unfold Yx at hx;split at hx
 .rename_i o l
  split at hx
  .rename_i j p t i
   split at hx
   .cases hx
    rw[hs]at i;cases i
    rw[l]at g;rw[WA g]
    generalize hu:η id=u at d
    cases d with
    |nil ad=>exact .nil ad ad hu rfl rfl
    |arr b _ cap _ c e' _ h1 h2 h3 h4 h5 h6 h7=>
     have:=VOk.some (w:=w) (X:=XS C s η) (η:=η) (id:=id) (f:=f) (lo:=0) b cap c e' hu h1 h2 h3 h4 h6 h7 (Nat.le_of_eq (Qd1 _)) h5
     grind
   .cases hx
  .cases hx
 .rename_i o j q r l
  split at hx
  .rename_i m
   cases hx
   subst m;rw[l]at g
   generalize a.eval x=v at g
   cases g with|v _ _ g=>cases g with|c _ _ g=>cases g with
    |sub b p cap _ _ _ _ hη h1 h2=>
     rw[hη]at d
     cases d with
     |nil=>omega
     |arr _ _ _ _ c e' _ g1 g2 g3 g4 g5 g6 g7=>exact .some b cap c e' hη g1 g2 g3 g4 g6 g7 h1 h2
    |subN ad ad' p _ _ hη=>
     rw[hη]at d
     cases d with
     |nil=>exact .nil _ _ hη rfl rfl
     |arr _ _ _ _ c e' _ g1 g2 g3 g4 g5 g6 g7=>exact .nil _ _ hη rfl rfl
  .cases hx
 .cases hx
theorem VOk.slice{X:Nat->Prop}{v:Value}(h:VOk w X η id es N f lo n v):∃ad cap,v=.slice ad n cap/\(n<=cap)/\lo+n<=N:=by
 cases h with
 |some b cap c e' h1 h2 h3 h4 h5 h6 h7 h8 h9=>exact⟨_,_,rfl,by omega,h8⟩
 |nil ad ad' h1 h2 h3=>exact⟨_,_,by rw[h3],by omega,by omega⟩
theorem VOk.part{X X' : Nat->Prop}{ad:Option Addr}{id es N lo n cap:Nat}{f:Nat->List DVal}(h:VOk w X η id es N f lo n (.slice ad n cap)){l u:Nat}(hlu:l<=u)(hu:lo+u<=N):
  ARep w X' η C (.slice (if cap=l then ad else ad.map (·.add (l*es))) (u-l) (cap-l)) (.v (.c (.sub id es (lo+l) (u-l)))):=by
 generalize hv:Value.slice ad n cap=v at h
 cases h with
 |some b cap' c e' h1 h2 h3 h4 h5 h6 h7 h8 h9=>
  cases hv
  by_cases hc:cap' - lo=l
  .have d:u-l=0:=by omega
   have g:cap' - lo-l=0:=by omega
   have j:lo+l=N:=by omega
   have i:cap'=N:=by omega
   rw[d,g,j];subst i
   exact .v _ _ (.c _ _ (.subN _ _ _ _ _ h1))
  .rw [Qa1 hc]
   simp only[Qj0,add_lit];have d:lo*es+l*es=(lo+l)*es:=by rw[Qf8]
   have g:cap' - lo-l=cap' - (lo+l):=by omega
   rw[d,g];exact .v _ _ (.c _ _ (.sub b N cap' id es (lo+l) (u-l) h1 (by omega) (by omega)))
 |nil ad0 ad' h1 h2 h3=>
  cases hv
  have d:u-l=0:=by omega
  have g:lo+l=N:=by omega
  rw[d,g,Nat.zero_sub];exact .v _ _ (.c _ _ (.subN ad0 _ N id es h1))
theorem Q8a(h:Conc C nt R η e s a w){lo:Option Operand}(hl:oI e lo=some l)(hu:oI e hi=some u)(n cap:Nat)(hc:0<=l.getD 0/\l.getD 0<=u.getD n/\u.getD n<=cap):
  (Instr.sliceBounds true n cap (lo.map a.eval) (hi.map a.eval) none).run P w=.ok ((l.getD 0).toNat,(u.getD n).toNat,cap) w:=by
 rcases Tx h hl with ⟨h1,h2⟩|⟨k,m,h1,h2⟩<;>rcases Tx h hu with ⟨h3,h4⟩|⟨k',m',h3,h4⟩<;>subst h2<;>subst h4<;>simp only[Qq5,Option.getD_none]at hc
 .subst h1;subst h3
  simp[Instr.sliceBounds]
 .subst h1
  simp[Instr.sliceBounds,h3,Ul m' cap _ ⟨hc.2.1,by omega⟩]
 .subst h3
  have b:=Ul (P:=P) (w:=w) m n .sliceB ⟨hc.1,by omega⟩ k;simp[Instr.sliceBounds,h1,b]
 .have b:=Ul (P:=P) (w:=w) m m'.toNat .sliceB ⟨hc.1,by omega⟩ k
  simp[Instr.sliceBounds,h1,h3,Ul m' cap _ ⟨by omega,by omega⟩,b]
theorem Q6R(hL:y4 P L)(h:Conc C nt R η e s a w)(hd:∀ x,o.dst=some x->x<nt){lo:Option Operand}(hop:o.op=.slice t x lo hi none){ti:TI}(ht:L t=some ti){el:Nat}(hk:ti.kind=.slice el)(hte:L el=some te)(hl:oI e lo=some l)(hu:oI e hi=some u)(hx:Yx s te.size (Y2 e x)=some (id,lo0,n))(hs:s id=some (.arr te.size N f))(hc:0<=l.getD 0/\l.getD 0<=u.getD n/\(lo0:Int)+u.getD n<=N):
  y3 P C nt R η e s a w o {v:=.v (.c (.sub id te.size (lo0+(l.getD 0).toNat) ((u.getD n).toNat-(l.getD 0).toNat)))}:=by
 obtain⟨i,dd,z,q⟩:=hL t ti ht;obtain⟨G,F,J,r⟩:=hL el te hte
 have g:=q.kind;rw[hk]at g
 simp only[ZL]at g;have d:=Mu h hx hs
 obtain⟨B,m,ev,I,H⟩:=d.slice;have p:(u.getD n)<=m:=by
  rw[ev]at d;generalize hv:Value.slice B n m=v at d
  cases d with
  |some b cap' c e' h1 h2 h3 h4 h5 h6 h7 h8 h9=>cases hv;omega
  |nil ad0 ad' h1 h2 h3=>cases hv;omega
 rw[ev]at d;have A:=Q8a (P:=P) h hl hu n m ⟨hc.1,hc.2.1,p⟩
 have D:∀j∈(AVal.v (.c (.sub id te.size (lo0+(l.getD 0).toNat) ((u.getD n).toNat-(l.getD 0).toNat)))).refs,R j:=by
  intro j y;simp[AVal.refs,TV.refs,CV.refs]at y
  rw[y];exact(h.sr id _ hs).1
 refine QY h hd ?_ (d.part (l:=(l.getD 0).toNat) (u:=(u.getD n).toNat) (by omega) (by omega)) D;simp only[execOp,hop,Qd9,Instr.sliceAt,Qc1 q.und,Qd0,g,Instr.slice,ev,Qr2,A,Yq r,Qe9]
theorem Q6S(hL:y4 P L)(h:Conc C nt R η e s a w)(hd:∀x,o.dst=some x->x<nt)(hop:o.op=.call {callee:=.builtin .len,args:= #[x],argTypes:= #[t]}){ti:TI}(ht:L t=some ti){el:Nat}(hk:ti.kind=.slice el)(hx:Yx s es (Y2 e x)=some (id,lo,n))(hs:s id=some (.arr es N f)):y3 P C nt R η e s a w o {v:=vi n}:=by
 obtain⟨i,dd,z,c⟩:=hL t ti ht;have b:=c.kind
 rw[hk]at b;simp only[ZL]at b
 obtain⟨g,d,ev,_⟩:=(Mu h hx hs).slice;refine QY h hd (v:=.int .i64 n) ?_ (WF _ _ _) (by simp[vi,AVal.refs,TV.refs,CV.refs])
 simp[execOp,hop,resolve,invoke,builtin,Builtin.len_,Qc1 c.und,b,ev,goInt]
theorem Q6T(hL:y4 P L)(h:Conc C nt R η e s a w){o:Oper}(hd:∀ x,o.dst=some x->x<nt){t:TypeId}{x i:Operand}(hop:o.op=.indexAddr t x i){ti:TI}(ht:L t=some ti){el:Nat}(hk:ti.kind=.slice el){te:TI}(hte:L el=some te){m:Int}(hi:ZK (Y2 e i)=some m){id lo n N:Nat}{f:Nat->List DVal}(hx:Yx s te.size (Y2 e x)=some (id,lo,n))(hs:s id=some (.arr te.size N f))(hc:0<=m/\m<n):
  y3 P C nt R η e s a w o {v:=.v (.c (.pte id te.size (lo+m.toNat) 0))}:=by
 obtain⟨B,d1,y,p⟩:=hL t ti ht;obtain⟨D,z,A,g⟩:=hL el te hte
 have d:=p.kind;rw[hk]at d
 simp only[ZL]at d;subst d
 obtain⟨k,u⟩:=PR h hi;have l:=Mu h hx hs
 generalize ev:a.eval x=v at l
 cases l with
 |some b cap c e' h1 h2 h3 h4 h5 h6 h7 h8 h9=>
  refine QY h hd (v:=.pointer (some ⟨b,(lo+m.toNat)*te.size+0,none⟩)) ?_ (.v _ _ (.c _ _ (.pte b N cap _ _ _ _ h1))) (λj q=>by simp[AVal.refs,TV.refs,CV.refs]at q;rw[q];exact(h.sr id _ hs).1);have r:lo*te.size+m.toNat*te.size=(lo+m.toNat)*te.size:=by rw[Qf8]
  simp[execOp,hop,Instr.indexAt,u,ev,asIntOf,Qc1 p.und,hc,Yq g,add_lit,r]
 |nil ad0 ad' h1 h2 h3=>omega
theorem gV(h:Conc C nt R η e s a w)(hd:∀x,o.dst=some x->x<nt){ob ob' : Obj}(hs:s id=some ob)(hro:ob.ro=false)(hro' : ob'.ro=false)(hrf:∀j∈ob'.refs,R j){w' : World}{v:Value}{x:AVal}(hstp:Stp (λb=>b∈Y7 (η id)) w w')(hrun:(execOp a.eval o).run P w=.ok (.value v) w')(hob:∀X',QS w w' (XS C s η) X' -> ORep w' X' η C (η id) ob')(hv:∀X',ARep w' X' η C v x)(hx:∀j∈x.refs,R j):y3 P C nt R η e s a w o {v:=x,upd:=some (id,ob')}:=by
 have m:=Jj (C:=C) (s:=s) (η:=η) {v:=x,upd:=some (id,ob')} o.dst v (λb=>b∈Y7 (η id)) hstp (λb l=>⟨id,ob,hs,l⟩) (λ_ _ d=>by cases d)
  (λk o d=>by cases d;rw[hs];simp)
 have c:SR.eta {v:=x,upd:=some (id,ob')} o.dst v η=η:=by funext i;simp[SR.eta]
 refine⟨v,w',.inl hrun,?_⟩;refine h.step o.dst hd _ _ _ (λb=>b∈Y7 (η id)) hstp ?_ (λ_ _ d=>by cases d) ?_ (λ_=>⟨?_,λj p=>.inl (hx j p)⟩)
 .intro b l
  refine⟨⟨id,.inr ⟨ob',rfl⟩,by rw[hs];simp,l⟩,?_⟩;rcases h.ow id ob _ hs l with ⟨g,_⟩|g
  .rw [hro]at g;cases g
  .exact g
 .intro k q d
  cases d
  refine⟨⟨ob,hs,hro⟩,hro',by simp,hrf,?_⟩;rw[c]
  rw[c]at m;exact hob _ m
 .rw [c];exact hv _
theorem Z0r{X' : Nat->Prop}{cap b:Nat}{g:Nat->List DVal}{c:Array Value}{e' : TypeId}{news:List Value}(hX:QS w (w.setRow b (c.toList.take (lo*es)++news++c.toList.drop (lo*es+news.length)).toArray) (XS C s η) X')(h1:η id=.slice (some ⟨b,0,none⟩) N cap)(h2:w.heap[b]?=some (.cells c e' (0,0)))(h3:c.size=cap*es)(h4:N<=cap)(h5:cap<=maxLen)(h50:0<cap)(h6:∀ i,i<N->(f i).length=es)(h7:∀ i j,i<N->j<es->DRep w (XS C s η) (c.getD (i*es+j) undef) ((f i).getD j .any))(hk:lo+k<=N)(hn:news.length=k*es)(g1:∀ i,i<k->(g i).length=es)(g2:∀ i j,i<k->j<es->DRep w (XS C s η) (news.getD (i*es+j) undef) ((g i).getD j .any)):
  ORep (w.setRow b (c.toList.take (lo*es)++news++c.toList.drop (lo*es+news.length)).toArray) X' η C (η id) (.arr es N λi=>if lo<=i/\i<lo+k then g (i-lo)else f i):=by
 have h:lo*es+news.length<=c.size:=by rw[hn,h3, <-Qf8];exact Qb3 _ (by omega)
 obtain⟨u,v⟩:=RF c (lo*es) news h;rw[h1]
 refine .arr b N cap es _ e' _ (Qw2 w b c _ e' _ h2) (by rw[u];exact h3) h4 h5 h50 (λi l=>?_) (λi j l r=>?_)
 .by_cases hc:lo<=i/\i<lo+k
  .simp only[hc,and_self,Qh8];exact g1 _ (by omega)
  .simp only[hc,Qh2];exact h6 i l
 .rw [v]
  have d:∀{p q:Nat},p<q->p*es+es<=q*es:=λ{p q} hpq=>by
   have:(p+1)*es<=q*es:=Qb3 _ hpq
   grind
  by_cases hc:lo<=i/\i<lo+k
  .have D:lo*es<=i*es:=Qb3 _ hc.1
   have z:=d hc.2;rw[Qf8]at z
   rw[Qa2 ⟨by omega,by omega⟩];simp only[hc,and_self,Qh8]
   have y:i*es+j-lo*es=(i-lo)*es+j:=by rw[Nat.sub_mul];omega
   rw[y];exact(g2 (i-lo) j (by omega) r).mono λx o hn=>hX x o hn
  .rw [Qa1]
   .simp only[hc,Qh2];exact(h7 i j l r).mono λx o hn=>hX x o hn
   .rintro ⟨A,B⟩
    rcases Qd3 i lo with m|t
    .have:=d m;omega
    .have:(lo+k)*es<=i*es:=Qb3 _ (by omega)
     rw[Qf8]at this;omega
theorem Q8j{cap b:Nat}(h1:η id=.slice (some ⟨b,0,none⟩) N cap)(h:0<cap)(cs:Array Value):Stp (λx=>x∈Y7 (η id)) w (w.setRow b cs):=
 (setRow_stp w b cs).mono λx _ c=>by have e:x=b:=c;rw[h1,e];simp[Y7];omega
theorem Z3j{g:Nat->List DVal}(h:k=0):(λi=>if lo<=i/\i<lo+k then g (i-lo)else f i)=f:=by
 grind
def YV(x y:DVal):Prop:=∀w X v,DRep w X v x->DRep w X v y
theorem YV.refl(x:DVal):YV x x:=λ_ _ _ h=>h
theorem YV.nil(f g:Nat->List DVal):YV (.lst 0 f) (.lst 0 g):=λw X v h=>by
 cases h with
 |nil a cap=>exact .nil a cap g
 |lst b off n cap c e fz f es=>exact .nil _ cap g
def Mi:List DVal->List DVal->Prop
 |[],[]=>True
 |x::xs,y::ys=>YV x y/\Mi xs ys
 |_,_=>False
theorem Mi.spec{xs ys:List DVal}(h:Mi xs ys):xs.length=ys.length/\∀j,YV (xs.getD j .any) (ys.getD j .any):=by
 induction xs generalizing ys with
 |nil=>cases ys with
  |nil=>exact⟨rfl,λj=>YV.refl _⟩
  |cons y ys=>exact h.elim
 |cons x xs ih=>cases ys with
  |nil=>exact h.elim
  |cons y ys=>
   obtain⟨g,c⟩:=h;obtain⟨d,b⟩:=ih c
   refine⟨by simp[d],λj=>?_⟩
   cases j with
   |zero=>exact g
   |succ j=>exact b j
theorem Q6U(hL:y4 P L)(h:Conc C nt R η e s a w){o:Oper}(hd:∀ x,o.dst=some x->x<nt){t:TypeId}{x:Operand}(hop:o.op=.call { callee:=.builtin .clear,args:= #[x],argTypes:= #[t] }){ti:TI}(ht:L t=some ti){el:Nat}(hk:ti.kind=.slice el){te:TI}(hte:L el=some te)(h0:0<te.size)(hzl:te.zero.length=te.size){zd0 zd:List DVal}(hz:VE te.zero=some zd0)(hle:Mi zd0 zd){id lo n N:Nat}{f:Nat->List DVal}(hx:Yx s te.size (Y2 e x)=some (id,lo,n))(hs:s id=some (.arr te.size N f)):
  y3 P C nt R η e s a w o {v:=.any,upd:=some (id,.arr te.size N λi=>if lo<=i/\i<lo+n then(λ_=>zd) (i-lo)else f i)}:=by
 obtain⟨i,dd,z,A⟩:=hL t ti ht;obtain⟨i2,d2,d,p⟩:=hL el te hte
 have D:=A.kind;rw[hk]at D
 simp only[ZL]at D;subst D
 have U:=Mu h hx hs;have Z:=h.st id _ hs
 have I:∀j∈(AVal.any).refs,R j:=λj G=>by cases G
 have Y:∀v,a.eval x=v->(∃ad F,v=.slice ad 0 F)->n=0->y3 P C nt R η e s a w o {v:=.any,upd:=some (id,.arr te.size N λi=>if lo<=i/\i<lo+n then(λ_=>zd) (i-lo)else f i)}:=by
  rintro v ev ⟨ad,F,rfl⟩ V;have m:(execOp a.eval o).run P w=.ok (.value (.tuple #[])) w:=by
   cases ad<;>simp[execOp,hop,resolve,invoke,builtin,Builtin.clear_,Qc1 A.und,ev]
  refine gV h hd hs rfl rfl (by simp[Obj.refs]) (Stp.refl _ _) m (λX' W=>?_) (λX'=>.any _) I;have H:ORep w X' η C (η id) (.arr te.size N f):=Z.mono W (λj G=>rfl) λb hb=>rfl
  rw[<-Z3j (k:=n) (lo:=lo) (f:=f) (g:=λ_=>zd) V]at H;exact H
 generalize ev:a.eval x=v at U
 cases U with
 |some b F c e' h1 h2 h3 h4 h5 h6 h7 h8 h9=>
  by_cases V:n=0
  .grind
  .have l:d.cells.size=te.size:=by rw[(p.zrep w (XS C s η) η C).1,hzl]
   obtain⟨B,T⟩:=LC (p.zrep w (XS C s η) η C) hz;have O:(Builtin.zeroCells d.cells n).toList.length=n*te.size:=by simp[Builtin.zeroCells,l]
   have J:∀u∈(Builtin.zeroCells d.cells n).toList,u.oneCell'=true:=by
    intro u hu;simp only[Builtin.zeroCells,Array.toList_map,Qc5]at hu
    obtain⟨q,hq,rfl⟩:=hu;have r:q % d.cells.size<d.cells.size:=Qr5 _ (by rw[l];exact h0)
    have:=(T (q % d.cells.size) (by rw[B];exact r)).one
    simpa[r]using this
   have M:lo*te.size+0+(Builtin.zeroCells d.cells n).toList.length<=c.size:=by rw[O,h3,Qh3, <-Qf8];exact Qb3 _ (by omega)
   have y:=Qq1 P b (lo*te.size) e' (Builtin.zeroCells d.cells n).toList 0 c w h2 M J;simp only[Qh3]at y
   have m:(execOp a.eval o).run P w=.ok (.value (.tuple #[])) (w.setRow b (c.toList.take (lo*te.size)++(Builtin.zeroCells d.cells n).toList++c.toList.drop (lo*te.size+(Builtin.zeroCells d.cells n).toList.length)).toArray):=by
    simp[execOp,hop,resolve,invoke,builtin,Builtin.clear_,Qc1 A.und,ev,RP p,y,V]
   refine gV h hd hs rfl rfl (by simp[Obj.refs]) (Q8j h1 (by omega) _) m (λX' W=>?_) (λX'=>.any _) I;refine Z0r W h1 h2 h3 h4 h5 (by omega) h6 h7 h8 O (λi _=>by rw[<-hle.spec.1,B,l]) λi j hi G=>?_
   have r:i*te.size+j<n*te.size:=by
    have:(i+1)*te.size<=n*te.size:=Qb3 _ hi
    grind
   have hm:(i*te.size+j) % te.size=j:=by rw[Ql7,Qm0,Qo2 G]
   have hg:(Builtin.zeroCells d.cells n).toList.getD (i*te.size+j) undef=d.cells.getD j undef:=by
    have:=zO (n*d.cells.size) (λi=>d.cells[i % d.cells.size]!) (i*te.size+j) (by rw[l];exact r)
    have e1:(Builtin.zeroCells d.cells n).toList.getD (i*te.size+j) undef=(Builtin.zeroCells d.cells n).getD (i*te.size+j) undef:=by simp[Qa0,Qd4]
    rw[e1];unfold Builtin.zeroCells
    rw[this,l,hm];have:j<d.cells.size:=by rw[l];exact G
    simp[this]
   rw[hg];exact hle.spec.2 j _ _ _ (T j (by rw[B,l];exact G))
 |nil ad0 ad' h1 h2 h3=>exact Y _ ev ⟨_,_,rfl⟩ h3
end
end
section
section
variable {P:Program} {C:Ctx} {nt:Nat} {L:Lay} {ops:Array Oper} {ds:List Dir} {e:U4} {s:U6}
def rE(r:SR):Array Oper->Oper->U4->Eff:=λops o e=>GO ops o e r r.v
theorem UV(hdo:QL nt o=true){r:SR}(hg:QX ops e o=some true)(hsnd:∀ (R:Nat->Prop) (η:Nat->Value) (e0:U4) (s0:U6) (a:Act) (w:World),(∀ x ∈ o.op.operands.toList,Y2 e0 x=Y2 e x)->(∀ x ∈ o.op.operands.toList,∀ i ∈ (Y2 e x).refs,s0 i=s i)->(∀ d,o.dst=some d->r.new≠none->¬ R d) ->
   Conc C nt R η e0 s0 a w->y3 P C nt R η e0 s0 a w o r):Wu P C nt ops o (GO ops o e r r.v) e s:=by
 intro R η e0 s0 a w j m A b K Q M;have p:∀x∈o.op.operands.toList,Y2 e0 x=Y2 e x:=by
  intro x p
  cases x with
  |tmp t=>exact j t (Qa9.2 (.inl (Qp5.2 ⟨_,p,rfl⟩)))
  |const v=>rfl
  |global g=>rfl
  |func f=>rfl
 have y:∀x∈o.op.operands.toList,∀i∈(Y2 e x).refs,s0 i=s i:=λx p i B=>m i (Qb8.2 ⟨x,p,B⟩)
 have D:=UR (e:=e) b (λt G=>j t (Qa9.2 (.inr G))) hg;rw[Qa2 D]
 have I:=hsnd R η e0 s0 a w p y (λd F J=>A d (by
  obtain⟨N,u⟩:=Qa7.1 J;simp[GO,SR.nw,u,F])) b
 refine I.wp λη' H w' z=>M η' H w' ?_
 have q:=z.wider (qb r o.dst R);have h:ZC (GO ops o e r r.v).l s0=r.sto o.dst s0:=qa r o.dst s0
 rw[h];have c:Zu o.dst (GO ops o e r r.v).v e0=r.env o.dst e0:=rfl
 rw[c];exact q
theorem FM{s0:U6}{x:AVal}(h:∀i∈x.refs,s0 i=s i):Yx s0 es x=Yx s es x:=by
 unfold Yx;split
 .rw [h _ (by simp[AVal.refs,TV.refs,CV.refs])]
 .rfl
 .rfl
theorem FL{x:AVal}(h:Yx s es x=some (id,lo,n)):id∈x.refs:=by
 unfold Yx at h;split at h
 .split at h
  .split at h
   .cases h;simp[AVal.refs,TV.refs,CV.refs]
   .cases h
  .cases h
 .split at h
  .cases h;simp[AVal.refs,TV.refs,CV.refs]
  .cases h
 .cases h
def WP(L:Lay)(t:TypeId)(te:TI):Prop:=∃ti el,L t=some ti/\ti.kind=.slice el/\L el=some te
variable {k:Nat}
theorem Xf(hL:y4 P L)(hT:WP L t te){lo:Option Operand}(hk:Qu ds k=rE {v:=r})(hop:(Y8 ops.toList k).op=.slice t x lo hi none)(hdo:(QL nt (Y8 ops.toList k)&&(QX ops (U9 L ops ops.toList ds e s k) (Y8 ops.toList k)==some true))=true)(hl:oI (U9 L ops ops.toList ds e s k) lo=some l)(hu:oI (U9 L ops ops.toList ds e s k) hi=some u)(hx:Yx (QH L ops ops.toList ds e s k) te.size (Y2 (U9 L ops ops.toList ds e s k) x)=some (id,lo0,n))(hs:QH L ops ops.toList ds e s k id=some (.arr te.size N f))(hc:0<=l.getD 0/\l.getD 0<=u.getD n/\(lo0:Int)+u.getD n<=N)(hr:r=.v (.c (.sub id te.size (lo0+(l.getD 0).toNat) ((u.getD n).toNat-(l.getD 0).toNat)))):K2 P C nt L ops ds e s k:=by
 unfold K2;rw[hk]
 simp only[Qa4,Qg4]at hdo;obtain⟨J,I,H,A,D⟩:=hT
 refine UV hdo.1 hdo.2 λR η z F a w p g _ q=>?_
 have b:∀y,(y=x\/lo=some y\/hi=some y)->y∈(Y8 ops.toList k).op.operands.toList:=by
  intro y i;rw[hop]
  rcases i with h|h|h
  .subst h;simp[Op.operands]
  .subst h;simp[Op.operands,optional]
  .subst h;simp[Op.operands,optional]
 have B:Yx F te.size (Y2 z x)=some (id,lo0,n):=by
  rw[p x (b x (.inl rfl)),FM (g x (b x (.inl rfl)))];exact hx
 have o:F id=some (.arr te.size N f):=by rw[g x (b x (.inl rfl)) id (FL hx)];exact hs
 have m:oI z lo=some l:=by rw[Ty λy i=>p y (b y (.inr (.inl i)))];exact hl
 have j:oI z hi=some u:=by rw[Ty λy i=>p y (b y (.inr (.inr i)))];exact hu
 rw[hr];exact Q6R hL q (λd G=>YH hdo.1 d G) hop H A D m j B o hc
theorem Q4k(hL:y4 P L)(hT:WP L t te)(hk:Qu ds k=rE {v:=vi n})(hop:(Y8 ops.toList k).op=.call {callee:=.builtin .len,args:= #[x],argTypes:= #[t]})(hdo:(QL nt (Y8 ops.toList k)&&(QX ops (U9 L ops ops.toList ds e s k) (Y8 ops.toList k)==some true))=true)(hx:Yx (QH L ops ops.toList ds e s k) es (Y2 (U9 L ops ops.toList ds e s k) x)=some (id,lo0,n))(hs:QH L ops ops.toList ds e s k id=some (.arr es N f)):K2 P C nt L ops ds e s k:=by
 unfold K2;rw[hk]
 simp only[Qa4,Qg4]at hdo;obtain⟨y,u,p,i,r⟩:=hT
 refine UV hdo.1 hdo.2 λR η q l a w o b _ h=>?_
 have c:x∈(Y8 ops.toList k).op.operands.toList:=by rw[hop];simp[Op.operands,Call.operands]
 have j:Yx l es (Y2 q x)=some (id,lo0,n):=by
  rw[o x c,FM (b x c)];exact hx
 have g:l id=some (.arr es N f):=by rw[b x c id (FL hx)];exact hs
 exact Q6S hL h (λd m=>YH hdo.1 d m) hop p i j g
theorem kd(hL:y4 P L)(hT:WP L t te){i:Operand}{m:Int}(hk:Qu ds k=rE {v:=r})(hop:(Y8 ops.toList k).op=.indexAddr t x i)(hdo:(QL nt (Y8 ops.toList k)&&(QX ops (U9 L ops ops.toList ds e s k) (Y8 ops.toList k)==some true))=true)(hi:ZK (Y2 (U9 L ops ops.toList ds e s k) i)=some m)(hx:Yx (QH L ops ops.toList ds e s k) te.size (Y2 (U9 L ops ops.toList ds e s k) x)=some (id,lo0,n))(hs:QH L ops ops.toList ds e s k id=some (.arr te.size N f))(hc:0<=m/\m<n)(hr:r=.v (.c (.pte id te.size (lo0+m.toNat) 0))):K2 P C nt L ops ds e s k:=by
 unfold K2;rw[hk]
 simp only[Qa4,Qg4]at hdo;obtain⟨F,D,A,l,q⟩:=hT
 refine UV hdo.1 hdo.2 λR η B y a w u b _ j=>?_
 have g:x∈(Y8 ops.toList k).op.operands.toList:=by rw[hop];simp[Op.operands]
 have o:i∈(Y8 ops.toList k).op.operands.toList:=by rw[hop];simp[Op.operands]
 have p:Yx y te.size (Y2 B x)=some (id,lo0,n):=by
  rw[u x g,FM (b x g)];exact hx
 have h:y id=some (.arr te.size N f):=by rw[b x g id (FL hx)];exact hs
 rw[<-u i o]at hi;rw[hr]
 exact Q6T hL j (λd z=>YH hdo.1 d z) hop A l q hi p h hc
theorem ke(hL:y4 P L)(hT:WP L t te){g:Nat->List DVal}(zd0 zd:List DVal)(hle:Mi zd0 zd)(hk:Qu ds k=rE {v:=.any,upd:=some (id,.arr te.size N g)})(hop:(Y8 ops.toList k).op=.call {callee:=.builtin .clear,args:= #[x],argTypes:= #[t]})(hdo:(QL nt (Y8 ops.toList k)&&(QX ops (U9 L ops ops.toList ds e s k) (Y8 ops.toList k)==some true))=true)(h0:0<te.size)(hzl:te.zero.length=te.size)(hz:VE te.zero=some zd0)(hx:Yx (QH L ops ops.toList ds e s k) te.size (Y2 (U9 L ops ops.toList ds e s k) x)=some (id,lo0,n))(hs:QH L ops ops.toList ds e s k id=some (.arr te.size N f))(hg:g=λi=>if lo0<=i/\i<lo0+n then(λ_=>zd) (i-lo0)else f i):K2 P C nt L ops ds e s k:=by
 unfold K2;rw[hk,hg]
 simp only[Qa4,Qg4]at hdo;obtain⟨A,z,u,l,o⟩:=hT
 refine UV hdo.1 hdo.2 λR η y p a w r b _ j=>?_
 have c:x∈(Y8 ops.toList k).op.operands.toList:=by rw[hop];simp[Op.operands,Call.operands]
 have m:Yx p te.size (Y2 y x)=some (id,lo0,n):=by
  rw[r x c,FM (b x c)];exact hx
 have h:p id=some (.arr te.size N f):=by rw[b x c id (FL hx)];exact hs
 exact Q6U hL j (λd q=>YH hdo.1 d q) hop u l o h0 hzl hz hle m h
end
end
section
section
variable {P:Program} {C:Ctx} {nt:Nat} {L:Lay} {pins:List Nat} {K:Act->World->Prop}
theorem Qf(k:Nat)(o:Obj)(S:List (Nat×Obj))(i:Nat):ls ((k,o)::S) i=if i=k then some o else ls S i:=by
 unfold ls
 grind
theorem DS(k:Nat)(o:AVal)(E:List (Nat×AVal))(i:Nat):lk ((k,o)::E) i=if i=k then o else lk E i:=by
 unfold lk
 grind
end
end
end
end Go.Ab
