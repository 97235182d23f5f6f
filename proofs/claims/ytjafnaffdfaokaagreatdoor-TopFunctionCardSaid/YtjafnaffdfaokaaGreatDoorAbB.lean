/- Abstract states over the model. -/
import Derived.Test.YtjafnaffdfaokaaGreatDoorAbA
import Derived.KernelRfl
import Derived.Laws.StructEq
set_option linter.unusedVariables false
set_option linter.unusedSimpArgs false
namespace Go.Ab
noncomputable section
section
def CV.noSem:CV->Bool
 | .sem _=>false
 | _=>true
def TV.noSem:TV->Bool
 | .c x=>x.noSem
 | .g xs=>xs.all CV.noSem
def AVal.noSem:AVal->Bool
 | .any=>true
 | .v x=>x.noSem
 | .t xs=>xs.all TV.noSem
def Obj.noSem:Obj->Bool
 | .box _ cs=>cs.all CV.noSem
 | .arr _ _ _=>true
 | .ext _=>true
 | .exr _ _=>true
section
variable {w:World} {X:Nat->Prop} {η:Nat->Value} {C C' : Ctx}
theorem CRep.ctx{v:Value}{x:CV}(h:CRep w X η C v x)(hx:x.noSem=true):CRep w X η C' v x:=by
 cases h with
 | d _ _ h=>exact .d _ _ h
 | fl _ _ _ h=>exact .fl _ _ _ h
 | own _ _ h h1=>exact .own _ _ h h1
 | ptr _ _ _ h=>exact .ptr _ _ _ h
 | pte _ _ _ _ _ _ _ h=>exact .pte _ _ _ _ _ _ _ h
 | sub b N cap _ es lo n h h1 h2=>exact .sub b N cap _ es lo n h h1 h2
 | subN ad ad' N _ es h=>exact .subN ad ad' N _ es h
 | elm _ _ _ _ _ _ h1 h2 h3 h4=>exact .elm _ _ _ _ _ _ h1 h2 h3 h4
 | clo _ _ _ h=>exact .clo _ _ _ h
 | sem _ _ h h1=>cases hx
 | ap _ _ h h1=>exact .ap _ _ h h1
 | bnd _ _ _ h1 h2=>exact .bnd _ _ _ h1 h2
 | cp _ _ _ _ h h1 h2=>exact .cp _ _ _ _ h h1 h2
theorem y8.ctx{vs:Array Value}{cs:List CV}(h:y8 w X η C vs cs)(hx:cs.all CV.noSem=true):y8 w X η C' vs cs:=
 ⟨h.1,fun j a=>(h.2 j a).ctx (List.all_eq_true.1 hx _ (Yp a))⟩
theorem TRep.ctx{v:Value}{x:TV}(h:TRep w X η C v x)(hx:x.noSem=true):TRep w X η C' v x:=by
 cases h with
 | c _ _ h=>exact .c _ _ (h.ctx hx)
 | g _ _ h=>exact .g _ _ (h.ctx hx)
theorem ARep.ctx{v:Value}{x:AVal}(h:ARep w X η C v x)(hx:x.noSem=true):ARep w X η C' v x:=by
 cases h with
 | any=>exact .any v
 | v _ _ h=>exact .v _ _ (h.ctx hx)
 | t us xs h1 h2=>exact .t us xs h1 fun j a=>(h2 j a).ctx (List.all_eq_true.1 hx _ (Yp a))
theorem ORep.ctx{v:Value}{o:Obj}(h:ORep w X η C v o)(hx:o.noSem=true):ORep w X η C' v o:=by
 cases h with
 | box b ro c e cs h1 h2=>exact .box b ro c e cs h1 (h2.ctx hx)
 | nil ad es f=>exact .nil ad es f
 | arr b n cap es c e f h1 h2 h3 h4 h5 h6 h7=>exact .arr b n cap es c e f h1 h2 h3 h4 h5 h6 h7
 | ext _ _ h1 h2 h3=>exact .ext _ _ h1 h2 h3
 | exr _ _ _ h1 h2 h3=>exact .exr _ _ _ h1 h2 h3
theorem CRep.toRen{ρ:Nat->Nat}{v:Value}{x:CV}(h:CRep w X (fun i=>η (ρ i)) C v x):CRep w X η C v (x.ren ρ):=by
 cases h with
 | d _ _ h=>exact .d _ _ h
 | fl _ _ _ h=>exact .fl _ _ _ h
 | own _ _ h h1=>exact .own _ _ h h1
 | ptr _ _ _ h=>exact .ptr _ _ _ h
 | pte _ _ _ _ _ _ _ h=>exact .pte _ _ _ _ _ _ _ h
 | sub b N cap _ es lo n h h1 h2=>exact .sub b N cap _ es lo n h h1 h2
 | subN ad ad' N _ es h=>exact .subN ad ad' N _ es h
 | elm _ _ _ _ _ _ h1 h2 h3 h4=>exact .elm _ _ _ _ _ _ h1 h2 h3 h4
 | clo f ids vs h=>exact .clo f _ vs (by rw [h,List.map_map];rfl)
 | sem _ _ h h1=>exact .sem _ _ h h1
 | ap _ _ h h1=>exact .ap _ _ h h1
 | bnd _ _ _ h1 h2=>exact .bnd _ _ _ h1 h2
 | cp _ _ _ _ h h1 h2=>exact .cp _ _ _ _ h h1 h2
theorem y8.toRen{ρ:Nat->Nat}{vs:Array Value}{cs:List CV}(h:y8 w X (fun i=>η (ρ i)) C vs cs):y8 w X η C vs (cs.map (CV.ren ρ)):=by
 refine ⟨by simpa using h.1,fun j b=>?_⟩;have a : j<cs.length:=by simpa using b
 have:=(h.2 j a).toRen
 grind
theorem TRep.toRen{ρ:Nat->Nat}{v:Value}{x:TV}(h:TRep w X (fun i=>η (ρ i)) C v x):TRep w X η C v (x.ren ρ):=by
 cases h with
 | c _ _ h=>exact .c _ _ h.toRen
 | g _ _ h=>exact .g _ _ h.toRen
theorem ARep.toRen{ρ:Nat->Nat}{v:Value}{x:AVal}(h:ARep w X (fun i=>η (ρ i)) C v x):ARep w X η C v (x.ren ρ):=by
 cases h with
 | any=>exact .any v
 | v _ _ h=>exact .v _ _ h.toRen
 | t us xs h1 h2=>
  refine .t us _ (by simpa using h1) fun j b=>?_
  have a : j<xs.length:=by simpa using b
  have:=(h2 j a).toRen
  grind
theorem ORep.toRen{ρ:Nat->Nat}{v:Value}{o:Obj}(h:ORep w X (fun i=>η (ρ i)) C v o):ORep w X η C v (o.ren ρ):=by
 cases h with
 | box b ro c e cs h1 h2=>exact .box b ro c e _ h1 h2.toRen
 | nil ad es f=>exact .nil ad es f
 | arr b n cap es c e f h1 h2 h3 h4 h5 h6 h7=>exact .arr b n cap es c e f h1 h2 h3 h4 h5 h6 h7
 | ext _ _ h1 h2 h3=>exact .ext _ _ h1 h2 h3
 | exr _ refs p h1 h2 h3=>
  have e:refs.map (fun i=>η (ρ i))=(refs.map ρ).map η:=by rw [List.map_map];rfl
  rw [e] at h1 h2;exact .exr _ _ p h1 h2 h3
end
def YG(C:Ctx)(nt:Nat)(e:U3)(s:U5)(Si:List (Nat×Obj))(m:Nat->Nat)(rd ids:List Nat)(x:Operand)(y:AVal):Prop:=
 ∀ R η e0 s0 a w,(∀ t ∈ rd,e0 t=e t)->(∀ i ∈ ids,s0 i=s i)->Conc C nt R η e0 s0 a w ->
  ARep w (XS C s0 η) (fun i=>η (m i)) (Qr Si w (XS C s0 η) fun i=>η (m i)) (a.eval x) y
section
variable {P:Program} {C:Ctx} {nt:Nat} {e:U3} {s:U5}
def QA(rd:List Nat)(x:Operand):Bool:=match x with | .tmp t=>rd.contains t|_=>true
theorem Q8P{rd:List Nat}{t:Nat}(h:QA rd (.tmp t)=true):t ∈ rd:=by
 simpa [QA] using h
theorem ZO{e0 e:U3}{x:Operand}{rd:List Nat}(hrd:∀ t ∈ rd,e0 t=e t)(hx:QA rd x=true):Y2 e0 x=Y2 e x:=by
 cases x <;> first|rfl|exact hrd _ (Q8P hx)
theorem Ho{Si:List (Nat×Obj)}{m:Nat->Nat}{rd ids:List Nat}{x:Operand}{y:AVal}(hx:QA rd x=true)(hle:Y3 (Y2 e x) (y.ren m))(hs:y.noSem=true):YG C nt e s Si m rd ids x y:=by
 intro R η h g a w b d f;have c:=(J4 f x).1
 rw [ZO b hx] at c;exact (ARep.unren (hle.1 _ _ _ _ _ c)).ctx hs
def yU(ops:Array Oper)(o:Oper)(e:U3)(m:Nat->Nat)(extra:List Nat)(r:AVal)(Si So:List (Nat×Obj)):Eff where
 rd:=QC o++Qp ops o
 ids:=WA e o++(Si.map (fun p=>m p.1)++extra)
 v:=r.ren m
 l:=(So.map fun p=>(m p.1,some (p.2.ren m)))++Si.map fun p=>(m p.1,none)
 news:=(So.filter fun p=> !(Si.map (·.1)).contains p.1).map fun p=>m p.1
def Vq(m:Nat->Nat)(r:AVal)(Si So:List (Nat×Obj)):Bool:=
 ZV (Si.map (·.1))&&ZV (So.map (·.1))&&ZV ((So.filter fun p=> !(Si.map (·.1)).contains p.1).map (fun p=>m p.1)++Si.map fun p=>m p.1) &&
 r.refs.all (fun i=>(So.map (·.1)).contains i)&&So.all (fun p=>p.2.refs.all fun i=>(So.map (·.1)).contains i)&&r.noSem&&Si.all (fun p=>p.2.noSem)&&So.all (fun p=>p.2.noSem) &&
 So.all (fun p=> !(Si.map (·.1)).contains p.1||Si.any fun q=>q.1==p.1&&q.2.ro==p.2.ro)&&So.all (fun p=>(Si.map (·.1)).contains p.1 || !p.2.ro)
theorem vK{ρ:Nat->Nat}(x:CV):∀ j ∈ (x.ren ρ).refs,∃ i ∈ x.refs,j=ρ i:=by
 cases x <;> simp [CV.refs,CV.ren]
 grind
theorem yf{α β:Type}{f:α->List Nat}{g:α->α}{l:List α}{ρ:Nat->Nat}(h:∀ x,∀ j ∈ f (g x),∃ i ∈ f x,j=ρ i)(_:β):∀ j ∈ (l.map g).flatMap f,∃ i ∈ l.flatMap f,j=ρ i:=by
 grind
theorem Q2k{ρ:Nat->Nat}(x:TV):∀ j ∈ (x.ren ρ).refs,∃ i ∈ x.refs,j=ρ i:=by
 cases x with
 | c x=>exact vK x
 | g xs=>exact yf (f:=CV.refs) vK ()
theorem Z4S{ρ:Nat->Nat}(x:AVal):∀ j ∈ (x.ren ρ).refs,∃ i ∈ x.refs,j=ρ i:=by
 cases x with
 | any=>intro j a;cases a
 | v x=>exact Q2k x
 | t xs=>exact yf (f:=TV.refs) Q2k ()
theorem Z3U{ρ:Nat->Nat}(o:Obj):∀ j ∈ (o.ren ρ).refs,∃ i ∈ o.refs,j=ρ i:=by
 cases o with
 | box ro cs=>exact yf (f:=CV.refs) vK ()
 | arr es n f=>intro j a;cases a
 | ext p=>intro j a;cases a
 | exr refs p=>
  intro j a;obtain ⟨i,b,rfl⟩:=List.mem_map.1 a
  exact ⟨i,b,rfl⟩
theorem Conc.call{R:Nat->Prop}{η:Nat->Value}{e0:U3}{s0:U5}{a:Act}{w:World}(h:Conc C nt R η e0 s0 a w){m:Nat->Nat}{Si So:List (Nat×Obj)}{r:AVal}{d:Option Tmp}(hd:∀ x,d=some x->x<nt)(hchk:Vq m r Si So=true)(hsi:∀ p ∈ Si,∃ o1,s0 (m p.1)=some o1/\J1 o1 (p.2.ren m))(hfr:∀ k ∈ (So.filter fun p=> !(Si.map (·.1)).contains p.1).map (fun p=>m p.1),¬ R k){v:Value}{η' : Nat->Value}{w' : World}(hb:Behind (Qr Si w (XS C s0 η) fun i=>η (m i)) r So v η' w'):
  ∃ η1,Conc C nt (fun i=>R i\/i ∈ (So.filter fun p=> !(Si.map (·.1)).contains p.1).map fun p=>m p.1) η1 (Zu d (r.ren m) e0) (Zy ((So.map fun p=>(m p.1,some (p.2.ren m)))++Si.map fun p=>(m p.1,none)) s0) (a.put d v) w':=by
 simp only [Vq,Bool.and_eq_true] at hchk;obtain ⟨⟨⟨⟨⟨⟨⟨⟨⟨c1,c2⟩,c3⟩,c4⟩,c5⟩,c6⟩,c7⟩,c8⟩,c9⟩,i5⟩:=hchk
 have n1:=Ub c1;have n2:=Ub c2
 have n3:=Ub c3
 let news:=(So.filter fun p=> !(Si.map (·.1)).contains p.1).map fun p=>m p.1
 have Q:∀ i,i ∈ Si.map (·.1)->∃ o,(i,o) ∈ Si:=fun i c=>by obtain ⟨p,A,rfl⟩:=List.mem_map.1 c;exact ⟨p.2,A⟩
 have b6:∀ i o,(i,o) ∈ Si->ls Si i=some o:=by
  intro i o c;unfold ls
  obtain ⟨l1,l2,rfl⟩:=List.append_of_mem c
  grind
 have E:∀ i o,(i,o) ∈ So->ls So i=some o:=by
  intro i o c;unfold ls
  obtain ⟨l1,l2,rfl⟩:=List.append_of_mem c
  grind
 have J:∀ p ∈ So,p.1 ∈ Si.map (·.1)\/m p.1 ∈ news:=by
  intro p A
  grind
 rw [List.nodup_append] at n3;obtain ⟨g3,h7,d9⟩:=n3
 have a7:∀ {α:Type} (f:α->Nat) (l:List α),(l.map f).Nodup->∀ x ∈ l,∀ y ∈ l,f x=f y->x=y:=by
  intro α f l
  induction l with
  | nil=>intro _ x V;cases V
  | cons z l ih=>
   grind
 have f1:∀ i j,i ∈ Si.map (·.1)->j ∈ Si.map (·.1)->m i=m j->i=j:=by
  grind
 have g0:∀ p ∈ So,∀ q ∈ So,m p.1=m q.1->p.1=q.1:=by
  intro p A q Z f7;rcases J p A with O|O <;> rcases J q Z with K|K
  .grind
  .grind
  .obtain ⟨oq,c0⟩:=Q _ K
   grind
  .obtain ⟨p',h5,e1⟩:=List.mem_map.1 O
   obtain ⟨q',h0,e2⟩:=List.mem_map.1 K
   by_cases hps:p.1 ∈ Si.map (·.1)
   .obtain ⟨op,f3⟩:=Q _ hps
    exact absurd rfl (d9 _ O _ (List.mem_map.2 ⟨_,f3,rfl⟩))
   .by_cases hqs:q.1 ∈ Si.map (·.1)
    .obtain ⟨oq,c0⟩:=Q _ hqs
     exact absurd rfl (d9 _ K _ (List.mem_map.2 ⟨_,c0,rfl⟩))
    .have:=a7 (fun p:Nat×Obj=>m p.1) _ g3 p (List.mem_filter.2 ⟨A,by simpa using hps⟩) q (List.mem_filter.2 ⟨Z,by simpa using hqs⟩) f7
     rw [this]
 let η1:Nat->Value:=fun k=>match So.find? (fun p=>m p.1==k) with|some p=>η' p.1|none=>η k
 have Y:∀ p ∈ So,η1 (m p.1)=η' p.1:=by
  grind
 have d4:∀ i,i ∈ Si.map (·.1)->η' i=η (m i):=by
  intro i c;obtain ⟨o,G⟩:=Q i c
  refine hb.pn i _ ?_;have:=b6 i o G
  unfold ls at this;simp [Qr,this]
 have H:∀ k,(∀ p ∈ So,m p.1≠k)->η1 k=η k:=by
  grind
 have eR:∀ k,R k->η1 k=η k:=by
  grind
 generalize hs1:Zy ((So.map fun p=>(m p.1,some (p.2.ren m)))++Si.map fun p=>(m p.1,none)) s0=s1;have B:∀ k o,s1 k=some o->(∃ p ∈ So,m p.1=k/\o=p.2.ren m)\/(s0 k=some o/\(∀ p ∈ So,m p.1≠k)/\∀ p ∈ Si,m p.1≠k):=by
  intro k o I;rw [<-hs1] at I
  unfold Zy at I;rw [List.lookup_append] at I
  cases hl1:(So.map fun p=>(m p.1,some (p.2.ren m))).lookup k with
  | some x=>
   rw [hl1] at I;simp only [Option.some_or] at I
   obtain ⟨l1,l2,hl,_⟩:=List.lookup_eq_some_iff.1 hl1;have e4:(k,x) ∈ So.map fun p=>(m p.1,some (p.2.ren m)):=by rw [hl];simp
   grind
  | none=>
   rw [hl1] at I;simp only [Option.none_or] at I
   have f2:∀ p ∈ So,m p.1≠k:=by
    intro p A hh;rw [List.lookup_eq_none_iff] at hl1
    have:=hl1 _ (List.mem_map_of_mem A)
    grind
   cases hl2:(Si.map fun p=>(m p.1,(none:Option Obj))).lookup k with
   | some x=>
    rw [hl2] at I;obtain ⟨l1,l2,hl,_⟩:=List.lookup_eq_some_iff.1 hl2
    have e4:(k,x) ∈ Si.map fun p=>(m p.1,(none:Option Obj)):=by rw [hl];simp
    grind
   | none=>
    rw [hl2] at I;refine .inr ⟨I,f2,fun p A hh=>?_⟩
    rw [List.lookup_eq_none_iff] at hl2;have:=hl2 _ (List.mem_map_of_mem A)
    grind
 have U:∀ i o,ls Si i=some o->∀ b,b ∈ Y9 (η (m i))->Own s0 η b:=by
  intro i o c b b3;obtain ⟨o1,O,_⟩:=hsi _ (y6 c)
  exact ⟨m i,o1,O,b3⟩
 have L:∀ k o i F b,s0 k=some o->ls Si i=some F->b ∈ Y9 (η k)->b ∈ Y9 (η (m i))->k=m i:=by
  intro k o i F b I c b2 a2;obtain ⟨o1,O,_⟩:=hsi _ (y6 c)
  exact h.ds k (m i) b (by rw [I];simp) (by rw [O];simp) b2 a2
 have a3:∀ i F b,ls Si i=some F->F.ro=false->b ∈ Y9 (η (m i))->C.M b\/C.w0.heap.size<=b:=by
  intro i F b c a4 b3;obtain ⟨o1,O,f9⟩:=hsi _ (y6 c)
  rcases h.ow _ o1 b O b3 with ⟨K,_⟩|K
  .have:o1.ro=F.ro:=by rw [<-f9.2.1,CD]
   grind
  .exact K
 have b8:∀ b,XS C s1 η1 b->(b<w.heap.size->XS C s0 η b)/\XS (Qr Si w (XS C s0 η) fun i=>η (m i)) (ls So) η' b:=by
  intro b V;rcases V with ⟨V,hD⟩|⟨k,o,I,D⟩
  .refine ⟨fun _=>.inl ⟨V,hD⟩,.inl ⟨.inl ⟨V,hD⟩,fun G=>?_⟩⟩
   obtain ⟨i,o,c,g⟩:=G;obtain ⟨o1,O,_⟩:=hsi _ (y6 c)
   have a6:=h.ok.lt b V;rcases h.ow _ o1 b O g with ⟨_,K⟩|K|K
   .exact hD K
   .exact hD (h.ok.md b K)
   .omega
  .rcases B k o I with ⟨p,A,rfl,rfl⟩|⟨G,N,W⟩
   .rw [Y p A] at D
    refine ⟨fun a6=>?_,.inr ⟨p.1,p.2,E _ _ A,D⟩⟩;rcases hb.ow p.1 p.2 b (E _ _ A) D with ⟨_,⟨i,F,c,g⟩⟩|⟨i,F,c,_,g⟩|a1
    .exact .inr (U i F c b g)
    .exact .inr (U i F c b g)
    .have:w.heap.size<=b:=a1
     omega
   .rw [H k N] at D
    have b0:Own s0 η b:=⟨k,o,G,D⟩;refine ⟨fun _=>.inr b0,.inl ⟨.inr b0,fun V=>?_⟩⟩
    obtain ⟨i,F,c,g⟩:=V;exact W _ (y6 c) (L k o i F b G c D g).symm
 have b5:QR w w' (XS C s0 η) (XS C s1 η1):=by
  intro b a6 hX;refine ⟨hb.stp.block b a6 fun hM=>?_,fun V=>hX ((b8 b V).1 a6)⟩
  obtain ⟨i,F,c,_,g⟩:=hM;exact hX (.inr (U i F c b g))
 have d7:QR w' w' (XS (Qr Si w (XS C s0 η) fun i=>η (m i)) (ls So) η') (XS C s1 η1):=fun b _ hX=>⟨rfl,fun V=>hX (b8 b V).2⟩
 have b9:∀ p ∈ So,R (m p.1)\/m p.1 ∈ news:=by
  intro p A;rcases J p A with O|O
  .obtain ⟨o,G⟩:=Q _ O
   obtain ⟨o1,K,_⟩:=hsi _ G;exact .inl (h.sr _ o1 K).1
  .exact .inr O
 have a0:∀ i,(So.map (·.1)).contains i=true->∃ p ∈ So,p.1=i:=by
  grind
 have b1:∀ p ∈ So,ORep w' (XS C s1 η1) η1 C (η1 (m p.1)) (p.2.ren m):=by
  intro p A;have O:=hb.objs p.1 p.2 (E _ _ A)
  have K:=O.mono (η':=fun i=>η1 (m i)) d7 (fun i c=>by
   obtain ⟨q,Z,rfl⟩:=a0 i (List.all_eq_true.1 (List.all_eq_true.1 c5 p A) i c)
   grind) (fun _ _=>rfl)
  rw [Y p A];exact (K.toRen).ctx (by
   have:=List.all_eq_true.1 c8 p A
   cases hp2:p.2 with
   | box ro cs=>
    rw [hp2] at this;simp only [Obj.ren,Obj.noSem,List.all_map]
    rw [List.all_eq_true];intro x V
    have:=List.all_eq_true.1 this x V
    cases x <;> first|rfl|cases this
   | arr es n f=>rfl
   | ext p=>rfl
   | exr refs p=>rfl)
 refine ⟨η1,h.ok,by rw [co];exact h.df,by rw [cm];exact h.sz,fun t=>?_,fun t i c=>?_,fun k o I=>?_,fun k o I=>?_,fun i j b c hj T S=>?_,fun k o b I D=>?_,?_,fun i u c=>?_⟩
 .rw [qM a d v t (by rw [h.sz];exact hd)]
  unfold Zu;have g4:ARep w' (XS C s1 η1) η1 C v (r.ren m):=by
   have K:=hb.res.mono (η':=fun i=>η1 (m i)) d7 (fun i c=>by
    grind)
   exact (K.ctx c6).toRen
  cases d with
  | none=>exact (h.ev t).mono b5 fun i c=>eR i (h.er t i c)
  | some d=>
   simp only [Option.some.injEq]
   by_cases htd:t=d
   .grind
   .rw [if_neg (fun hh=>htd hh.symm),if_neg htd]
    exact (h.ev t).mono b5 fun i c=>eR i (h.er t i c)
 .unfold Zu at c
  have e5:i ∈ (e0 t).refs->R i\/i ∈ news:=fun hh=>.inl (h.er t i hh)
  have g8:i ∈ (r.ren m).refs->R i\/i ∈ news:=by
   intro hh;obtain ⟨j,hj,rfl⟩:=Z4S r i hh
   grind
  cases d with
  | none=>exact e5 c
  | some d=>
   grind
 .rcases B k o I with ⟨p,A,rfl,rfl⟩|⟨G,N,W⟩
  .exact b1 p A
  .rw [H k N]
   refine (h.st k o G).mono b5 (fun j hj=>eR j ((h.sr k o G).2 j hj)) fun b D=>?_
   refine hb.stp.block b ((h.st k o G).lt D) fun hM=>?_
   obtain ⟨i,F,c,_,g⟩:=hM;exact W _ (y6 c) (L k o i F b G c D g).symm
 .rcases B k o I with ⟨p,A,rfl,rfl⟩|⟨G,N,W⟩
  .refine ⟨b9 p A,fun j hj=>?_⟩
   obtain ⟨i,c,rfl⟩:=Z3U p.2 j hj;obtain ⟨q,Z,rfl⟩:=a0 i (List.all_eq_true.1 (List.all_eq_true.1 c5 p A) i c)
   exact b9 q Z
  .exact ⟨.inl (h.sr k o G).1,fun j hj=>.inl ((h.sr k o G).2 j hj)⟩
 .obtain ⟨F,f5⟩:=Option.ne_none_iff_exists'.1 c
  obtain ⟨oj,f6⟩:=Option.ne_none_iff_exists'.1 hj;have a5:∀ p ∈ So,∀ k o,s0 k=some o->(∀ p ∈ Si,m p.1≠k)->∀ b,b ∈ Y9 (η' p.1)->b ∈ Y9 (η k)->False:=by
   intro p A k o G hn b b2 a2;rcases hb.ow p.1 p.2 b (E _ _ A) b2 with ⟨_,⟨i,F,c,g⟩⟩|⟨i,F,c,_,g⟩|a1
   .exact hn _ (y6 c) (L k o i F b G c a2 g).symm
   .exact hn _ (y6 c) (L k o i F b G c a2 g).symm
   .have O:w.heap.size<=b:=a1
    have K:=(h.st k o G).lt a2;omega
  rcases B i F f5 with ⟨p,A,rfl,rfl⟩|⟨G,N,W⟩ <;> rcases B j oj f6 with ⟨q,Z,rfl,rfl⟩|⟨d2,a9,d6⟩
  .rw [Y p A] at T;rw [Y q Z] at S
   rw [hb.ds p.1 q.1 b (by rw [E _ _ A];simp) (by rw [E _ _ Z];simp) T S]
  .rw [Y p A] at T;rw [H _ a9] at S
   exact (a5 p A _ _ d2 d6 b T S).elim
  .rw [Y q Z] at S;rw [H _ N] at T
   exact (a5 q Z _ _ G W b S T).elim
  .rw [H _ N] at T;rw [H _ a9] at S
   exact h.ds i j b (by rw [G];simp) (by rw [d2];simp) T S
 .rcases B k o I with ⟨p,A,rfl,rfl⟩|⟨G,N,W⟩
  .rw [Y p A] at D
   rw [CD];rcases hb.ow p.1 p.2 b (E _ _ A) D with ⟨a4,_⟩|⟨i,F,c,a4,g⟩|a1
   .
    have d8:p.1 ∈ Si.map (·.1):=by
     grind
    have h9:=List.all_eq_true.1 c9 p A;have d5 : (Si.map (·.1)).contains p.1=true:=by simpa using d8
    simp only [d5,Bool.not_true,Bool.false_or,List.any_eq_true] at h9;obtain ⟨q,Z,b4⟩:=h9
    simp only [Bool.and_eq_true,beq_iff_eq] at b4;obtain ⟨o1,g1,g2⟩:=hsi q Z
    rw [b4.1] at g1;rw [d4 _ d8] at D
    have d0:o1.ro=p.2.ro:=by rw [<-g2.2.1,CD,b4.2]
    rw [<-d0];exact h.ow _ o1 b g1 D
   .exact .inr (a3 i F b c a4 g)
   .exact .inr (.inr (Nat.le_trans h.fr.size a1))
  .rw [H k N] at D
   exact h.ow k o b G D
 .refine h.fr.trans (hb.stp.mono fun b _ hM=>?_)
  obtain ⟨i,F,c,a4,g⟩:=hM;exact a3 i F b c a4 g
 .have:=h.pn i u c
  exact ⟨(eR i this.2).trans this.1,.inl this.2⟩
end
end
section
def CV.closed(x:CV):Bool:=x.refs.isEmpty&&x.noSem
def AVal.closed(x:AVal):Bool:=x.refs.isEmpty&&x.noSem
section
variable {w:World} {X:Nat->Prop} {η η' : Nat->Value} {C C' : Ctx}
theorem ARep.free{v:Value}{x:AVal}(h:ARep w X η C v x)(hx:x.closed=true):ARep w X η' C' v x:=by
 simp only [AVal.closed,Bool.and_eq_true,List.isEmpty_iff] at hx;exact (h.mono (fun b _ c=>⟨rfl,c⟩) (fun i a=>by rw [hx.1] at a;cases a)).ctx hx.2
theorem y8.free{vs:Array Value}{cs:List CV}(h:y8 w X η C vs cs)(hx:cs.all CV.closed=true):y8 w X η' C' vs cs:=by
 refine ⟨h.1,fun j c=>?_⟩;have:=List.all_eq_true.1 hx _ (Yp (d:=.d .any) c)
 simp only [CV.closed,Bool.and_eq_true,List.isEmpty_iff] at this;exact ((h.2 j c).mono (fun b _ f=>⟨rfl,f⟩) (fun i a=>by rw [this.1] at a;cases a)).ctx this.2
end
def Qs(P:Program)(F:List AVal->AVal->Prop)(w0:World)(D X:Nat->Prop)(v:Value):Prop:=
 ∃ f caps,v=.func (.func f) #[] caps/\(∀ args w,(callFunc f args).run P w=.ok (.enter f args) w) /\
  ∀ (w1:World) (X1:Nat->Prop) (vs:Array Value) (args:List AVal) (r:AVal),F args r->w0.heap.size<=w1.heap.size->(∀ b,b<w0.heap.size->¬ D b->w1.heap[b]?=w0.heap[b]?)->(∀ b,X1 b->b<w1.heap.size) ->
   (∀ b,b<w0.heap.size->¬ D b->(X1 b↔X b))->vs.size=args.length->(∀ j,j<args.length->∀ η C,ARep w1 X1 η C (vs.getD j undef) (args.getD j .any)) ->
   Calls P f (vs++caps) w1 fun e w'=>∃ v',e=.returned v' /\ Stp (fun _=>False) w1 w' /\ ∀ η C,ARep w' X1 η C v' r
def Yh(P:Program)(F:List AVal->AVal->Prop):AVal:=.v (.c (.sem (Qs P F)))
section
variable {P:Program} {C:Ctx} {nt:Nat} {ops:Array Oper} {e:U3} {s:U5}
theorem TN{o:Oper}{fx:Operand}{xs:Array Operand}{tys:Array TypeId}(hop:o.op=.call { callee:=.value fx,args:=xs,argTypes:=tys }){a:Act}{w:World}{f:Nat}{caps:Array Value}(hf:a.eval fx=.func (.func f) #[] caps)(hcall:∀ args w,(callFunc f args).run P w=.ok (.enter f args) w):(execOp a.eval o).run P w=.ok (.enter f (xs.map a.eval++caps)) w:=by
 simp [execOp,hop,resolve,Deferred.ofValue,hf,invoke,hcall]
theorem YO{o:Oper}(hdo:QJ nt o=true):∀ x,o.dst=some x->x<nt:=by
 intro x a;simp only [QJ,a,Bool.and_eq_true,decide_eq_true_eq] at hdo
 exact hdo.1
theorem DW{w:World}{X:Nat->Prop}{η:Nat->Value}{v:Value}{f:Nat}{ids:List Nat}(h:ARep w X η C v (.v (.c (.clo f ids)))):v=.func (.func f) #[] (ids.map η).toArray:=by
 cases h with|v _ _ h=>cases h with|c _ _ h=>cases h with|clo _ _ vs h=>rw [h]
theorem Q4h{f:Nat}(hcall:∀ args w,(callFunc f args).run P w=.ok (.enter f args) w){o:Oper}{fx:Operand}{xs:Array Operand}{tys:Array TypeId}(hop:o.op=.call { callee:=.value fx,args:=xs,argTypes:=tys })(hfx:Y2 e fx=.v (.c (.clo f [])))(hrf:QA (QC o++Qp ops o) fx=true){args:List AVal}{Si:List (Nat×Obj)}{r:AVal}{So:List (Nat×Obj)}(hspec:G6 P f args Si r So)(hlen:xs.size=args.length)(m:Nat->Nat)(extra:List Nat)(hargs:∀ j,j<args.length->YG C nt e s Si m (QC o++Qp ops o) (WA e o++(Si.map (fun p=>m p.1)++extra)) (xs.toList.getD j (.const undef)) (args.getD j .any))(hsi:∀ p ∈ Si,∃ o1,s (m p.1)=some o1/\J1 o1 (p.2.ren m))(hchk:Vq m r Si So=true)(hdo:QJ nt o=true)(hg:QY ops e o=some true):Ws P C nt ops o (yU ops o e m extra r Si So) e s:=by
 intro R η U F a w q k L h K Q Z;have hw:=Uv (e:=e) h (fun t ht=>q t (List.mem_append.2 (.inr ht))) hg
 rw [if_pos hw];have B:=(J4 h fx).1
 rw [ZO q hrf,hfx] at B;have z:=DW B
 have M:=TN (w:=w) hop z hcall;have d:∀ p ∈ Si,∃ o1,F (m p.1)=some o1/\J1 o1 (p.2.ren m):=by
  intro p S;rw [k (m p.1) (List.mem_append.2 (.inr (List.mem_append.2 (.inl (List.mem_map.2 ⟨p,S,rfl⟩)))))]
  exact hsi p S
 simp only [Vq,Bool.and_eq_true] at hchk;have l:=hchk
 obtain ⟨⟨⟨⟨⟨⟨⟨⟨⟨c1,c2⟩,c3⟩,c4⟩,c5⟩,c6⟩,c7⟩,c8⟩,c9⟩,a5⟩:=hchk;have E:∀ b,XS C F η b->b<w.heap.size:=by
  rintro b (⟨hx,_⟩|hx)
  .exact Nat.lt_of_lt_of_le (h.ok.lt b hx) h.fr.size
  .exact h.lt hx
 have D:∀ i u,ls Si i=some u -> u.noSem=true:=fun i u g=>List.all_eq_true.1 c7 _ (y6 g)
 have N:=hspec w (XS C F η) (fun i=>η (m i)) (xs.map a.eval++(([]:List Nat).map η).toArray) E
  (fun b ⟨i,u,g,hib⟩=>by obtain ⟨o1,A,_⟩:=d _ (y6 g);exact .inr ⟨m i,o1,A,hib⟩)
  (fun i u g=>by
   obtain ⟨o1,A,J⟩:=d _ (y6 g);exact (ORep.unren (J.1 _ _ _ _ _ (h.st _ o1 A))).ctx (D i u g))
  (fun i j b g x O I=>by
   obtain ⟨oi,g⟩:=Option.ne_none_iff_exists'.1 g;obtain ⟨oj,x⟩:=Option.ne_none_iff_exists'.1 x
   obtain ⟨o1,A,_⟩:=d _ (y6 g);obtain ⟨o2,h2,_⟩:=d _ (y6 x)
   have y:m i=m j:=h.ds _ _ b (by rw [A];simp) (by rw [h2];simp) O I;have n3:=Ub c3
   rw [List.nodup_append] at n3;exact zM (ρ:=m) n3.2.1 (by rw [g];simp) (by rw [x];simp) y)
  (by simp [hlen])
  (fun j x=>by
   have G : j<xs.size:=by omega
   have T:(xs.map a.eval++(([]:List Nat).map η).toArray).getD j undef=a.eval (xs.toList.getD j (.const undef)):=by
    simp [List.getD_eq_getElem?_getD,G]
   rw [T];exact hargs j x R η U F a w q k h)
 unfold Oper.wp;rw [M]
 show Calls P f _ w _;refine N.mono fun en Y hh=>?_
 obtain ⟨v,η',rfl,W⟩:=hh;have n:Vq m r Si So=true:=by simp only [Vq,Bool.and_eq_true];exact l
 obtain ⟨V,H⟩:=h.call (YO hdo) n d L W;exact Z V _ Y H
def Jk(ops:Array Oper)(o:Oper)(e:U3)(r:AVal):Eff where
 rd:=QC o++Qp ops o
 ids:=WA e o
 v:=r
 l:=[]
 news:=[]
theorem Q4e{F:List AVal->AVal->Prop}{o:Oper}{fx:Operand}{xs:Array Operand}{tys:Array TypeId}(hop:o.op=.call { callee:=.value fx,args:=xs,argTypes:=tys })(hfx:Y2 e fx=Yh P F){args:List AVal}{r:AVal}(hF:F args r)(hlen:xs.size=args.length)(hrd' : QA (QC o++Qp ops o) fx=true/\∀ x ∈ xs.toList,QA (QC o++Qp ops o) x=true)(hargs:∀ j,j<args.length->Y3 (Y2 e (xs.toList.getD j (.const undef))) (args.getD j .any)/\(args.getD j .any).closed=true)(hr:r.closed=true)(hdo:QJ nt o=true)(hg:QY ops e o=some true):Ws P C nt ops o (Jk ops o e r) e s:=by
 intro R η e0 q a w p W a9 g K Q hK;have hw:=Uv (e:=e) g (fun t ht=>p t (List.mem_append.2 (.inr ht))) hg
 rw [if_pos hw];have n:=(J4 g fx).1
 rw [ZO p hrd'.1,hfx] at n;have z:Qs P F C.w0 C.D C.X (a.eval fx):=by
  generalize a.eval fx=u at n
  cases n with|v _ _ h=>cases h with|c _ _ h=>cases h with|sem _ _ h _=>exact h
 obtain ⟨f,a1,V,m,J⟩:=z;have T:=TN (w:=w) hop V m
 have G:∀ b,XS C q η b->b<w.heap.size:=by
  rintro b (⟨d,_⟩|d)
  .exact Nat.lt_of_lt_of_le (g.ok.lt b d) g.fr.size
  .exact g.lt d
 have S:=J w (XS C q η) (xs.map a.eval) args r hF g.fr.size (fun b H I=>g.fr.block b H fun hM=>I (g.ok.md b hM)) G
  (fun b H I=>⟨fun d=>by
   rcases d with ⟨d,_⟩|⟨i,o',U,L⟩
   .exact d
   .rcases g.ow i o' b U L with ⟨_,O⟩|O|O
    .grind
    .exact absurd (g.ok.md b O) I
    all_goals grind,fun d=>.inl ⟨d,I⟩⟩) (by simp [hlen])
  (fun j A η2 C2=>by
   have y : j<xs.size:=by omega
   have e1:(xs.map a.eval).getD j undef=a.eval (xs.toList.getD j (.const undef)):=by simp [List.getD_eq_getElem?_getD,y]
   rw [e1];obtain ⟨g1,g2⟩:=hargs j A
   have d:=(J4 g (xs.toList.getD j (.const undef))).1;rw [ZO p (hrd'.2 _ (Yp (by simpa using y)))] at d
   exact (g1.1 _ _ _ _ _ d).free g2)
 unfold Oper.wp;rw [T]
 show Calls P f _ w _;refine S.mono fun en Z hh=>?_
 obtain ⟨v,rfl,E,B⟩:=hh;have hs:SR.sto { v:=r } o.dst q=q:=by funext i;simp [SR.sto]
 have Y:SR.eta { v:=r } o.dst v η=η:=by funext i;simp [SR.eta]
 have M:SR.rng { v:=r } o.dst R=R:=by funext i;simp [SR.rng]
 have:=g.step o.dst (YO hdo) { v:=r } v Z (fun _=>False) E (fun b H=>H.elim) (fun o dd N=>by cases N) (fun k o N=>by cases N)
  (fun _=>by rw [hs,Y];refine ⟨B _ _,fun j A=>?_⟩;simp only [AVal.closed,Bool.and_eq_true,List.isEmpty_iff] at hr;simp only at A;rw [hr.1] at A;cases A)
 rw [hs,Y,M] at this;refine hK η _ Z ?_
 have hu:Zy (Jk ops o e r).l q=q:=by funext i;rfl
 rw [hu];exact this.wider fun i U=>.inl U
theorem YG.sem{F:List AVal->AVal->Prop}{Si:List (Nat×Obj)}{m:Nat->Nat}{rd ids:List Nat}{x:Operand}(hx:QA rd x=true)(hv:Y2 e x=Yh P F)(hsi:∀ p ∈ Si,∃ o1,s (m p.1)=some o1)(hin:∀ p ∈ Si,m p.1 ∈ ids):YG C nt e s Si m rd ids x (Yh P F):=by
 intro R η e0 Y a w T z j;have t:=(J4 j x).1
 rw [ZO T hx,hv] at t;have A:Qs P F C.w0 C.D C.X (a.eval x)/\(a.eval x).oneCell'=true:=by
  generalize a.eval x=u at t
  cases t with|v _ _ h=>cases h with|c _ _ h=>cases h with|sem _ _ h d=>exact ⟨h,d⟩
 obtain ⟨⟨f,J,U,q,O⟩,E⟩:=A;refine .v _ _ (.c _ _ (.sem _ _ ⟨f,J,U,q,?_⟩ E))
 intro V X1 W H r hF M I N Q S l;have G : w.heap.size<=V.heap.size:=M
 have K:∀ b,Own (ls Si) (fun i=>η (m i)) b->Own Y η b:=by
  rintro b ⟨i,L,y,g⟩;obtain ⟨o1,d⟩:=hsi _ (y6 y)
  exact ⟨m i,o1,by rw [z _ (hin _ (y6 y))];exact d,g⟩
 have B:∀ b,b<C.w0.heap.size->¬ C.D b->¬ Own (ls Si) (fun i=>η (m i)) b:=by
  intro b o k Z;obtain ⟨i,L,y,g⟩:=K b Z
  rcases j.ow i L b y g with ⟨_,d⟩|d|d
  .exact k d
  .exact k (j.ok.md b d)
  .omega
 refine O V X1 W H r hF (Nat.le_trans j.fr.size G) (fun b o k=>?_) N (fun b o k=>?_) S l
 .have n:b<w.heap.size:=Nat.lt_of_lt_of_le o j.fr.size
  exact (I b n (B b o k)).trans (j.fr.block b o fun hM=>k (j.ok.md b hM))
 .have n:b<w.heap.size:=Nat.lt_of_lt_of_le o j.fr.size
  rw [Q b n (B b o k)];constructor
  .rintro (⟨hx,_⟩|⟨i,L,y,g⟩)
   .exact hx
   .rcases j.ow i L b y g with ⟨_,d⟩|d|d
    .grind
    .exact absurd (j.ok.md b d) k
    .omega
  .exact fun hx=>.inl ⟨hx,k⟩
def Zt(cs:List (List CV)):List (Nat×Obj):=cs.zipIdx.map fun p=>(p.2,.box true p.1)
def Wr(cs:List (List CV)):List AVal:=(List.range cs.length).map fun k=>.v (.c (.ptr k 0))
theorem Q1I(cs:List (List CV))(k:Nat):ls (Zt cs) k=(cs[k]?).map (Obj.box true):=by
 have a:∀ (l:List (List CV)) (n k:Nat),((l.zipIdx n).map fun p=>(p.2,Obj.box true p.1)).lookup k=if k<n then none else (l[k-n]?).map (Obj.box true):=by
  intro l
  induction l with
  | nil=>intro n k;simp
  | cons x l ih=>
   intro n k;simp only [List.zipIdx_cons,List.map_cons,List.lookup_cons]
   grind
 have:=a cs 0 k
 simpa [ls,Zt] using this
theorem YG.clo{f:Nat}(hcall:∀ args w,(callFunc f args).run P w=.ok (.enter f args) w){F:List AVal->AVal->Prop}{cs:List (List CV)}(hspec:∀ args r,F args r->G6 P f (args++Wr cs) (Zt cs) r (Zt cs))(hres:∀ args r,F args r->r.closed=true){Si:List (Nat×Obj)}{m:Nat->Nat}{rd ids:List Nat}{x:Operand}(hx:QA rd x=true){cids:List Nat}(hv:Y2 e x=.v (.c (.clo f cids)))(hlen:cids.length=cs.length)(hnd:ZV cids=true)(hbox:∀ k,k<cs.length->∃ ro,s (cids.getD k 0)=some (.box ro (cs.getD k [])))(hcl:cs.all (fun c=>c.all CV.closed)=true)(hsi:∀ p ∈ Si,∃ o1,s (m p.1)=some o1)(hin:∀ p ∈ Si,m p.1 ∈ ids)(hcin:∀ i ∈ cids,i ∈ ids)(hapart:∀ p ∈ Si,m p.1 ∉ cids):YG C nt e s Si m rd ids x (Yh P F):=by
 intro R η e0 U a w c0 H W;have a2:=(J4 W x).1
 rw [ZO c0 hx,hv] at a2;have Y:=DW a2
 refine .v _ _ (.c _ _ (.sem _ _ ⟨f,_,Y,hcall,?_⟩ (by rw [Y];rfl)));intro w1 Q K args r hF a5 I a6 V b9 b5
 have c5 : w.heap.size<=w1.heap.size:=a5;have E:∀ k,k<cs.length->cids.getD k 0 ∈ cids:=fun k G=>Yp (by omega)
 have n:∀ k,k<cs.length->∃ ro,U (cids.getD k 0)=some (.box ro (cs.getD k [])):=by
  grind
 have t:∀ k,k<cs.length->∃ b L S,η (cids.getD k 0)=.pointer (some ⟨b,0,none⟩)/\w.heap[b]?=some (.cells L S (0,0))/\y8 w (XS C U η) η C L (cs.getD k []):=by
  intro k G;obtain ⟨ro,y⟩:=n k G
  have:=W.st _ _ y
  generalize η (cids.getD k 0)=u at this
  cases this with
  | box b _ L S _ B hcs=>exact ⟨b,L,S,rfl,B,hcs⟩
 have z:∀ k,k<cs.length->∀ b,b ∈ Y9 (η (cids.getD k 0))->¬ Own (ls Si) (fun i=>η (m i)) b:=by
  rintro k G b B ⟨i,q,d,h⟩;obtain ⟨ro,y⟩:=n k G
  obtain ⟨o1,D⟩:=hsi _ (y6 d);have b1 : U (m i)=some o1:=by rw [H _ (hin _ (y6 d))];exact D
  have:=W.ds _ _ b (by rw [y];simp) (by rw [b1];simp) B h
  exact hapart _ (y6 d) (this ▸ E k G)
 have c2:∀ b,Own (ls Si) (fun i=>η (m i)) b->XS C U η b:=by
  rintro b ⟨i,q,d,h⟩;obtain ⟨o1,D⟩:=hsi _ (y6 d)
  exact .inr ⟨m i,o1,by rw [H _ (hin _ (y6 d))];exact D,h⟩
 have G:QR w w1 (XS C U η) Q:=by
  intro b B hX;have Z:¬ Own (ls Si) (fun i=>η (m i)) b:=fun ho=>hX (c2 b ho)
  exact ⟨I b B Z,fun hx=>hX ((V b B Z).1 hx)⟩
 have l:∀ k o,ls (Zt cs) k=some o->k<cs.length/\o=.box true (cs.getD k []):=by
  intro k o G;rw [Q1I] at G
  grind
 have A:∀ b,Own (ls (Zt cs)) (fun k=>η (cids.getD k 0)) b->Q b:=by
  rintro b ⟨k,q,M,N⟩;obtain ⟨g,_⟩:=l k q M
  obtain ⟨ro,y⟩:=n k g;have a7:b<w.heap.size:=(W.st _ _ y).lt N
  exact (V b a7 (z k g b N)).2 (.inr ⟨_,_,y,N⟩)
 have b2:=hspec args r hF w1 Q (fun k=>η (cids.getD k 0)) (K++(cids.map η).toArray) a6 A
  (fun k o M=>by
   obtain ⟨g,rfl⟩:=l k o M;obtain ⟨b,L,S,y,D,h3⟩:=t k g
   have a4:=z k g b (by rw [y];simp [Y9]);show ORep w1 Q _ _ (η (cids.getD k 0)) _
   rw [y];have b8:(cs.getD k []).all CV.closed=true:=List.all_eq_true.1 hcl _ (Yp g)
   exact .box b true L S _ ((I b (J5 D) a4).trans D) ((h3.mono (η':=η) G (fun _ _=>rfl)).free b8))
  (fun i j b d O b4 a9=>by
   obtain ⟨oi,d⟩:=Option.ne_none_iff_exists'.1 d;obtain ⟨oj,O⟩:=Option.ne_none_iff_exists'.1 O
   obtain ⟨b6,_⟩:=l i oi d;obtain ⟨b7,_⟩:=l j oj O
   obtain ⟨r1,y⟩:=n i b6;obtain ⟨r2,D⟩:=n j b7
   have T:=W.ds _ _ b (by rw [y];simp) (by rw [D];simp) b4 a9;have hn:=Ub hnd
   have a8:i<cids.length:=by omega
   have b3:j<cids.length:=by omega
   rw [List.getD_eq_getElem?_getD,List.getD_eq_getElem?_getD,List.getElem?_eq_getElem a8,List.getElem?_eq_getElem b3] at T;exact (List.getElem_inj hn).1 (by simpa using T))
  (by simp [b9,Wr,hlen])
  (fun j O=>by
   rw [List.length_append] at O
   by_cases hja:j<args.length
   .have e1:(K++(cids.map η).toArray).getD j undef=K.getD j undef:=by
     have:j<K.size:=by omega
     simp [Array.getD_eq_getD_getElem?,Array.getElem?_append,this]
    have e2:(args++Wr cs).getD j .any=args.getD j .any:=by simp [List.getD_eq_getElem?_getD,List.getElem?_append,hja]
    grind
   .have g:j-args.length<cs.length:=by simp [Wr] at O;omega
    obtain ⟨b,L,S,y,D,h3⟩:=t _ g;have e1:(K++(cids.map η).toArray).getD j undef=η (cids.getD (j-args.length) 0):=by
     have g1:¬ j<K.size:=by omega
     have g2:j-K.size<cids.length:=by omega
     have g3:j-args.length<cids.length:=by omega
     have:j-K.size=j-args.length:=by omega
     simp [Array.getD_eq_getD_getElem?,Array.getElem?_append,g1,List.getD_eq_getElem?_getD,this,g3]
    have e2:(args++Wr cs).getD j .any=.v (.c (.ptr (j-args.length) 0)):=by
     simp [List.getD_eq_getElem?_getD,List.getElem?_append,hja,Wr,g]
    rw [e1,e2,y];exact .v _ _ (.c _ _ (.ptr b _ 0 y)))
 refine b2.mono fun en w' hh=>?_
 obtain ⟨v,η',rfl,B⟩:=hh;refine ⟨v,rfl,B.stp.mono fun b _ hM=>?_,fun η2 C2=>?_⟩
 .obtain ⟨i,q,d,c1,_⟩:=hM
  obtain ⟨_,rfl⟩:=l i q d;cases c1
 .have hX:∀ b,XS (Qr (Zt cs) w1 Q fun k=>η (cids.getD k 0)) (ls (Zt cs)) η' b↔Q b:=by
   have J:∀ i q,ls (Zt cs) i=some q -> η' i=η (cids.getD i 0):=by
    intro i q d;refine B.pn i _ ?_
    unfold ls at d;simp [Qr,d]
   intro b;constructor
   .rintro (⟨hx,_⟩|⟨i,q,d,h⟩)
    .exact hx
    .rw [J i q d] at h
     exact A b ⟨i,q,d,h⟩
   .intro hx
    rcases Classical.em (Own (ls (Zt cs)) (fun k=>η (cids.getD k 0)) b) with ho|ho
    .obtain ⟨i,q,d,h⟩:=ho
     exact .inr ⟨i,q,d,by rw [J i q d];exact h⟩
    .exact .inl ⟨hx,ho⟩
  exact (B.res.mono (η':=η') (fun b _ hx=>⟨rfl,fun b0=>hx ((hX b).2 b0)⟩) (fun _ _=>rfl)).free (hres args r hF)
end
end
section
class Emb (α:Type) where
 cells:α->List DVal
 es:Nat
 d:α
 len:∀ x,(cells x).length=es
section
variable {α:Type} [Emb α]
def LF(l:List α)(i:Nat):List DVal:=Emb.cells (l.getD i Emb.d)
def DL(l:List α):DVal:=.lst l.length (LF l)
def AL(l:List α):AVal:=.v (.c (.d (DL l)))
def AO(l:List α):Obj:=.arr (Emb.es α) l.length (LF l)
structure Is (n:Nat) (f:Nat->List DVal) (l:List α):Prop where
 len_eq:n=l.length
 at_eq:∀ i,i<n->f i=LF l i
theorem Is.refl(l:List α):Is l.length (LF l) l:=⟨rfl,fun _ _=>rfl⟩
theorem Is.nil{f:Nat->List DVal}:Is 0 f ([]:List α):=⟨rfl,fun i a=>by omega⟩
theorem Is.app{n k:Nat}{f g:Nat->List DVal}{l m:List α}(h:Is n f l)(h' : Is k g m):Is (n+k) (QF n f g) (l++m):=by
 obtain ⟨a,c⟩:=h;obtain ⟨b,d⟩:=h'
 subst a b;refine ⟨by simp,fun i j=>?_⟩
 unfold QF LF
 by_cases hil:i<l.length
 .rw [if_pos hil,c i hil,LF,List.getD_eq_getElem?_getD,List.getD_eq_getElem?_getD,List.getElem?_append_left hil]
 .rw [if_neg hil,d _ (by omega),LF,List.getD_eq_getElem?_getD,List.getD_eq_getElem?_getD,List.getElem?_append_right (by omega)]
theorem Q9Q{β γ:Type}{l:List β}{m:List γ}{δ:Type}{f:β->δ}{g:γ->δ}(h:l.map f=m.map g)(i:Nat):(l[i]?).map f=(m[i]?).map g:=by
 rw [<-List.getElem?_map, <-List.getElem?_map,h]
theorem Is.lit{k:Nat}{g:Nat->List DVal}(ys:List α)(h:(List.range k).map g=ys.map Emb.cells):Is k g ys:=by
 have b:k=ys.length:=by simpa using congrArg List.length h
 refine ⟨b,fun i a=>?_⟩;have:=Q9Q h i
 rw [List.getElem?_range a,List.getElem?_eq_getElem (by omega)] at this;simp only [Option.map_some,Option.some.injEq] at this
 rw [this,LF,List.getD_eq_getElem?_getD,List.getElem?_eq_getElem (by omega)];rfl
theorem Is.set{n i:Nat}{f:Nat->List DVal}{l:List α}{off:Nat}{ds:List DVal}(h:Is n f l)(hi:i<n)(y:α)(hy:Yj (f i) off ds=Emb.cells y):
  Is n (fun j=>if j=i then Yj (f i) off ds else f j) (l.set i y):=by
 obtain ⟨a,b⟩:=h;refine ⟨by simpa using a,fun j c=>?_⟩
 unfold LF;rw [List.getD_eq_getElem?_getD]
 by_cases hji:j=i
 .subst hji
  rw [if_pos rfl,hy,List.getElem?_set_self (by omega)];rfl
 .rw [if_neg hji,List.getElem?_set_ne (fun h=>hji h.symm),b j c,LF,List.getD_eq_getElem?_getD]
theorem Is.take{n:Nat}{f:Nat->List DVal}{l:List α}(h:Is n f l){k:Int}(hk:k<=n):Is k.toNat f (l.take k.toNat):=by
 obtain ⟨c,b⟩:=h;refine ⟨by simp;omega,fun j a=>?_⟩
 rw [b j (by omega),LF,LF,List.getD_eq_getElem?_getD,List.getD_eq_getElem?_getD,List.getElem?_take,if_pos a]
theorem Is.rep{n:Nat}{z:List DVal}(hz:z=Emb.cells (Emb.d:α)):Is n (fun _=>z) (List.replicate n (Emb.d:α)):=by
 refine ⟨by simp,fun j a=>?_⟩;rw [hz,LF,List.getD_eq_getElem?_getD,List.getElem?_replicate,if_pos a];rfl
theorem Is.len{n:Nat}{f:Nat->List DVal}{l:List α}(h:Is n f l):∀ j,j<n->(f j).length=Emb.es α:=fun j a=>by rw [h.at_eq j a];exact Emb.len _
theorem DRep.is{w:World}{X:Nat->Prop}{v:Value}{n:Nat}{f:Nat->List DVal}{l:List α}(h:Is n f l)(hr:DRep w X v (.lst n f)):DRep w X v (DL l):=by
 obtain ⟨g,k⟩:=h;unfold DL
 cases hr with
 | nil a cap _=>
  have:l.length=0:=g.symm
  rw [this];exact .nil a cap _
 | lst b off n cap c e fz _ es g1 g2 g3 g4 g5 g6=>
  rw [<-g];exact .lst b off n cap c e fz _ es g1 g2 g3 g4 (fun i d=>by rw [<-k i d];exact g5 i d) fun i j d m=>by rw [<-k i d];exact g6 i j d m
theorem J1.is{n:Nat}{f:Nat->List DVal}{l:List α}(h:Is n f l):J1 (.arr (Emb.es α) n f) (AO l):=by
 refine ⟨fun w X η C v k=>?_,rfl,fun i a=>by cases a⟩;obtain ⟨d,g⟩:=h
 unfold AO
 cases k with
 | nil ad es _=>
  have:l.length=0:=d.symm
  rw [this];exact .nil ad _ _
 | arr b n cap es c e _ g1 g2 g3 g4 g5 g6 g7=>
  rw [<-d];exact .arr b n cap _ c e _ g1 g2 g3 g4 g5 (fun i a=>by rw [<-g i a];exact g6 i a) fun i j a m=>by rw [<-g i a];exact g7 i j a m
theorem Wk(l:List α)(lo hi:Option Int)(h:(sl l.length (LF l) lo hi).2):Is (sl l.length (LF l) lo hi).1.1 (sl l.length (LF l) lo hi).1.2
  (match lo,hi with|none,none=>l|some a,none=>l.drop a.toNat|none,some b=>l.take b.toNat|some a,some b=>(l.take b.toNat).drop a.toNat):=by
 cases lo with
 | none=>cases hi with
  | none=>exact .refl l
  | some b=>exact (Is.refl l).take h.2
 | some a=>cases hi with
  | none=>
   refine ⟨by simp [sl],fun i hi=>?_⟩;simp only [sl,LF,List.getD_eq_getElem?_getD,List.getElem?_drop]
  | some b=>
   simp only [sl] at h;refine ⟨by simp only [sl,List.length_drop,List.length_take];omega,fun i hi=>?_⟩
   simp only [sl] at hi;simp only [sl,LF,List.getD_eq_getElem?_getD,List.getElem?_drop,List.getElem?_take]
   grind
end
def K5(x y:CV):Prop:=(∀ w X η C v,CRep w X η C v x->CRep w X η C v y)/\∀ i ∈ y.refs,i ∈ x.refs
theorem K5.refl(x:CV):K5 x x:=⟨fun _ _ _ _ _ h=>h,fun _ h=>h⟩
theorem K5.lst{α:Type}[Emb α]{n:Nat}{f:Nat->List DVal}{l:List α}(h:Is n f l):K5 (.d (.lst n f)) (.d (DL l)):=
 ⟨fun w X η C v a=>by cases a with|d _ _ a=>exact .d _ _ (a.is h),fun i b=>by cases b⟩
theorem K5.fl{α:Type}[Emb α]{n:Nat}{f:Nat->List DVal}{l:List α}(h:Is n f l):K5 (.fl n f) (.d (DL l)):=
 ⟨fun w X η C v a=>by cases a with|fl _ _ _ a=>exact .d _ _ (a.is h),fun i b=>by cases b⟩
theorem Z4C{α:Type}[Emb α]{n:Nat}{f:Nat->List DVal}{l:List α}(h:Is n f l):K5 (.fl n f) (.fl l.length (LF l)):=
 ⟨fun w X η C v a=>by
  cases a with
  | fl _ _ _ a=>
   have:=a.is h
   unfold DL at this;have b:=h.len_eq
   subst b;exact .fl _ _ _ this,fun i c=>by cases c⟩
def JZ:List CV->List CV->Prop
 | [],[]=>True
 | x::xs,y::ys=>K5 x y/\JZ xs ys
 | _,_=>False
theorem JZ.spec{xs ys:List CV}(h:JZ xs ys):xs.length=ys.length/\(∀ j,K5 (xs.getD j (.d .any)) (ys.getD j (.d .any)))/\∀ i ∈ ys.flatMap CV.refs,i ∈ xs.flatMap CV.refs:=by
 induction xs generalizing ys with
 | nil=>cases ys with
  | nil=>exact ⟨rfl,fun j=>K5.refl _,fun i a=>a⟩
  | cons y ys=>exact h.elim
 | cons x xs ih=>cases ys with
  | nil=>exact h.elim
  | cons y ys=>
   obtain ⟨b,f⟩:=h;obtain ⟨g,c,k⟩:=ih f
   refine ⟨by simp [g],fun j=>?_,fun i a=>?_⟩
   .cases j with
    | zero=>exact b
    | succ j=>exact c j
   .simp only [List.flatMap_cons,List.mem_append] at a ⊢
    rcases a with a|a
    .exact .inl (b.2 i a)
    all_goals grind
theorem JZ.rep{xs ys:List CV}(h:JZ xs ys){w:World}{X:Nat->Prop}{η:Nat->Value}{C:Ctx}{vs:Array Value}(hv:y8 w X η C vs xs):y8 w X η C vs ys:=by
 obtain ⟨b,a,_⟩:=h.spec;exact ⟨hv.1.trans b,fun j c=>(a j).1 _ _ _ _ _ (hv.2 j (by omega))⟩
def He(x y:TV):Prop:=(∀ w X η C v,TRep w X η C v x->TRep w X η C v y)/\∀ i ∈ y.refs,i ∈ x.refs
theorem He.c{x y:CV}(h:K5 x y):He (.c x) (.c y):=⟨fun w X η C v a=>by cases a with|c _ _ a=>exact .c _ _ (h.1 _ _ _ _ _ a),h.2⟩
theorem He.g{xs ys:List CV}(h:JZ xs ys):He (.g xs) (.g ys):=⟨fun w X η C v a=>by cases a with|g _ _ a=>exact .g _ _ (h.rep a),h.spec.2.2⟩
theorem Y3.v{x y:TV}(h:He x y):Y3 (.v x) (.v y):=⟨fun w X η C v a=>by cases a with|v _ _ a=>exact .v _ _ (h.1 _ _ _ _ _ a),h.2⟩
theorem Y3.c{x y:CV}(h:K5 x y):Y3 (.v (.c x)) (.v (.c y)):=.v (.c h)
theorem Y3.g{xs ys:List CV}(h:JZ xs ys):Y3 (.v (.g xs)) (.v (.g ys)):=.v (.g h)
theorem J1.box{ro:Bool}{xs ys:List CV}(h:JZ xs ys):J1 (.box ro xs) (.box ro ys):=
 ⟨fun w X η C v a=>by cases a with|box b _ c e _ h1 h2=>exact .box b ro c e _ h1 (h.rep h2),rfl,h.spec.2.2⟩
theorem Y3.lst{α:Type}[Emb α]{n:Nat}{f:Nat->List DVal}{l:List α}(h:Is n f l):Y3 (.v (.c (.d (.lst n f)))) (AL l):=.c (.lst h)
theorem Y3.bool{b c:Bool}(h:b=c):Y3 (vb b) (vb c):=.of_eq (congrArg vb h)
def FE:List (Nat×AVal)->List (Nat×AVal)->Prop
 | [],[]=>True
 | (t,x)::E,(u,y)::E'=>t=u/\Y3 x y/\FE E E'
 | _,_=>False
def Hl:List (Nat×Obj)->List (Nat×Obj)->Prop
 | [],[]=>True
 | (t,x)::E,(u,y)::E'=>t=u/\J1 x y/\Hl E E'
 | _,_=>False
theorem FE.lk{E E' : List (Nat×AVal)}(h:FE E E')(t:Nat):Y3 (lk E t) (lk E' t):=by
 induction E generalizing E' with
 | nil=>cases E' with
  | nil=>exact Y3.refl _
  | cons p r=>exact h.elim
 | cons p r ih=>cases E' with
  | nil=>exact h.elim
  | cons q s=>
   obtain ⟨b,c,a⟩:=h;have:=ih a
   unfold Ab.lk at this ⊢
   grind
theorem Hl.ls{S S' : List (Nat×Obj)}(h:Hl S S')(i:Nat)(o' : Obj)(hi:ls S' i=some o'):∃ o,ls S i=some o/\J1 o o':=by
 induction S generalizing S' with
 | nil=>cases S' with
  | nil=>cases hi
  | cons p r=>exact h.elim
 | cons p r ih=>cases S' with
  | nil=>exact h.elim
  | cons q s=>
   obtain ⟨b,c,a⟩:=h;have:=ih a
   unfold Ab.ls at this hi ⊢
   grind
section
variable {P:Program} {C:Ctx} {nt:Nat} {L:Lay} {pins:List Nat} {K:Act->World->Prop} {E:List (Nat×AVal)} {S:List (Nat×Obj)} {Q:Exit->Act->World->Prop}
theorem JW(E' : List (Nat×AVal))(S' : List (Nat×Obj))(hE:FE E E')(hS:Hl S S')(h:Kn C nt E' S' K):Kn C nt E S K:=by
 intro R η a w c;refine h R (fun i=>η i) a w (c.conv (fun i=>i) (fun t=>by rw [Hq];exact hE.lk t) (fun i x b=>?_) (fun i j b f d=>d) (fun u i b=>c.er u i ((hE.lk u).2 i b)) (fun i x b=>?_) (fun i b=>?_))
 .rw [Hj];exact hS.ls i x b
 .obtain ⟨o,k,l⟩:=hS.ls i x b
  have:=c.sr i o k
  exact ⟨this.1,fun j f=>this.2 j (l.2.2 j f)⟩
 .obtain ⟨v,g⟩:=Option.ne_none_iff_exists'.1 b
  exact ⟨rfl,(c.pn i v g).2⟩
theorem Fr.pinsB(Fm:Fr P L C pins){ρ:List (Nat×Nat)}(h:pins.all (fun i=>U9 ρ i==i)=true):pinsB C (U9 ρ):=fun i a=>by
 have:=List.all_eq_true.1 h i (Fm.pin i a)
 grind
theorem vw(Fm:Fr P L C pins)(ρ:List (Nat×Nat))(E' : List (Nat×AVal))(S' : List (Nat×Obj))(hp:pins.all (fun i=>U9 ρ i==i)=true)(hE:E'.map (fun p=>lk E p.1)=E'.map (fun p=>p.2.ren (U9 ρ)))(hS:S'.map (fun p=>ls S (U9 ρ p.1))=S'.map (fun p=>some (p.2.ren (U9 ρ))))(hinj:ZV (S'.map fun p=>U9 ρ p.1)=true)(h:Kn C nt E' S' K):Kn C nt E S K:=
 Z3X ρ (Fm.pinsB hp) hE hS hinj h
def CV.frz(k n:Nat)(f:Nat->List DVal):CV->CV
 | .own i=>if i=k then .d (.lst n f) else .own i
 | .ap i=>if i=k then .d (.lst n f) else .ap i
 | x=>x
def TV.frz(k n:Nat)(f:Nat->List DVal):TV->TV
 | .c x=>.c (x.frz k n f)
 | .g xs=>.g (xs.map (CV.frz k n f))
def AVal.frz(k n:Nat)(f:Nat->List DVal):AVal->AVal
 | .any=>.any
 | .v x=>.v (x.frz k n f)
 | .t xs=>.t (xs.map (TV.frz k n f))
def Obj.frz(k n:Nat)(f:Nat->List DVal):Obj->Obj
 | .box ro cs=>.box ro (cs.map (CV.frz k n f))
 | o=>o
end
section
variable {w:World} {X X' : Nat->Prop} {η:Nat->Value} {C:Ctx} {k n:Nat} {f:Nat->List DVal}
theorem CRep.frz{v:Value}{x:CV}(h:CRep w X η C v x)(hX:∀ b,¬ X b->¬ X' b)(hk:DRep w X' (η k) (.lst n f)):CRep w X' η C v (x.frz k n f):=by
 have a:∀ b,b<w.heap.size->¬ X b->w.heap[b]?=w.heap[b]? /\ ¬ X' b:=fun b _ o=>⟨rfl,hX b o⟩
 cases h with
 | d _ _ h=>exact .d _ _ (h.mono a)
 | fl _ _ _ h=>exact .fl _ _ _ (h.mono a)
 | own _ i h h1=>
  simp only [CV.frz];split
  .rename_i m;subst m;rw [h];exact .d _ _ hk
  .exact .own _ _ h h1
 | ptr _ _ _ h=>exact .ptr _ _ _ h
 | pte _ _ _ _ _ _ _ h=>exact .pte _ _ _ _ _ _ _ h
 | sub b N cap _ es lo n h h1 h2=>exact .sub b N cap _ es lo n h h1 h2
 | subN ad ad' N _ es h=>exact .subN ad ad' N _ es h
 | elm b off c e fz cs h1 h2 h3 h4=>exact .elm b off c e fz cs (hX _ h1) h2 h3 fun j g=>(h4 j g).mono a
 | clo _ _ _ h=>exact .clo _ _ _ h
 | sem _ _ h h1=>exact .sem _ _ h h1
 | ap v i h h1=>
  simp only [CV.frz];split
  .rename_i m
   subst m;rcases h with h|h|⟨l,h⟩
   .rw [<-h];exact .d _ _ hk
   .rw [h] at hk;cases hk
   .rw [h] at hk;cases hk
  .exact .ap _ _ h h1
 | bnd f vs cs h1 h2=>exact .bnd f vs cs h1 fun j g=>(h2 j g).mono a
 | cp _ id j vs h h1 h2=>exact .cp _ id j vs h h1 h2
theorem y8.frz{vs:Array Value}{cs:List CV}(h:y8 w X η C vs cs)(hX:∀ b,¬ X b->¬ X' b)(hk:DRep w X' (η k) (.lst n f)):y8 w X' η C vs (cs.map (CV.frz k n f)):=by
 refine ⟨by simpa using h.1,fun j c=>?_⟩;have a : j<cs.length:=by simpa using c
 have:=(h.2 j a).frz hX hk
 grind
theorem TRep.frz{v:Value}{x:TV}(h:TRep w X η C v x)(hX:∀ b,¬ X b->¬ X' b)(hk:DRep w X' (η k) (.lst n f)):TRep w X' η C v (x.frz k n f):=by
 cases h with
 | c _ _ h=>exact .c _ _ (h.frz hX hk)
 | g _ _ h=>exact .g _ _ (h.frz hX hk)
theorem ARep.frz{v:Value}{x:AVal}(h:ARep w X η C v x)(hX:∀ b,¬ X b->¬ X' b)(hk:DRep w X' (η k) (.lst n f)):ARep w X' η C v (x.frz k n f):=by
 cases h with
 | any=>exact .any v
 | v _ _ h=>exact .v _ _ (h.frz hX hk)
 | t us xs h1 h2=>
  refine .t us _ (by simpa using h1) fun j c=>?_
  have a : j<xs.length:=by simpa using c
  have:=(h2 j a).frz hX hk
  grind
theorem ORep.frz{v:Value}{o:Obj}(h:ORep w X η C v o)(hX:∀ b,¬ X b->¬ X' b)(hk:DRep w X' (η k) (.lst n f)):ORep w X' η C v (o.frz k n f):=by
 cases h with
 | box b ro c e cs h1 h2=>exact .box b ro c e _ h1 (h2.frz hX hk)
 | nil ad es f=>exact .nil ad es f
 | arr b n cap es c e f h1 h2 h3 h4 h5 h6 h7=>exact .arr b n cap es c e f h1 h2 h3 h4 h5 h6 fun i j g d=>(h7 i j g d).mono fun b _ a=>⟨rfl,hX b a⟩
 | ext _ p h1 h2 h3=>exact .ext _ p (h2 w w X X' (fun b _ a=>⟨rfl,hX b a⟩) (fun _ _=>rfl) h1) h2 h3
 | exr _ refs p h1 h2 h3=>exact .exr _ refs p (h2 w w X X' (fun b _ a=>⟨rfl,hX b a⟩) (fun _ _=>rfl) h1) h2 h3
theorem Xe{α β:Type}{fr:α->List Nat}{gr:β->List Nat}{g:α->β}{l:List α}(h:∀ x,∀ j ∈ gr (g x),j ∈ fr x):∀ j ∈ (l.map g).flatMap gr,j ∈ l.flatMap fr:=by
 grind
theorem vM(x:CV):∀ j ∈ (x.frz k n f).refs,j ∈ x.refs:=by
 cases x <;> simp only [CV.frz] <;> try exact fun j a=>a
 all_goals
  split
  .intro j a;cases a
  .exact fun j a=>a
theorem Q2m(x:TV):∀ j ∈ (x.frz k n f).refs,j ∈ x.refs:=by
 cases x with
 | c x=>exact vM x
 | g xs=>exact Xe vM
theorem Z4T(x:AVal):∀ j ∈ (x.frz k n f).refs,j ∈ x.refs:=by
 cases x with
 | any=>exact fun j a=>a
 | v x=>exact Q2m x
 | t xs=>exact Xe Q2m
theorem Z3V(o:Obj):∀ j ∈ (o.frz k n f).refs,j ∈ o.refs:=by
 cases o with
 | box ro cs=>exact Xe vM
 | arr es n f=>exact fun j a=>a
 | ext p=>exact fun j a=>a
 | exr refs p=>exact fun j a=>a
end
end
section
section
variable {P:Program} {C:Ctx} {nt:Nat} {L:Lay} {pins:List Nat} {K:Act->World->Prop} {E:List (Nat×AVal)} {S:List (Nat×Obj)} {Q:Exit->Act->World->Prop}
theorem SG{g:AVal->AVal}(hg:g .any=.any)(E:List (Nat×AVal))(t:Nat):lk (E.map fun p=>(p.1,g p.2)) t=g (lk E t):=by
 unfold lk
 induction E with
 | nil=>exact hg.symm
 | cons p r ih=>
  grind
theorem UH{g:Obj->Obj}(S:List (Nat×Obj))(i:Nat):ls (S.map fun p=>(p.1,g p.2)) i=(ls S i).map g:=by
 unfold ls
 induction S with
 | nil=>rfl
 | cons p r ih=>
  grind
theorem Z4h{k es n:Nat}{f:Nat->List DVal}(E' : List (Nat×AVal))(S' : List (Nat×Obj))(hE:E.map (fun p=>(p.1,p.2.frz k n f))=E')(hS:S.map (fun p=>(p.1,p.2.frz k n f))=S')(hk:(S.map (·.1)).contains k=false)(h:Kn C nt E' S' K):Kn C nt E ((k,.arr es n f)::S) K:=by
 subst hE hS;intro R η a w m
 have z:ls ((k,.arr es n f)::S) k=some (.arr es n f):=by unfold ls;rw [List.lookup_cons];simp
 have G:ls S k=none:=by
  cases ho:ls S k with
  | none=>rfl
  | some o=>
   have:k ∈ S.map (·.1):=List.mem_map.2 ⟨_,y6 ho,rfl⟩
   grind
 have l:∀ i o,ls S i=some o->ls ((k,.arr es n f)::S) i=some o/\i≠k:=by
  intro i o d;have r:i≠k:=by intro h;rw [h,G] at d;cases d
  refine ⟨?_,r⟩;unfold ls;rw [List.lookup_cons]
  have:(i==k)=false:=by simpa using r
  rw [this];exact d
 have y:∀ b,Own (ls (S.map fun p=>(p.1,p.2.frz k n f))) η b->Own (ls S) η b:=by
  rintro b ⟨i,J,d,q⟩;rw [UH] at d
  cases ho:ls S i with
  | none=>rw [ho] at d;cases d
  | some o=>exact ⟨i,o,ho,q⟩
 have H:∀ b,¬ XS C (ls ((k,.arr es n f)::S)) η b->¬ XS C (ls (S.map fun p=>(p.1,p.2.frz k n f))) η b:=by
  intro b x N;rcases N with v|v
  .exact x (.inl v)
  .obtain ⟨i,o,d,q⟩:=y b v
   exact x (.inr ⟨i,o,(l i o d).1,q⟩)
 have U:∀ b,b<w.heap.size->¬ XS C (ls ((k,.arr es n f)::S)) η b->w.heap[b]?=w.heap[b]? /\ ¬ XS C (ls (S.map fun p=>(p.1,p.2.frz k n f))) η b:=fun b _ x=>⟨rfl,H b x⟩
 have F:∀ b,b ∈ Y9 (η k)->¬ XS C (ls (S.map fun p=>(p.1,p.2.frz k n f))) η b:=by
  intro b x v;rcases v with ⟨v,T⟩|v
  .rcases m.ow k _ b z x with ⟨A,_⟩|V|W
   .cases A
   .exact T (m.ok.md b V)
   .have:=m.ok.lt b v;omega
  .obtain ⟨i,o,d,q⟩:=y b v
   obtain ⟨I,M⟩:=l i o d;exact M (m.ds i k b (by rw [I];simp) (by rw [z];simp) q x)
 have B:DRep w (XS C (ls (S.map fun p=>(p.1,p.2.frz k n f))) η) (η k) (.lst n f):=by
  have:=m.st k _ z
  generalize hu:η k=u at this F
  cases this with
  | nil ad es f=>exact .nil ad 0 f
  | arr b n cap es c e f I M h3 h4 h5 h6 h7=>
   have x:¬ XS C (ls (S.map fun p=>(p.1,p.2.frz k n f))) η b:=F b (by simp [Y9];omega);refine .lst b 0 n cap c e _ f es x I h3 (by rw [M,Nat.zero_add];exact Nat.mul_le_mul_right _ h3) h6 fun i j d D=>?_
   rw [Nat.zero_add];exact (h7 i j d D).mono U
 refine h R η a w ⟨m.ok,m.df,m.sz,fun t=>?_,fun t i d=>?_,fun i J d=>?_,fun i J d=>?_,fun i j b d D=>?_,fun i J b d=>?_,m.fr,m.pn⟩
 .rw [SG (g:=AVal.frz k n f) rfl]
  exact (m.ev t).frz H B
 .rw [SG (g:=AVal.frz k n f) rfl] at d
  exact m.er t i (Z4T _ i d)
 .rw [UH] at d
  cases ho:ls S i with
  | none=>rw [ho] at d;cases d
  | some o=>
   rw [ho] at d;cases d
   exact (m.st i o (l i o ho).1).frz H B
 .rw [UH] at d
  cases ho:ls S i with
  | none=>rw [ho] at d;cases d
  | some o=>
   rw [ho] at d;cases d
   have:=m.sr i o (l i o ho).1
   exact ⟨this.1,fun j D=>this.2 j (Z3V o j D)⟩
 .have r:∀ i,ls (S.map fun p=>(p.1,p.2.frz k n f)) i≠none->ls ((k,.arr es n f)::S) i≠none:=by
   intro i d O;apply d
   rw [UH]
   cases ho:ls S i with
   | none=>rfl
   | some o=>rw [(l i o ho).1] at O;cases O
  exact m.ds i j b (r i d) (r j D)
 .rw [UH] at d
  cases ho:ls S i with
  | none=>rw [ho] at d;cases d
  | some o=>
   rw [ho] at d;cases d
   have A:(o.frz k n f).ro=o.ro:=by cases o <;> rfl
   rw [A];exact m.ow i o b (l i o ho).1
def gd{R:Type}(p:Prop)[Decidable p](x:Option R):Option R:=if p then x else none
theorem Q0h{R:Type}{p:Prop}[Decidable p]{x:Option R}{r:R}(h:gd p x=some r):p/\x=some r:=by
 unfold gd at h
 grind
theorem Z3g{α R:Type}{x:Option α}{f:α->Option R}{r:R}(h:x.bind f=some r):∃ z,x=some z/\f z=some r:=by
 cases x with
 | none=>cases h
 | some z=>exact ⟨z,rfl,h⟩
def br{R:Type}(b:Bool)(x y:Option R):Option R:=match b with|true=>x|false=>y
theorem Z3b{R:Type}{b:Bool}{x y:Option R}{r:R}(h:br b x y=some r)(hb:b=true):x=some r:=by subst hb;exact h
theorem Z3d{R:Type}{b:Bool}{x y:Option R}{r:R}(h:br b x y=some r)(hb:b=false):y=some r:=by subst hb;exact h
def Z9{σ R:Type}(body:(σ->Option R)->σ->Option R):Nat->σ->Option R
 | 0,_=>none
 | n+1,z=>body (Z9 body n) z
theorem Z4O{σ R:Type}{r:R}{x y:Code}(f:σ->Option R)(E' : σ->List (Nat×AVal))(S' : σ->List (Nat×Obj))(hy:∀ z,f z=some r->AW P C nt y (E' z) (S' z) Q)(hx:∀ J:Act->World->Prop,(∀ z,f z=some r->Kn C nt (E' z) (S' z) J)->AW P C nt x E S (Exit.then J Q)):AW P C nt (.seq x y) E S Q:=
 Q2I (hx _ fun z a=>hy z a)
theorem Z4K{σ R:Type}{r:R}{c:Code}{body:(σ->Option R)->σ->Option R}(E' : σ->List (Nat×AVal))(S' : σ->List (Nat×Obj))(round:∀ (again:σ->Option R) (z:σ) (J:Act->World->Prop),(∀ z',again z'=some r->Kn C nt (E' z') (S' z') J)->body again z=some r->AW P C nt c (E' z) (S' z) (Exit.then J Q)){n:Nat}{z0:σ}(h:Z9 body n z0=some r):AW P C nt (.loop c) (E' z0) (S' z0) Q:=by
 refine Z4L (σ:=Nat×σ) (fun p=>Z9 body p.1 p.2=some r) (fun p=>p.1) (fun p=>E' p.2) (fun p=>S' p.2) (fun p b=>?_) (n,z0) h;obtain ⟨m,z⟩:=p
 cases m with
 | zero=>cases b
 | succ m=>
  refine round (Z9 body m) z _ (fun z' a=>?_) b;exact Z4i (I:=fun p:Nat×σ=>Z9 body p.1 p.2=some r/\p.1<m+1) (E':=fun p=>E' p.2) (S':=fun p=>S' p.2) (m,z') ⟨a,Nat.lt_succ_self m⟩
def J0(L:Lay)(ops:Array Oper):List Oper->List Dir->U3->U5->Nat->U3
 | o::os,d::ds,e,s,k+1=>J0 L ops os ds (Zu o.dst (WJ L ops o d e s).v e) (Zy (WJ L ops o d e s).l s) k
 | _,_,e,_,_=>e
def QM(L:Lay)(ops:Array Oper):List Oper->List Dir->U3->U5->Nat->U5
 | o::os,d::ds,e,s,k+1=>QM L ops os ds (Zu o.dst (WJ L ops o d e s).v e) (Zy (WJ L ops o d e s).l s) k
 | _,_,_,s,_=>s
def Y8:List Oper->Nat->Oper
 | [],_=>default
 | o::_,0=>o
 | _::os,k+1=>Y8 os k
def Qv:List Dir->Nat->Array Oper->Oper->U3->Eff
 | .k f::_,0=>f
 | _::ds,k+1=>Qv ds k
 | _,_=>fun _ _ _=>default
def K3(P:Program)(C:Ctx)(nt:Nat)(L:Lay)(ops:Array Oper)(ds:List Dir)(e:U3)(s:U5)(k:Nat):Prop:=
 Ws P C nt ops (Y8 ops.toList k) (Qv ds k ops (Y8 ops.toList k) (J0 L ops ops.toList ds e s k)) (J0 L ops ops.toList ds e s k) (QM L ops ops.toList ds e s k)
theorem Z4I(Fm:Fr P L C pins){id:Nat}{ops:Array Oper}{draw:Bool}(ds:List Dir)(ρ:List (Nat×Nat))(c:(Nat->Prop)->Prop)(E' : List (Nat×AVal))(S' : List (Nat×Obj))(hc:c (K3 P C nt L ops ds (lk E) (ls S)))(hchk:Cr L pins nt ops draw ds E S ρ S'=true)(hC:JT P C nt L ops ops.toList ds (lk E) (ls S)=c (K3 P C nt L ops ds (lk E) (ls S)))(he0:E'.map (fun p=>UM ops.toList (Vu L ops ops.toList ds (lk E) (ls S)) (lk E) p.1)=E'.map (fun p=>p.2.ren (U9 ρ)))(hs0:S'.map (fun p=>UL (Vu L ops ops.toList ds (lk E) (ls S)) (ls S) (U9 ρ p.1))=S'.map (fun p=>some (p.2.ren (U9 ρ))))(k:Kn C nt E' S' (Q .normal)):AW P C nt (.region id ops draw) E S Q:=Z4H Fm ds ρ hchk (hC ▸ hc) he0 hs0 k
end
end
section
def XH(o:Oper):Bool:=match o.op with | .call { callee:=.value _,.. }=>true|_=>false
def Un(o:Oper):Operand:=match o.op with | .call { callee:=.value fx,.. }=>fx|_=>.const undef
def callXs(o:Oper):Array Operand:=match o.op with | .call { callee:=.value _,args,.. }=>args|_=> #[]
theorem Tf{o:Oper}(h:XH o=true):∃ tys,o.op=.call { callee:=.value (Un o),args:=callXs o,argTypes:=tys }:=by
 unfold XH at h;split at h
 .rename_i b c tys a
  exact ⟨tys,by simp only [Un,callXs,a]⟩
 .cases h
def cE(m:List (Nat×Nat))(extra:List Nat)(r:AVal)(Si So:List (Nat×Obj)):Array Oper->Oper->U3->Eff:=fun ops o e=>yU ops o e (U9 m) extra r Si So
def sE(r:AVal):Array Oper->Oper->U3->Eff:=fun ops o e=>Jk ops o e r
def GC(C:Ctx)(nt:Nat)(e:U3)(s:U5)(Si:List (Nat×Obj))(m:Nat->Nat)(rd ids:List Nat):List Operand->List AVal->Prop
 | [],[]=>True
 | x::xs,y::ys=>YG C nt e s Si m rd ids x y/\GC C nt e s Si m rd ids xs ys
 | _,_=>False
theorem GC.spec{C:Ctx}{nt:Nat}{e:U3}{s:U5}{Si:List (Nat×Obj)}{m:Nat->Nat}{rd ids:List Nat}{xs:List Operand}{ys:List AVal}(h:GC C nt e s Si m rd ids xs ys):
  xs.length=ys.length/\∀ j,j<ys.length->YG C nt e s Si m rd ids (xs.getD j (.const undef)) (ys.getD j .any):=by
 induction xs generalizing ys with
 | nil=>cases ys with
  | nil=>exact ⟨rfl,fun j a=>by simp at a⟩
  | cons y ys=>exact h.elim
 | cons x xs ih=>cases ys with
  | nil=>exact h.elim
  | cons y ys=>
   obtain ⟨b,c⟩:=h
   grind
theorem vP{C:Ctx}{nt:Nat}{e:U3}{s:U5}{Si:List (Nat×Obj)}{m:Nat->Nat}{rd ids:List Nat}:∀ {xs:List Operand} {ys:List AVal},xs.all (QA rd)=true->ys.all AVal.noSem=true->xs.map (Y2 e)=ys.map (AVal.ren m)->GC C nt e s Si m rd ids xs ys
 | [],[],_,_,_=>trivial
 | [],_::_,_,_,h=>by cases h
 | _::_,[],_,_,h=>by cases h
 | x::xs,y::ys,h1,h2,h3=>by
  simp only [List.all_cons,Bool.and_eq_true] at h1 h2;simp only [List.map_cons,List.cons.injEq] at h3
  exact ⟨Ho h1.1 (Y3.of_eq h3.1) h2.1,vP h1.2 h2.2 h3.2⟩
def Te(f:Nat):AVal->Bool
 | .v (.c (.clo g []))=>g==f
 | _=>false
theorem bL{f:Nat}{x:AVal}(h:Te f x=true):x=.v (.c (.clo f [])):=by
 unfold Te at h
 grind
def callB(ops:Array Oper)(nt:Nat)(e:U3)(o:Oper)(f:Nat)(m:List (Nat×Nat))(r:AVal)(Si So:List (Nat×Obj)):Bool:=
 XH o&&Te f (Y2 e (Un o))&&QA (QC o++Qp ops o) (Un o)&&Vq (U9 m) r Si So&&QJ nt o&&(QY ops e o==some true)
section
variable {P:Program} {C:Ctx} {nt:Nat} {L:Lay} {ops:Array Oper} {ds:List Dir} {e:U3} {s:U5}
theorem Q2z{k:Nat}{f:Nat}{args:List AVal}{Si:List (Nat×Obj)}{r:AVal}{So:List (Nat×Obj)}(hspec:G6 P f args Si r So)(hcall:∀ args w,(callFunc f args).run P w=.ok (.enter f args) w)(m:List (Nat×Nat))(extra:List Nat)(hk:Qv ds k=cE m extra r Si So)(hb:callB ops nt (J0 L ops ops.toList ds e s k) (Y8 ops.toList k) f m r Si So=true)(hsi:Si.map (fun p=>QM L ops ops.toList ds e s k (U9 m p.1))=Si.map (fun p=>some (p.2.ren (U9 m))))(hargs:GC C nt (J0 L ops ops.toList ds e s k) (QM L ops ops.toList ds e s k) Si (U9 m) (QC (Y8 ops.toList k)++Qp ops (Y8 ops.toList k)) (WA (J0 L ops ops.toList ds e s k) (Y8 ops.toList k)++(Si.map (fun p=>U9 m p.1)++extra))
   (callXs (Y8 ops.toList k)).toList args):K3 P C nt L ops ds e s k:=by
 unfold K3;rw [hk]
 simp only [callB,Bool.and_eq_true] at hb;obtain ⟨⟨⟨⟨⟨q,g⟩,d⟩,t⟩,c⟩,i⟩:=hb
 obtain ⟨o,a⟩:=Tf q;obtain ⟨h,b⟩:=hargs.spec
 exact Q4h hcall a (bL g) d hspec (by simpa using h) (U9 m) extra (fun j l=>b j l) (fun p u=>⟨_,JN hsi p u,J1.refl _⟩) t c (by simpa using i)
theorem Z4x{k:Nat}{f:Nat}{args:List AVal}{Si:List (Nat×Obj)}{r:AVal}{So:List (Nat×Obj)}(hspec:G6 P f args Si r So)(hcall:∀ args w,(callFunc f args).run P w=.ok (.enter f args) w)(m:List (Nat×Nat))(hk:Qv ds k=cE m [] r Si So)(hb:callB ops nt (J0 L ops ops.toList ds e s k) (Y8 ops.toList k) f m r Si So=true)(hsi:Si.map (fun p=>QM L ops ops.toList ds e s k (U9 m p.1))=Si.map (fun p=>some (p.2.ren (U9 m))))(hrd:((callXs (Y8 ops.toList k)).toList.all (QA (QC (Y8 ops.toList k)++Qp ops (Y8 ops.toList k)))&&args.all AVal.noSem)=true)(hargs:(callXs (Y8 ops.toList k)).toList.map (Y2 (J0 L ops ops.toList ds e s k))=args.map (AVal.ren (U9 m))):K3 P C nt L ops ds e s k:=by
 rw [Bool.and_eq_true] at hrd;exact Q2z hspec hcall m [] hk hb hsi (vP hrd.1 hrd.2 hargs)
def gp(ops:Array Oper)(nt:Nat)(e:U3)(o:Oper)(args:List AVal)(r:AVal):Bool:=
 XH o&&QA (QC o++Qp ops o) (Un o)&&(callXs o).toList.all (QA (QC o++Qp ops o))&&args.all AVal.closed&&r.closed&&QJ nt o&&(QY ops e o==some true)
theorem WY{k:Nat}{F:List AVal->AVal->Prop}{args:List AVal}{r:AVal}(hF:F args r)(hk:Qv ds k=sE r)(hb:gp ops nt (J0 L ops ops.toList ds e s k) (Y8 ops.toList k) args r=true)(hfx:Y2 (J0 L ops ops.toList ds e s k) (Un (Y8 ops.toList k))=Yh P F)(hargs:(callXs (Y8 ops.toList k)).toList.map (Y2 (J0 L ops ops.toList ds e s k))=args):K3 P C nt L ops ds e s k:=by
 unfold K3;rw [hk]
 simp only [gp,Bool.and_eq_true] at hb;obtain ⟨⟨⟨⟨⟨⟨q,l⟩,i⟩,o⟩,h⟩,m⟩,t⟩:=hb
 obtain ⟨p,a⟩:=Tf q;have c:(callXs (Y8 ops.toList k)).size=args.length:=by rw [<-hargs];simp
 refine Q4e a hfx hF c ⟨l,fun x g=>List.all_eq_true.1 i x g⟩ (fun j b=>?_) h m (by simpa using t);have d : j<(callXs (Y8 ops.toList k)).toList.length:=by simpa [c] using b
 have u:Y2 (J0 L ops ops.toList ds e s k) ((callXs (Y8 ops.toList k)).toList.getD j (.const undef))=args.getD j .any:=by
  grind
 exact ⟨Y3.of_eq u,List.all_eq_true.1 o _ (Yp b)⟩
end
end
instance (n:Int):Decidable (Q6 n):=inferInstanceAs (Decidable (_/\_))
def gl{α:Type}[Emb α](l:List α)(i:Nat):α:=l.getD i Emb.d
def QI(es:Nat)(ds:List DVal)(i:Nat):List DVal:=(ds.drop (i*es)).take es
theorem J3{i:Int}{n:Nat}(h:0<=i/\i<(n:Int)):i.toNat<n:=by omega
theorem FE.refl:∀ E:List (Nat×AVal),FE E E
 | []=>trivial
 | (_,_)::E=>⟨rfl,Y3.refl _,FE.refl E⟩
instance:Emb Int:=⟨fun x=>[.int .i64 x],1,0,fun _=>rfl⟩
instance:Emb Bool:=⟨fun x=>[.bool x],1,false,fun _=>rfl⟩
instance:Emb ByteArray:=⟨fun x=>[.str x],1,ByteArray.empty,fun _=>rfl⟩
instance {α:Type} [Emb α]:Emb (List α):=⟨fun x=>[DL x],1,[],fun _=>rfl⟩
section
section
variable {P:Program} {C:Ctx} {nt:Nat} {L:Lay} {ops:Array Oper} {ds:List Dir} {e:U3} {s:U5}
theorem Kf{o:Oper}{r:AVal}(hr:r.refs=[])(hdo:QJ nt o=true)(hg:QY ops e o=some true)(hex:∀ (R:Nat->Prop) (η:Nat->Value) (e0:U3) (s0:U5) (a:Act) (w:World),(∀ t ∈ QC o++Qp ops o,e0 t=e t)->Conc C nt R η e0 s0 a w->∃ v,(execOp a.eval o).run P w=.ok (.value v) w/\ARep w (XS C s0 η) η C v r):
  Ws P C nt ops o (Jk ops o e r) e s:=by
 intro R η e0 s0 a w b g x d K Q m;have y:=Uv (e:=e) d (fun t p=>b t (List.mem_append.2 (.inr p))) hg
 rw [if_pos y];obtain ⟨v,z,c⟩:=hex R η e0 s0 a w b d
 unfold Oper.wp;rw [z]
 show K (a.put o.dst v) w;refine m η _ w ?_
 have:=d.val o.dst (YO hdo) r v fun _=>⟨c,fun j h=>by rw [hr] at h;cases h⟩
 have q:Zy (Jk ops o e r).l s0=s0:=by funext i;rfl
 rw [q];have u:Zu o.dst (Jk ops o e r).v e0=SR.env { v:=r } o.dst e0:=rfl
 rw [u];exact this.wider fun i A=>.inl A
def yC(d:TypeDesc)(x y:CV):Option Bool:=
 match d,x,y with
 | .int _,.d (.int k a),.d (.int k' b)=>if k=k' then some (a==b) else none
 | .bool,.d (.bool a),.d (.bool b)=>some (a==b)
 | _,_,_=>none
def Cb(P:Program)(xs ys:List CV):List Field->Option Bool
 | []=>some true
 | f::fs=>if f.name= "_" then none else match P.underlying f.type,xs[f.offset]?,ys[f.offset]?,Cb P xs ys fs with
  | some d,some x,some y,some c=>match yC d x y with
   | some b=>some (b&&c)
   | none=>none
  | _,_,_,_=>none
theorem Z2i{w w1:World}{X:Nat->Prop}{η:Nat->Value}{d:TypeDesc}{x y:CV}{b:Bool}(h:yC d x y=some b){u v:Value}(hu:CRep w X η C u x)(hv:CRep w X η C v y){t:TypeId}(ht:P.underlying t=some d)(n:Nat):
  (isAgg t).run P w1=.ok false w1/\(Op.equalIn (n+1) t u v).run P w1=.ok b w1:=by
 unfold yC at h;split at h
 .split at h
  .cases h
   rename_i a
   subst a
   cases hu with|d _ _ hu=>cases hu with|int=>
   cases hv with|d _ _ hv=>cases hv with|int=>
   exact ⟨by simp [isAgg,run_underlying ht],run_equalIn_int _ _ _ _ _ _ _ ht⟩
  .cases h
 .cases h
  cases hu with|d _ _ hu=>cases hu with|bool=>
  cases hv with|d _ _ hv=>cases hv with|bool=>
  exact ⟨by simp [isAgg,run_underlying ht],run_equalIn_bool' _ _ _ _ _ ht⟩
 .cases h
theorem Q1k{w:World}{X:Nat->Prop}{η:Nat->Value}{vs:Array Value}{xs:List CV}(h:y8 w X η C vs xs){j:Nat}{x:CV}(hx:xs[j]?=some x):∃ v,vs[j]?=some v/\CRep w X η C v x:=by
 have b:j<xs.length:=(List.getElem?_eq_some_iff.1 hx).1;have a : j<vs.size:=by rw [h.1];exact b
 refine ⟨vs[j],Array.getElem?_eq_getElem a,?_⟩;have:=h.2 j b
 rw [List.getD_eq_getElem?_getD,hx] at this;simpa [Array.getD_eq_getD_getElem?,Array.getElem?_eq_getElem a] using this
theorem Q0Q{w:World}{X:Nat->Prop}{η:Nat->Value}{xs ys:List CV}{us vs:Array Value}(hu:y8 w X η C us xs)(hv:y8 w X η C vs ys)(n:Nat)(w1:World):∀ (fs:List Field) (b:Bool),Cb P xs ys fs=some b->(Op.eqFields (n+1) us vs fs).run P w1=.ok b w1
 | [],b,h=>by cases h;simp [Op.eqFields]
 | f::fs,b,h=>by
  simp only [Cb] at h;split at h
  .cases h
  .rename_i g
   split at h
   .rename_i d x y c F q B t
    split at h
    .rename_i G o
     cases h
     obtain ⟨u,j,l⟩:=Q1k hu q;obtain ⟨v,m,i⟩:=Q1k hv B
     obtain ⟨p,r⟩:=Z2i (P:=P) (w1:=w1) o l i F n;have z:=Q0Q hu hv n w1 fs c t
     have D:(part f.type us f.offset).run P w1=.ok u w1:=by simp [part,p,j]
     have A:(part f.type vs f.offset).run P w1=.ok v w1:=by simp [part,p,m]
     have a : f.name ≠ "_":=g;simp only [Op.eqFields,a,ne_eq,not_false_eq_true,if_true,Sem.run_bind,D,A,r,Result.andThen_ok]
     cases G with
     | true=>simpa using z
     | false=>simp
    .cases h
   .cases h
def Uj(o:Oper):Operand:=match o.op with | .binOp _ _ x _ _=>x|_=>.const undef
def Ui(o:Oper):Operand:=match o.op with | .binOp _ _ _ y _=>y|_=>.const undef
def Ca(o:Oper)(t:TypeId):Option Bool:=match o.op with
 | .binOp op t' _ _ _=>if t=t' then match op with
  | .eql=>some true
  | .neq=>some false
  | _=>none else none
 | _=>none
theorem Q0P{o:Oper}{t:TypeId}{q:Bool}(h:Ca o t=some q):∃ t',o.op=.binOp (if q then .eql else .neq) t (Uj o) (Ui o) t':=by
 unfold Ca at h;split at h
 .rename_i op d x y b a
  split at h
  .rename_i c
   subst c;split at h
   .cases h;exact ⟨b,by simp only [Uj,Ui,a];rfl⟩
   .cases h;exact ⟨b,by simp only [Uj,Ui,a];rfl⟩
   .cases h
  .cases h
 .cases h
structure EqT (P:Program) (t:TypeId):Prop where
 und:P.underlying t=some (.struct (P.fieldsOf t))
 held:P.stoodInHeld t=false
 guard:P.eqGuardType P.depth t=false
def Cc(ops:Array Oper)(nt:Nat)(e:U3)(o:Oper):Bool:=QA (QC o++Qp ops o) (Uj o)&&QA (QC o++Qp ops o) (Ui o)&&QJ nt o&&(QY ops e o==some true)
theorem vB{k:Nat}{t:TypeId}(ht:EqT P t)(q:Bool){xs ys:List CV}{b:Bool}(hk:Qv ds k=sE (vb (if q then b else !b)))(hop:Ca (Y8 ops.toList k) t=some q)(hb:Cc ops nt (J0 L ops ops.toList ds e s k) (Y8 ops.toList k)=true)(hx:Y2 (J0 L ops ops.toList ds e s k) (Uj (Y8 ops.toList k))=.v (.g xs))(hy:Y2 (J0 L ops ops.toList ds e s k) (Ui (Y8 ops.toList k))=.v (.g ys))(hfl:Cb P xs ys (P.fieldsOf t).toList=some b):K3 P C nt L ops ds e s k:=by
 unfold K3;rw [hk]
 simp only [Cc,Bool.and_eq_true] at hb;obtain ⟨⟨⟨x,r⟩,p⟩,y⟩:=hb
 obtain ⟨D,h⟩:=Q0P hop;refine Kf rfl p (by simpa using y) fun R η B A a w l m=>⟨.bool (if q then b else !b),?_,.v _ _ (.c _ _ (.d _ _ (.bool _)))⟩
 have i:=(J4 m (Uj (Y8 ops.toList k))).1;rw [ZO l x,hx] at i
 have j:=(J4 m (Ui (Y8 ops.toList k))).1;rw [ZO l r,hy] at j
 generalize hu:a.eval (Uj (Y8 ops.toList k))=u at i;generalize hv:a.eval (Ui (Y8 ops.toList k))=v at j
 cases i with|v _ _ i=>cases i with|g us _ i=>
 cases j with|v _ _ j=>cases j with|g vs _ j=>
 have z:=Q0Q (P:=P) i j 9998 w _ b hfl;have o:(Op.equalIn 10000 t (.agg us) (.agg vs)).run P w=.ok b w:=by
  rw [run_equalIn_agg w 9999 t us vs ht.und ht.held];exact z
 cases q with
 | true=>simp only [execOp,h,if_true,Sem.run_bind,hu,hv,run_eqGuard_agg w _ _ _ _ _ _ ht.guard,Result.andThen_ok,run_eql_struct,o,Sem.run_pure]
 | false=>simp only [execOp,h,Bool.false_eq_true,if_false,Sem.run_bind,hu,hv,run_eqGuard_agg w _ _ _ _ _ _ ht.guard,Result.andThen_ok,run_neq_struct,o,Sem.run_pure]
end
end
section
def nbP(n:Nat):World->(Nat->Prop)->(Nat->Prop)->Value->Prop:=fun _ _ _ v=>∃ b,v=.bool b/\(b=true->n=0)
def nb(n:Nat):AVal:=.v (.c (.sem (nbP n)))
def DVal.flat:DVal->Bool
 | .int _ _=>true
 | .bool _=>true
 | .str _=>true
 | _=>false
def CV.flat:CV->Bool
 | .d x=>x.flat
 | _=>false
def TV.flat:TV->Bool
 | .c x=>x.flat
 | .g xs=>xs.all CV.flat
def AVal.flat:AVal->Bool
 | .any=>true
 | .v x=>x.flat
 | .t xs=>xs.all TV.flat
section
variable {w w' : World} {X X' : Nat->Prop} {η η' : Nat->Value} {C C' : Ctx}
theorem CRep.flat{v:Value}{x:CV}(h:CRep w X η C v x)(hx:x.flat=true):CRep w' X' η' C' v x:=by
 cases h with
 | d _ _ h=>cases h with
  | int=>exact .d _ _ (.int _ _)
  | bool=>exact .d _ _ (.bool _)
  | str=>exact .d _ _ (.str _)
  | any=>cases hx
  | nil=>cases hx
  | lst=>cases hx
  | mp=>cases hx
 | _=>cases hx
theorem TRep.flat{v:Value}{x:TV}(h:TRep w X η C v x)(hx:x.flat=true):TRep w' X' η' C' v x:=by
 cases h with
 | c _ _ h=>exact .c _ _ (h.flat hx)
 | g _ _ h=>exact .g _ _ ⟨h.1,fun j a=>(h.2 j a).flat (List.all_eq_true.1 hx _ (Yp a))⟩
theorem ARep.flat{v:Value}{x:AVal}(h:ARep w X η C v x)(hx:x.flat=true):ARep w' X' η' C' v x:=by
 cases h with
 | any=>exact .any v
 | v _ _ h=>exact .v _ _ (h.flat hx)
 | t us xs h1 h2=>exact .t us xs h1 fun j a=>(h2 j a).flat (List.all_eq_true.1 hx _ (Yp a))
theorem Q2G{x:CV}(hx:x.flat=true):x.refs=[]:=by cases x <;> first|rfl|cases hx
theorem Q2n{x:TV}(hx:x.flat=true):x.refs=[]:=by
 cases x with
 | c x=>exact Q2G hx
 | g xs=>exact List.flatMap_eq_nil_iff.2 fun y a=>Q2G (List.all_eq_true.1 hx y a)
theorem Z4U{x:AVal}(hx:x.flat=true):x.refs=[]:=by
 cases x with
 | any=>rfl
 | v x=>exact Q2n hx
 | t xs=>exact List.flatMap_eq_nil_iff.2 fun y a=>Q2n (List.all_eq_true.1 hx y a)
end
section
variable {P:Program} {C:Ctx} {nt:Nat} {L:Lay} {ops:Array Oper} {ds:List Dir} {e:U3} {s:U5} {E:List (Nat×AVal)} {S:List (Nat×Obj)} {Q:Exit->Act->World->Prop}
theorem Q2L{t n:Nat}{x y:Code}(hb:lk E t=nb n)(ht:n=0->AW P C nt x E S Q)(hf:AW P C nt y E S Q):AW P C nt (.cond (.tmp t) x y) E S Q:=by
 intro R η a w g;have d:=g.ev t
 rw [hb] at d;have:∃ b,a.eval (.tmp t)=.bool b/\(b=true->n=0):=by
  change ∃ b,a.tmps.getD t undef=.bool b/\(b=true->n=0);generalize a.tmps.getD t undef=u at d
  cases d with|v _ _ h=>cases h with|c _ _ h=>cases h with|sem _ _ h _=>exact h
 obtain ⟨b,ev,i⟩:=this
 cases b with
 | true=>exact wp_cond_true ev (ht (i rfl) R η a w g)
 | false=>exact wp_cond_false ev (hf R η a w g)
def zm:AVal->Option Nat
 | .v (.c (.d (.lst n _)))=>some n
 | .v (.c (.fl n _))=>some n
 | _=>none
theorem Q9U{w:World}{X:Nat->Prop}{η:Nat->Value}{v:Value}{x:AVal}{n:Nat}(h:zm x=some n)(hv:ARep w X η C v x):∃ ad cap,v=.slice ad n cap/\(ad=none->n=0):=by
 unfold zm at h;split at h
 .cases h
  cases hv with|v _ _ hv=>cases hv with|c _ _ hv=>cases hv with|d _ _ hv=>cases hv with
   | nil a cap f=>exact ⟨a,cap,rfl,fun _=>rfl⟩
   | lst b off n cap c e fz f es=>exact ⟨_,_,rfl,fun h=>by cases h⟩
 .cases h
  cases hv with|v _ _ hv=>cases hv with|c _ _ hv=>cases hv with|fl a n f hv=>cases hv with
   | nil a cap f=>exact ⟨_,_,rfl,fun _=>rfl⟩
   | lst b off n cap c e fz f es=>exact ⟨_,_,rfl,fun h=>by cases h⟩
 .cases h
def zK(x:Operand):Bool:=match x with | .const (.slice none 0 0)=>true|_=>false
theorem Z0I{x:Operand}(h:zK x=true):x=.const (.slice none 0 0):=by
 unfold zK at h;split at h
 .rfl
 .cases h
theorem Q6J{t el:TypeId}(ht:P.underlying t=some (.slice el))(d:Nat)(ad:Option Addr)(n cap:Nat)(w:World):(Op.equalIn (d+1) t (.slice ad n cap) (.slice none 0 0)).run P w=.ok ad.isNone w:=by
 cases ad <;> simp only [Op.equalIn,Sem.run_bind,run_underlying ht,Result.andThen_ok,Sem.run_pure] <;> rfl
theorem Q6K{t el:TypeId}(ht:P.underlying t=some (.slice el))(ad:Option Addr)(n cap:Nat)(w:World):(binOp .eql t (.slice ad n cap) (.slice none 0 0)).run P w=.ok (.bool ad.isNone) w:=by
 have h:binOp .eql t (.slice ad n cap) (.slice none 0 0)=(do pure (.bool (<-Op.equalIn Op.maxDepth t (.slice ad n cap) (.slice none 0 0)))):=rfl;have a:=Q6J ht 9999 ad n cap w
 rw [h,Sem.run_bind];have b:(Op.equalIn Op.maxDepth t (.slice ad n cap) (.slice none 0 0)).run P w=.ok ad.isNone w:=a
 rw [b];rfl
theorem Q2y{k:Nat}{t el:TypeId}(ht:P.underlying t=some (.slice el)){n:Nat}(hk:Qv ds k=sE (nb n))(hop:Ca (Y8 ops.toList k) t=some true)(hb:Cc ops nt (J0 L ops ops.toList ds e s k) (Y8 ops.toList k)=true)(hx:zm (Y2 (J0 L ops ops.toList ds e s k) (Uj (Y8 ops.toList k)))=some n)(hy:zK (Ui (Y8 ops.toList k))=true):K3 P C nt L ops ds e s k:=by
 unfold K3;rw [hk]
 simp only [Cc,Bool.and_eq_true] at hb;obtain ⟨⟨⟨u,y⟩,l⟩,x⟩:=hb
 obtain ⟨B,b⟩:=Q0P hop;simp only [if_true] at b
 refine Kf rfl l (by simpa using x) fun R η A z a w g m=>?_
 have i:=(J4 m (Uj (Y8 ops.toList k))).1;rw [ZO g u] at i
 obtain ⟨j,d,p,h⟩:=Q9U hx i;refine ⟨.bool j.isNone,?_,.v _ _ (.c _ _ (.sem _ _ ⟨_,rfl,fun r=>h (by simpa using r)⟩ rfl))⟩
 have q:a.eval (Ui (Y8 ops.toList k))=.slice none 0 0:=by rw [Z0I hy];rfl
 have o:(eqGuard .eql t (Uj (Y8 ops.toList k)) (Ui (Y8 ops.toList k)) (.slice j n d) (.slice none 0 0)).run P w=.ok () w:=rfl;simp only [execOp,b,Sem.run_bind,q,p,o,Result.andThen_ok,Q6K ht,Sem.run_pure]
def WF(P:Program)(e:U3)(s:U5)(K7:List Nat)(rd:List Nat)(x:Operand)(y:AVal):Prop:=
 QA rd x=true/\((Y3 (Y2 e x) y/\y.closed=true)\/(∃ k es n f,k ∈ K7/\Y2 e x=.v (.c (.own k))/\s k=some (.arr es n f)/\y=.v (.c (.d (.lst n f))))\/∃ F,Y2 e x=Yh P F/\y=Yh P F)
theorem Q4g{f:Nat}(hcall:∀ args w,(callFunc f args).run P w=.ok (.enter f args) w){o:Oper}{fx:Operand}{xs:Array Operand}{tys:Array TypeId}(hop:o.op=.call { callee:=.value fx,args:=xs,argTypes:=tys })(hfx:Y2 e fx=.v (.c (.clo f [])))(hrf:QA (QC o++Qp ops o) fx=true){args:List AVal}{r:AVal}(hspec:G6 P f args [] r [])(hlen:xs.size=args.length)(K7:List Nat)(hargs:∀ j,j<args.length->WF P e s K7 (QC o++Qp ops o) (xs.toList.getD j (.const undef)) (args.getD j .any))(hids:∀ k ∈ K7,k ∈ WA e o)(hr:r.flat=true)(hdo:QJ nt o=true)(hg:QY ops e o=some true):Ws P C nt ops o (Jk ops o e r) e s:=by
 intro R η e0 A a w M a5 d0 x K Q hK;have hw:=Uv (e:=e) x (fun t ht=>M t (List.mem_append.2 (.inr ht))) hg
 rw [if_pos hw];have a7:=(J4 x fx).1
 rw [ZO M hrf,hfx] at a7;have c3:=TN (w:=w) hop (DW a7) hcall
 have a3:∀ b,XS C A η b->b<w.heap.size:=by
  rintro b (⟨m,_⟩|m)
  .exact Nat.lt_of_lt_of_le (x.ok.lt b m) x.fr.size
  .exact x.lt m
 let X1:Nat->Prop:=fun b=>XS C A η b/\∀ k ∈ K7,s k≠none->b ∉ Y9 (η k)
 have b9:QR w w (XS C A η) X1:=fun b _ p=>⟨rfl,fun m=>p m.1⟩
 have b7:=hspec w X1 η (xs.map a.eval++(([]:List Nat).map η).toArray) (fun b p=>a3 b p.1) (fun b ⟨i,y,q,_⟩=>by cases q) (fun i y q=>by cases q) (fun i j b q=>absurd rfl q) (by simp [hlen]) (fun j I=>by
  have b1 : j<xs.size:=by omega
  have e1:(xs.map a.eval++(([]:List Nat).map η).toArray).getD j undef=a.eval (xs.toList.getD j (.const undef)):=by simp [List.getD_eq_getElem?_getD,b1]
  rw [e1];obtain ⟨g0,g⟩:=hargs j I
  have m:=(J4 x (xs.toList.getD j (.const undef))).1;rw [ZO M g0] at m
  rcases g with ⟨O,g2⟩|⟨k,es,n,fl,O,g2,g3,g4⟩|⟨F,O,g2⟩
  .exact ((O.1 _ _ _ _ _ m).mono (η':=η) b9 (fun _ _=>rfl)).free g2
  .rw [g2] at m
   rw [g4];have hv:a.eval (xs.toList.getD j (.const undef))=η k:=by
    generalize a.eval (xs.toList.getD j (.const undef))=u at m
    cases m with|v _ _ m=>cases m with|c _ _ m=>cases m with|own _ _ h _=>exact h
   rw [hv];have J:A k=some (.arr es n fl):=by rw [a5 k (hids k O)];exact g3
   have T:=x.st k _ J;have V:∀ b,b ∈ Y9 (η k)->¬ X1 b:=fun b p m=>m.2 k O (by rw [g3];simp) p
   refine .v _ _ (.c _ _ (.d _ _ ?_));generalize η k=u at T V
   cases T with
   | nil ad es _=>exact .nil ad 0 fl
   | arr b n cap es c e _ G h2 h3 h4 h5 h6 h7=>
    refine .lst b 0 n cap c e _ fl es (V b (by simp [Y9];omega)) G h3 (by rw [h2,Nat.zero_add];exact Nat.mul_le_mul_right _ h3) h6 fun i j q I=>?_
    rw [Nat.zero_add];exact (h7 i j q I).mono fun b p hX=>⟨rfl,fun m=>hX m.1⟩
  .rw [O] at m
   rw [g2];have U:Qs P F C.w0 C.D C.X (a.eval (xs.toList.getD j (.const undef)))/\(a.eval (xs.toList.getD j (.const undef))).oneCell'=true:=by
    generalize a.eval (xs.toList.getD j (.const undef))=u at m
    cases m with|v _ _ h=>cases h with|c _ _ h=>cases h with|sem _ _ h G=>exact ⟨h,G⟩
   obtain ⟨⟨ff,a9,b8,B,b3⟩,Y⟩:=U;refine .v _ _ (.c _ _ (.sem _ _ ⟨ff,a9,b8,B,?_⟩ Y))
   intro w1 X2 vs N r2 hF b2 a1 b5 b4 c1 z;have a0 : w.heap.size<=w1.heap.size:=b2
   have Z:∀ b,¬ (Qr ([]:List (Nat×Obj)) w X1 η).D b:=by rintro b ⟨i,y,q,_⟩;cases q
   refine b3 w1 X2 vs N r2 hF (Nat.le_trans x.fr.size a0) (fun b p W=>?_) b5 (fun b p W=>?_) c1 z
   .have H:b<w.heap.size:=Nat.lt_of_lt_of_le p x.fr.size
    exact (a1 b H (Z b)).trans (x.fr.block b p fun hM=>W (x.ok.md b hM))
   .have H:b<w.heap.size:=Nat.lt_of_lt_of_le p x.fr.size
    rw [b4 b H (Z b)];have a8:∀ i y,A i=some y -> b ∉ Y9 (η i):=by
     intro i y q a4;rcases x.ow i y b q a4 with ⟨_,G⟩|G|G
     .exact W G
     .exact W (x.ok.md b G)
     .omega
    constructor
    .rintro ⟨⟨m,_⟩|⟨i,y,q,a4⟩,_⟩
     all_goals grind
    .refine fun m=>⟨.inl ⟨m,W⟩,fun k hk J=>?_⟩
     obtain ⟨y,b6⟩:=Option.ne_none_iff_exists'.1 J;exact a8 k y (by rw [a5 k (hids k hk)];exact b6))
 unfold Oper.wp;rw [c3]
 show Calls P f _ w _;refine b7.mono fun en w' hh=>?_
 obtain ⟨v,η',rfl,p⟩:=hh;have a2:Stp (fun _=>False) w w':=p.stp.mono fun b _ hM=>by obtain ⟨i,y,q,_⟩:=hM;cases q
 have hs:SR.sto { v:=r } o.dst A=A:=by funext i;simp [SR.sto]
 have he:SR.eta { v:=r } o.dst v η=η:=by funext i;simp [SR.eta]
 have c0:SR.rng { v:=r } o.dst R=R:=by funext i;simp [SR.rng]
 have:=x.step o.dst (YO hdo) { v:=r } v w' (fun _=>False) a2 (fun b p=>p.elim) (fun o dd T=>by cases T) (fun k o T=>by cases T)
  (fun _=>by rw [hs,he];refine ⟨p.res.flat hr,fun j I=>?_⟩;simp only at I;rw [Z4U hr] at I;cases I)
 rw [hs,he,c0] at this;refine hK η _ w' ?_
 have hu:Zy (Jk ops o e r).l A=A:=by funext i;rfl
 rw [hu];exact this.wider fun i q=>.inl q
def Hn(P:Program)(e:U3)(s:U5)(K7:List Nat)(rd:List Nat):List Operand->List AVal->Prop
 | [],[]=>True
 | x::xs,y::ys=>WF P e s K7 rd x y/\Hn P e s K7 rd xs ys
 | _,_=>False
theorem Hn.spec{K7:List Nat}{rd:List Nat}{xs:List Operand}{ys:List AVal}(h:Hn P e s K7 rd xs ys):xs.length=ys.length/\∀ j,j<ys.length->WF P e s K7 rd (xs.getD j (.const undef)) (ys.getD j .any):=by
 induction xs generalizing ys with
 | nil=>cases ys with
  | nil=>exact ⟨rfl,fun j a=>by simp at a⟩
  | cons y ys=>exact h.elim
 | cons x xs ih=>cases ys with
  | nil=>exact h.elim
  | cons y ys=>
   obtain ⟨b,c⟩:=h
   grind
theorem WF.own{K7:List Nat}{rd:List Nat}{x:Operand}(k:Nat){es n:Nat}{f:Nat->List DVal}(h0:QA rd x=true)(h1:K7.contains k=true)(h2:Y2 e x=.v (.c (.own k)))(h3:s k=some (.arr es n f)):WF P e s K7 rd x (.v (.c (.d (.lst n f)))):=
 ⟨h0,.inr (.inl ⟨k,es,n,f,by simpa using h1,h2,h3,rfl⟩)⟩
theorem WF.sem{K7:List Nat}{rd:List Nat}{x:Operand}{F:List AVal->AVal->Prop}(h0:QA rd x=true)(h1:Y2 e x=Yh P F):WF P e s K7 rd x (Yh P F):=⟨h0,.inr (.inr ⟨F,h1,rfl⟩)⟩
def callBB(ops:Array Oper)(nt:Nat)(e:U3)(o:Oper)(f:Nat)(r:AVal)(K7:List Nat):Bool:=
 XH o&&Te f (Y2 e (Un o))&&QA (QC o++Qp ops o) (Un o)&&r.flat&&K7.all (fun k=>(WA e o).contains k)&&QJ nt o&&(QY ops e o==some true)
theorem Z4w{k:Nat}{f:Nat}{args:List AVal}{r:AVal}(hspec:G6 P f args [] r [])(hcall:∀ args w,(callFunc f args).run P w=.ok (.enter f args) w)(K7:List Nat)(hk:Qv ds k=sE r)(hb:callBB ops nt (J0 L ops ops.toList ds e s k) (Y8 ops.toList k) f r K7=true)(hargs:Hn P (J0 L ops ops.toList ds e s k) (QM L ops ops.toList ds e s k) K7 (QC (Y8 ops.toList k)++Qp ops (Y8 ops.toList k)) (callXs (Y8 ops.toList k)).toList args):K3 P C nt L ops ds e s k:=by
 unfold K3;rw [hk]
 simp only [callBB,Bool.and_eq_true] at hb;obtain ⟨⟨⟨⟨⟨⟨o,g⟩,d⟩,q⟩,c⟩,i⟩,p⟩:=hb
 obtain ⟨m,a⟩:=Tf o;obtain ⟨h,b⟩:=hargs.spec
 exact Q4g hcall a (bL g) d hspec (by simpa using h) K7 (fun j l=>b j l) (fun k hk=>by simpa using List.all_eq_true.1 c k hk) q i (by simpa using p)
end
end
section
section
variable {P:Program} {C:Ctx} {nt:Nat} {L:Lay} {ops:Array Oper} {ds:List Dir} {e:U3} {s:U5}
theorem Z4v{k:Nat}{f:Nat}{args:List AVal}{Si:List (Nat×Obj)}{r:AVal}{So:List (Nat×Obj)}(hspec:G6 P f args Si r So)(hcall:∀ args w,(callFunc f args).run P w=.ok (.enter f args) w)(m:List (Nat×Nat))(extra:List Nat)(xs:List Operand)(hk:Qv ds k=cE m extra r Si So)(hb:Go.Ab.callB ops nt (J0 L ops ops.toList ds e s k) (Y8 ops.toList k) f m r Si So=true)(hsi:Si.map (fun p=>QM L ops ops.toList ds e s k (U9 m p.1))=Si.map (fun p=>some (p.2.ren (U9 m))))(hxs:(Go.Ab.callXs (Y8 ops.toList k)).toList=xs)(hargs:GC C nt (J0 L ops ops.toList ds e s k) (QM L ops ops.toList ds e s k) Si (U9 m) (QC (Y8 ops.toList k)++Qp ops (Y8 ops.toList k)) (WA (J0 L ops ops.toList ds e s k) (Y8 ops.toList k)++(Si.map (fun p=>U9 m p.1)++extra)) xs args):K3 P C nt L ops ds e s k:=
 Q2z hspec hcall m extra hk hb hsi (hxs ▸ hargs)
theorem CG{k:Nat}{f:Nat}{args:List AVal}{r:AVal}(hspec:G6 P f args [] r [])(hcall:∀ args w,(callFunc f args).run P w=.ok (.enter f args) w)(K7:List Nat)(xs:List Operand)(hk:Qv ds k=sE r)(hb:Go.Ab.callBB ops nt (J0 L ops ops.toList ds e s k) (Y8 ops.toList k) f r K7=true)(hxs:(Go.Ab.callXs (Y8 ops.toList k)).toList=xs)(hargs:Hn P (J0 L ops ops.toList ds e s k) (QM L ops ops.toList ds e s k) K7 (QC (Y8 ops.toList k)++Qp ops (Y8 ops.toList k)) xs args):K3 P C nt L ops ds e s k:=
 Z4w hspec hcall K7 hk hb (hxs ▸ hargs)
def PX(s:U5)(Si:List (Nat×Obj))(m:Nat->Nat)(ids cids:List Nat):Bool:=Si.all fun p=>(s (m p.1)).isSome&&ids.contains (m p.1) && !cids.contains (m p.1)
theorem Jj{Si:List (Nat×Obj)}{m:Nat->Nat}{ids cids:List Nat}(h:PX s Si m ids cids=true):(∀ p ∈ Si,∃ o1,s (m p.1)=some o1)/\(∀ p ∈ Si,m p.1 ∈ ids)/\∀ p ∈ Si,m p.1 ∉ cids:=by
 refine ⟨fun p a=>?_,fun p a=>?_,fun p a=>?_⟩ <;> (have:=List.all_eq_true.1 h p a;simp only [Bool.and_eq_true,Bool.not_eq_true'] at this)
 .exact Option.isSome_iff_exists.1 this.1.1
 all_goals grind
theorem Us{F:List AVal->AVal->Prop}{Si:List (Nat×Obj)}{m:Nat->Nat}{rd ids:List Nat}{x:Operand}(hx:QA rd x=true)(hv:Y2 e x=Yh P F)(hsi:PX s Si m ids []=true):YG C nt e s Si m rd ids x (Yh P F):=
 YG.sem hx hv (Jj hsi).1 (Jj hsi).2.1
def Ha(s:U5):List Nat->List (List CV)->Prop
 | [],[]=>True
 | i::is,c::cs=>(∃ ro,s i=some (.box ro c))/\Ha s is cs
 | _,_=>False
theorem Q1S{is:List Nat}{cs:List (List CV)}(h:Ha s is cs):is.length=cs.length/\∀ k,k<cs.length->∃ ro,s (is.getD k 0)=some (.box ro (cs.getD k [])):=by
 induction is generalizing cs with
 | nil=>cases cs with
  | nil=>exact ⟨rfl,fun k a=>by simp at a⟩
  | cons c cs=>exact h.elim
 | cons i is ih=>cases cs with
  | nil=>exact h.elim
  | cons c cs=>
   obtain ⟨b,d⟩:=h
   grind
theorem Z4E{f:Nat}(hcall:∀ args w,(callFunc f args).run P w=.ok (.enter f args) w){F:List AVal->AVal->Prop}(cs:List (List CV))(hspec:∀ args r,F args r->G6 P f (args++Wr cs) (Zt cs) r (Zt cs))(hres:∀ args r,F args r->r.closed=true){Si:List (Nat×Obj)}{m:Nat->Nat}{rd ids:List Nat}{x:Operand}(hx:QA rd x=true)(cids:List Nat)(hv:Y2 e x=.v (.c (.clo f cids)))(hnd:(ZV cids&&cs.all (fun c=>c.all CV.closed)&&cids.all (fun i=>ids.contains i))=true)(hbox:Ha s cids cs)(hsi:PX s Si m ids cids=true):YG C nt e s Si m rd ids x (Yh P F):=by
 simp only [Bool.and_eq_true] at hnd;obtain ⟨b,a⟩:=Q1S hbox
 exact YG.clo hcall hspec hres hx hv b hnd.1.1 a hnd.1.2 (Jj hsi).1 (Jj hsi).2.1 (fun i d=>by simpa using List.all_eq_true.1 hnd.2 i d) (Jj hsi).2.2
end
noncomputable def XL{R:Type}(p:Prop)(x:Option R):Option R:= @gd R p (Classical.propDecidable p) x
theorem Q0g{R:Type}{p:Prop}{x:Option R}{r:R}(h:XL p x=some r):p/\x=some r:= @Q0h R p (Classical.propDecidable p) x r h
noncomputable def Cu{R:Type}(n:Nat)(x y:Option R):Option R:=match n with
 | 0=>XL (x=y) x
 | _+1=>y
theorem Q1N{R:Type}{n:Nat}{x y:Option R}{r:R}(h:Cu n x y=some r)(hn:n=0):x=some r:=by subst hn;exact (Q0g h).2
theorem Q1O{R:Type}{n:Nat}{x y:Option R}{r:R}(h:Cu n x y=some r):y=some r:=by
 cases n with
 | zero=>obtain ⟨a,b⟩:=Q0g h;exact a ▸ b
 | succ n=>exact h
end
section
def Ys(s:U5)(es:Nat):AVal->Option (Nat×Nat×Nat)
 | .v (.c (.own id))=>match s id with
  | some (.arr es' N _)=>if es=es' then some (id,0,N) else none
  | _=>none
 | .v (.c (.sub id es' lo n))=>if es=es' then some (id,lo,n) else none
 | _=>none
section
variable {P:Program} {L:Lay} {C:Ctx} {nt:Nat} {R:Nat->Prop} {η:Nat->Value} {e:U3} {s:U5} {a:Act} {w:World}
inductive VOk (w:World) (X:Nat->Prop) (η:Nat->Value) (id es N:Nat) (f:Nat->List DVal) (lo n:Nat):Value->Prop
 | some (b cap:Nat) (c:Array Value) (e' : TypeId):η id=.slice (some ⟨b,0,none⟩) N cap->w.heap[b]?=some (.cells c e' (0,0))->c.size=cap*es->N<=cap->cap<=maxLen ->
   (∀ i,i<N->(f i).length=es)->(∀ i j,i<N->j<es->DRep w X (c.getD (i*es+j) undef) ((f i).getD j .any))->lo+n<=N->lo<cap ->
   VOk w X η id es N f lo n (.slice (some ⟨b,lo*es,none⟩) n (cap-lo))
 | nil (ad ad' : Option Addr):η id=.slice ad N N->lo=N->n=0->VOk w X η id es N f lo n (.slice ad' 0 0)
theorem Hw(h:Conc C nt R η e s a w){x:Operand}{es id lo n N:Nat}{f:Nat->List DVal}(hx:Ys s es (Y2 e x)=some (id,lo,n))(hs:s id=some (.arr es N f)):
  VOk w (XS C s η) η id es N f lo n (a.eval x):=by
 have g:=(J4 h x).1;have d:=h.st id _ hs
 unfold Ys at hx;split at hx
 .rename_i m o
  split at hx
  .rename_i l p t i
   split at hx
   .cases hx
    rw [hs] at i;cases i
    rw [o] at g;rw [WM g]
    generalize hu:η id=u at d
    cases d with
    | nil ad=>exact .nil ad ad hu rfl rfl
    | arr b _ cap _ c e' _ h1 h2 h3 h4 h5 h6 h7=>
     have:=VOk.some (w:=w) (X:=XS C s η) (η:=η) (id:=id) (f:=f) (lo:=0) b cap c e' hu h1 h2 h3 h4 h6 h7 (Nat.le_of_eq (Nat.zero_add _)) h5
     grind
   .cases hx
  .cases hx
 .rename_i m l q r o
  split at hx
  .rename_i j
   cases hx
   subst j;rw [o] at g
   generalize a.eval x=v at g
   cases g with|v _ _ g=>cases g with|c _ _ g=>cases g with
    | sub b p cap _ _ _ _ hη h1 h2=>
     rw [hη] at d
     cases d with
     | nil=>omega
     | arr _ _ _ _ c e' _ g1 g2 g3 g4 g5 g6 g7=>exact .some b cap c e' hη g1 g2 g3 g4 g6 g7 h1 h2
    | subN ad ad' p _ _ hη=>
     rw [hη] at d
     cases d with
     | nil=>exact .nil _ _ hη rfl rfl
     | arr _ _ _ _ c e' _ g1 g2 g3 g4 g5 g6 g7=>exact .nil _ _ hη rfl rfl
  .cases hx
 .cases hx
theorem VOk.slice{X:Nat->Prop}{v:Value}{id es N lo n:Nat}{f:Nat->List DVal}(h:VOk w X η id es N f lo n v):∃ ad cap,v=.slice ad n cap/\(n<=cap)/\lo+n<=N:=by
 cases h with
 | some b cap c e' h1 h2 h3 h4 h5 h6 h7 h8 h9=>exact ⟨_,_,rfl,by omega,h8⟩
 | nil ad ad' h1 h2 h3=>exact ⟨_,_,by rw [h3],by omega,by omega⟩
theorem VOk.part{X X' : Nat->Prop}{ad:Option Addr}{id es N lo n cap:Nat}{f:Nat->List DVal}(h:VOk w X η id es N f lo n (.slice ad n cap)){l u:Nat}(hlu:l<=u)(hu:lo+u<=N):
  ARep w X' η C (.slice (if cap=l then ad else ad.map (·.add (l*es))) (u-l) (cap-l)) (.v (.c (.sub id es (lo+l) (u-l)))):=by
 generalize hv:Value.slice ad n cap=v at h
 cases h with
 | some b cap' c e' h1 h2 h3 h4 h5 h6 h7 h8 h9=>
  cases hv
  by_cases hc:cap' - lo=l
  .have d:u-l=0:=by omega
   have g:cap' - lo-l=0:=by omega
   have i:lo+l=N:=by omega
   have j:cap'=N:=by omega
   rw [d,g,i];subst j
   exact .v _ _ (.c _ _ (.subN _ _ _ _ _ h1))
  .rw [if_neg hc]
   simp only [Option.map_some,add_lit];have d:lo*es+l*es=(lo+l)*es:=by rw [Nat.add_mul]
   have g:cap' - lo-l=cap' - (lo+l):=by omega
   rw [d,g];exact .v _ _ (.c _ _ (.sub b N cap' id es (lo+l) (u-l) h1 (by omega) (by omega)))
 | nil ad0 ad' h1 h2 h3=>
  cases hv
  have d:u-l=0:=by omega
  have g:lo+l=N:=by omega
  rw [d,g,Nat.zero_sub];exact .v _ _ (.c _ _ (.subN ad0 _ N id es h1))
theorem Q6n(h:Conc C nt R η e s a w){lo hi:Option Operand}{l u:Option Int}(hl:oI e lo=some l)(hu:oI e hi=some u)(n cap:Nat)(hc:0<=l.getD 0/\l.getD 0<=u.getD n/\u.getD n<=cap):
  (Instr.sliceBounds true n cap (lo.map a.eval) (hi.map a.eval) none).run P w=.ok ((l.getD 0).toNat,(u.getD n).toNat,cap) w:=by
 rcases Sy h hl with ⟨h1,h2⟩|⟨k,m,h1,h2⟩ <;> rcases Sy h hu with ⟨h3,h4⟩|⟨k',m',h3,h4⟩ <;> subst h2 <;> subst h4 <;> simp only [Option.getD_some,Option.getD_none] at hc
 .subst h1;subst h3
  simp [Instr.sliceBounds]
 .subst h1
  simp [Instr.sliceBounds,h3,VX m' cap _ ⟨hc.2.1,by omega⟩]
 .subst h3
  have b:=VX (P:=P) (w:=w) m n .sliceB ⟨hc.1,by omega⟩ k;simp [Instr.sliceBounds,h1,b]
 .have b:=VX (P:=P) (w:=w) m m'.toNat .sliceB ⟨hc.1,by omega⟩ k
  simp [Instr.sliceBounds,h1,h3,VX m' cap _ ⟨by omega,by omega⟩,b]
theorem Q5d(hL:Qa P L)(h:Conc C nt R η e s a w){o:Oper}(hd:∀ x,o.dst=some x->x<nt){t:TypeId}{x:Operand}{lo hi:Option Operand}(hop:o.op=.slice t x lo hi none){ti:TI}(ht:L t=some ti){el:Nat}(hk:ti.kind=.slice el){te:TI}(hte:L el=some te){l u:Option Int}(hl:oI e lo=some l)(hu:oI e hi=some u){id lo0 n N:Nat}{f:Nat->List DVal}(hx:Ys s te.size (Y2 e x)=some (id,lo0,n))(hs:s id=some (.arr te.size N f))(hc:0<=l.getD 0/\l.getD 0<=u.getD n/\(lo0:Int)+u.getD n<=N):
  z8 P C nt R η e s a w o { v:=.v (.c (.sub id te.size (lo0+(l.getD 0).toNat) ((u.getD n).toNat-(l.getD 0).toNat))) }:=by
 obtain ⟨i,dd,z,q⟩:=hL t ti ht;obtain ⟨H,B,J,r⟩:=hL el te hte
 have g:=q.kind;rw [hk] at g
 simp only [ZI] at g;have d:=Hw h hx hs
 obtain ⟨A,m,ev,I,G⟩:=d.slice;have p:(u.getD n)<=m:=by
  rw [ev] at d;generalize hv:Value.slice A n m=v at d
  cases d with
  | some b cap' c e' h1 h2 h3 h4 h5 h6 h7 h8 h9=>cases hv;omega
  | nil ad0 ad' h1 h2 h3=>cases hv;omega
 rw [ev] at d;have F:=Q6n (P:=P) h hl hu n m ⟨hc.1,hc.2.1,p⟩
 have D:∀ j ∈ (AVal.v (.c (.sub id te.size (lo0+(l.getD 0).toNat) ((u.getD n).toNat-(l.getD 0).toNat)))).refs,R j:=by
  intro j y;simp [AVal.refs,TV.refs,CV.refs] at y
  rw [y];exact (h.sr id _ hs).1
 refine QU h hd ?_ (d.part (l:=(l.getD 0).toNat) (u:=(u.getD n).toNat) (by omega) (by omega)) D;simp only [execOp,hop,Sem.run_bind,Instr.sliceAt,run_underlying q.und,Result.andThen_ok,g,Instr.slice,ev,Option.map_none,F,Yv r,Sem.run_pure]
theorem Q5e(hL:Qa P L)(h:Conc C nt R η e s a w){o:Oper}(hd:∀ x,o.dst=some x->x<nt){t:TypeId}{x:Operand}(hop:o.op=.call { callee:=.builtin .len,args:= #[x],argTypes:= #[t] }){ti:TI}(ht:L t=some ti){el:Nat}(hk:ti.kind=.slice el){es id lo n N:Nat}{f:Nat->List DVal}(hx:Ys s es (Y2 e x)=some (id,lo,n))(hs:s id=some (.arr es N f)):z8 P C nt R η e s a w o { v:=vi n }:=by
 obtain ⟨i,dd,z,c⟩:=hL t ti ht;have b:=c.kind
 rw [hk] at b;simp only [ZI] at b
 obtain ⟨g,d,ev,_⟩:=(Hw h hx hs).slice;refine QU h hd (v:=.int .i64 n) ?_ (Wz _ _ _) (by simp [vi,AVal.refs,TV.refs,CV.refs])
 simp [execOp,hop,resolve,invoke,builtin,Builtin.len_,run_underlying c.und,b,ev,goInt]
theorem Q5f(hL:Qa P L)(h:Conc C nt R η e s a w){o:Oper}(hd:∀ x,o.dst=some x->x<nt){t:TypeId}{x i:Operand}(hop:o.op=.indexAddr t x i){ti:TI}(ht:L t=some ti){el:Nat}(hk:ti.kind=.slice el){te:TI}(hte:L el=some te){m:Int}(hi:ZH (Y2 e i)=some m){id lo n N:Nat}{f:Nat->List DVal}(hx:Ys s te.size (Y2 e x)=some (id,lo,n))(hs:s id=some (.arr te.size N f))(hc:0<=m/\m<n):
  z8 P C nt R η e s a w o { v:=.v (.c (.pte id te.size (lo+m.toNat) 0)) }:=by
 obtain ⟨A,d1,D,l⟩:=hL t ti ht;obtain ⟨y,z,B,p⟩:=hL el te hte
 have d:=l.kind;rw [hk] at d
 simp only [ZI] at d;subst d
 obtain ⟨k,u⟩:=Pc h hi;have g:=Hw h hx hs
 generalize ev:a.eval x=v at g
 cases g with
 | some b cap c e' h1 h2 h3 h4 h5 h6 h7 h8 h9=>
  refine QU h hd (v:=.pointer (some ⟨b,(lo+m.toNat)*te.size+0,none⟩)) ?_ (.v _ _ (.c _ _ (.pte b N cap _ _ _ _ h1))) (fun j q=>by simp [AVal.refs,TV.refs,CV.refs] at q;rw [q];exact (h.sr id _ hs).1);have r:lo*te.size+m.toNat*te.size=(lo+m.toNat)*te.size:=by rw [Nat.add_mul]
  simp [execOp,hop,Instr.indexAt,u,ev,asIntOf,run_underlying l.und,hc,Yv p,add_lit,r]
 | nil ad0 ad' h1 h2 h3=>omega
theorem xX(h:Conc C nt R η e s a w){o:Oper}(hd:∀ x,o.dst=some x->x<nt){id:Nat}{ob ob' : Obj}(hs:s id=some ob)(hro:ob.ro=false)(hro' : ob'.ro=false)(hrf:∀ j ∈ ob'.refs,R j){w' : World}{v:Value}{x:AVal}(hstp:Stp (fun b=>b ∈ Y9 (η id)) w w')(hrun:(execOp a.eval o).run P w=.ok (.value v) w')(hob:∀ X',QR w w' (XS C s η) X' -> ORep w' X' η C (η id) ob')(hv:∀ X',ARep w' X' η C v x)(hx:∀ j ∈ x.refs,R j):z8 P C nt R η e s a w o { v:=x,upd:=some (id,ob') }:=by
 have m:=UI (C:=C) (s:=s) (η:=η) { v:=x,upd:=some (id,ob') } o.dst v (fun b=>b ∈ Y9 (η id)) hstp (fun b l=>⟨id,ob,hs,l⟩) (fun _ _ d=>by cases d)
  (fun k o d=>by cases d;rw [hs];simp)
 have c:SR.eta { v:=x,upd:=some (id,ob') } o.dst v η=η:=by funext i;simp [SR.eta]
 refine ⟨v,w',.inl hrun,?_⟩;refine h.step o.dst hd _ _ _ (fun b=>b ∈ Y9 (η id)) hstp ?_ (fun _ _ d=>by cases d) ?_ (fun _=>⟨?_,fun j p=>.inl (hx j p)⟩)
 .intro b l
  refine ⟨⟨id,.inr ⟨ob',rfl⟩,by rw [hs];simp,l⟩,?_⟩;rcases h.ow id ob _ hs l with ⟨g,_⟩|g
  .rw [hro] at g;cases g
  .exact g
 .intro k q d
  cases d
  refine ⟨⟨ob,hs,hro⟩,hro',by simp,hrf,?_⟩;rw [c]
  rw [c] at m;exact hob _ m
 .rw [c];exact hv _
theorem Q8R{X' : Nat->Prop}{id es N cap b lo k:Nat}{f g:Nat->List DVal}{c:Array Value}{e' : TypeId}{news:List Value}(hX:QR w (w.setRow b (c.toList.take (lo*es)++news++c.toList.drop (lo*es+news.length)).toArray) (XS C s η) X')(h1:η id=.slice (some ⟨b,0,none⟩) N cap)(h2:w.heap[b]?=some (.cells c e' (0,0)))(h3:c.size=cap*es)(h4:N<=cap)(h5:cap<=maxLen)(h50:0<cap)(h6:∀ i,i<N->(f i).length=es)(h7:∀ i j,i<N->j<es->DRep w (XS C s η) (c.getD (i*es+j) undef) ((f i).getD j .any))(hk:lo+k<=N)(hn:news.length=k*es)(g1:∀ i,i<k->(g i).length=es)(g2:∀ i j,i<k->j<es->DRep w (XS C s η) (news.getD (i*es+j) undef) ((g i).getD j .any)):
  ORep (w.setRow b (c.toList.take (lo*es)++news++c.toList.drop (lo*es+news.length)).toArray) X' η C (η id) (.arr es N fun i=>if lo<=i/\i<lo+k then g (i-lo) else f i):=by
 have h:lo*es+news.length<=c.size:=by rw [hn,h3, <-Nat.add_mul];exact Nat.mul_le_mul_right _ (by omega)
 obtain ⟨t,y⟩:=MG c (lo*es) news h;rw [h1]
 refine .arr b N cap es _ e' _ (setRow_heap w b c _ e' _ h2) (by rw [t];exact h3) h4 h5 h50 (fun i o=>?_) (fun i j o r=>?_)
 .by_cases hc:lo<=i/\i<lo+k
  .simp only [hc,and_self,if_true];exact g1 _ (by omega)
  .simp only [hc,if_false];exact h6 i o
 .rw [y]
  have d:∀ {p q:Nat},p<q->p*es+es<=q*es:=fun {p q} hpq=>by
   have:(p+1)*es<=q*es:=Nat.mul_le_mul_right _ hpq
   grind
  by_cases hc:lo<=i/\i<lo+k
  .have B:lo*es<=i*es:=Nat.mul_le_mul_right _ hc.1
   have z:=d hc.2;rw [Nat.add_mul] at z
   rw [if_pos ⟨by omega,by omega⟩];simp only [hc,and_self,if_true]
   have v:i*es+j-lo*es=(i-lo)*es+j:=by rw [Nat.sub_mul];omega
   rw [v];exact (g2 (i-lo) j (by omega) r).mono fun x l hn=>hX x l hn
  .rw [if_neg]
   .simp only [hc,if_false];exact (h7 i j o r).mono fun x l hn=>hX x l hn
   .rintro ⟨D,A⟩
    rcases Nat.lt_or_ge i lo with m|u
    .have:=d m;omega
    .have:(lo+k)*es<=i*es:=Nat.mul_le_mul_right _ (by omega)
     rw [Nat.add_mul] at this;omega
theorem Q6t{id N cap b:Nat}(h1:η id=.slice (some ⟨b,0,none⟩) N cap)(h:0<cap)(cs:Array Value):Stp (fun x=>x ∈ Y9 (η id)) w (w.setRow b cs):=
 (setRow_stp w b cs).mono fun x _ c=>by have e:x=b:=c;rw [h1,e];simp [Y9];omega
theorem Z1w{k lo:Nat}{f g:Nat->List DVal}(h:k=0):(fun i=>if lo<=i/\i<lo+k then g (i-lo) else f i)=f:=by
 grind
def YV(x y:DVal):Prop:=∀ w X v,DRep w X v x->DRep w X v y
theorem YV.refl(x:DVal):YV x x:=fun _ _ _ h=>h
theorem YV.nil(f g:Nat->List DVal):YV (.lst 0 f) (.lst 0 g):=fun w X v h=>by
 cases h with
 | nil a cap=>exact .nil a cap g
 | lst b off n cap c e fz f es=>exact .nil _ cap g
def Hm:List DVal->List DVal->Prop
 | [],[]=>True
 | x::xs,y::ys=>YV x y/\Hm xs ys
 | _,_=>False
theorem Hm.spec{xs ys:List DVal}(h:Hm xs ys):xs.length=ys.length/\∀ j,YV (xs.getD j .any) (ys.getD j .any):=by
 induction xs generalizing ys with
 | nil=>cases ys with
  | nil=>exact ⟨rfl,fun j=>YV.refl _⟩
  | cons y ys=>exact h.elim
 | cons x xs ih=>cases ys with
  | nil=>exact h.elim
  | cons y ys=>
   obtain ⟨c,d⟩:=h;obtain ⟨g,b⟩:=ih d
   refine ⟨by simp [g],fun j=>?_⟩
   cases j with
   | zero=>exact c
   | succ j=>exact b j
theorem Q5g(hL:Qa P L)(h:Conc C nt R η e s a w){o:Oper}(hd:∀ x,o.dst=some x->x<nt){t:TypeId}{x:Operand}(hop:o.op=.call { callee:=.builtin .clear,args:= #[x],argTypes:= #[t] }){ti:TI}(ht:L t=some ti){el:Nat}(hk:ti.kind=.slice el){te:TI}(hte:L el=some te)(h0:0<te.size)(hzl:te.zero.length=te.size){zd0 zd:List DVal}(hz:Vx te.zero=some zd0)(hle:Hm zd0 zd){id lo n N:Nat}{f:Nat->List DVal}(hx:Ys s te.size (Y2 e x)=some (id,lo,n))(hs:s id=some (.arr te.size N f)):
  z8 P C nt R η e s a w o { v:=.any,upd:=some (id,.arr te.size N fun i=>if lo<=i/\i<lo+n then (fun _=>zd) (i-lo) else f i) }:=by
 obtain ⟨i,dd,z,F⟩:=hL t ti ht;obtain ⟨i2,d2,d,m⟩:=hL el te hte
 have A:=F.kind;rw [hk] at A
 simp only [ZI] at A;subst A
 have I:=Hw h hx hs;have W:=h.st id _ hs
 have O:∀ j ∈ (AVal.any).refs,R j:=fun j G=>by cases G
 have Z:∀ v,a.eval x=v->(∃ V B,v=.slice V 0 B)->n=0->z8 P C nt R η e s a w o { v:=.any,upd:=some (id,.arr te.size N fun i=>if lo<=i/\i<lo+n then (fun _=>zd) (i-lo) else f i) }:=by
  rintro v ev ⟨V,B,rfl⟩ hn;have p:(execOp a.eval o).run P w=.ok (.value (.tuple #[])) w:=by
   cases V <;> simp [execOp,hop,resolve,invoke,builtin,Builtin.clear_,run_underlying F.und,ev]
  refine xX h hd hs rfl rfl (by simp [Obj.refs]) (Stp.refl _ _) p (fun X' Y=>?_) (fun X'=>.any _) O;have H:ORep w X' η C (η id) (.arr te.size N f):=W.mono Y (fun j G=>rfl) fun b hb=>rfl
  rw [<-Z1w (k:=n) (lo:=lo) (f:=f) (g:=fun _=>zd) hn] at H;exact H
 generalize ev:a.eval x=v at I
 cases I with
 | some b B c e' h1 h2 h3 h4 h5 h6 h7 h8 h9=>
  by_cases hn:n=0
  .grind
  .have l:d.cells.size=te.size:=by rw [(m.zrep w (XS C s η) η C).1,hzl]
   obtain ⟨D,T⟩:=Fi (m.zrep w (XS C s η) η C) hz;have M:(Builtin.zeroCells d.cells n).toList.length=n*te.size:=by simp [Builtin.zeroCells,l]
   have J:∀ u ∈ (Builtin.zeroCells d.cells n).toList,u.oneCell'=true:=by
    intro u hu;simp only [Builtin.zeroCells,Array.toList_map,List.mem_map] at hu
    obtain ⟨q,hq,rfl⟩:=hu;have r:q % d.cells.size<d.cells.size:=Nat.mod_lt _ (by rw [l];exact h0)
    have:=(T (q % d.cells.size) (by rw [D];exact r)).one
    simpa [r] using this
   have U:lo*te.size+0+(Builtin.zeroCells d.cells n).toList.length<=c.size:=by rw [M,h3,Nat.add_zero, <-Nat.add_mul];exact Nat.mul_le_mul_right _ (by omega)
   have y:=run_storeCells_at P b (lo*te.size) e' (Builtin.zeroCells d.cells n).toList 0 c w h2 U J;simp only [Nat.add_zero] at y
   have p:(execOp a.eval o).run P w=.ok (.value (.tuple #[])) (w.setRow b (c.toList.take (lo*te.size)++(Builtin.zeroCells d.cells n).toList++c.toList.drop (lo*te.size+(Builtin.zeroCells d.cells n).toList.length)).toArray):=by
    simp [execOp,hop,resolve,invoke,builtin,Builtin.clear_,run_underlying F.und,ev,MT m,y,hn]
   refine xX h hd hs rfl rfl (by simp [Obj.refs]) (Q6t h1 (by omega) _) p (fun X' Y=>?_) (fun X'=>.any _) O;refine Q8R Y h1 h2 h3 h4 h5 (by omega) h6 h7 h8 M (fun i _=>by rw [<-hle.spec.1,D,l]) fun i j hi G=>?_
   have r:i*te.size+j<n*te.size:=by
    have:(i+1)*te.size<=n*te.size:=Nat.mul_le_mul_right _ hi
    grind
   have hm:(i*te.size+j) % te.size=j:=by rw [Nat.add_comm,Nat.add_mul_mod_self_right,Nat.mod_eq_of_lt G]
   have hg:(Builtin.zeroCells d.cells n).toList.getD (i*te.size+j) undef=d.cells.getD j undef:=by
    have:=qJ (n*d.cells.size) (fun i=>d.cells[i % d.cells.size]!) (i*te.size+j) (by rw [l];exact r)
    have e1:(Builtin.zeroCells d.cells n).toList.getD (i*te.size+j) undef=(Builtin.zeroCells d.cells n).getD (i*te.size+j) undef:=by simp [List.getD_eq_getElem?_getD,Array.getD_eq_getD_getElem?]
    rw [e1];unfold Builtin.zeroCells
    rw [this,l,hm];have:j<d.cells.size:=by rw [l];exact G
    simp [this]
   rw [hg];exact hle.spec.2 j _ _ _ (T j (by rw [D,l];exact G))
 | nil ad0 ad' h1 h2 h3=>exact Z _ ev ⟨_,_,rfl⟩ h3
end
end
section
section
variable {P:Program} {C:Ctx} {nt:Nat} {L:Lay} {ops:Array Oper} {ds:List Dir} {e:U3} {s:U5}
def rE(r:SR):Array Oper->Oper->U3->Eff:=fun ops o e=>DS ops o e r r.v
theorem Ux{o:Oper}(hdo:QJ nt o=true){r:SR}(hg:QY ops e o=some true)(hsnd:∀ (R:Nat->Prop) (η:Nat->Value) (e0:U3) (s0:U5) (a:Act) (w:World),(∀ x ∈ o.op.operands.toList,Y2 e0 x=Y2 e x)->(∀ x ∈ o.op.operands.toList,∀ i ∈ (Y2 e x).refs,s0 i=s i)->(∀ d,o.dst=some d->r.new≠none->¬ R d) ->
   Conc C nt R η e0 s0 a w->z8 P C nt R η e0 s0 a w o r):Ws P C nt ops o (DS ops o e r r.v) e s:=by
 intro R η e0 s0 a w m j z b K Q D;have c:∀ x ∈ o.op.operands.toList,Y2 e0 x=Y2 e x:=by
  intro x c
  cases x with
  | tmp t=>exact m t (List.mem_append.2 (.inl (List.mem_filterMap.2 ⟨_,c,rfl⟩)))
  | const v=>rfl
  | global g=>rfl
  | func f=>rfl
 have q:∀ x ∈ o.op.operands.toList,∀ i ∈ (Y2 e x).refs,s0 i=s i:=fun x c i J=>j i (List.mem_flatMap.2 ⟨x,c,J⟩)
 have G:=Uv (e:=e) b (fun t F=>m t (List.mem_append.2 (.inr F))) hg;rw [if_pos G]
 have B:=hsnd R η e0 s0 a w c q (fun d H M=>z d (by
  obtain ⟨N,A⟩:=Option.ne_none_iff_exists'.1 M;simp [DS,SR.nw,A,H])) b
 refine B.wp fun η' I w' u=>D η' I w' ?_
 have y:=u.wider (FN r o.dst R);have h:Zy (DS ops o e r r.v).l s0=r.sto o.dst s0:=FM r o.dst s0
 rw [h];have p:Zu o.dst (DS ops o e r r.v).v e0=r.env o.dst e0:=rfl
 rw [p];exact y
theorem CA{s0:U5}{es:Nat}{x:AVal}(h:∀ i ∈ x.refs,s0 i=s i):Ys s0 es x=Ys s es x:=by
 unfold Ys;split
 .rw [h _ (by simp [AVal.refs,TV.refs,CV.refs])]
 .rfl
 .rfl
theorem Cz{es:Nat}{x:AVal}{id lo n:Nat}(h:Ys s es x=some (id,lo,n)):id ∈ x.refs:=by
 unfold Ys at h;split at h
 .split at h
  .split at h
   .cases h;simp [AVal.refs,TV.refs,CV.refs]
   .cases h
  .cases h
 .split at h
  .cases h;simp [AVal.refs,TV.refs,CV.refs]
  .cases h
 .cases h
def VB(L:Lay)(t:TypeId)(te:TI):Prop:=∃ ti el,L t=some ti/\ti.kind=.slice el/\L el=some te
variable {k:Nat}
theorem Gy(hL:Qa P L){te:TI}{t:TypeId}(hT:VB L t te){x:Operand}{lo hi:Option Operand}{l u:Option Int}{id lo0 n N:Nat}{f:Nat->List DVal}{r:AVal}(hk:Qv ds k=rE { v:=r })(hop:(Y8 ops.toList k).op=.slice t x lo hi none)(hdo:(QJ nt (Y8 ops.toList k)&&(QY ops (J0 L ops ops.toList ds e s k) (Y8 ops.toList k)==some true))=true)(hl:oI (J0 L ops ops.toList ds e s k) lo=some l)(hu:oI (J0 L ops ops.toList ds e s k) hi=some u)(hx:Ys (QM L ops ops.toList ds e s k) te.size (Y2 (J0 L ops ops.toList ds e s k) x)=some (id,lo0,n))(hs:QM L ops ops.toList ds e s k id=some (.arr te.size N f))(hc:0<=l.getD 0/\l.getD 0<=u.getD n/\(lo0:Int)+u.getD n<=N)(hr:r=.v (.c (.sub id te.size (lo0+(l.getD 0).toNat) ((u.getD n).toNat-(l.getD 0).toNat)))):K3 P C nt L ops ds e s k:=by
 unfold K3;rw [hk]
 simp only [Bool.and_eq_true,beq_iff_eq] at hdo;obtain ⟨I,J,G,j,z⟩:=hT
 refine Ux hdo.1 hdo.2 fun R η q F a w o i _ A=>?_
 have g:∀ y,(y=x\/lo=some y\/hi=some y)->y ∈ (Y8 ops.toList k).op.operands.toList:=by
  intro y b;rw [hop]
  rcases b with h|h|h
  .subst h;simp [Op.operands]
  .subst h;simp [Op.operands,optional]
  .subst h;simp [Op.operands,optional]
 have D:Ys F te.size (Y2 q x)=some (id,lo0,n):=by
  rw [o x (g x (.inl rfl)),CA (i x (g x (.inl rfl)))];exact hx
 have m:F id=some (.arr te.size N f):=by rw [i x (g x (.inl rfl)) id (Cz hx)];exact hs
 have p:oI q lo=some l:=by rw [Sz fun y b=>o y (g y (.inr (.inl b)))];exact hl
 have B:oI q hi=some u:=by rw [Sz fun y b=>o y (g y (.inr (.inr b)))];exact hu
 rw [hr];exact Q5d hL A (fun d H=>YO hdo.1 d H) hop G j z p B D m hc
theorem Q2w(hL:Qa P L){te:TI}{t:TypeId}(hT:VB L t te){x:Operand}{es id lo0 n N:Nat}{f:Nat->List DVal}(hk:Qv ds k=rE { v:=vi n })(hop:(Y8 ops.toList k).op=.call { callee:=.builtin .len,args:= #[x],argTypes:= #[t] })(hdo:(QJ nt (Y8 ops.toList k)&&(QY ops (J0 L ops ops.toList ds e s k) (Y8 ops.toList k)==some true))=true)(hx:Ys (QM L ops ops.toList ds e s k) es (Y2 (J0 L ops ops.toList ds e s k) x)=some (id,lo0,n))(hs:QM L ops ops.toList ds e s k id=some (.arr es N f)):K3 P C nt L ops ds e s k:=by
 unfold K3;rw [hk]
 simp only [Bool.and_eq_true,beq_iff_eq] at hdo;obtain ⟨u,y,m,c,r⟩:=hT
 refine Ux hdo.1 hdo.2 fun R η q l a w o b _ h=>?_
 have i:x ∈ (Y8 ops.toList k).op.operands.toList:=by rw [hop];simp [Op.operands,Call.operands]
 have j:Ys l es (Y2 q x)=some (id,lo0,n):=by
  rw [o x i,CA (b x i)];exact hx
 have g:l id=some (.arr es N f):=by rw [b x i id (Cz hx)];exact hs
 exact Q5e hL h (fun d p=>YO hdo.1 d p) hop m c j g
theorem vy(hL:Qa P L){te:TI}{t:TypeId}(hT:VB L t te){x i:Operand}{m:Int}{id lo0 n N:Nat}{f:Nat->List DVal}{r:AVal}(hk:Qv ds k=rE { v:=r })(hop:(Y8 ops.toList k).op=.indexAddr t x i)(hdo:(QJ nt (Y8 ops.toList k)&&(QY ops (J0 L ops ops.toList ds e s k) (Y8 ops.toList k)==some true))=true)(hi:ZH (Y2 (J0 L ops ops.toList ds e s k) i)=some m)(hx:Ys (QM L ops ops.toList ds e s k) te.size (Y2 (J0 L ops ops.toList ds e s k) x)=some (id,lo0,n))(hs:QM L ops ops.toList ds e s k id=some (.arr te.size N f))(hc:0<=m/\m<n)(hr:r=.v (.c (.pte id te.size (lo0+m.toNat) 0))):K3 P C nt L ops ds e s k:=by
 unfold K3;rw [hk]
 simp only [Bool.and_eq_true,beq_iff_eq] at hdo;obtain ⟨D,F,z,g,l⟩:=hT
 refine Ux hdo.1 hdo.2 fun R η B y a w u b _ o=>?_
 have p:x ∈ (Y8 ops.toList k).op.operands.toList:=by rw [hop];simp [Op.operands]
 have h:i ∈ (Y8 ops.toList k).op.operands.toList:=by rw [hop];simp [Op.operands]
 have q:Ys y te.size (Y2 B x)=some (id,lo0,n):=by
  rw [u x p,CA (b x p)];exact hx
 have j:y id=some (.arr te.size N f):=by rw [b x p id (Cz hx)];exact hs
 rw [<-u i h] at hi;rw [hr]
 exact Q5f hL o (fun d A=>YO hdo.1 d A) hop z g l hi q j hc
theorem vz(hL:Qa P L){te:TI}{t:TypeId}(hT:VB L t te){x:Operand}{id lo0 n N:Nat}{f g:Nat->List DVal}(zd0 zd:List DVal)(hle:Hm zd0 zd)(hk:Qv ds k=rE { v:=.any,upd:=some (id,.arr te.size N g) })(hop:(Y8 ops.toList k).op=.call { callee:=.builtin .clear,args:= #[x],argTypes:= #[t] })(hdo:(QJ nt (Y8 ops.toList k)&&(QY ops (J0 L ops ops.toList ds e s k) (Y8 ops.toList k)==some true))=true)(h0:0<te.size)(hzl:te.zero.length=te.size)(hz:Vx te.zero=some zd0)(hx:Ys (QM L ops ops.toList ds e s k) te.size (Y2 (J0 L ops ops.toList ds e s k) x)=some (id,lo0,n))(hs:QM L ops ops.toList ds e s k id=some (.arr te.size N f))(hg:g=fun i=>if lo0<=i/\i<lo0+n then (fun _=>zd) (i-lo0) else f i):K3 P C nt L ops ds e s k:=by
 unfold K3;rw [hk,hg]
 simp only [Bool.and_eq_true,beq_iff_eq] at hdo;obtain ⟨z,A,q,c,j⟩:=hT
 refine Ux hdo.1 hdo.2 fun R η y p a w r b _ l=>?_
 have m:x ∈ (Y8 ops.toList k).op.operands.toList:=by rw [hop];simp [Op.operands,Call.operands]
 have o:Ys p te.size (Y2 y x)=some (id,lo0,n):=by
  rw [r x m,CA (b x m)];exact hx
 have h:p id=some (.arr te.size N f):=by rw [b x m id (Cz hx)];exact hs
 exact Q5g hL l (fun d u=>YO hdo.1 d u) hop q c j h0 hzl hz hle o h
end
end
section
section
variable {P:Program} {C:Ctx} {nt:Nat} {L:Lay} {pins:List Nat} {K:Act->World->Prop}
theorem Qk(k:Nat)(o:Obj)(S:List (Nat×Obj))(i:Nat):ls ((k,o)::S) i=if i=k then some o else ls S i:=by
 unfold ls
 grind
theorem Di(k:Nat)(o:AVal)(E:List (Nat×AVal))(i:Nat):lk ((k,o)::E) i=if i=k then o else lk E i:=by
 unfold lk
 grind
end
end
end
end Go.Ab
