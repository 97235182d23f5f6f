/- Abstract states over the model. -/
import Derived.Test.YtaipicdihcmjkaaGreatAbA
import Derived.KernelRfl
import Derived.Laws.StructEq
set_option linter.unusedVariables false
set_option linter.unusedSimpArgs false
namespace Go.Ab
noncomputable section
section
def CV.noSem:CV->Bool
 | .sem _=>false
 | _=>true
def TV.noSem:TV->Bool
 | .c x=>x.noSem
 | .g xs=>xs.all CV.noSem
def AVal.noSem:AVal->Bool
 | .any=>true
 | .v x=>x.noSem
 | .t xs=>xs.all TV.noSem
def Obj.noSem:Obj->Bool
 | .box _ cs=>cs.all CV.noSem
 | .arr _ _ _=>true
 | .ext _=>true
 | .exr _ _=>true
section
variable {w:World} {X:Nat->Prop} {η:Nat->Value} {C C' : Ctx}
theorem CRep.ctx{v:Value}{x:CV}(h:CRep w X η C v x)(hx:x.noSem=true):CRep w X η C' v x:=by
 cases h with
 | d _ _ h=>exact .d _ _ h
 | fl _ _ _ h=>exact .fl _ _ _ h
 | own _ _ h h1=>exact .own _ _ h h1
 | ptr _ _ _ h=>exact .ptr _ _ _ h
 | pte _ _ _ _ _ _ _ h=>exact .pte _ _ _ _ _ _ _ h
 | sub b N cap _ es lo n h h1 h2=>exact .sub b N cap _ es lo n h h1 h2
 | subN ad ad' N _ es h=>exact .subN ad ad' N _ es h
 | elm _ _ _ _ _ _ h1 h2 h3 h4=>exact .elm _ _ _ _ _ _ h1 h2 h3 h4
 | clo _ _ _ h=>exact .clo _ _ _ h
 | sem _ _ h h1=>cases hx
 | ap _ _ h h1=>exact .ap _ _ h h1
 | bnd _ _ _ h1 h2=>exact .bnd _ _ _ h1 h2
 | cp _ _ _ _ h h1 h2=>exact .cp _ _ _ _ h h1 h2
theorem G8.ctx{vs:Array Value}{cs:List CV}(h:G8 w X η C vs cs)(hx:cs.all CV.noSem=true):G8 w X η C' vs cs:=
 ⟨h.1,fun j a=>(h.2 j a).ctx (List.all_eq_true.1 hx _ (YA a))⟩
theorem TRep.ctx{v:Value}{x:TV}(h:TRep w X η C v x)(hx:x.noSem=true):TRep w X η C' v x:=by
 cases h with
 | c _ _ h=>exact .c _ _ (h.ctx hx)
 | g _ _ h=>exact .g _ _ (h.ctx hx)
theorem ARep.ctx{v:Value}{x:AVal}(h:ARep w X η C v x)(hx:x.noSem=true):ARep w X η C' v x:=by
 cases h with
 | any=>exact .any v
 | v _ _ h=>exact .v _ _ (h.ctx hx)
 | t us xs h1 h2=>exact .t us xs h1 fun j a=>(h2 j a).ctx (List.all_eq_true.1 hx _ (YA a))
theorem ORep.ctx{v:Value}{o:Obj}(h:ORep w X η C v o)(hx:o.noSem=true):ORep w X η C' v o:=by
 cases h with
 | box b ro c e cs h1 h2=>exact .box b ro c e cs h1 (h2.ctx hx)
 | nil ad es f=>exact .nil ad es f
 | arr b n cap es c e f h1 h2 h3 h4 h5 h6 h7=>exact .arr b n cap es c e f h1 h2 h3 h4 h5 h6 h7
 | ext _ _ h1 h2 h3=>exact .ext _ _ h1 h2 h3
 | exr _ _ _ h1 h2 h3=>exact .exr _ _ _ h1 h2 h3
theorem CRep.toRen{ρ:Nat->Nat}{v:Value}{x:CV}(h:CRep w X (fun i=>η (ρ i)) C v x):CRep w X η C v (x.ren ρ):=by
 cases h with
 | d _ _ h=>exact .d _ _ h
 | fl _ _ _ h=>exact .fl _ _ _ h
 | own _ _ h h1=>exact .own _ _ h h1
 | ptr _ _ _ h=>exact .ptr _ _ _ h
 | pte _ _ _ _ _ _ _ h=>exact .pte _ _ _ _ _ _ _ h
 | sub b N cap _ es lo n h h1 h2=>exact .sub b N cap _ es lo n h h1 h2
 | subN ad ad' N _ es h=>exact .subN ad ad' N _ es h
 | elm _ _ _ _ _ _ h1 h2 h3 h4=>exact .elm _ _ _ _ _ _ h1 h2 h3 h4
 | clo f ids vs h=>exact .clo f _ vs (by rw [h,List.map_map];rfl)
 | sem _ _ h h1=>exact .sem _ _ h h1
 | ap _ _ h h1=>exact .ap _ _ h h1
 | bnd _ _ _ h1 h2=>exact .bnd _ _ _ h1 h2
 | cp _ _ _ _ h h1 h2=>exact .cp _ _ _ _ h h1 h2
theorem G8.toRen{ρ:Nat->Nat}{vs:Array Value}{cs:List CV}(h:G8 w X (fun i=>η (ρ i)) C vs cs):G8 w X η C vs (cs.map (CV.ren ρ)):=by
 refine ⟨by simpa using h.1,fun j b=>?_⟩;have a : j<cs.length:=by simpa using b
 have:=(h.2 j a).toRen
 grind
theorem TRep.toRen{ρ:Nat->Nat}{v:Value}{x:TV}(h:TRep w X (fun i=>η (ρ i)) C v x):TRep w X η C v (x.ren ρ):=by
 cases h with
 | c _ _ h=>exact .c _ _ h.toRen
 | g _ _ h=>exact .g _ _ h.toRen
theorem ARep.toRen{ρ:Nat->Nat}{v:Value}{x:AVal}(h:ARep w X (fun i=>η (ρ i)) C v x):ARep w X η C v (x.ren ρ):=by
 cases h with
 | any=>exact .any v
 | v _ _ h=>exact .v _ _ h.toRen
 | t us xs h1 h2=>
  refine .t us _ (by simpa using h1) fun j b=>?_
  have a : j<xs.length:=by simpa using b
  have:=(h2 j a).toRen
  grind
theorem ORep.toRen{ρ:Nat->Nat}{v:Value}{o:Obj}(h:ORep w X (fun i=>η (ρ i)) C v o):ORep w X η C v (o.ren ρ):=by
 cases h with
 | box b ro c e cs h1 h2=>exact .box b ro c e _ h1 h2.toRen
 | nil ad es f=>exact .nil ad es f
 | arr b n cap es c e f h1 h2 h3 h4 h5 h6 h7=>exact .arr b n cap es c e f h1 h2 h3 h4 h5 h6 h7
 | ext _ _ h1 h2 h3=>exact .ext _ _ h1 h2 h3
 | exr _ refs p h1 h2 h3=>
  have e:refs.map (fun i=>η (ρ i))=(refs.map ρ).map η:=by rw [List.map_map];rfl
  rw [e] at h1 h2;exact .exr _ _ p h1 h2 h3
end
def YQ(C:Ctx)(nt:Nat)(e:W4)(s:W5)(Si:List (Nat×Obj))(m:Nat->Nat)(rd ids:List Nat)(x:Operand)(y:AVal):Prop:=
 ∀ R η e0 s0 a w,(∀ t ∈ rd,e0 t=e t)->(∀ i ∈ ids,s0 i=s i)->Conc C nt R η e0 s0 a w ->
  ARep w (XS C s0 η) (fun i=>η (m i)) (QW Si w (XS C s0 η) fun i=>η (m i)) (a.eval x) y
section
variable {P:Program} {C:Ctx} {nt:Nat} {e:W4} {s:W5}
def Qv(rd:List Nat)(x:Operand):Bool:=match x with | .tmp t=>rd.contains t|_=>true
theorem Q8v{rd:List Nat}{t:Nat}(h:Qv rd (.tmp t)=true):t ∈ rd:=by
 simpa [Qv] using h
theorem ZR{e0 e:W4}{x:Operand}{rd:List Nat}(hrd:∀ t ∈ rd,e0 t=e t)(hx:Qv rd x=true):Y2 e0 x=Y2 e x:=by
 cases x <;> first|rfl|exact hrd _ (Q8v hx)
theorem PY{Si:List (Nat×Obj)}{m:Nat->Nat}{rd ids:List Nat}{x:Operand}{y:AVal}(hx:Qv rd x=true)(hle:Z8 (Y2 e x) (y.ren m))(hs:y.noSem=true):YQ C nt e s Si m rd ids x y:=by
 intro R η g h a w b c f;have d:=(U5 f x).1
 rw [ZR b hx] at d;exact (ARep.unren (hle.1 _ _ _ _ _ d)).ctx hs
def xl(ops:Array Oper)(o:Oper)(e:W4)(m:Nat->Nat)(extra:List Nat)(r:AVal)(Si So:List (Nat×Obj)):Eff where
 rd:=Qx o++Qi ops o
 ids:=WN e o++(Si.map (fun p=>m p.1)++extra)
 v:=r.ren m
 l:=(So.map fun p=>(m p.1,some (p.2.ren m)))++Si.map fun p=>(m p.1,none)
 news:=(So.filter fun p=> !(Si.map (·.1)).contains p.1).map fun p=>m p.1
def VG(m:Nat->Nat)(r:AVal)(Si So:List (Nat×Obj)):Bool:=
 Yf (Si.map (·.1))&&Yf (So.map (·.1))&&Yf ((So.filter fun p=> !(Si.map (·.1)).contains p.1).map (fun p=>m p.1)++Si.map fun p=>m p.1) &&
 r.refs.all (fun i=>(So.map (·.1)).contains i)&&So.all (fun p=>p.2.refs.all fun i=>(So.map (·.1)).contains i)&&r.noSem&&Si.all (fun p=>p.2.noSem)&&So.all (fun p=>p.2.noSem) &&
 So.all (fun p=> !(Si.map (·.1)).contains p.1||Si.any fun q=>q.1==p.1&&q.2.ro==p.2.ro)&&So.all (fun p=>(Si.map (·.1)).contains p.1 || !p.2.ro)
theorem xP{ρ:Nat->Nat}(x:CV):∀ j ∈ (x.ren ρ).refs,∃ i ∈ x.refs,j=ρ i:=by
 cases x <;> simp [CV.refs,CV.ren]
 grind
theorem vv{α β:Type}{f:α->List Nat}{g:α->α}{l:List α}{ρ:Nat->Nat}(h:∀ x,∀ j ∈ f (g x),∃ i ∈ f x,j=ρ i)(_:β):∀ j ∈ (l.map g).flatMap f,∃ i ∈ l.flatMap f,j=ρ i:=by
 grind
theorem Q3t{ρ:Nat->Nat}(x:TV):∀ j ∈ (x.ren ρ).refs,∃ i ∈ x.refs,j=ρ i:=by
 cases x with
 | c x=>exact xP x
 | g xs=>exact vv (f:=CV.refs) xP ()
theorem Z4k{ρ:Nat->Nat}(x:AVal):∀ j ∈ (x.ren ρ).refs,∃ i ∈ x.refs,j=ρ i:=by
 cases x with
 | any=>intro j a;cases a
 | v x=>exact Q3t x
 | t xs=>exact vv (f:=TV.refs) Q3t ()
theorem Z3m{ρ:Nat->Nat}(o:Obj):∀ j ∈ (o.ren ρ).refs,∃ i ∈ o.refs,j=ρ i:=by
 cases o with
 | box ro cs=>exact vv (f:=CV.refs) xP ()
 | arr es n f=>intro j a;cases a
 | ext p=>intro j a;cases a
 | exr refs p=>
  intro j a;obtain ⟨i,b,rfl⟩:=List.mem_map.1 a
  exact ⟨i,b,rfl⟩
theorem Conc.call{R:Nat->Prop}{η:Nat->Value}{e0:W4}{s0:W5}{a:Act}{w:World}(h:Conc C nt R η e0 s0 a w){m:Nat->Nat}{Si So:List (Nat×Obj)}{r:AVal}{d:Option Tmp}(hd:∀ x,d=some x->x<nt)(hchk:VG m r Si So=true)(hsi:∀ p ∈ Si,∃ o1,s0 (m p.1)=some o1/\U2 o1 (p.2.ren m))(hfr:∀ k ∈ (So.filter fun p=> !(Si.map (·.1)).contains p.1).map (fun p=>m p.1),¬ R k){v:Value}{η' : Nat->Value}{w' : World}(hb:Behind (QW Si w (XS C s0 η) fun i=>η (m i)) r So v η' w'):
  ∃ η1,Conc C nt (fun i=>R i\/i ∈ (So.filter fun p=> !(Si.map (·.1)).contains p.1).map fun p=>m p.1) η1 (Zw d (r.ren m) e0) (ZC ((So.map fun p=>(m p.1,some (p.2.ren m)))++Si.map fun p=>(m p.1,none)) s0) (a.put d v) w':=by
 simp only [VG,Bool.and_eq_true] at hchk;obtain ⟨⟨⟨⟨⟨⟨⟨⟨⟨c1,c2⟩,c3⟩,c4⟩,c5⟩,c6⟩,c7⟩,c8⟩,c9⟩,i4⟩:=hchk
 have n1:=Un c1;have n2:=Un c2
 have n3:=Un c3
 let news:=(So.filter fun p=> !(Si.map (·.1)).contains p.1).map fun p=>m p.1
 have S:∀ i,i ∈ Si.map (·.1)->∃ o,(i,o) ∈ Si:=fun i c=>by obtain ⟨p,A,rfl⟩:=List.mem_map.1 c;exact ⟨p.2,A⟩
 have b4:∀ i o,(i,o) ∈ Si->ls Si i=some o:=by
  intro i o c;unfold ls
  obtain ⟨l1,l2,rfl⟩:=List.append_of_mem c
  grind
 have E:∀ i o,(i,o) ∈ So->ls So i=some o:=by
  intro i o c;unfold ls
  obtain ⟨l1,l2,rfl⟩:=List.append_of_mem c
  grind
 have J:∀ p ∈ So,p.1 ∈ Si.map (·.1)\/m p.1 ∈ news:=by
  intro p A
  grind
 rw [List.nodup_append] at n3;obtain ⟨f2,i0,d5⟩:=n3
 have a7:∀ {α:Type} (f:α->Nat) (l:List α),(l.map f).Nodup->∀ x ∈ l,∀ y ∈ l,f x=f y->x=y:=by
  intro α f l
  induction l with
  | nil=>intro _ x W;cases W
  | cons z l ih=>
   grind
 have g3:∀ i j,i ∈ Si.map (·.1)->j ∈ Si.map (·.1)->m i=m j->i=j:=by
  grind
 have f3:∀ p ∈ So,∀ q ∈ So,m p.1=m q.1->p.1=q.1:=by
  intro p A q Z f4;rcases J p A with O|O <;> rcases J q Z with L|L
  .grind
  .grind
  .obtain ⟨oq,d6⟩:=S _ L
   grind
  .obtain ⟨p',h7,e1⟩:=List.mem_map.1 O
   obtain ⟨q',h8,e2⟩:=List.mem_map.1 L
   by_cases hps:p.1 ∈ Si.map (·.1)
   .obtain ⟨op,f8⟩:=S _ hps
    exact absurd rfl (d5 _ O _ (List.mem_map.2 ⟨_,f8,rfl⟩))
   .by_cases hqs:q.1 ∈ Si.map (·.1)
    .obtain ⟨oq,d6⟩:=S _ hqs
     exact absurd rfl (d5 _ L _ (List.mem_map.2 ⟨_,d6,rfl⟩))
    .have:=a7 (fun p:Nat×Obj=>m p.1) _ f2 p (List.mem_filter.2 ⟨A,by simpa using hps⟩) q (List.mem_filter.2 ⟨Z,by simpa using hqs⟩) f4
     rw [this]
 let η1:Nat->Value:=fun k=>match So.find? (fun p=>m p.1==k) with|some p=>η' p.1|none=>η k
 have V:∀ p ∈ So,η1 (m p.1)=η' p.1:=by
  grind
 have d0:∀ i,i ∈ Si.map (·.1)->η' i=η (m i):=by
  intro i c;obtain ⟨o,G⟩:=S i c
  refine hb.pn i _ ?_;have:=b4 i o G
  unfold ls at this;simp [QW,this]
 have H:∀ k,(∀ p ∈ So,m p.1≠k)->η1 k=η k:=by
  grind
 have eR:∀ k,R k->η1 k=η k:=by
  grind
 generalize hs1:ZC ((So.map fun p=>(m p.1,some (p.2.ren m)))++Si.map fun p=>(m p.1,none)) s0=s1;have B:∀ k o,s1 k=some o->(∃ p ∈ So,m p.1=k/\o=p.2.ren m)\/(s0 k=some o/\(∀ p ∈ So,m p.1≠k)/\∀ p ∈ Si,m p.1≠k):=by
  intro k o I;rw [<-hs1] at I
  unfold ZC at I;rw [List.lookup_append] at I
  cases hl1:(So.map fun p=>(m p.1,some (p.2.ren m))).lookup k with
  | some x=>
   rw [hl1] at I;simp only [Option.some_or] at I
   obtain ⟨l1,l2,hl,_⟩:=List.lookup_eq_some_iff.1 hl1;have e4:(k,x) ∈ So.map fun p=>(m p.1,some (p.2.ren m)):=by rw [hl];simp
   grind
  | none=>
   rw [hl1] at I;simp only [Option.none_or] at I
   have f1:∀ p ∈ So,m p.1≠k:=by
    intro p A hh;rw [List.lookup_eq_none_iff] at hl1
    have:=hl1 _ (List.mem_map_of_mem A)
    grind
   cases hl2:(Si.map fun p=>(m p.1,(none:Option Obj))).lookup k with
   | some x=>
    rw [hl2] at I;obtain ⟨l1,l2,hl,_⟩:=List.lookup_eq_some_iff.1 hl2
    have e4:(k,x) ∈ Si.map fun p=>(m p.1,(none:Option Obj)):=by rw [hl];simp
    grind
   | none=>
    rw [hl2] at I;refine .inr ⟨I,f1,fun p A hh=>?_⟩
    rw [List.lookup_eq_none_iff] at hl2;have:=hl2 _ (List.mem_map_of_mem A)
    grind
 have U:∀ i o,ls Si i=some o->∀ b,b ∈ Y7 (η (m i))->Own s0 η b:=by
  intro i o c b b2;obtain ⟨o1,O,_⟩:=hsi _ (G7 c)
  exact ⟨m i,o1,O,b2⟩
 have N:∀ k o i F b,s0 k=some o->ls Si i=some F->b ∈ Y7 (η k)->b ∈ Y7 (η (m i))->k=m i:=by
  intro k o i F b I c b7 a2;obtain ⟨o1,O,_⟩:=hsi _ (G7 c)
  exact h.ds k (m i) b (by rw [I];simp) (by rw [O];simp) b7 a2
 have a0:∀ i F b,ls Si i=some F->F.ro=false->b ∈ Y7 (η (m i))->C.M b\/C.w0.heap.size<=b:=by
  intro i F b c a1 b2;obtain ⟨o1,O,g0⟩:=hsi _ (G7 c)
  rcases h.ow _ o1 b O b2 with ⟨L,_⟩|L
  .have:o1.ro=F.ro:=by rw [<-g0.2.1,FW]
   grind
  .exact L
 have c0:∀ b,XS C s1 η1 b->(b<w.heap.size->XS C s0 η b)/\XS (QW Si w (XS C s0 η) fun i=>η (m i)) (ls So) η' b:=by
  intro b W;rcases W with ⟨W,hD⟩|⟨k,o,I,D⟩
  .refine ⟨fun _=>.inl ⟨W,hD⟩,.inl ⟨.inl ⟨W,hD⟩,fun G=>?_⟩⟩
   obtain ⟨i,o,c,g⟩:=G;obtain ⟨o1,O,_⟩:=hsi _ (G7 c)
   have a6:=h.ok.lt b W;rcases h.ow _ o1 b O g with ⟨_,L⟩|L|L
   .exact hD L
   .exact hD (h.ok.md b L)
   .omega
  .rcases B k o I with ⟨p,A,rfl,rfl⟩|⟨G,K,Y⟩
   .rw [V p A] at D
    refine ⟨fun a6=>?_,.inr ⟨p.1,p.2,E _ _ A,D⟩⟩;rcases hb.ow p.1 p.2 b (E _ _ A) D with ⟨_,⟨i,F,c,g⟩⟩|⟨i,F,c,_,g⟩|a3
    .exact .inr (U i F c b g)
    .exact .inr (U i F c b g)
    .have:w.heap.size<=b:=a3
     omega
   .rw [H k K] at D
    have a8:Own s0 η b:=⟨k,o,G,D⟩;refine ⟨fun _=>.inr a8,.inl ⟨.inr a8,fun W=>?_⟩⟩
    obtain ⟨i,F,c,g⟩:=W;exact Y _ (G7 c) (N k o i F b G c D g).symm
 have b6:QZ w w' (XS C s0 η) (XS C s1 η1):=by
  intro b a6 hX;refine ⟨hb.stp.block b a6 fun hM=>?_,fun W=>hX ((c0 b W).1 a6)⟩
  obtain ⟨i,F,c,_,g⟩:=hM;exact hX (.inr (U i F c b g))
 have e3:QZ w' w' (XS (QW Si w (XS C s0 η) fun i=>η (m i)) (ls So) η') (XS C s1 η1):=fun b _ hX=>⟨rfl,fun W=>hX (c0 b W).2⟩
 have d8:∀ p ∈ So,R (m p.1)\/m p.1 ∈ news:=by
  intro p A;rcases J p A with O|O
  .obtain ⟨o,G⟩:=S _ O
   obtain ⟨o1,L,_⟩:=hsi _ G;exact .inl (h.sr _ o1 L).1
  .exact .inr O
 have a4:∀ i,(So.map (·.1)).contains i=true->∃ p ∈ So,p.1=i:=by
  grind
 have b1:∀ p ∈ So,ORep w' (XS C s1 η1) η1 C (η1 (m p.1)) (p.2.ren m):=by
  intro p A;have O:=hb.objs p.1 p.2 (E _ _ A)
  have L:=O.mono (η':=fun i=>η1 (m i)) e3 (fun i c=>by
   obtain ⟨q,Z,rfl⟩:=a4 i (List.all_eq_true.1 (List.all_eq_true.1 c5 p A) i c)
   grind) (fun _ _=>rfl)
  rw [V p A];exact (L.toRen).ctx (by
   have:=List.all_eq_true.1 c8 p A
   cases hp2:p.2 with
   | box ro cs=>
    rw [hp2] at this;simp only [Obj.ren,Obj.noSem,List.all_map]
    rw [List.all_eq_true];intro x W
    have:=List.all_eq_true.1 this x W
    cases x <;> first|rfl|cases this
   | arr es n f=>rfl
   | ext p=>rfl
   | exr refs p=>rfl)
 refine ⟨η1,h.ok,by rw [Q0r];exact h.df,by rw [Q0q];exact h.sz,fun t=>?_,fun t i c=>?_,fun k o I=>?_,fun k o I=>?_,fun i j b c hj Q T=>?_,fun k o b I D=>?_,?_,fun i u c=>?_⟩
 .rw [ye a d v t (by rw [h.sz];exact hd)]
  unfold Zw;have g5:ARep w' (XS C s1 η1) η1 C v (r.ren m):=by
   have L:=hb.res.mono (η':=fun i=>η1 (m i)) e3 (fun i c=>by
    grind)
   exact (L.ctx c6).toRen
  cases d with
  | none=>exact (h.ev t).mono b6 fun i c=>eR i (h.er t i c)
  | some d=>
   simp only [Option.some.injEq]
   by_cases htd:t=d
   .grind
   .rw [if_neg (fun hh=>htd hh.symm),if_neg htd]
    exact (h.ev t).mono b6 fun i c=>eR i (h.er t i c)
 .unfold Zw at c
  have d4:i ∈ (e0 t).refs->R i\/i ∈ news:=fun hh=>.inl (h.er t i hh)
  have g8:i ∈ (r.ren m).refs->R i\/i ∈ news:=by
   intro hh;obtain ⟨j,hj,rfl⟩:=Z4k r i hh
   grind
  cases d with
  | none=>exact d4 c
  | some d=>
   grind
 .rcases B k o I with ⟨p,A,rfl,rfl⟩|⟨G,K,Y⟩
  .exact b1 p A
  .rw [H k K]
   refine (h.st k o G).mono b6 (fun j hj=>eR j ((h.sr k o G).2 j hj)) fun b D=>?_
   refine hb.stp.block b ((h.st k o G).lt D) fun hM=>?_
   obtain ⟨i,F,c,_,g⟩:=hM;exact Y _ (G7 c) (N k o i F b G c D g).symm
 .rcases B k o I with ⟨p,A,rfl,rfl⟩|⟨G,K,Y⟩
  .refine ⟨d8 p A,fun j hj=>?_⟩
   obtain ⟨i,c,rfl⟩:=Z3m p.2 j hj;obtain ⟨q,Z,rfl⟩:=a4 i (List.all_eq_true.1 (List.all_eq_true.1 c5 p A) i c)
   exact d8 q Z
  .exact ⟨.inl (h.sr k o G).1,fun j hj=>.inl ((h.sr k o G).2 j hj)⟩
 .obtain ⟨F,f9⟩:=Option.ne_none_iff_exists'.1 c
  obtain ⟨oj,f6⟩:=Option.ne_none_iff_exists'.1 hj;have a5:∀ p ∈ So,∀ k o,s0 k=some o->(∀ p ∈ Si,m p.1≠k)->∀ b,b ∈ Y7 (η' p.1)->b ∈ Y7 (η k)->False:=by
   intro p A k o G hn b b7 a2;rcases hb.ow p.1 p.2 b (E _ _ A) b7 with ⟨_,⟨i,F,c,g⟩⟩|⟨i,F,c,_,g⟩|a3
   .exact hn _ (G7 c) (N k o i F b G c a2 g).symm
   .exact hn _ (G7 c) (N k o i F b G c a2 g).symm
   .have O:w.heap.size<=b:=a3
    have L:=(h.st k o G).lt a2;omega
  rcases B i F f9 with ⟨p,A,rfl,rfl⟩|⟨G,K,Y⟩ <;> rcases B j oj f6 with ⟨q,Z,rfl,rfl⟩|⟨b9,a9,b8⟩
  .rw [V p A] at Q;rw [V q Z] at T
   rw [hb.ds p.1 q.1 b (by rw [E _ _ A];simp) (by rw [E _ _ Z];simp) Q T]
  .rw [V p A] at Q;rw [H _ a9] at T
   exact (a5 p A _ _ b9 b8 b Q T).elim
  .rw [V q Z] at T;rw [H _ K] at Q
   exact (a5 q Z _ _ G Y b T Q).elim
  .rw [H _ K] at Q;rw [H _ a9] at T
   exact h.ds i j b (by rw [G];simp) (by rw [b9];simp) Q T
 .rcases B k o I with ⟨p,A,rfl,rfl⟩|⟨G,K,Y⟩
  .rw [V p A] at D
   rw [FW];rcases hb.ow p.1 p.2 b (E _ _ A) D with ⟨a1,_⟩|⟨i,F,c,a1,g⟩|a3
   .
    have e5:p.1 ∈ Si.map (·.1):=by
     grind
    have h9:=List.all_eq_true.1 c9 p A;have d2 : (Si.map (·.1)).contains p.1=true:=by simpa using e5
    simp only [d2,Bool.not_true,Bool.false_or,List.any_eq_true] at h9;obtain ⟨q,Z,b3⟩:=h9
    simp only [Bool.and_eq_true,beq_iff_eq] at b3;obtain ⟨o1,g1,g2⟩:=hsi q Z
    rw [b3.1] at g1;rw [d0 _ e5] at D
    have d7:o1.ro=p.2.ro:=by rw [<-g2.2.1,FW,b3.2]
    rw [<-d7];exact h.ow _ o1 b g1 D
   .exact .inr (a0 i F b c a1 g)
   .exact .inr (.inr (Nat.le_trans h.fr.size a3))
  .rw [H k K] at D
   exact h.ow k o b G D
 .refine h.fr.trans (hb.stp.mono fun b _ hM=>?_)
  obtain ⟨i,F,c,a1,g⟩:=hM;exact a0 i F b c a1 g
 .have:=h.pn i u c
  exact ⟨(eR i this.2).trans this.1,.inl this.2⟩
end
end
section
def CV.closed(x:CV):Bool:=x.refs.isEmpty&&x.noSem
def AVal.closed(x:AVal):Bool:=x.refs.isEmpty&&x.noSem
section
variable {w:World} {X:Nat->Prop} {η η' : Nat->Value} {C C' : Ctx}
theorem ARep.free{v:Value}{x:AVal}(h:ARep w X η C v x)(hx:x.closed=true):ARep w X η' C' v x:=by
 simp only [AVal.closed,Bool.and_eq_true,List.isEmpty_iff] at hx;exact (h.mono (fun b _ c=>⟨rfl,c⟩) (fun i a=>by rw [hx.1] at a;cases a)).ctx hx.2
theorem G8.free{vs:Array Value}{cs:List CV}(h:G8 w X η C vs cs)(hx:cs.all CV.closed=true):G8 w X η' C' vs cs:=by
 refine ⟨h.1,fun j a=>?_⟩;have:=List.all_eq_true.1 hx _ (YA (d:=.d .any) a)
 simp only [CV.closed,Bool.and_eq_true,List.isEmpty_iff] at this;exact ((h.2 j a).mono (fun b _ f=>⟨rfl,f⟩) (fun i c=>by rw [this.1] at c;cases c)).ctx this.2
end
def QP(P:Program)(F:List AVal->AVal->Prop)(w0:World)(D X:Nat->Prop)(v:Value):Prop:=
 ∃ f caps,v=.func (.func f) #[] caps/\(∀ args w,(callFunc f args).run P w=.ok (.enter f args) w) /\
  ∀ (w1:World) (X1:Nat->Prop) (vs:Array Value) (args:List AVal) (r:AVal),F args r->w0.heap.size<=w1.heap.size->(∀ b,b<w0.heap.size->¬ D b->w1.heap[b]?=w0.heap[b]?)->(∀ b,X1 b->b<w1.heap.size) ->
   (∀ b,b<w0.heap.size->¬ D b->(X1 b↔X b))->vs.size=args.length->(∀ j,j<args.length->∀ η C,ARep w1 X1 η C (vs.getD j undef) (args.getD j .any)) ->
   Calls P f (vs++caps) w1 fun e w'=>∃ v',e=.returned v' /\ Stp (fun _=>False) w1 w' /\ ∀ η C,ARep w' X1 η C v' r
def YS(P:Program)(F:List AVal->AVal->Prop):AVal:=.v (.c (.sem (QP P F)))
section
variable {P:Program} {C:Ctx} {nt:Nat} {ops:Array Oper} {e:W4} {s:W5}
theorem Fg{o:Oper}{fx:Operand}{xs:Array Operand}{tys:Array TypeId}(hop:o.op=.call { callee:=.value fx,args:=xs,argTypes:=tys }){a:Act}{w:World}{f:Nat}{caps:Array Value}(hf:a.eval fx=.func (.func f) #[] caps)(hcall:∀ args w,(callFunc f args).run P w=.ok (.enter f args) w):(execOp a.eval o).run P w=.ok (.enter f (xs.map a.eval++caps)) w:=by
 simp [execOp,hop,resolve,Deferred.ofValue,hf,invoke,hcall]
theorem YY{o:Oper}(hdo:QS nt o=true):∀ x,o.dst=some x->x<nt:=by
 intro x a;simp only [QS,a,Bool.and_eq_true,decide_eq_true_eq] at hdo
 exact hdo.1
theorem Me{w:World}{X:Nat->Prop}{η:Nat->Value}{v:Value}{f:Nat}{ids:List Nat}(h:ARep w X η C v (.v (.c (.clo f ids)))):v=.func (.func f) #[] (ids.map η).toArray:=by
 cases h with|v _ _ h=>cases h with|c _ _ h=>cases h with|clo _ _ vs h=>rw [h]
theorem Q5i{f:Nat}(hcall:∀ args w,(callFunc f args).run P w=.ok (.enter f args) w){o:Oper}{fx:Operand}{xs:Array Operand}{tys:Array TypeId}(hop:o.op=.call { callee:=.value fx,args:=xs,argTypes:=tys })(hfx:Y2 e fx=.v (.c (.clo f [])))(hrf:Qv (Qx o++Qi ops o) fx=true){args:List AVal}{Si:List (Nat×Obj)}{r:AVal}{So:List (Nat×Obj)}(hspec:K8 P f args Si r So)(hlen:xs.size=args.length)(m:Nat->Nat)(extra:List Nat)(hargs:∀ j,j<args.length->YQ C nt e s Si m (Qx o++Qi ops o) (WN e o++(Si.map (fun p=>m p.1)++extra)) (xs.toList.getD j (.const undef)) (args.getD j .any))(hsi:∀ p ∈ Si,∃ o1,s (m p.1)=some o1/\U2 o1 (p.2.ren m))(hchk:VG m r Si So=true)(hdo:QS nt o=true)(hg:Zg ops e o=some true):WG P C nt ops o (xl ops o e m extra r Si So) e s:=by
 intro R η T F a w n k N h K Q Z;have U:=UG (e:=e) h (fun t V=>n t (List.mem_append.2 (.inr V))) hg
 rw [if_pos U];have z:=(U5 h fx).1
 rw [ZR n hrf,hfx] at z;have B:=Me z
 have L:=Fg (w:=w) hop B hcall;have d:∀ p ∈ Si,∃ o1,F (m p.1)=some o1/\U2 o1 (p.2.ren m):=by
  intro p S;rw [k (m p.1) (List.mem_append.2 (.inr (List.mem_append.2 (.inl (List.mem_map.2 ⟨p,S,rfl⟩)))))]
  exact hsi p S
 simp only [VG,Bool.and_eq_true] at hchk;have l:=hchk
 obtain ⟨⟨⟨⟨⟨⟨⟨⟨⟨c1,c2⟩,c3⟩,c4⟩,c5⟩,c6⟩,c7⟩,c8⟩,c9⟩,a5⟩:=hchk;have D:∀ b,XS C F η b->b<w.heap.size:=by
  rintro b (⟨hx,_⟩|hx)
  .exact Nat.lt_of_lt_of_le (h.ok.lt b hx) h.fr.size
  .exact h.lt hx
 have E:∀ i u,ls Si i=some u -> u.noSem=true:=fun i u g=>List.all_eq_true.1 c7 _ (G7 g)
 have G:=hspec w (XS C F η) (fun i=>η (m i)) (xs.map a.eval++(([]:List Nat).map η).toArray) D
  (fun b ⟨i,u,g,hib⟩=>by obtain ⟨o1,A,_⟩:=d _ (G7 g);exact .inr ⟨m i,o1,A,hib⟩)
  (fun i u g=>by
   obtain ⟨o1,A,M⟩:=d _ (G7 g);exact (ORep.unren (M.1 _ _ _ _ _ (h.st _ o1 A))).ctx (E i u g))
  (fun i j b g x H O=>by
   obtain ⟨oi,g⟩:=Option.ne_none_iff_exists'.1 g;obtain ⟨oj,x⟩:=Option.ne_none_iff_exists'.1 x
   obtain ⟨o1,A,_⟩:=d _ (G7 g);obtain ⟨o2,h2,_⟩:=d _ (G7 x)
   have y:m i=m j:=h.ds _ _ b (by rw [A];simp) (by rw [h2];simp) H O;have n3:=Un c3
   rw [List.nodup_append] at n3;exact vf (ρ:=m) n3.2.1 (by rw [g];simp) (by rw [x];simp) y)
  (by simp [hlen])
  (fun j x=>by
   have I : j<xs.size:=by omega
   have e1:(xs.map a.eval++(([]:List Nat).map η).toArray).getD j undef=a.eval (xs.toList.getD j (.const undef)):=by
    simp [List.getD_eq_getElem?_getD,I]
   rw [e1];exact hargs j x R η T F a w n k h)
 unfold Oper.wp;rw [L]
 show Calls P f _ w _;refine G.mono fun en w' Y=>?_
 obtain ⟨v,η',rfl,W⟩:=Y;have q:VG m r Si So=true:=by simp only [VG,Bool.and_eq_true];exact l
 obtain ⟨η1,J⟩:=h.call (YY hdo) q d N W;exact Z η1 _ w' J
def JA(ops:Array Oper)(o:Oper)(e:W4)(r:AVal):Eff where
 rd:=Qx o++Qi ops o
 ids:=WN e o
 v:=r
 l:=[]
 news:=[]
theorem Q5f{F:List AVal->AVal->Prop}{o:Oper}{fx:Operand}{xs:Array Operand}{tys:Array TypeId}(hop:o.op=.call { callee:=.value fx,args:=xs,argTypes:=tys })(hfx:Y2 e fx=YS P F){args:List AVal}{r:AVal}(hF:F args r)(hlen:xs.size=args.length)(hrd' : Qv (Qx o++Qi ops o) fx=true/\∀ x ∈ xs.toList,Qv (Qx o++Qi ops o) x=true)(hargs:∀ j,j<args.length->Z8 (Y2 e (xs.toList.getD j (.const undef))) (args.getD j .any)/\(args.getD j .any).closed=true)(hr:r.closed=true)(hdo:QS nt o=true)(hg:Zg ops e o=some true):WG P C nt ops o (JA ops o e r) e s:=by
 intro R η e0 q a w p Y b1 d K Q hK;have hw:=UG (e:=e) d (fun t ht=>p t (List.mem_append.2 (.inr ht))) hg
 rw [if_pos hw];have m:=(U5 d fx).1
 rw [ZR p hrd'.1,hfx] at m;have G:QP P F C.w0 C.D C.X (a.eval fx):=by
  generalize a.eval fx=u at m
  cases m with|v _ _ h=>cases h with|c _ _ h=>cases h with|sem _ _ h _=>exact h
 obtain ⟨f,a1,M,n,V⟩:=G;have S:=Fg (w:=w) hop M n
 have B:∀ b,XS C q η b->b<w.heap.size:=by
  rintro b (⟨g,_⟩|g)
  .exact Nat.lt_of_lt_of_le (d.ok.lt b g) d.fr.size
  .exact d.lt g
 have U:=V w (XS C q η) (xs.map a.eval) args r hF d.fr.size (fun b H I=>d.fr.block b H fun hM=>I (d.ok.md b hM)) B
  (fun b H I=>⟨fun g=>by
   rcases g with ⟨g,_⟩|⟨i,o',O,L⟩
   .exact g
   .rcases d.ow i o' b O L with ⟨_,J⟩|J|J
    .grind
    .exact absurd (d.ok.md b J) I
    all_goals grind,fun g=>.inl ⟨g,I⟩⟩) (by simp [hlen])
  (fun j E η2 C2=>by
   have A : j<xs.size:=by omega
   have e1:(xs.map a.eval).getD j undef=a.eval (xs.toList.getD j (.const undef)):=by simp [List.getD_eq_getElem?_getD,A]
   rw [e1];obtain ⟨g1,g2⟩:=hargs j E
   have g:=(U5 d (xs.toList.getD j (.const undef))).1;rw [ZR p (hrd'.2 _ (YA (by simpa using A)))] at g
   exact (g1.1 _ _ _ _ _ g).free g2)
 unfold Oper.wp;rw [S]
 show Calls P f _ w _;refine U.mono fun en w' hh=>?_
 obtain ⟨v,rfl,y,z⟩:=hh;have Z:SR.sto { v:=r } o.dst q=q:=by funext i;simp [SR.sto]
 have W:SR.eta { v:=r } o.dst v η=η:=by funext i;simp [SR.eta]
 have T:SR.rng { v:=r } o.dst R=R:=by funext i;simp [SR.rng]
 have:=d.step o.dst (YY hdo) { v:=r } v w' (fun _=>False) y (fun b H=>H.elim) (fun o dd N=>by cases N) (fun k o N=>by cases N)
  (fun _=>by rw [Z,W];refine ⟨z _ _,fun j E=>?_⟩;simp only [AVal.closed,Bool.and_eq_true,List.isEmpty_iff] at hr;simp only at E;rw [hr.1] at E;cases E)
 rw [Z,W,T] at this;refine hK η _ w' ?_
 have hu:ZC (JA ops o e r).l q=q:=by funext i;rfl
 rw [hu];exact this.wider fun i O=>.inl O
theorem YQ.sem{F:List AVal->AVal->Prop}{Si:List (Nat×Obj)}{m:Nat->Nat}{rd ids:List Nat}{x:Operand}(hx:Qv rd x=true)(hv:Y2 e x=YS P F)(hsi:∀ p ∈ Si,∃ o1,s (m p.1)=some o1)(hin:∀ p ∈ Si,m p.1 ∈ ids):YQ C nt e s Si m rd ids x (YS P F):=by
 intro R η e0 Z a w O A j;have l:=(U5 j x).1
 rw [ZR O hx,hv] at l;have K:QP P F C.w0 C.D C.X (a.eval x)/\(a.eval x).oneCell'=true:=by
  generalize a.eval x=u at l
  cases l with|v _ _ h=>cases h with|c _ _ h=>cases h with|sem _ _ h d=>exact ⟨h,d⟩
 obtain ⟨⟨f,H,N,o,U⟩,G⟩:=K;refine .v _ _ (.c _ _ (.sem _ _ ⟨f,H,N,o,?_⟩ G))
 intro V X1 W J r Y T I M S Q q;have z : w.heap.size<=V.heap.size:=T
 have E:∀ b,Own (ls Si) (fun i=>η (m i)) b->Own Z η b:=by
  rintro b ⟨i,L,y,g⟩;obtain ⟨o1,d⟩:=hsi _ (G7 y)
  exact ⟨m i,o1,by rw [A _ (hin _ (G7 y))];exact d,g⟩
 have B:∀ b,b<C.w0.heap.size->¬ C.D b->¬ Own (ls Si) (fun i=>η (m i)) b:=by
  intro b n k ho;obtain ⟨i,L,y,g⟩:=E b ho
  rcases j.ow i L b y g with ⟨_,d⟩|d|d
  .exact k d
  .exact k (j.ok.md b d)
  .omega
 refine U V X1 W J r Y (Nat.le_trans j.fr.size z) (fun b n k=>?_) M (fun b n k=>?_) Q q
 .have t:b<w.heap.size:=Nat.lt_of_lt_of_le n j.fr.size
  exact (I b t (B b n k)).trans (j.fr.block b n fun hM=>k (j.ok.md b hM))
 .have t:b<w.heap.size:=Nat.lt_of_lt_of_le n j.fr.size
  rw [S b t (B b n k)];constructor
  .rintro (⟨hx,_⟩|⟨i,L,y,g⟩)
   .exact hx
   .rcases j.ow i L b y g with ⟨_,d⟩|d|d
    .grind
    .exact absurd (j.ok.md b d) k
    .omega
  .exact fun hx=>.inl ⟨hx,k⟩
def Zv(cs:List (List CV)):List (Nat×Obj):=cs.zipIdx.map fun p=>(p.2,.box true p.1)
def WD(cs:List (List CV)):List AVal:=(List.range cs.length).map fun k=>.v (.c (.ptr k 0))
theorem Q2V(cs:List (List CV))(k:Nat):ls (Zv cs) k=(cs[k]?).map (Obj.box true):=by
 have a:∀ (l:List (List CV)) (n k:Nat),((l.zipIdx n).map fun p=>(p.2,Obj.box true p.1)).lookup k=if k<n then none else (l[k-n]?).map (Obj.box true):=by
  intro l
  induction l with
  | nil=>intro n k;simp
  | cons x l ih=>
   intro n k;simp only [List.zipIdx_cons,List.map_cons,List.lookup_cons]
   grind
 have:=a cs 0 k
 simpa [ls,Zv] using this
theorem YQ.clo{f:Nat}(hcall:∀ args w,(callFunc f args).run P w=.ok (.enter f args) w){F:List AVal->AVal->Prop}{cs:List (List CV)}(hspec:∀ args r,F args r->K8 P f (args++WD cs) (Zv cs) r (Zv cs))(hres:∀ args r,F args r->r.closed=true){Si:List (Nat×Obj)}{m:Nat->Nat}{rd ids:List Nat}{x:Operand}(hx:Qv rd x=true){cids:List Nat}(hv:Y2 e x=.v (.c (.clo f cids)))(hlen:cids.length=cs.length)(hnd:Yf cids=true)(hbox:∀ k,k<cs.length->∃ ro,s (cids.getD k 0)=some (.box ro (cs.getD k [])))(hcl:cs.all (fun c=>c.all CV.closed)=true)(hsi:∀ p ∈ Si,∃ o1,s (m p.1)=some o1)(hin:∀ p ∈ Si,m p.1 ∈ ids)(hcin:∀ i ∈ cids,i ∈ ids)(hapart:∀ p ∈ Si,m p.1 ∉ cids):YQ C nt e s Si m rd ids x (YS P F):=by
 intro R η e0 T a w c0 K hc;have W:=(U5 hc x).1
 rw [ZR c0 hx,hv] at W;have U:=Me W
 refine .v _ _ (.c _ _ (.sem _ _ ⟨f,_,U,hcall,?_⟩ (by rw [U];rfl)));intro Y S J args r hF b1 I a8 a2 c1 b9
 have c6 : w.heap.size<=Y.heap.size:=b1;have D:∀ k,k<cs.length->cids.getD k 0 ∈ cids:=fun k G=>YA (by omega)
 have h:∀ k,k<cs.length->∃ ro,T (cids.getD k 0)=some (.box ro (cs.getD k [])):=by
  grind
 have y:∀ k,k<cs.length->∃ b N O,η (cids.getD k 0)=.pointer (some ⟨b,0,none⟩)/\w.heap[b]?=some (.cells N O (0,0))/\G8 w (XS C T η) η C N (cs.getD k []):=by
  intro k G;obtain ⟨ro,t⟩:=h k G
  have:=hc.st _ _ t
  generalize η (cids.getD k 0)=u at this
  cases this with
  | box b _ N O _ B hcs=>exact ⟨b,N,O,rfl,B,hcs⟩
 have A:∀ k,k<cs.length->∀ b,b ∈ Y7 (η (cids.getD k 0))->¬ Own (ls Si) (fun i=>η (m i)) b:=by
  rintro k G b B ⟨i,q,d,l⟩;obtain ⟨ro,t⟩:=h k G
  obtain ⟨o1,E⟩:=hsi _ (G7 d);have b4 : T (m i)=some o1:=by rw [K _ (hin _ (G7 d))];exact E
  have:=hc.ds _ _ b (by rw [t];simp) (by rw [b4];simp) B l
  exact hapart _ (G7 d) (this ▸ D k G)
 have b3:∀ b,Own (ls Si) (fun i=>η (m i)) b->XS C T η b:=by
  rintro b ⟨i,q,d,l⟩;obtain ⟨o1,E⟩:=hsi _ (G7 d)
  exact .inr ⟨m i,o1,by rw [K _ (hin _ (G7 d))];exact E,l⟩
 have G:QZ w Y (XS C T η) S:=by
  intro b B hX;have Z:¬ Own (ls Si) (fun i=>η (m i)) b:=fun V=>hX (b3 b V)
  exact ⟨I b B Z,fun hx=>hX ((a2 b B Z).1 hx)⟩
 have n:∀ k o,ls (Zv cs) k=some o->k<cs.length/\o=.box true (cs.getD k []):=by
  intro k o G;rw [Q2V] at G
  grind
 have z:∀ b,Own (ls (Zv cs)) (fun k=>η (cids.getD k 0)) b->S b:=by
  rintro b ⟨k,q,L,M⟩;obtain ⟨g,_⟩:=n k q L
  obtain ⟨ro,t⟩:=h k g;have b7:b<w.heap.size:=(hc.st _ _ t).lt M
  exact (a2 b b7 (A k g b M)).2 (.inr ⟨_,_,t,M⟩)
 have b5:=hspec args r hF Y S (fun k=>η (cids.getD k 0)) (J++(cids.map η).toArray) a8 z
  (fun k o L=>by
   obtain ⟨g,rfl⟩:=n k o L;obtain ⟨b,N,O,t,E,h3⟩:=y k g
   have b6:=A k g b (by rw [t];simp [Y7]);show ORep Y S _ _ (η (cids.getD k 0)) _
   rw [t];have b0:(cs.getD k []).all CV.closed=true:=List.all_eq_true.1 hcl _ (YA g)
   exact .box b true N O _ ((I b (YJ E) b6).trans E) ((h3.mono (η':=η) G (fun _ _=>rfl)).free b0))
  (fun i j b d Q a4 c2=>by
   obtain ⟨oi,d⟩:=Option.ne_none_iff_exists'.1 d;obtain ⟨oj,Q⟩:=Option.ne_none_iff_exists'.1 Q
   obtain ⟨a6,_⟩:=n i oi d;obtain ⟨a5,_⟩:=n j oj Q
   obtain ⟨r1,t⟩:=h i a6;obtain ⟨r2,E⟩:=h j a5
   have a1:=hc.ds _ _ b (by rw [t];simp) (by rw [E];simp) a4 c2;have hn:=Un hnd
   have a9:i<cids.length:=by omega
   have a7:j<cids.length:=by omega
   rw [List.getD_eq_getElem?_getD,List.getD_eq_getElem?_getD,List.getElem?_eq_getElem a9,List.getElem?_eq_getElem a7] at a1;exact (List.getElem_inj hn).1 (by simpa using a1))
  (by simp [c1,WD,hlen])
  (fun j Q=>by
   rw [List.length_append] at Q
   by_cases hja:j<args.length
   .have e1:(J++(cids.map η).toArray).getD j undef=J.getD j undef:=by
     have:j<J.size:=by omega
     simp [Array.getD_eq_getD_getElem?,Array.getElem?_append,this]
    have e2:(args++WD cs).getD j .any=args.getD j .any:=by simp [List.getD_eq_getElem?_getD,List.getElem?_append,hja]
    grind
   .have g:j-args.length<cs.length:=by simp [WD] at Q;omega
    obtain ⟨b,N,O,t,E,h3⟩:=y _ g;have e1:(J++(cids.map η).toArray).getD j undef=η (cids.getD (j-args.length) 0):=by
     have g1:¬ j<J.size:=by omega
     have g2:j-J.size<cids.length:=by omega
     have g3:j-args.length<cids.length:=by omega
     have:j-J.size=j-args.length:=by omega
     simp [Array.getD_eq_getD_getElem?,Array.getElem?_append,g1,List.getD_eq_getElem?_getD,this,g3]
    have e2:(args++WD cs).getD j .any=.v (.c (.ptr (j-args.length) 0)):=by
     simp [List.getD_eq_getElem?_getD,List.getElem?_append,hja,WD,g]
    rw [e1,e2,t];exact .v _ _ (.c _ _ (.ptr b _ 0 t)))
 refine b5.mono fun en w' hh=>?_
 obtain ⟨v,η',rfl,B⟩:=hh;refine ⟨v,rfl,B.stp.mono fun b _ hM=>?_,fun η2 C2=>?_⟩
 .obtain ⟨i,q,d,b2,_⟩:=hM
  obtain ⟨_,rfl⟩:=n i q d;cases b2
 .have hX:∀ b,XS (QW (Zv cs) Y S fun k=>η (cids.getD k 0)) (ls (Zv cs)) η' b↔S b:=by
   have H:∀ i q,ls (Zv cs) i=some q -> η' i=η (cids.getD i 0):=by
    intro i q d;refine B.pn i _ ?_
    unfold ls at d;simp [QW,d]
   intro b;constructor
   .rintro (⟨hx,_⟩|⟨i,q,d,l⟩)
    .exact hx
    .rw [H i q d] at l
     exact z b ⟨i,q,d,l⟩
   .intro hx
    rcases Classical.em (Own (ls (Zv cs)) (fun k=>η (cids.getD k 0)) b) with V|V
    .obtain ⟨i,q,d,l⟩:=V
     exact .inr ⟨i,q,d,by rw [H i q d];exact l⟩
    .exact .inl ⟨hx,V⟩
  exact (B.res.mono (η':=η') (fun b _ hx=>⟨rfl,fun b8=>hx ((hX b).2 b8)⟩) (fun _ _=>rfl)).free (hres args r hF)
end
end
section
class Emb (α:Type) where
 cells:α->List DVal
 es:Nat
 d:α
 len:∀ x,(cells x).length=es
section
variable {α:Type} [Emb α]
def LF(l:List α)(i:Nat):List DVal:=Emb.cells (l.getD i Emb.d)
def DL(l:List α):DVal:=.lst l.length (LF l)
def AL(l:List α):AVal:=.v (.c (.d (DL l)))
def AO(l:List α):Obj:=.arr (Emb.es α) l.length (LF l)
structure Is (n:Nat) (f:Nat->List DVal) (l:List α):Prop where
 len_eq:n=l.length
 at_eq:∀ i,i<n->f i=LF l i
theorem Is.refl(l:List α):Is l.length (LF l) l:=⟨rfl,fun _ _=>rfl⟩
theorem Is.nil{f:Nat->List DVal}:Is 0 f ([]:List α):=⟨rfl,fun i a=>by omega⟩
theorem Is.app{n k:Nat}{f g:Nat->List DVal}{l m:List α}(h:Is n f l)(h' : Is k g m):Is (n+k) (QH n f g) (l++m):=by
 obtain ⟨c,b⟩:=h;obtain ⟨d,a⟩:=h'
 subst c d;refine ⟨by simp,fun i j=>?_⟩
 unfold QH LF
 by_cases hil:i<l.length
 .rw [if_pos hil,b i hil,LF,List.getD_eq_getElem?_getD,List.getD_eq_getElem?_getD,List.getElem?_append_left hil]
 .rw [if_neg hil,a _ (by omega),LF,List.getD_eq_getElem?_getD,List.getD_eq_getElem?_getD,List.getElem?_append_right (by omega)]
theorem Q9d{β γ:Type}{l:List β}{m:List γ}{δ:Type}{f:β->δ}{g:γ->δ}(h:l.map f=m.map g)(i:Nat):(l[i]?).map f=(m[i]?).map g:=by
 rw [<-List.getElem?_map, <-List.getElem?_map,h]
theorem Is.lit{k:Nat}{g:Nat->List DVal}(ys:List α)(h:(List.range k).map g=ys.map Emb.cells):Is k g ys:=by
 have a:k=ys.length:=by simpa using congrArg List.length h
 refine ⟨a,fun i b=>?_⟩;have:=Q9d h i
 rw [List.getElem?_range b,List.getElem?_eq_getElem (by omega)] at this;simp only [Option.map_some,Option.some.injEq] at this
 rw [this,LF,List.getD_eq_getElem?_getD,List.getElem?_eq_getElem (by omega)];rfl
theorem Is.set{n i:Nat}{f:Nat->List DVal}{l:List α}{off:Nat}{ds:List DVal}(h:Is n f l)(hi:i<n)(y:α)(hy:Ys (f i) off ds=Emb.cells y):
  Is n (fun j=>if j=i then Ys (f i) off ds else f j) (l.set i y):=by
 obtain ⟨c,a⟩:=h;refine ⟨by simpa using c,fun j b=>?_⟩
 unfold LF;rw [List.getD_eq_getElem?_getD]
 by_cases hji:j=i
 .subst hji
  rw [if_pos rfl,hy,List.getElem?_set_self (by omega)];rfl
 .rw [if_neg hji,List.getElem?_set_ne (fun h=>hji h.symm),a j b,LF,List.getD_eq_getElem?_getD]
theorem Is.take{n:Nat}{f:Nat->List DVal}{l:List α}(h:Is n f l){k:Int}(hk:k<=n):Is k.toNat f (l.take k.toNat):=by
 obtain ⟨c,b⟩:=h;refine ⟨by simp;omega,fun j a=>?_⟩
 rw [b j (by omega),LF,LF,List.getD_eq_getElem?_getD,List.getD_eq_getElem?_getD,List.getElem?_take,if_pos a]
theorem Is.rep{n:Nat}{z:List DVal}(hz:z=Emb.cells (Emb.d:α)):Is n (fun _=>z) (List.replicate n (Emb.d:α)):=by
 refine ⟨by simp,fun j a=>?_⟩;rw [hz,LF,List.getD_eq_getElem?_getD,List.getElem?_replicate,if_pos a];rfl
theorem Is.len{n:Nat}{f:Nat->List DVal}{l:List α}(h:Is n f l):∀ j,j<n->(f j).length=Emb.es α:=fun j a=>by rw [h.at_eq j a];exact Emb.len _
theorem DRep.is{w:World}{X:Nat->Prop}{v:Value}{n:Nat}{f:Nat->List DVal}{l:List α}(h:Is n f l)(hr:DRep w X v (.lst n f)):DRep w X v (DL l):=by
 obtain ⟨k,g⟩:=h;unfold DL
 cases hr with
 | nil a cap _=>
  have:l.length=0:=k.symm
  rw [this];exact .nil a cap _
 | lst b off n cap c e fz _ es g1 g2 g3 g4 g5 g6=>
  rw [<-k];exact .lst b off n cap c e fz _ es g1 g2 g3 g4 (fun i d=>by rw [<-g i d];exact g5 i d) fun i j d m=>by rw [<-g i d];exact g6 i j d m
theorem U2.is{n:Nat}{f:Nat->List DVal}{l:List α}(h:Is n f l):U2 (.arr (Emb.es α) n f) (AO l):=by
 refine ⟨fun w X η C v k=>?_,rfl,fun i a=>by cases a⟩;obtain ⟨g,d⟩:=h
 unfold AO
 cases k with
 | nil ad es _=>
  have:l.length=0:=g.symm
  rw [this];exact .nil ad _ _
 | arr b n cap es c e _ g1 g2 g3 g4 g5 g6 g7=>
  rw [<-g];exact .arr b n cap _ c e _ g1 g2 g3 g4 g5 (fun i a=>by rw [<-d i a];exact g6 i a) fun i j a m=>by rw [<-d i a];exact g7 i j a m
theorem Wq(l:List α)(lo hi:Option Int)(h:(sl l.length (LF l) lo hi).2):Is (sl l.length (LF l) lo hi).1.1 (sl l.length (LF l) lo hi).1.2
  (match lo,hi with|none,none=>l|some a,none=>l.drop a.toNat|none,some b=>l.take b.toNat|some a,some b=>(l.take b.toNat).drop a.toNat):=by
 cases lo with
 | none=>cases hi with
  | none=>exact .refl l
  | some b=>exact (Is.refl l).take h.2
 | some a=>cases hi with
  | none=>
   refine ⟨by simp [sl],fun i hi=>?_⟩;simp only [sl,LF,List.getD_eq_getElem?_getD,List.getElem?_drop]
  | some b=>
   simp only [sl] at h;refine ⟨by simp only [sl,List.length_drop,List.length_take];omega,fun i hi=>?_⟩
   simp only [sl] at hi;simp only [sl,LF,List.getD_eq_getElem?_getD,List.getElem?_drop,List.getElem?_take]
   grind
end
def W7(x y:CV):Prop:=(∀ w X η C v,CRep w X η C v x->CRep w X η C v y)/\∀ i ∈ y.refs,i ∈ x.refs
theorem W7.refl(x:CV):W7 x x:=⟨fun _ _ _ _ _ h=>h,fun _ h=>h⟩
theorem W7.lst{α:Type}[Emb α]{n:Nat}{f:Nat->List DVal}{l:List α}(h:Is n f l):W7 (.d (.lst n f)) (.d (DL l)):=
 ⟨fun w X η C v a=>by cases a with|d _ _ a=>exact .d _ _ (a.is h),fun i b=>by cases b⟩
theorem W7.fl{α:Type}[Emb α]{n:Nat}{f:Nat->List DVal}{l:List α}(h:Is n f l):W7 (.fl n f) (.d (DL l)):=
 ⟨fun w X η C v a=>by cases a with|fl _ _ _ a=>exact .d _ _ (a.is h),fun i b=>by cases b⟩
theorem Z3T{α:Type}[Emb α]{n:Nat}{f:Nat->List DVal}{l:List α}(h:Is n f l):W7 (.fl n f) (.fl l.length (LF l)):=
 ⟨fun w X η C v a=>by
  cases a with
  | fl _ _ _ a=>
   have:=a.is h
   unfold DL at this;have c:=h.len_eq
   subst c;exact .fl _ _ _ this,fun i b=>by cases b⟩
def Ks:List CV->List CV->Prop
 | [],[]=>True
 | x::xs,y::ys=>W7 x y/\Ks xs ys
 | _,_=>False
theorem Ks.spec{xs ys:List CV}(h:Ks xs ys):xs.length=ys.length/\(∀ j,W7 (xs.getD j (.d .any)) (ys.getD j (.d .any)))/\∀ i ∈ ys.flatMap CV.refs,i ∈ xs.flatMap CV.refs:=by
 induction xs generalizing ys with
 | nil=>cases ys with
  | nil=>exact ⟨rfl,fun j=>W7.refl _,fun i a=>a⟩
  | cons y ys=>exact h.elim
 | cons x xs ih=>cases ys with
  | nil=>exact h.elim
  | cons y ys=>
   obtain ⟨b,c⟩:=h;obtain ⟨f,g,k⟩:=ih c
   refine ⟨by simp [f],fun j=>?_,fun i a=>?_⟩
   .cases j with
    | zero=>exact b
    | succ j=>exact g j
   .simp only [List.flatMap_cons,List.mem_append] at a ⊢
    rcases a with a|a
    .exact .inl (b.2 i a)
    all_goals grind
theorem Ks.rep{xs ys:List CV}(h:Ks xs ys){w:World}{X:Nat->Prop}{η:Nat->Value}{C:Ctx}{vs:Array Value}(hv:G8 w X η C vs xs):G8 w X η C vs ys:=by
 obtain ⟨b,a,_⟩:=h.spec;exact ⟨hv.1.trans b,fun j c=>(a j).1 _ _ _ _ _ (hv.2 j (by omega))⟩
def Mm(x y:TV):Prop:=(∀ w X η C v,TRep w X η C v x->TRep w X η C v y)/\∀ i ∈ y.refs,i ∈ x.refs
theorem Mm.c{x y:CV}(h:W7 x y):Mm (.c x) (.c y):=⟨fun w X η C v a=>by cases a with|c _ _ a=>exact .c _ _ (h.1 _ _ _ _ _ a),h.2⟩
theorem Mm.g{xs ys:List CV}(h:Ks xs ys):Mm (.g xs) (.g ys):=⟨fun w X η C v a=>by cases a with|g _ _ a=>exact .g _ _ (h.rep a),h.spec.2.2⟩
theorem Z8.v{x y:TV}(h:Mm x y):Z8 (.v x) (.v y):=⟨fun w X η C v a=>by cases a with|v _ _ a=>exact .v _ _ (h.1 _ _ _ _ _ a),h.2⟩
theorem Z8.c{x y:CV}(h:W7 x y):Z8 (.v (.c x)) (.v (.c y)):=.v (.c h)
theorem Z8.g{xs ys:List CV}(h:Ks xs ys):Z8 (.v (.g xs)) (.v (.g ys)):=.v (.g h)
theorem U2.box{ro:Bool}{xs ys:List CV}(h:Ks xs ys):U2 (.box ro xs) (.box ro ys):=
 ⟨fun w X η C v a=>by cases a with|box b _ c e _ h1 h2=>exact .box b ro c e _ h1 (h.rep h2),rfl,h.spec.2.2⟩
theorem Z8.lst{α:Type}[Emb α]{n:Nat}{f:Nat->List DVal}{l:List α}(h:Is n f l):Z8 (.v (.c (.d (.lst n f)))) (AL l):=.c (.lst h)
theorem Z8.bool{b c:Bool}(h:b=c):Z8 (vb b) (vb c):=.of_eq (congrArg vb h)
def FE:List (Nat×AVal)->List (Nat×AVal)->Prop
 | [],[]=>True
 | (t,x)::E,(u,y)::E'=>t=u/\Z8 x y/\FE E E'
 | _,_=>False
def Mr:List (Nat×Obj)->List (Nat×Obj)->Prop
 | [],[]=>True
 | (t,x)::E,(u,y)::E'=>t=u/\U2 x y/\Mr E E'
 | _,_=>False
theorem FE.lk{E E' : List (Nat×AVal)}(h:FE E E')(t:Nat):Z8 (lk E t) (lk E' t):=by
 induction E generalizing E' with
 | nil=>cases E' with
  | nil=>exact Z8.refl _
  | cons p r=>exact h.elim
 | cons p r ih=>cases E' with
  | nil=>exact h.elim
  | cons q s=>
   obtain ⟨c,b,a⟩:=h;have:=ih a
   unfold Ab.lk at this ⊢
   grind
theorem Mr.ls{S S' : List (Nat×Obj)}(h:Mr S S')(i:Nat)(o' : Obj)(hi:ls S' i=some o'):∃ o,ls S i=some o/\U2 o o':=by
 induction S generalizing S' with
 | nil=>cases S' with
  | nil=>cases hi
  | cons p r=>exact h.elim
 | cons p r ih=>cases S' with
  | nil=>exact h.elim
  | cons q s=>
   obtain ⟨c,b,a⟩:=h;have:=ih a
   unfold Ab.ls at this hi ⊢
   grind
section
variable {P:Program} {C:Ctx} {nt:Nat} {L:V9} {pins:List Nat} {K:Act->World->Prop} {E:List (Nat×AVal)} {S:List (Nat×Obj)} {Q:Exit->Act->World->Prop}
theorem Ji(E' : List (Nat×AVal))(S' : List (Nat×Obj))(hE:FE E E')(hS:Mr S S')(h:Kn C nt E' S' K):Kn C nt E S K:=by
 intro R η a w c;refine h R (fun i=>η i) a w (c.conv (fun i=>i) (fun t=>by rw [Mw];exact hE.lk t) (fun i x b=>?_) (fun i j b f d=>d) (fun u i b=>c.er u i ((hE.lk u).2 i b)) (fun i x b=>?_) (fun i b=>?_))
 .rw [Mq];exact hS.ls i x b
 .obtain ⟨o,l,k⟩:=hS.ls i x b
  have:=c.sr i o l
  exact ⟨this.1,fun j f=>this.2 j (k.2.2 j f)⟩
 .obtain ⟨v,g⟩:=Option.ne_none_iff_exists'.1 b
  exact ⟨rfl,(c.pn i v g).2⟩
theorem Fr.pinsB(Fm:Fr P L C pins){ρ:List (Nat×Nat)}(h:pins.all (fun i=>V3 ρ i==i)=true):pinsB C (V3 ρ):=fun i a=>by
 have:=List.all_eq_true.1 h i (Fm.pin i a)
 grind
theorem xB(Fm:Fr P L C pins)(ρ:List (Nat×Nat))(E' : List (Nat×AVal))(S' : List (Nat×Obj))(hp:pins.all (fun i=>V3 ρ i==i)=true)(hE:E'.map (fun p=>lk E p.1)=E'.map (fun p=>p.2.ren (V3 ρ)))(hS:S'.map (fun p=>ls S (V3 ρ p.1))=S'.map (fun p=>some (p.2.ren (V3 ρ))))(hinj:Yf (S'.map fun p=>V3 ρ p.1)=true)(h:Kn C nt E' S' K):Kn C nt E S K:=
 Z3p ρ (Fm.pinsB hp) hE hS hinj h
def CV.frz(k n:Nat)(f:Nat->List DVal):CV->CV
 | .own i=>if i=k then .d (.lst n f) else .own i
 | .ap i=>if i=k then .d (.lst n f) else .ap i
 | x=>x
def TV.frz(k n:Nat)(f:Nat->List DVal):TV->TV
 | .c x=>.c (x.frz k n f)
 | .g xs=>.g (xs.map (CV.frz k n f))
def AVal.frz(k n:Nat)(f:Nat->List DVal):AVal->AVal
 | .any=>.any
 | .v x=>.v (x.frz k n f)
 | .t xs=>.t (xs.map (TV.frz k n f))
def Obj.frz(k n:Nat)(f:Nat->List DVal):Obj->Obj
 | .box ro cs=>.box ro (cs.map (CV.frz k n f))
 | o=>o
end
section
variable {w:World} {X X' : Nat->Prop} {η:Nat->Value} {C:Ctx} {k n:Nat} {f:Nat->List DVal}
theorem CRep.frz{v:Value}{x:CV}(h:CRep w X η C v x)(hX:∀ b,¬ X b->¬ X' b)(hk:DRep w X' (η k) (.lst n f)):CRep w X' η C v (x.frz k n f):=by
 have a:∀ b,b<w.heap.size->¬ X b->w.heap[b]?=w.heap[b]? /\ ¬ X' b:=fun b _ o=>⟨rfl,hX b o⟩
 cases h with
 | d _ _ h=>exact .d _ _ (h.mono a)
 | fl _ _ _ h=>exact .fl _ _ _ (h.mono a)
 | own _ i h h1=>
  simp only [CV.frz];split
  .rename_i m;subst m;rw [h];exact .d _ _ hk
  .exact .own _ _ h h1
 | ptr _ _ _ h=>exact .ptr _ _ _ h
 | pte _ _ _ _ _ _ _ h=>exact .pte _ _ _ _ _ _ _ h
 | sub b N cap _ es lo n h h1 h2=>exact .sub b N cap _ es lo n h h1 h2
 | subN ad ad' N _ es h=>exact .subN ad ad' N _ es h
 | elm b off c e fz cs h1 h2 h3 h4=>exact .elm b off c e fz cs (hX _ h1) h2 h3 fun j g=>(h4 j g).mono a
 | clo _ _ _ h=>exact .clo _ _ _ h
 | sem _ _ h h1=>exact .sem _ _ h h1
 | ap v i h h1=>
  simp only [CV.frz];split
  .rename_i m
   subst m;rcases h with h|h|⟨l,h⟩
   .rw [<-h];exact .d _ _ hk
   .rw [h] at hk;cases hk
   .rw [h] at hk;cases hk
  .exact .ap _ _ h h1
 | bnd f vs cs h1 h2=>exact .bnd f vs cs h1 fun j g=>(h2 j g).mono a
 | cp _ id j vs h h1 h2=>exact .cp _ id j vs h h1 h2
theorem G8.frz{vs:Array Value}{cs:List CV}(h:G8 w X η C vs cs)(hX:∀ b,¬ X b->¬ X' b)(hk:DRep w X' (η k) (.lst n f)):G8 w X' η C vs (cs.map (CV.frz k n f)):=by
 refine ⟨by simpa using h.1,fun j c=>?_⟩;have a : j<cs.length:=by simpa using c
 have:=(h.2 j a).frz hX hk
 grind
theorem TRep.frz{v:Value}{x:TV}(h:TRep w X η C v x)(hX:∀ b,¬ X b->¬ X' b)(hk:DRep w X' (η k) (.lst n f)):TRep w X' η C v (x.frz k n f):=by
 cases h with
 | c _ _ h=>exact .c _ _ (h.frz hX hk)
 | g _ _ h=>exact .g _ _ (h.frz hX hk)
theorem ARep.frz{v:Value}{x:AVal}(h:ARep w X η C v x)(hX:∀ b,¬ X b->¬ X' b)(hk:DRep w X' (η k) (.lst n f)):ARep w X' η C v (x.frz k n f):=by
 cases h with
 | any=>exact .any v
 | v _ _ h=>exact .v _ _ (h.frz hX hk)
 | t us xs h1 h2=>
  refine .t us _ (by simpa using h1) fun j c=>?_
  have a : j<xs.length:=by simpa using c
  have:=(h2 j a).frz hX hk
  grind
theorem ORep.frz{v:Value}{o:Obj}(h:ORep w X η C v o)(hX:∀ b,¬ X b->¬ X' b)(hk:DRep w X' (η k) (.lst n f)):ORep w X' η C v (o.frz k n f):=by
 cases h with
 | box b ro c e cs h1 h2=>exact .box b ro c e _ h1 (h2.frz hX hk)
 | nil ad es f=>exact .nil ad es f
 | arr b n cap es c e f h1 h2 h3 h4 h5 h6 h7=>exact .arr b n cap es c e f h1 h2 h3 h4 h5 h6 fun i j d g=>(h7 i j d g).mono fun b _ a=>⟨rfl,hX b a⟩
 | ext _ p h1 h2 h3=>exact .ext _ p (h2 w w X X' (fun b _ a=>⟨rfl,hX b a⟩) (fun _ _=>rfl) h1) h2 h3
 | exr _ refs p h1 h2 h3=>exact .exr _ refs p (h2 w w X X' (fun b _ a=>⟨rfl,hX b a⟩) (fun _ _=>rfl) h1) h2 h3
theorem Xx{α β:Type}{fr:α->List Nat}{gr:β->List Nat}{g:α->β}{l:List α}(h:∀ x,∀ j ∈ gr (g x),j ∈ fr x):∀ j ∈ (l.map g).flatMap gr,j ∈ l.flatMap fr:=by
 grind
theorem xR(x:CV):∀ j ∈ (x.frz k n f).refs,j ∈ x.refs:=by
 cases x <;> simp only [CV.frz] <;> try exact fun j a=>a
 all_goals
  split
  .intro j a;cases a
  .exact fun j a=>a
theorem Q3v(x:TV):∀ j ∈ (x.frz k n f).refs,j ∈ x.refs:=by
 cases x with
 | c x=>exact xR x
 | g xs=>exact Xx xR
theorem Z4l(x:AVal):∀ j ∈ (x.frz k n f).refs,j ∈ x.refs:=by
 cases x with
 | any=>exact fun j a=>a
 | v x=>exact Q3v x
 | t xs=>exact Xx Q3v
theorem Z3n(o:Obj):∀ j ∈ (o.frz k n f).refs,j ∈ o.refs:=by
 cases o with
 | box ro cs=>exact Xx xR
 | arr es n f=>exact fun j a=>a
 | ext p=>exact fun j a=>a
 | exr refs p=>exact fun j a=>a
end
end
section
section
variable {P:Program} {C:Ctx} {nt:Nat} {L:V9} {pins:List Nat} {K:Act->World->Prop} {E:List (Nat×AVal)} {S:List (Nat×Obj)} {Q:Exit->Act->World->Prop}
theorem TX{g:AVal->AVal}(hg:g .any=.any)(E:List (Nat×AVal))(t:Nat):lk (E.map fun p=>(p.1,g p.2)) t=g (lk E t):=by
 unfold lk
 induction E with
 | nil=>exact hg.symm
 | cons p r ih=>
  grind
theorem UW{g:Obj->Obj}(S:List (Nat×Obj))(i:Nat):ls (S.map fun p=>(p.1,g p.2)) i=(ls S i).map g:=by
 unfold ls
 induction S with
 | nil=>rfl
 | cons p r ih=>
  grind
theorem Z3z{k es n:Nat}{f:Nat->List DVal}(E' : List (Nat×AVal))(S' : List (Nat×Obj))(hE:E.map (fun p=>(p.1,p.2.frz k n f))=E')(hS:S.map (fun p=>(p.1,p.2.frz k n f))=S')(hk:(S.map (·.1)).contains k=false)(h:Kn C nt E' S' K):Kn C nt E ((k,.arr es n f)::S) K:=by
 subst hE hS;intro R η a w m
 have z:ls ((k,.arr es n f)::S) k=some (.arr es n f):=by unfold ls;rw [List.lookup_cons];simp
 have N:ls S k=none:=by
  cases ho:ls S k with
  | none=>rfl
  | some o=>
   have:k ∈ S.map (·.1):=List.mem_map.2 ⟨_,G7 ho,rfl⟩
   grind
 have l:∀ i o,ls S i=some o->ls ((k,.arr es n f)::S) i=some o/\i≠k:=by
  intro i o d;have r:i≠k:=by intro h;rw [h,N] at d;cases d
  refine ⟨?_,r⟩;unfold ls;rw [List.lookup_cons]
  have:(i==k)=false:=by simpa using r
  rw [this];exact d
 have y:∀ b,Own (ls (S.map fun p=>(p.1,p.2.frz k n f))) η b->Own (ls S) η b:=by
  rintro b ⟨i,G,d,q⟩;rw [UW] at d
  cases ho:ls S i with
  | none=>rw [ho] at d;cases d
  | some o=>exact ⟨i,o,ho,q⟩
 have M:∀ b,¬ XS C (ls ((k,.arr es n f)::S)) η b->¬ XS C (ls (S.map fun p=>(p.1,p.2.frz k n f))) η b:=by
  intro b v J;rcases J with x|x
  .exact v (.inl x)
  .obtain ⟨i,o,d,q⟩:=y b x
   exact v (.inr ⟨i,o,(l i o d).1,q⟩)
 have T:∀ b,b<w.heap.size->¬ XS C (ls ((k,.arr es n f)::S)) η b->w.heap[b]?=w.heap[b]? /\ ¬ XS C (ls (S.map fun p=>(p.1,p.2.frz k n f))) η b:=fun b _ v=>⟨rfl,M b v⟩
 have B:∀ b,b ∈ Y7 (η k)->¬ XS C (ls (S.map fun p=>(p.1,p.2.frz k n f))) η b:=by
  intro b v x;rcases x with ⟨x,U⟩|x
  .rcases m.ow k _ b z v with ⟨A,_⟩|V|W
   .cases A
   .exact U (m.ok.md b V)
   .have:=m.ok.lt b x;omega
  .obtain ⟨i,o,d,q⟩:=y b x
   obtain ⟨H,I⟩:=l i o d;exact I (m.ds i k b (by rw [H];simp) (by rw [z];simp) q v)
 have F:DRep w (XS C (ls (S.map fun p=>(p.1,p.2.frz k n f))) η) (η k) (.lst n f):=by
  have:=m.st k _ z
  generalize hu:η k=u at this B
  cases this with
  | nil ad es f=>exact .nil ad 0 f
  | arr b n cap es c e f H I h3 h4 h5 h6 h7=>
   have v:¬ XS C (ls (S.map fun p=>(p.1,p.2.frz k n f))) η b:=B b (by simp [Y7];omega);refine .lst b 0 n cap c e _ f es v H h3 (by rw [I,Nat.zero_add];exact Nat.mul_le_mul_right _ h3) h6 fun i j d D=>?_
   rw [Nat.zero_add];exact (h7 i j d D).mono T
 refine h R η a w ⟨m.ok,m.df,m.sz,fun t=>?_,fun t i d=>?_,fun i G d=>?_,fun i G d=>?_,fun i j b d D=>?_,fun i G b d=>?_,m.fr,m.pn⟩
 .rw [TX (g:=AVal.frz k n f) rfl]
  exact (m.ev t).frz M F
 .rw [TX (g:=AVal.frz k n f) rfl] at d
  exact m.er t i (Z4l _ i d)
 .rw [UW] at d
  cases ho:ls S i with
  | none=>rw [ho] at d;cases d
  | some o=>
   rw [ho] at d;cases d
   exact (m.st i o (l i o ho).1).frz M F
 .rw [UW] at d
  cases ho:ls S i with
  | none=>rw [ho] at d;cases d
  | some o=>
   rw [ho] at d;cases d
   have:=m.sr i o (l i o ho).1
   exact ⟨this.1,fun j D=>this.2 j (Z3n o j D)⟩
 .have r:∀ i,ls (S.map fun p=>(p.1,p.2.frz k n f)) i≠none->ls ((k,.arr es n f)::S) i≠none:=by
   intro i d O;apply d
   rw [UW]
   cases ho:ls S i with
   | none=>rfl
   | some o=>rw [(l i o ho).1] at O;cases O
  exact m.ds i j b (r i d) (r j D)
 .rw [UW] at d
  cases ho:ls S i with
  | none=>rw [ho] at d;cases d
  | some o=>
   rw [ho] at d;cases d
   have A:(o.frz k n f).ro=o.ro:=by cases o <;> rfl
   rw [A];exact m.ow i o b (l i o ho).1
def gd{R:Type}(p:Prop)[Decidable p](x:Option R):Option R:=if p then x else none
theorem Q1E{R:Type}{p:Prop}[Decidable p]{x:Option R}{r:R}(h:gd p x=some r):p/\x=some r:=by
 unfold gd at h
 grind
theorem Z2z{α R:Type}{x:Option α}{f:α->Option R}{r:R}(h:x.bind f=some r):∃ z,x=some z/\f z=some r:=by
 cases x with
 | none=>cases h
 | some z=>exact ⟨z,rfl,h⟩
def br{R:Type}(b:Bool)(x y:Option R):Option R:=match b with|true=>x|false=>y
theorem Z2v{R:Type}{b:Bool}{x y:Option R}{r:R}(h:br b x y=some r)(hb:b=true):x=some r:=by subst hb;exact h
theorem Z2x{R:Type}{b:Bool}{x y:Option R}{r:R}(h:br b x y=some r)(hb:b=false):y=some r:=by subst hb;exact h
def Z7{σ R:Type}(body:(σ->Option R)->σ->Option R):Nat->σ->Option R
 | 0,_=>none
 | n+1,z=>body (Z7 body n) z
theorem Z4g{σ R:Type}{r:R}{x y:Code}(f:σ->Option R)(E' : σ->List (Nat×AVal))(S' : σ->List (Nat×Obj))(hy:∀ z,f z=some r->AW P C nt y (E' z) (S' z) Q)(hx:∀ J:Act->World->Prop,(∀ z,f z=some r->Kn C nt (E' z) (S' z) J)->AW P C nt x E S (Exit.then J Q)):AW P C nt (.seq x y) E S Q:=
 Q3R (hx _ fun z a=>hy z a)
theorem Z4c{σ R:Type}{r:R}{c:Code}{body:(σ->Option R)->σ->Option R}(E' : σ->List (Nat×AVal))(S' : σ->List (Nat×Obj))(round:∀ (again:σ->Option R) (z:σ) (J:Act->World->Prop),(∀ z',again z'=some r->Kn C nt (E' z') (S' z') J)->body again z=some r->AW P C nt c (E' z) (S' z) (Exit.then J Q)){n:Nat}{z0:σ}(h:Z7 body n z0=some r):AW P C nt (.loop c) (E' z0) (S' z0) Q:=by
 refine Z4d (σ:=Nat×σ) (fun p=>Z7 body p.1 p.2=some r) (fun p=>p.1) (fun p=>E' p.2) (fun p=>S' p.2) (fun p b=>?_) (n,z0) h;obtain ⟨m,z⟩:=p
 cases m with
 | zero=>cases b
 | succ m=>
  refine round (Z7 body m) z _ (fun z' a=>?_) b;exact Z3A (I:=fun p:Nat×σ=>Z7 body p.1 p.2=some r/\p.1<m+1) (E':=fun p=>E' p.2) (S':=fun p=>S' p.2) (m,z') ⟨a,Nat.lt_succ_self m⟩
def V7(L:V9)(ops:Array Oper):List Oper->List Dir->W4->W5->Nat->W4
 | o::os,d::ds,e,s,k+1=>V7 L ops os ds (Zw o.dst (WX L ops o d e s).v e) (ZC (WX L ops o d e s).l s) k
 | _,_,e,_,_=>e
def QU(L:V9)(ops:Array Oper):List Oper->List Dir->W4->W5->Nat->W5
 | o::os,d::ds,e,s,k+1=>QU L ops os ds (Zw o.dst (WX L ops o d e s).v e) (ZC (WX L ops o d e s).l s) k
 | _,_,_,s,_=>s
def Y6:List Oper->Nat->Oper
 | [],_=>default
 | o::_,0=>o
 | _::os,k+1=>Y6 os k
def Qs:List Dir->Nat->Array Oper->Oper->W4->Eff
 | .k f::_,0=>f
 | _::ds,k+1=>Qs ds k
 | _,_=>fun _ _ _=>default
def U9(P:Program)(C:Ctx)(nt:Nat)(L:V9)(ops:Array Oper)(ds:List Dir)(e:W4)(s:W5)(k:Nat):Prop:=
 WG P C nt ops (Y6 ops.toList k) (Qs ds k ops (Y6 ops.toList k) (V7 L ops ops.toList ds e s k)) (V7 L ops ops.toList ds e s k) (QU L ops ops.toList ds e s k)
theorem Z4a(Fm:Fr P L C pins){id:Nat}{ops:Array Oper}{draw:Bool}(ds:List Dir)(ρ:List (Nat×Nat))(c:(Nat->Prop)->Prop)(E' : List (Nat×AVal))(S' : List (Nat×Obj))(hc:c (U9 P C nt L ops ds (lk E) (ls S)))(hchk:FL L pins nt ops draw ds E S ρ S'=true)(hC:Km P C nt L ops ops.toList ds (lk E) (ls S)=c (U9 P C nt L ops ds (lk E) (ls S)))(he0:E'.map (fun p=>Jc ops.toList (VJ L ops ops.toList ds (lk E) (ls S)) (lk E) p.1)=E'.map (fun p=>p.2.ren (V3 ρ)))(hs0:S'.map (fun p=>Jb (VJ L ops ops.toList ds (lk E) (ls S)) (ls S) (V3 ρ p.1))=S'.map (fun p=>some (p.2.ren (V3 ρ))))(k:Kn C nt E' S' (Q .normal)):AW P C nt (.region id ops draw) E S Q:=Z3Z Fm ds ρ hchk (hC ▸ hc) he0 hs0 k
end
end
section
def Pi(o:Oper):Bool:=match o.op with | .call { callee:=.value _,.. }=>true|_=>false
def UA(o:Oper):Operand:=match o.op with | .call { callee:=.value fx,.. }=>fx|_=>.const undef
def callXs(o:Oper):Array Operand:=match o.op with | .call { callee:=.value _,args,.. }=>args|_=> #[]
theorem CE{o:Oper}(h:Pi o=true):∃ tys,o.op=.call { callee:=.value (UA o),args:=callXs o,argTypes:=tys }:=by
 unfold Pi at h;split at h
 .rename_i b c tys a
  exact ⟨tys,by simp only [UA,callXs,a]⟩
 .cases h
def cE(m:List (Nat×Nat))(extra:List Nat)(r:AVal)(Si So:List (Nat×Obj)):Array Oper->Oper->W4->Eff:=fun ops o e=>xl ops o e (V3 m) extra r Si So
def sE(r:AVal):Array Oper->Oper->W4->Eff:=fun ops o e=>JA ops o e r
def Xa(C:Ctx)(nt:Nat)(e:W4)(s:W5)(Si:List (Nat×Obj))(m:Nat->Nat)(rd ids:List Nat):List Operand->List AVal->Prop
 | [],[]=>True
 | x::xs,y::ys=>YQ C nt e s Si m rd ids x y/\Xa C nt e s Si m rd ids xs ys
 | _,_=>False
theorem Xa.spec{C:Ctx}{nt:Nat}{e:W4}{s:W5}{Si:List (Nat×Obj)}{m:Nat->Nat}{rd ids:List Nat}{xs:List Operand}{ys:List AVal}(h:Xa C nt e s Si m rd ids xs ys):
  xs.length=ys.length/\∀ j,j<ys.length->YQ C nt e s Si m rd ids (xs.getD j (.const undef)) (ys.getD j .any):=by
 induction xs generalizing ys with
 | nil=>cases ys with
  | nil=>exact ⟨rfl,fun j a=>by simp at a⟩
  | cons y ys=>exact h.elim
 | cons x xs ih=>cases ys with
  | nil=>exact h.elim
  | cons y ys=>
   obtain ⟨c,b⟩:=h
   grind
theorem xS{C:Ctx}{nt:Nat}{e:W4}{s:W5}{Si:List (Nat×Obj)}{m:Nat->Nat}{rd ids:List Nat}:∀ {xs:List Operand} {ys:List AVal},xs.all (Qv rd)=true->ys.all AVal.noSem=true->xs.map (Y2 e)=ys.map (AVal.ren m)->Xa C nt e s Si m rd ids xs ys
 | [],[],_,_,_=>trivial
 | [],_::_,_,_,h=>by cases h
 | _::_,[],_,_,h=>by cases h
 | x::xs,y::ys,h1,h2,h3=>by
  simp only [List.all_cons,Bool.and_eq_true] at h1 h2;simp only [List.map_cons,List.cons.injEq] at h3
  exact ⟨PY h1.1 (Z8.of_eq h3.1) h2.1,xS h1.2 h2.2 h3.2⟩
def CD(f:Nat):AVal->Bool
 | .v (.c (.clo g []))=>g==f
 | _=>false
theorem Q1l{f:Nat}{x:AVal}(h:CD f x=true):x=.v (.c (.clo f [])):=by
 unfold CD at h
 grind
def callB(ops:Array Oper)(nt:Nat)(e:W4)(o:Oper)(f:Nat)(m:List (Nat×Nat))(r:AVal)(Si So:List (Nat×Obj)):Bool:=
 Pi o&&CD f (Y2 e (UA o))&&Qv (Qx o++Qi ops o) (UA o)&&VG (V3 m) r Si So&&QS nt o&&(Zg ops e o==some true)
section
variable {P:Program} {C:Ctx} {nt:Nat} {L:V9} {ops:Array Oper} {ds:List Dir} {e:W4} {s:W5}
theorem Q3I{k:Nat}{f:Nat}{args:List AVal}{Si:List (Nat×Obj)}{r:AVal}{So:List (Nat×Obj)}(hspec:K8 P f args Si r So)(hcall:∀ args w,(callFunc f args).run P w=.ok (.enter f args) w)(m:List (Nat×Nat))(extra:List Nat)(hk:Qs ds k=cE m extra r Si So)(hb:callB ops nt (V7 L ops ops.toList ds e s k) (Y6 ops.toList k) f m r Si So=true)(hsi:Si.map (fun p=>QU L ops ops.toList ds e s k (V3 m p.1))=Si.map (fun p=>some (p.2.ren (V3 m))))(hargs:Xa C nt (V7 L ops ops.toList ds e s k) (QU L ops ops.toList ds e s k) Si (V3 m) (Qx (Y6 ops.toList k)++Qi ops (Y6 ops.toList k)) (WN (V7 L ops ops.toList ds e s k) (Y6 ops.toList k)++(Si.map (fun p=>V3 m p.1)++extra))
   (callXs (Y6 ops.toList k)).toList args):U9 P C nt L ops ds e s k:=by
 unfold U9;rw [hk]
 simp only [callB,Bool.and_eq_true] at hb;obtain ⟨⟨⟨⟨⟨d,l⟩,i⟩,u⟩,q⟩,h⟩:=hb
 obtain ⟨t,a⟩:=CE d;obtain ⟨g,o⟩:=hargs.spec
 exact Q5i hcall a (Q1l l) i hspec (by simpa using g) (V3 m) extra (fun j c=>o j c) (fun p b=>⟨_,Kc hsi p b,U2.refl _⟩) u q (by simpa using h)
theorem Z3P{k:Nat}{f:Nat}{args:List AVal}{Si:List (Nat×Obj)}{r:AVal}{So:List (Nat×Obj)}(hspec:K8 P f args Si r So)(hcall:∀ args w,(callFunc f args).run P w=.ok (.enter f args) w)(m:List (Nat×Nat))(hk:Qs ds k=cE m [] r Si So)(hb:callB ops nt (V7 L ops ops.toList ds e s k) (Y6 ops.toList k) f m r Si So=true)(hsi:Si.map (fun p=>QU L ops ops.toList ds e s k (V3 m p.1))=Si.map (fun p=>some (p.2.ren (V3 m))))(hrd:((callXs (Y6 ops.toList k)).toList.all (Qv (Qx (Y6 ops.toList k)++Qi ops (Y6 ops.toList k)))&&args.all AVal.noSem)=true)(hargs:(callXs (Y6 ops.toList k)).toList.map (Y2 (V7 L ops ops.toList ds e s k))=args.map (AVal.ren (V3 m))):U9 P C nt L ops ds e s k:=by
 rw [Bool.and_eq_true] at hrd;exact Q3I hspec hcall m [] hk hb hsi (xS hrd.1 hrd.2 hargs)
def jp(ops:Array Oper)(nt:Nat)(e:W4)(o:Oper)(args:List AVal)(r:AVal):Bool:=
 Pi o&&Qv (Qx o++Qi ops o) (UA o)&&(callXs o).toList.all (Qv (Qx o++Qi ops o))&&args.all AVal.closed&&r.closed&&QS nt o&&(Zg ops e o==some true)
theorem VK{k:Nat}{F:List AVal->AVal->Prop}{args:List AVal}{r:AVal}(hF:F args r)(hk:Qs ds k=sE r)(hb:jp ops nt (V7 L ops ops.toList ds e s k) (Y6 ops.toList k) args r=true)(hfx:Y2 (V7 L ops ops.toList ds e s k) (UA (Y6 ops.toList k))=YS P F)(hargs:(callXs (Y6 ops.toList k)).toList.map (Y2 (V7 L ops ops.toList ds e s k))=args):U9 P C nt L ops ds e s k:=by
 unfold U9;rw [hk]
 simp only [jp,Bool.and_eq_true] at hb;obtain ⟨⟨⟨⟨⟨⟨h,p⟩,l⟩,u⟩,q⟩,i⟩,t⟩:=hb
 obtain ⟨g,a⟩:=CE h;have c:(callXs (Y6 ops.toList k)).size=args.length:=by rw [<-hargs];simp
 refine Q5f a hfx hF c ⟨p,fun x m=>List.all_eq_true.1 l x m⟩ (fun j b=>?_) q i (by simpa using t);have o : j<(callXs (Y6 ops.toList k)).toList.length:=by simpa [c] using b
 have d:Y2 (V7 L ops ops.toList ds e s k) ((callXs (Y6 ops.toList k)).toList.getD j (.const undef))=args.getD j .any:=by
  grind
 exact ⟨Z8.of_eq d,List.all_eq_true.1 u _ (YA b)⟩
end
end
instance (n:Int):Decidable (Q9 n):=inferInstanceAs (Decidable (_/\_))
def gl{α:Type}[Emb α](l:List α)(i:Nat):α:=l.getD i Emb.d
def Zi(es:Nat)(ds:List DVal)(i:Nat):List DVal:=(ds.drop (i*es)).take es
theorem V2{i:Int}{n:Nat}(h:0<=i/\i<(n:Int)):i.toNat<n:=by omega
theorem FE.refl:∀ E:List (Nat×AVal),FE E E
 | []=>trivial
 | (_,_)::E=>⟨rfl,Z8.refl _,FE.refl E⟩
instance:Emb Int:=⟨fun x=>[.int .i64 x],1,0,fun _=>rfl⟩
instance:Emb Bool:=⟨fun x=>[.bool x],1,false,fun _=>rfl⟩
instance:Emb ByteArray:=⟨fun x=>[.str x],1,ByteArray.empty,fun _=>rfl⟩
instance {α:Type} [Emb α]:Emb (List α):=⟨fun x=>[DL x],1,[],fun _=>rfl⟩
section
section
variable {P:Program} {C:Ctx} {nt:Nat} {L:V9} {ops:Array Oper} {ds:List Dir} {e:W4} {s:W5}
theorem KD{o:Oper}{r:AVal}(hr:r.refs=[])(hdo:QS nt o=true)(hg:Zg ops e o=some true)(hex:∀ (R:Nat->Prop) (η:Nat->Value) (e0:W4) (s0:W5) (a:Act) (w:World),(∀ t ∈ Qx o++Qi ops o,e0 t=e t)->Conc C nt R η e0 s0 a w->∃ v,(execOp a.eval o).run P w=.ok (.value v) w/\ARep w (XS C s0 η) η C v r):
  WG P C nt ops o (JA ops o e r) e s:=by
 intro R η e0 s0 a w b h x d K Q A;have z:=UG (e:=e) d (fun t y=>b t (List.mem_append.2 (.inr y))) hg
 rw [if_pos z];obtain ⟨v,p,c⟩:=hex R η e0 s0 a w b d
 unfold Oper.wp;rw [p]
 show K (a.put o.dst v) w;refine A η _ w ?_
 have:=d.val o.dst (YY hdo) r v fun _=>⟨c,fun j g=>by rw [hr] at g;cases g⟩
 have u:ZC (JA ops o e r).l s0=s0:=by funext i;rfl
 rw [u];have m:Zw o.dst (JA ops o e r).v e0=SR.env { v:=r } o.dst e0:=rfl
 rw [m];exact this.wider fun i q=>.inl q
def vK(d:TypeDesc)(x y:CV):Option Bool:=
 match d,x,y with
 | .int _,.d (.int k a),.d (.int k' b)=>if k=k' then some (a==b) else none
 | .bool,.d (.bool a),.d (.bool b)=>some (a==b)
 | _,_,_=>none
def Fl(P:Program)(xs ys:List CV):List Field->Option Bool
 | []=>some true
 | f::fs=>if f.name= "_" then none else match P.underlying f.type,xs[f.offset]?,ys[f.offset]?,Fl P xs ys fs with
  | some d,some x,some y,some c=>match vK d x y with
   | some b=>some (b&&c)
   | none=>none
  | _,_,_,_=>none
theorem Z1B{w w1:World}{X:Nat->Prop}{η:Nat->Value}{d:TypeDesc}{x y:CV}{b:Bool}(h:vK d x y=some b){u v:Value}(hu:CRep w X η C u x)(hv:CRep w X η C v y){t:TypeId}(ht:P.underlying t=some d)(n:Nat):
  (isAgg t).run P w1=.ok false w1/\(Op.equalIn (n+1) t u v).run P w1=.ok b w1:=by
 unfold vK at h;split at h
 .split at h
  .cases h
   rename_i a
   subst a
   cases hu with|d _ _ hu=>cases hu with|int=>
   cases hv with|d _ _ hv=>cases hv with|int=>
   exact ⟨by simp [isAgg,run_underlying ht],run_equalIn_int _ _ _ _ _ _ _ ht⟩
  .cases h
 .cases h
  cases hu with|d _ _ hu=>cases hu with|bool=>
  cases hv with|d _ _ hv=>cases hv with|bool=>
  exact ⟨by simp [isAgg,run_underlying ht],run_equalIn_bool' _ _ _ _ _ ht⟩
 .cases h
theorem Q2D{w:World}{X:Nat->Prop}{η:Nat->Value}{vs:Array Value}{xs:List CV}(h:G8 w X η C vs xs){j:Nat}{x:CV}(hx:xs[j]?=some x):∃ v,vs[j]?=some v/\CRep w X η C v x:=by
 have b:j<xs.length:=(List.getElem?_eq_some_iff.1 hx).1;have a : j<vs.size:=by rw [h.1];exact b
 refine ⟨vs[j],Array.getElem?_eq_getElem a,?_⟩;have:=h.2 j b
 rw [List.getD_eq_getElem?_getD,hx] at this;simpa [Array.getD_eq_getD_getElem?,Array.getElem?_eq_getElem a] using this
theorem Q2i{w:World}{X:Nat->Prop}{η:Nat->Value}{xs ys:List CV}{us vs:Array Value}(hu:G8 w X η C us xs)(hv:G8 w X η C vs ys)(n:Nat)(w1:World):∀ (fs:List Field) (b:Bool),Fl P xs ys fs=some b->(Op.eqFields (n+1) us vs fs).run P w1=.ok b w1
 | [],b,h=>by cases h;simp [Op.eqFields]
 | f::fs,b,h=>by
  simp only [Fl] at h;split at h
  .cases h
  .rename_i g
   split at h
   .rename_i d x y c F D B q
    split at h
    .rename_i A m
     cases h
     obtain ⟨u,j,l⟩:=Q2D hu D;obtain ⟨v,i,o⟩:=Q2D hv B
     obtain ⟨p,t⟩:=Z1B (P:=P) (w1:=w1) m l o F n;have G:=Q2i hu hv n w1 fs c q
     have r:(part f.type us f.offset).run P w1=.ok u w1:=by simp [part,p,j]
     have z:(part f.type vs f.offset).run P w1=.ok v w1:=by simp [part,p,i]
     have a : f.name ≠ "_":=g;simp only [Op.eqFields,a,ne_eq,not_false_eq_true,if_true,Sem.run_bind,r,z,t,Result.andThen_ok]
     cases A with
     | true=>simpa using G
     | false=>simp
    .cases h
   .cases h
def Uu(o:Oper):Operand:=match o.op with | .binOp _ _ x _ _=>x|_=>.const undef
def Ut(o:Oper):Operand:=match o.op with | .binOp _ _ _ y _=>y|_=>.const undef
def Fk(o:Oper)(t:TypeId):Option Bool:=match o.op with
 | .binOp op t' _ _ _=>if t=t' then match op with
  | .eql=>some true
  | .neq=>some false
  | _=>none else none
 | _=>none
theorem Q2h{o:Oper}{t:TypeId}{q:Bool}(h:Fk o t=some q):∃ t',o.op=.binOp (if q then .eql else .neq) t (Uu o) (Ut o) t':=by
 unfold Fk at h;split at h
 .rename_i op d x y b a
  split at h
  .rename_i c
   subst c;split at h
   .cases h;exact ⟨b,by simp only [Uu,Ut,a];rfl⟩
   .cases h;exact ⟨b,by simp only [Uu,Ut,a];rfl⟩
   .cases h
  .cases h
 .cases h
structure EqT (P:Program) (t:TypeId):Prop where
 und:P.underlying t=some (.struct (P.fieldsOf t))
 held:P.stoodInHeld t=false
 guard:P.eqGuardType P.depth t=false
def Fn(ops:Array Oper)(nt:Nat)(e:W4)(o:Oper):Bool:=Qv (Qx o++Qi ops o) (Uu o)&&Qv (Qx o++Qi ops o) (Ut o)&&QS nt o&&(Zg ops e o==some true)
theorem xG{k:Nat}{t:TypeId}(ht:EqT P t)(q:Bool){xs ys:List CV}{b:Bool}(hk:Qs ds k=sE (vb (if q then b else !b)))(hop:Fk (Y6 ops.toList k) t=some q)(hb:Fn ops nt (V7 L ops ops.toList ds e s k) (Y6 ops.toList k)=true)(hx:Y2 (V7 L ops ops.toList ds e s k) (Uu (Y6 ops.toList k))=.v (.g xs))(hy:Y2 (V7 L ops ops.toList ds e s k) (Ut (Y6 ops.toList k))=.v (.g ys))(hfl:Fl P xs ys (P.fieldsOf t).toList=some b):U9 P C nt L ops ds e s k:=by
 unfold U9;rw [hk]
 simp only [Fn,Bool.and_eq_true] at hb;obtain ⟨⟨⟨r,y⟩,x⟩,z⟩:=hb
 obtain ⟨B,h⟩:=Q2h hop;refine KD rfl x (by simpa using z) fun R η A D a w l m=>⟨.bool (if q then b else !b),?_,.v _ _ (.c _ _ (.d _ _ (.bool _)))⟩
 have j:=(U5 m (Uu (Y6 ops.toList k))).1;rw [ZR l r,hx] at j
 have i:=(U5 m (Ut (Y6 ops.toList k))).1;rw [ZR l y,hy] at i
 generalize hu:a.eval (Uu (Y6 ops.toList k))=u at j;generalize hv:a.eval (Ut (Y6 ops.toList k))=v at i
 cases j with|v _ _ j=>cases j with|g us _ j=>
 cases i with|v _ _ i=>cases i with|g vs _ i=>
 have p:=Q2i (P:=P) j i 9998 w _ b hfl;have o:(Op.equalIn 10000 t (.agg us) (.agg vs)).run P w=.ok b w:=by
  rw [run_equalIn_agg w 9999 t us vs ht.und ht.held];exact p
 cases q with
 | true=>simp only [execOp,h,if_true,Sem.run_bind,hu,hv,run_eqGuard_agg w _ _ _ _ _ _ ht.guard,Result.andThen_ok,run_eql_struct,o,Sem.run_pure]
 | false=>simp only [execOp,h,Bool.false_eq_true,if_false,Sem.run_bind,hu,hv,run_eqGuard_agg w _ _ _ _ _ _ ht.guard,Result.andThen_ok,run_neq_struct,o,Sem.run_pure]
end
end
section
def nbP(n:Nat):World->(Nat->Prop)->(Nat->Prop)->Value->Prop:=fun _ _ _ v=>∃ b,v=.bool b/\(b=true->n=0)
def nb(n:Nat):AVal:=.v (.c (.sem (nbP n)))
def DVal.flat:DVal->Bool
 | .int _ _=>true
 | .bool _=>true
 | .str _=>true
 | _=>false
def CV.flat:CV->Bool
 | .d x=>x.flat
 | _=>false
def TV.flat:TV->Bool
 | .c x=>x.flat
 | .g xs=>xs.all CV.flat
def AVal.flat:AVal->Bool
 | .any=>true
 | .v x=>x.flat
 | .t xs=>xs.all TV.flat
section
variable {w w' : World} {X X' : Nat->Prop} {η η' : Nat->Value} {C C' : Ctx}
theorem CRep.flat{v:Value}{x:CV}(h:CRep w X η C v x)(hx:x.flat=true):CRep w' X' η' C' v x:=by
 cases h with
 | d _ _ h=>cases h with
  | int=>exact .d _ _ (.int _ _)
  | bool=>exact .d _ _ (.bool _)
  | str=>exact .d _ _ (.str _)
  | any=>cases hx
  | nil=>cases hx
  | lst=>cases hx
  | mp=>cases hx
 | _=>cases hx
theorem TRep.flat{v:Value}{x:TV}(h:TRep w X η C v x)(hx:x.flat=true):TRep w' X' η' C' v x:=by
 cases h with
 | c _ _ h=>exact .c _ _ (h.flat hx)
 | g _ _ h=>exact .g _ _ ⟨h.1,fun j a=>(h.2 j a).flat (List.all_eq_true.1 hx _ (YA a))⟩
theorem ARep.flat{v:Value}{x:AVal}(h:ARep w X η C v x)(hx:x.flat=true):ARep w' X' η' C' v x:=by
 cases h with
 | any=>exact .any v
 | v _ _ h=>exact .v _ _ (h.flat hx)
 | t us xs h1 h2=>exact .t us xs h1 fun j a=>(h2 j a).flat (List.all_eq_true.1 hx _ (YA a))
theorem Q3P{x:CV}(hx:x.flat=true):x.refs=[]:=by cases x <;> first|rfl|cases hx
theorem Q3w{x:TV}(hx:x.flat=true):x.refs=[]:=by
 cases x with
 | c x=>exact Q3P hx
 | g xs=>exact List.flatMap_eq_nil_iff.2 fun y a=>Q3P (List.all_eq_true.1 hx y a)
theorem Z4m{x:AVal}(hx:x.flat=true):x.refs=[]:=by
 cases x with
 | any=>rfl
 | v x=>exact Q3w hx
 | t xs=>exact List.flatMap_eq_nil_iff.2 fun y a=>Q3w (List.all_eq_true.1 hx y a)
end
section
variable {P:Program} {C:Ctx} {nt:Nat} {L:V9} {ops:Array Oper} {ds:List Dir} {e:W4} {s:W5} {E:List (Nat×AVal)} {S:List (Nat×Obj)} {Q:Exit->Act->World->Prop}
theorem Q3V{t n:Nat}{x y:Code}(hb:lk E t=nb n)(ht:n=0->AW P C nt x E S Q)(hf:AW P C nt y E S Q):AW P C nt (.cond (.tmp t) x y) E S Q:=by
 intro R η a w d;have g:=d.ev t
 rw [hb] at g;have:∃ b,a.eval (.tmp t)=.bool b/\(b=true->n=0):=by
  change ∃ b,a.tmps.getD t undef=.bool b/\(b=true->n=0);generalize a.tmps.getD t undef=u at g
  cases g with|v _ _ h=>cases h with|c _ _ h=>cases h with|sem _ _ h _=>exact h
 obtain ⟨b,i,j⟩:=this
 cases b with
 | true=>exact wp_cond_true i (ht (j rfl) R η a w d)
 | false=>exact wp_cond_false i (hf R η a w d)
def yx:AVal->Option Nat
 | .v (.c (.d (.lst n _)))=>some n
 | .v (.c (.fl n _))=>some n
 | _=>none
theorem Q9i{w:World}{X:Nat->Prop}{η:Nat->Value}{v:Value}{x:AVal}{n:Nat}(h:yx x=some n)(hv:ARep w X η C v x):∃ ad cap,v=.slice ad n cap/\(ad=none->n=0):=by
 unfold yx at h;split at h
 .cases h
  cases hv with|v _ _ hv=>cases hv with|c _ _ hv=>cases hv with|d _ _ hv=>cases hv with
   | nil a cap f=>exact ⟨a,cap,rfl,fun _=>rfl⟩
   | lst b off n cap c e fz f es=>exact ⟨_,_,rfl,fun h=>by cases h⟩
 .cases h
  cases hv with|v _ _ hv=>cases hv with|c _ _ hv=>cases hv with|fl a n f hv=>cases hv with
   | nil a cap f=>exact ⟨_,_,rfl,fun _=>rfl⟩
   | lst b off n cap c e fz f es=>exact ⟨_,_,rfl,fun h=>by cases h⟩
 .cases h
def yZ(x:Operand):Bool:=match x with | .const (.slice none 0 0)=>true|_=>false
theorem Z0c{x:Operand}(h:yZ x=true):x=.const (.slice none 0 0):=by
 unfold yZ at h;split at h
 .rfl
 .cases h
theorem Q6J{t el:TypeId}(ht:P.underlying t=some (.slice el))(d:Nat)(ad:Option Addr)(n cap:Nat)(w:World):(Op.equalIn (d+1) t (.slice ad n cap) (.slice none 0 0)).run P w=.ok ad.isNone w:=by
 cases ad <;> simp only [Op.equalIn,Sem.run_bind,run_underlying ht,Result.andThen_ok,Sem.run_pure] <;> rfl
theorem Q6K{t el:TypeId}(ht:P.underlying t=some (.slice el))(ad:Option Addr)(n cap:Nat)(w:World):(binOp .eql t (.slice ad n cap) (.slice none 0 0)).run P w=.ok (.bool ad.isNone) w:=by
 have h:binOp .eql t (.slice ad n cap) (.slice none 0 0)=(do pure (.bool (<-Op.equalIn Op.maxDepth t (.slice ad n cap) (.slice none 0 0)))):=rfl;have b:=Q6J ht 9999 ad n cap w
 rw [h,Sem.run_bind];have a:(Op.equalIn Op.maxDepth t (.slice ad n cap) (.slice none 0 0)).run P w=.ok ad.isNone w:=b
 rw [a];rfl
theorem Q3H{k:Nat}{t el:TypeId}(ht:P.underlying t=some (.slice el)){n:Nat}(hk:Qs ds k=sE (nb n))(hop:Fk (Y6 ops.toList k) t=some true)(hb:Fn ops nt (V7 L ops ops.toList ds e s k) (Y6 ops.toList k)=true)(hx:yx (Y2 (V7 L ops ops.toList ds e s k) (Uu (Y6 ops.toList k)))=some n)(hy:yZ (Ut (Y6 ops.toList k))=true):U9 P C nt L ops ds e s k:=by
 unfold U9;rw [hk]
 simp only [Fn,Bool.and_eq_true] at hb;obtain ⟨⟨⟨q,A⟩,r⟩,x⟩:=hb
 obtain ⟨z,b⟩:=Q2h hop;simp only [if_true] at b
 refine KD rfl r (by simpa using x) fun R η y B a w d l=>?_
 have j:=(U5 l (Uu (Y6 ops.toList k))).1;rw [ZR d q] at j
 obtain ⟨i,h,m,g⟩:=Q9i hx j;refine ⟨.bool i.isNone,?_,.v _ _ (.c _ _ (.sem _ _ ⟨_,rfl,fun u=>g (by simpa using u)⟩ rfl))⟩
 have o:a.eval (Ut (Y6 ops.toList k))=.slice none 0 0:=by rw [Z0c hy];rfl
 have p:(eqGuard .eql t (Uu (Y6 ops.toList k)) (Ut (Y6 ops.toList k)) (.slice i n h) (.slice none 0 0)).run P w=.ok () w:=rfl;simp only [execOp,b,Sem.run_bind,o,m,p,Result.andThen_ok,Q6K ht,Sem.run_pure]
def WS(P:Program)(e:W4)(s:W5)(J8:List Nat)(rd:List Nat)(x:Operand)(y:AVal):Prop:=
 Qv rd x=true/\((Z8 (Y2 e x) y/\y.closed=true)\/(∃ k es n f,k ∈ J8/\Y2 e x=.v (.c (.own k))/\s k=some (.arr es n f)/\y=.v (.c (.d (.lst n f))))\/∃ F,Y2 e x=YS P F/\y=YS P F)
theorem Q5h{f:Nat}(hcall:∀ args w,(callFunc f args).run P w=.ok (.enter f args) w){o:Oper}{fx:Operand}{xs:Array Operand}{tys:Array TypeId}(hop:o.op=.call { callee:=.value fx,args:=xs,argTypes:=tys })(hfx:Y2 e fx=.v (.c (.clo f [])))(hrf:Qv (Qx o++Qi ops o) fx=true){args:List AVal}{r:AVal}(hspec:K8 P f args [] r [])(hlen:xs.size=args.length)(J8:List Nat)(hargs:∀ j,j<args.length->WS P e s J8 (Qx o++Qi ops o) (xs.toList.getD j (.const undef)) (args.getD j .any))(hids:∀ k ∈ J8,k ∈ WN e o)(hr:r.flat=true)(hdo:QS nt o=true)(hg:Zg ops e o=some true):WG P C nt ops o (JA ops o e r) e s:=by
 intro R η e0 z a w J a8 d2 x K Q hK;have hw:=UG (e:=e) x (fun t ht=>J t (List.mem_append.2 (.inr ht))) hg
 rw [if_pos hw];have a4:=(U5 x fx).1
 rw [ZR J hrf,hfx] at a4;have c0:=Fg (w:=w) hop (Me a4) hcall
 have Y:∀ b,XS C z η b->b<w.heap.size:=by
  rintro b (⟨m,_⟩|m)
  .exact Nat.lt_of_lt_of_le (x.ok.lt b m) x.fr.size
  .exact x.lt m
 let X1:Nat->Prop:=fun b=>XS C z η b/\∀ k ∈ J8,s k≠none->b ∉ Y7 (η k)
 have c1:QZ w w (XS C z η) X1:=fun b _ p=>⟨rfl,fun m=>p m.1⟩
 have b8:=hspec w X1 η (xs.map a.eval++(([]:List Nat).map η).toArray) (fun b p=>Y b p.1) (fun b ⟨i,y,q,_⟩=>by cases q) (fun i y q=>by cases q) (fun i j b q=>absurd rfl q) (by simp [hlen]) (fun j N=>by
  have b2 : j<xs.size:=by omega
  have e1:(xs.map a.eval++(([]:List Nat).map η).toArray).getD j undef=a.eval (xs.toList.getD j (.const undef)):=by simp [List.getD_eq_getElem?_getD,b2]
  rw [e1];obtain ⟨g0,g⟩:=hargs j N
  have m:=(U5 x (xs.toList.getD j (.const undef))).1;rw [ZR J g0] at m
  rcases g with ⟨T,g2⟩|⟨k,es,n,fl,T,g2,g3,g4⟩|⟨F,T,g2⟩
  .exact ((T.1 _ _ _ _ _ m).mono (η':=η) c1 (fun _ _=>rfl)).free g2
  .rw [g2] at m
   rw [g4];have hv:a.eval (xs.toList.getD j (.const undef))=η k:=by
    generalize a.eval (xs.toList.getD j (.const undef))=u at m
    cases m with|v _ _ m=>cases m with|c _ _ m=>cases m with|own _ _ h _=>exact h
   rw [hv];have H:z k=some (.arr es n fl):=by rw [a8 k (hids k T)];exact g3
   have O:=x.st k _ H;have a1:∀ b,b ∈ Y7 (η k)->¬ X1 b:=fun b p m=>m.2 k T (by rw [g3];simp) p
   refine .v _ _ (.c _ _ (.d _ _ ?_));generalize η k=u at O a1
   cases O with
   | nil ad es _=>exact .nil ad 0 fl
   | arr b n cap es c e _ G h2 h3 h4 h5 h6 h7=>
    refine .lst b 0 n cap c e _ fl es (a1 b (by simp [Y7];omega)) G h3 (by rw [h2,Nat.zero_add];exact Nat.mul_le_mul_right _ h3) h6 fun i j q N=>?_
    rw [Nat.zero_add];exact (h7 i j q N).mono fun b p hX=>⟨rfl,fun m=>hX m.1⟩
  .rw [T] at m
   rw [g2];have a2:QP P F C.w0 C.D C.X (a.eval (xs.toList.getD j (.const undef)))/\(a.eval (xs.toList.getD j (.const undef))).oneCell'=true:=by
    generalize a.eval (xs.toList.getD j (.const undef))=u at m
    cases m with|v _ _ h=>cases h with|c _ _ h=>cases h with|sem _ _ h G=>exact ⟨h,G⟩
   obtain ⟨⟨ff,a9,b3,A,b6⟩,a7⟩:=a2;refine .v _ _ (.c _ _ (.sem _ _ ⟨ff,a9,b3,A,?_⟩ a7))
   intro w1 X2 vs I r2 hF b4 a0 b7 c3 b9 B;have a3 : w.heap.size<=w1.heap.size:=b4
   have W:∀ b,¬ (QW ([]:List (Nat×Obj)) w X1 η).D b:=by rintro b ⟨i,y,q,_⟩;cases q
   refine b6 w1 X2 vs I r2 hF (Nat.le_trans x.fr.size a3) (fun b p Z=>?_) b7 (fun b p Z=>?_) b9 B
   .have M:b<w.heap.size:=Nat.lt_of_lt_of_le p x.fr.size
    exact (a0 b M (W b)).trans (x.fr.block b p fun hM=>Z (x.ok.md b hM))
   .have M:b<w.heap.size:=Nat.lt_of_lt_of_le p x.fr.size
    rw [c3 b M (W b)];have V:∀ i y,z i=some y -> b ∉ Y7 (η i):=by
     intro i y q a5;rcases x.ow i y b q a5 with ⟨_,G⟩|G|G
     .exact Z G
     .exact Z (x.ok.md b G)
     .omega
    constructor
    .rintro ⟨⟨m,_⟩|⟨i,y,q,a5⟩,_⟩
     all_goals grind
    .refine fun m=>⟨.inl ⟨m,Z⟩,fun k hk H=>?_⟩
     obtain ⟨y,b1⟩:=Option.ne_none_iff_exists'.1 H;exact V k y (by rw [a8 k (hids k hk)];exact b1))
 unfold Oper.wp;rw [c0]
 show Calls P f _ w _;refine b8.mono fun en w' hh=>?_
 obtain ⟨v,η',rfl,p⟩:=hh;have U:Stp (fun _=>False) w w':=p.stp.mono fun b _ hM=>by obtain ⟨i,y,q,_⟩:=hM;cases q
 have hs:SR.sto { v:=r } o.dst z=z:=by funext i;simp [SR.sto]
 have he:SR.eta { v:=r } o.dst v η=η:=by funext i;simp [SR.eta]
 have b5:SR.rng { v:=r } o.dst R=R:=by funext i;simp [SR.rng]
 have:=x.step o.dst (YY hdo) { v:=r } v w' (fun _=>False) U (fun b p=>p.elim) (fun o dd O=>by cases O) (fun k o O=>by cases O)
  (fun _=>by rw [hs,he];refine ⟨p.res.flat hr,fun j N=>?_⟩;simp only at N;rw [Z4m hr] at N;cases N)
 rw [hs,he,b5] at this;refine hK η _ w' ?_
 have hu:ZC (JA ops o e r).l z=z:=by funext i;rfl
 rw [hu];exact this.wider fun i q=>.inl q
def Mu(P:Program)(e:W4)(s:W5)(J8:List Nat)(rd:List Nat):List Operand->List AVal->Prop
 | [],[]=>True
 | x::xs,y::ys=>WS P e s J8 rd x y/\Mu P e s J8 rd xs ys
 | _,_=>False
theorem Mu.spec{J8:List Nat}{rd:List Nat}{xs:List Operand}{ys:List AVal}(h:Mu P e s J8 rd xs ys):xs.length=ys.length/\∀ j,j<ys.length->WS P e s J8 rd (xs.getD j (.const undef)) (ys.getD j .any):=by
 induction xs generalizing ys with
 | nil=>cases ys with
  | nil=>exact ⟨rfl,fun j a=>by simp at a⟩
  | cons y ys=>exact h.elim
 | cons x xs ih=>cases ys with
  | nil=>exact h.elim
  | cons y ys=>
   obtain ⟨c,b⟩:=h
   grind
theorem WS.own{J8:List Nat}{rd:List Nat}{x:Operand}(k:Nat){es n:Nat}{f:Nat->List DVal}(h0:Qv rd x=true)(h1:J8.contains k=true)(h2:Y2 e x=.v (.c (.own k)))(h3:s k=some (.arr es n f)):WS P e s J8 rd x (.v (.c (.d (.lst n f)))):=
 ⟨h0,.inr (.inl ⟨k,es,n,f,by simpa using h1,h2,h3,rfl⟩)⟩
theorem WS.sem{J8:List Nat}{rd:List Nat}{x:Operand}{F:List AVal->AVal->Prop}(h0:Qv rd x=true)(h1:Y2 e x=YS P F):WS P e s J8 rd x (YS P F):=⟨h0,.inr (.inr ⟨F,h1,rfl⟩)⟩
def callBB(ops:Array Oper)(nt:Nat)(e:W4)(o:Oper)(f:Nat)(r:AVal)(J8:List Nat):Bool:=
 Pi o&&CD f (Y2 e (UA o))&&Qv (Qx o++Qi ops o) (UA o)&&r.flat&&J8.all (fun k=>(WN e o).contains k)&&QS nt o&&(Zg ops e o==some true)
theorem Z3O{k:Nat}{f:Nat}{args:List AVal}{r:AVal}(hspec:K8 P f args [] r [])(hcall:∀ args w,(callFunc f args).run P w=.ok (.enter f args) w)(J8:List Nat)(hk:Qs ds k=sE r)(hb:callBB ops nt (V7 L ops ops.toList ds e s k) (Y6 ops.toList k) f r J8=true)(hargs:Mu P (V7 L ops ops.toList ds e s k) (QU L ops ops.toList ds e s k) J8 (Qx (Y6 ops.toList k)++Qi ops (Y6 ops.toList k)) (callXs (Y6 ops.toList k)).toList args):U9 P C nt L ops ds e s k:=by
 unfold U9;rw [hk]
 simp only [callBB,Bool.and_eq_true] at hb;obtain ⟨⟨⟨⟨⟨⟨d,l⟩,i⟩,q⟩,o⟩,h⟩,p⟩:=hb
 obtain ⟨b,a⟩:=CE d;obtain ⟨g,m⟩:=hargs.spec
 exact Q5h hcall a (Q1l l) i hspec (by simpa using g) J8 (fun j c=>m j c) (fun k hk=>by simpa using List.all_eq_true.1 o k hk) q h (by simpa using p)
end
end
section
section
variable {P:Program} {C:Ctx} {nt:Nat} {L:V9} {ops:Array Oper} {ds:List Dir} {e:W4} {s:W5}
theorem Z3N{k:Nat}{f:Nat}{args:List AVal}{Si:List (Nat×Obj)}{r:AVal}{So:List (Nat×Obj)}(hspec:K8 P f args Si r So)(hcall:∀ args w,(callFunc f args).run P w=.ok (.enter f args) w)(m:List (Nat×Nat))(extra:List Nat)(xs:List Operand)(hk:Qs ds k=cE m extra r Si So)(hb:Go.Ab.callB ops nt (V7 L ops ops.toList ds e s k) (Y6 ops.toList k) f m r Si So=true)(hsi:Si.map (fun p=>QU L ops ops.toList ds e s k (V3 m p.1))=Si.map (fun p=>some (p.2.ren (V3 m))))(hxs:(Go.Ab.callXs (Y6 ops.toList k)).toList=xs)(hargs:Xa C nt (V7 L ops ops.toList ds e s k) (QU L ops ops.toList ds e s k) Si (V3 m) (Qx (Y6 ops.toList k)++Qi ops (Y6 ops.toList k)) (WN (V7 L ops ops.toList ds e s k) (Y6 ops.toList k)++(Si.map (fun p=>V3 m p.1)++extra)) xs args):U9 P C nt L ops ds e s k:=
 Q3I hspec hcall m extra hk hb hsi (hxs ▸ hargs)
theorem La{k:Nat}{f:Nat}{args:List AVal}{r:AVal}(hspec:K8 P f args [] r [])(hcall:∀ args w,(callFunc f args).run P w=.ok (.enter f args) w)(J8:List Nat)(xs:List Operand)(hk:Qs ds k=sE r)(hb:Go.Ab.callBB ops nt (V7 L ops ops.toList ds e s k) (Y6 ops.toList k) f r J8=true)(hxs:(Go.Ab.callXs (Y6 ops.toList k)).toList=xs)(hargs:Mu P (V7 L ops ops.toList ds e s k) (QU L ops ops.toList ds e s k) J8 (Qx (Y6 ops.toList k)++Qi ops (Y6 ops.toList k)) xs args):U9 P C nt L ops ds e s k:=
 Z3O hspec hcall J8 hk hb (hxs ▸ hargs)
def Bz(s:W5)(Si:List (Nat×Obj))(m:Nat->Nat)(ids cids:List Nat):Bool:=Si.all fun p=>(s (m p.1)).isSome&&ids.contains (m p.1) && !cids.contains (m p.1)
theorem Jz{Si:List (Nat×Obj)}{m:Nat->Nat}{ids cids:List Nat}(h:Bz s Si m ids cids=true):(∀ p ∈ Si,∃ o1,s (m p.1)=some o1)/\(∀ p ∈ Si,m p.1 ∈ ids)/\∀ p ∈ Si,m p.1 ∉ cids:=by
 refine ⟨fun p a=>?_,fun p a=>?_,fun p a=>?_⟩ <;> (have:=List.all_eq_true.1 h p a;simp only [Bool.and_eq_true,Bool.not_eq_true'] at this)
 .exact Option.isSome_iff_exists.1 this.1.1
 all_goals grind
theorem Kt{F:List AVal->AVal->Prop}{Si:List (Nat×Obj)}{m:Nat->Nat}{rd ids:List Nat}{x:Operand}(hx:Qv rd x=true)(hv:Y2 e x=YS P F)(hsi:Bz s Si m ids []=true):YQ C nt e s Si m rd ids x (YS P F):=
 YQ.sem hx hv (Jz hsi).1 (Jz hsi).2.1
def Mh(s:W5):List Nat->List (List CV)->Prop
 | [],[]=>True
 | i::is,c::cs=>(∃ ro,s i=some (.box ro c))/\Mh s is cs
 | _,_=>False
theorem Q3d{is:List Nat}{cs:List (List CV)}(h:Mh s is cs):is.length=cs.length/\∀ k,k<cs.length->∃ ro,s (is.getD k 0)=some (.box ro (cs.getD k [])):=by
 induction is generalizing cs with
 | nil=>cases cs with
  | nil=>exact ⟨rfl,fun k a=>by simp at a⟩
  | cons c cs=>exact h.elim
 | cons i is ih=>cases cs with
  | nil=>exact h.elim
  | cons c cs=>
   obtain ⟨d,b⟩:=h
   grind
theorem Z3V{f:Nat}(hcall:∀ args w,(callFunc f args).run P w=.ok (.enter f args) w){F:List AVal->AVal->Prop}(cs:List (List CV))(hspec:∀ args r,F args r->K8 P f (args++WD cs) (Zv cs) r (Zv cs))(hres:∀ args r,F args r->r.closed=true){Si:List (Nat×Obj)}{m:Nat->Nat}{rd ids:List Nat}{x:Operand}(hx:Qv rd x=true)(cids:List Nat)(hv:Y2 e x=.v (.c (.clo f cids)))(hnd:(Yf cids&&cs.all (fun c=>c.all CV.closed)&&cids.all (fun i=>ids.contains i))=true)(hbox:Mh s cids cs)(hsi:Bz s Si m ids cids=true):YQ C nt e s Si m rd ids x (YS P F):=by
 simp only [Bool.and_eq_true] at hnd;obtain ⟨a,b⟩:=Q3d hbox
 exact YQ.clo hcall hspec hres hx hv a hnd.1.1 b hnd.1.2 (Jz hsi).1 (Jz hsi).2.1 (fun i d=>by simpa using List.all_eq_true.1 hnd.2 i d) (Jz hsi).2.2
end
noncomputable def Pq{R:Type}(p:Prop)(x:Option R):Option R:= @gd R p (Classical.propDecidable p) x
theorem Q1D{R:Type}{p:Prop}{x:Option R}{r:R}(h:Pq p x=some r):p/\x=some r:= @Q1E R p (Classical.propDecidable p) x r h
noncomputable def FN{R:Type}(n:Nat)(x y:Option R):Option R:=match n with
 | 0=>Pq (x=y) x
 | _+1=>y
theorem Q2Z{R:Type}{n:Nat}{x y:Option R}{r:R}(h:FN n x y=some r)(hn:n=0):x=some r:=by subst hn;exact (Q1D h).2
theorem Q3a{R:Type}{n:Nat}{x y:Option R}{r:R}(h:FN n x y=some r):y=some r:=by
 cases n with
 | zero=>obtain ⟨b,a⟩:=Q1D h;exact b ▸ a
 | succ n=>exact h
end
section
def YD(s:W5)(es:Nat):AVal->Option (Nat×Nat×Nat)
 | .v (.c (.own id))=>match s id with
  | some (.arr es' N _)=>if es=es' then some (id,0,N) else none
  | _=>none
 | .v (.c (.sub id es' lo n))=>if es=es' then some (id,lo,n) else none
 | _=>none
section
variable {P:Program} {L:V9} {C:Ctx} {nt:Nat} {R:Nat->Prop} {η:Nat->Value} {e:W4} {s:W5} {a:Act} {w:World}
inductive VOk (w:World) (X:Nat->Prop) (η:Nat->Value) (id es N:Nat) (f:Nat->List DVal) (lo n:Nat):Value->Prop
 | some (b cap:Nat) (c:Array Value) (e' : TypeId):η id=.slice (some ⟨b,0,none⟩) N cap->w.heap[b]?=some (.cells c e' (0,0))->c.size=cap*es->N<=cap->cap<=maxLen ->
   (∀ i,i<N->(f i).length=es)->(∀ i j,i<N->j<es->DRep w X (c.getD (i*es+j) undef) ((f i).getD j .any))->lo+n<=N->lo<cap ->
   VOk w X η id es N f lo n (.slice (some ⟨b,lo*es,none⟩) n (cap-lo))
 | nil (ad ad' : Option Addr):η id=.slice ad N N->lo=N->n=0->VOk w X η id es N f lo n (.slice ad' 0 0)
theorem ME(h:Conc C nt R η e s a w){x:Operand}{es id lo n N:Nat}{f:Nat->List DVal}(hx:YD s es (Y2 e x)=some (id,lo,n))(hs:s id=some (.arr es N f)):
  VOk w (XS C s η) η id es N f lo n (a.eval x):=by
 have g:=(U5 h x).1;have d:=h.st id _ hs
 unfold YD at hx;split at hx
 .rename_i m j
  split at hx
  .rename_i o p t i
   split at hx
   .cases hx
    rw [hs] at i;cases i
    rw [j] at g;rw [Vv g]
    generalize hu:η id=u at d
    cases d with
    | nil ad=>exact .nil ad ad hu rfl rfl
    | arr b _ cap _ c e' _ h1 h2 h3 h4 h5 h6 h7=>
     have:=VOk.some (w:=w) (X:=XS C s η) (η:=η) (id:=id) (f:=f) (lo:=0) b cap c e' hu h1 h2 h3 h4 h6 h7 (Nat.le_of_eq (Nat.zero_add _)) h5
     grind
   .cases hx
  .cases hx
 .rename_i m o q r j
  split at hx
  .rename_i l
   cases hx
   subst l;rw [j] at g
   generalize a.eval x=v at g
   cases g with|v _ _ g=>cases g with|c _ _ g=>cases g with
    | sub b p cap _ _ _ _ hη h1 h2=>
     rw [hη] at d
     cases d with
     | nil=>omega
     | arr _ _ _ _ c e' _ g1 g2 g3 g4 g5 g6 g7=>exact .some b cap c e' hη g1 g2 g3 g4 g6 g7 h1 h2
    | subN ad ad' p _ _ hη=>
     rw [hη] at d
     cases d with
     | nil=>exact .nil _ _ hη rfl rfl
     | arr _ _ _ _ c e' _ g1 g2 g3 g4 g5 g6 g7=>exact .nil _ _ hη rfl rfl
  .cases hx
 .cases hx
theorem VOk.slice{X:Nat->Prop}{v:Value}{id es N lo n:Nat}{f:Nat->List DVal}(h:VOk w X η id es N f lo n v):∃ ad cap,v=.slice ad n cap/\(n<=cap)/\lo+n<=N:=by
 cases h with
 | some b cap c e' h1 h2 h3 h4 h5 h6 h7 h8 h9=>exact ⟨_,_,rfl,by omega,h8⟩
 | nil ad ad' h1 h2 h3=>exact ⟨_,_,by rw [h3],by omega,by omega⟩
theorem VOk.part{X X' : Nat->Prop}{ad:Option Addr}{id es N lo n cap:Nat}{f:Nat->List DVal}(h:VOk w X η id es N f lo n (.slice ad n cap)){l u:Nat}(hlu:l<=u)(hu:lo+u<=N):
  ARep w X' η C (.slice (if cap=l then ad else ad.map (·.add (l*es))) (u-l) (cap-l)) (.v (.c (.sub id es (lo+l) (u-l)))):=by
 generalize hv:Value.slice ad n cap=v at h
 cases h with
 | some b cap' c e' h1 h2 h3 h4 h5 h6 h7 h8 h9=>
  cases hv
  by_cases hc:cap' - lo=l
  .have d:u-l=0:=by omega
   have g:cap' - lo-l=0:=by omega
   have i:lo+l=N:=by omega
   have j:cap'=N:=by omega
   rw [d,g,i];subst j
   exact .v _ _ (.c _ _ (.subN _ _ _ _ _ h1))
  .rw [if_neg hc]
   simp only [Option.map_some,add_lit];have d:lo*es+l*es=(lo+l)*es:=by rw [Nat.add_mul]
   have g:cap' - lo-l=cap' - (lo+l):=by omega
   rw [d,g];exact .v _ _ (.c _ _ (.sub b N cap' id es (lo+l) (u-l) h1 (by omega) (by omega)))
 | nil ad0 ad' h1 h2 h3=>
  cases hv
  have d:u-l=0:=by omega
  have g:lo+l=N:=by omega
  rw [d,g,Nat.zero_sub];exact .v _ _ (.c _ _ (.subN ad0 _ N id es h1))
theorem Q6u(h:Conc C nt R η e s a w){lo hi:Option Operand}{l u:Option Int}(hl:oI e lo=some l)(hu:oI e hi=some u)(n cap:Nat)(hc:0<=l.getD 0/\l.getD 0<=u.getD n/\u.getD n<=cap):
  (Instr.sliceBounds true n cap (lo.map a.eval) (hi.map a.eval) none).run P w=.ok ((l.getD 0).toNat,(u.getD n).toNat,cap) w:=by
 rcases TM h hl with ⟨h1,h2⟩|⟨k,m,h1,h2⟩ <;> rcases TM h hu with ⟨h3,h4⟩|⟨k',m',h3,h4⟩ <;> subst h2 <;> subst h4 <;> simp only [Option.getD_some,Option.getD_none] at hc
 .subst h1;subst h3
  simp [Instr.sliceBounds]
 .subst h1
  simp [Instr.sliceBounds,h3,Uj m' cap _ ⟨hc.2.1,by omega⟩]
 .subst h3
  have b:=Uj (P:=P) (w:=w) m n .sliceB ⟨hc.1,by omega⟩ k;simp [Instr.sliceBounds,h1,b]
 .have b:=Uj (P:=P) (w:=w) m m'.toNat .sliceB ⟨hc.1,by omega⟩ k
  simp [Instr.sliceBounds,h1,h3,Uj m' cap _ ⟨by omega,by omega⟩,b]
theorem Q5t(hL:z7 P L)(h:Conc C nt R η e s a w){o:Oper}(hd:∀ x,o.dst=some x->x<nt){t:TypeId}{x:Operand}{lo hi:Option Operand}(hop:o.op=.slice t x lo hi none){ti:TI}(ht:L t=some ti){el:Nat}(hk:ti.kind=.slice el){te:TI}(hte:L el=some te){l u:Option Int}(hl:oI e lo=some l)(hu:oI e hi=some u){id lo0 n N:Nat}{f:Nat->List DVal}(hx:YD s te.size (Y2 e x)=some (id,lo0,n))(hs:s id=some (.arr te.size N f))(hc:0<=l.getD 0/\l.getD 0<=u.getD n/\(lo0:Int)+u.getD n<=N):
  G4 P C nt R η e s a w o { v:=.v (.c (.sub id te.size (lo0+(l.getD 0).toNat) ((u.getD n).toNat-(l.getD 0).toNat))) }:=by
 obtain ⟨i,dd,z,q⟩:=hL t ti ht;obtain ⟨I,G,H,p⟩:=hL el te hte
 have g:=q.kind;rw [hk] at g
 simp only [ZK] at g;have d:=ME h hx hs
 obtain ⟨D,m,y,J,M⟩:=d.slice;have r:(u.getD n)<=m:=by
  rw [y] at d;generalize hv:Value.slice D n m=v at d
  cases d with
  | some b cap' c e' h1 h2 h3 h4 h5 h6 h7 h8 h9=>cases hv;omega
  | nil ad0 ad' h1 h2 h3=>cases hv;omega
 rw [y] at d;have F:=Q6u (P:=P) h hl hu n m ⟨hc.1,hc.2.1,r⟩
 have B:∀ j ∈ (AVal.v (.c (.sub id te.size (lo0+(l.getD 0).toNat) ((u.getD n).toNat-(l.getD 0).toNat)))).refs,R j:=by
  intro j A;simp [AVal.refs,TV.refs,CV.refs] at A
  rw [A];exact (h.sr id _ hs).1
 refine Ze h hd ?_ (d.part (l:=(l.getD 0).toNat) (u:=(u.getD n).toNat) (by omega) (by omega)) B;simp only [execOp,hop,Sem.run_bind,Instr.sliceAt,run_underlying q.und,Result.andThen_ok,g,Instr.slice,y,Option.map_none,F,YG p,Sem.run_pure]
theorem Q5u(hL:z7 P L)(h:Conc C nt R η e s a w){o:Oper}(hd:∀ x,o.dst=some x->x<nt){t:TypeId}{x:Operand}(hop:o.op=.call { callee:=.builtin .len,args:= #[x],argTypes:= #[t] }){ti:TI}(ht:L t=some ti){el:Nat}(hk:ti.kind=.slice el){es id lo n N:Nat}{f:Nat->List DVal}(hx:YD s es (Y2 e x)=some (id,lo,n))(hs:s id=some (.arr es N f)):G4 P C nt R η e s a w o { v:=vi n }:=by
 obtain ⟨i,dd,z,c⟩:=hL t ti ht;have b:=c.kind
 rw [hk] at b;simp only [ZK] at b
 obtain ⟨j,g,d,_⟩:=(ME h hx hs).slice;refine Ze h hd (v:=.int .i64 n) ?_ (WM _ _ _) (by simp [vi,AVal.refs,TV.refs,CV.refs])
 simp [execOp,hop,resolve,invoke,builtin,Builtin.len_,run_underlying c.und,b,d,goInt]
theorem Q5v(hL:z7 P L)(h:Conc C nt R η e s a w){o:Oper}(hd:∀ x,o.dst=some x->x<nt){t:TypeId}{x i:Operand}(hop:o.op=.indexAddr t x i){ti:TI}(ht:L t=some ti){el:Nat}(hk:ti.kind=.slice el){te:TI}(hte:L el=some te){m:Int}(hi:ZJ (Y2 e i)=some m){id lo n N:Nat}{f:Nat->List DVal}(hx:YD s te.size (Y2 e x)=some (id,lo,n))(hs:s id=some (.arr te.size N f))(hc:0<=m/\m<n):
  G4 P C nt R η e s a w o { v:=.v (.c (.pte id te.size (lo+m.toNat) 0)) }:=by
 obtain ⟨A,d1,D,p⟩:=hL t ti ht;obtain ⟨z,B,y,l⟩:=hL el te hte
 have d:=p.kind;rw [hk] at d
 simp only [ZK] at d;subst d
 obtain ⟨k,u⟩:=PI h hi;have g:=ME h hx hs
 generalize ev:a.eval x=v at g
 cases g with
 | some b cap c e' h1 h2 h3 h4 h5 h6 h7 h8 h9=>
  refine Ze h hd (v:=.pointer (some ⟨b,(lo+m.toNat)*te.size+0,none⟩)) ?_ (.v _ _ (.c _ _ (.pte b N cap _ _ _ _ h1))) (fun j q=>by simp [AVal.refs,TV.refs,CV.refs] at q;rw [q];exact (h.sr id _ hs).1);have r:lo*te.size+m.toNat*te.size=(lo+m.toNat)*te.size:=by rw [Nat.add_mul]
  simp [execOp,hop,Instr.indexAt,u,ev,asIntOf,run_underlying p.und,hc,YG l,add_lit,r]
 | nil ad0 ad' h1 h2 h3=>omega
theorem ge(h:Conc C nt R η e s a w){o:Oper}(hd:∀ x,o.dst=some x->x<nt){id:Nat}{ob ob' : Obj}(hs:s id=some ob)(hro:ob.ro=false)(hro' : ob'.ro=false)(hrf:∀ j ∈ ob'.refs,R j){w' : World}{v:Value}{x:AVal}(hstp:Stp (fun b=>b ∈ Y7 (η id)) w w')(hrun:(execOp a.eval o).run P w=.ok (.value v) w')(hob:∀ X',QZ w w' (XS C s η) X' -> ORep w' X' η C (η id) ob')(hv:∀ X',ARep w' X' η C v x)(hx:∀ j ∈ x.refs,R j):G4 P C nt R η e s a w o { v:=x,upd:=some (id,ob') }:=by
 have m:=UX (C:=C) (s:=s) (η:=η) { v:=x,upd:=some (id,ob') } o.dst v (fun b=>b ∈ Y7 (η id)) hstp (fun b g=>⟨id,ob,hs,g⟩) (fun _ _ d=>by cases d)
  (fun k o d=>by cases d;rw [hs];simp)
 have c:SR.eta { v:=x,upd:=some (id,ob') } o.dst v η=η:=by funext i;simp [SR.eta]
 refine ⟨v,w',.inl hrun,?_⟩;refine h.step o.dst hd _ _ _ (fun b=>b ∈ Y7 (η id)) hstp ?_ (fun _ _ d=>by cases d) ?_ (fun _=>⟨?_,fun j p=>.inl (hx j p)⟩)
 .intro b g
  refine ⟨⟨id,.inr ⟨ob',rfl⟩,by rw [hs];simp,g⟩,?_⟩;rcases h.ow id ob _ hs g with ⟨l,_⟩|l
  .rw [hro] at l;cases l
  .exact l
 .intro k q d
  cases d
  refine ⟨⟨ob,hs,hro⟩,hro',by simp,hrf,?_⟩;rw [c]
  rw [c] at m;exact hob _ m
 .rw [c];exact hv _
theorem Q8w{X' : Nat->Prop}{id es N cap b lo k:Nat}{f g:Nat->List DVal}{c:Array Value}{e' : TypeId}{news:List Value}(hX:QZ w (w.setRow b (c.toList.take (lo*es)++news++c.toList.drop (lo*es+news.length)).toArray) (XS C s η) X')(h1:η id=.slice (some ⟨b,0,none⟩) N cap)(h2:w.heap[b]?=some (.cells c e' (0,0)))(h3:c.size=cap*es)(h4:N<=cap)(h5:cap<=maxLen)(h50:0<cap)(h6:∀ i,i<N->(f i).length=es)(h7:∀ i j,i<N->j<es->DRep w (XS C s η) (c.getD (i*es+j) undef) ((f i).getD j .any))(hk:lo+k<=N)(hn:news.length=k*es)(g1:∀ i,i<k->(g i).length=es)(g2:∀ i j,i<k->j<es->DRep w (XS C s η) (news.getD (i*es+j) undef) ((g i).getD j .any)):
  ORep (w.setRow b (c.toList.take (lo*es)++news++c.toList.drop (lo*es+news.length)).toArray) X' η C (η id) (.arr es N fun i=>if lo<=i/\i<lo+k then g (i-lo) else f i):=by
 have h:lo*es+news.length<=c.size:=by rw [hn,h3, <-Nat.add_mul];exact Nat.mul_le_mul_right _ (by omega)
 obtain ⟨z,v⟩:=RJ c (lo*es) news h;rw [h1]
 refine .arr b N cap es _ e' _ (setRow_heap w b c _ e' _ h2) (by rw [z];exact h3) h4 h5 h50 (fun i l=>?_) (fun i j l r=>?_)
 .by_cases hc:lo<=i/\i<lo+k
  .simp only [hc,and_self,if_true];exact g1 _ (by omega)
  .simp only [hc,if_false];exact h6 i l
 .rw [v]
  have d:∀ {p q:Nat},p<q->p*es+es<=q*es:=fun {p q} hpq=>by
   have:(p+1)*es<=q*es:=Nat.mul_le_mul_right _ hpq
   grind
  by_cases hc:lo<=i/\i<lo+k
  .have A:lo*es<=i*es:=Nat.mul_le_mul_right _ hc.1
   have t:=d hc.2;rw [Nat.add_mul] at t
   rw [if_pos ⟨by omega,by omega⟩];simp only [hc,and_self,if_true]
   have u:i*es+j-lo*es=(i-lo)*es+j:=by rw [Nat.sub_mul];omega
   rw [u];exact (g2 (i-lo) j (by omega) r).mono fun x m hn=>hX x m hn
  .rw [if_neg]
   .simp only [hc,if_false];exact (h7 i j l r).mono fun x m hn=>hX x m hn
   .rintro ⟨B,D⟩
    rcases Nat.lt_or_ge i lo with o|y
    .have:=d o;omega
    .have:(lo+k)*es<=i*es:=Nat.mul_le_mul_right _ (by omega)
     rw [Nat.add_mul] at this;omega
theorem Q6y{id N cap b:Nat}(h1:η id=.slice (some ⟨b,0,none⟩) N cap)(h:0<cap)(cs:Array Value):Stp (fun x=>x ∈ Y7 (η id)) w (w.setRow b cs):=
 (RI w b cs).mono fun x _ c=>by have e:x=b:=c;rw [h1,e];simp [Y7];omega
theorem Z0V{k lo:Nat}{f g:Nat->List DVal}(h:k=0):(fun i=>if lo<=i/\i<lo+k then g (i-lo) else f i)=f:=by
 grind
def Wf(x y:DVal):Prop:=∀ w X v,DRep w X v x->DRep w X v y
theorem Wf.refl(x:DVal):Wf x x:=fun _ _ _ h=>h
theorem Wf.nil(f g:Nat->List DVal):Wf (.lst 0 f) (.lst 0 g):=fun w X v h=>by
 cases h with
 | nil a cap=>exact .nil a cap g
 | lst b off n cap c e fz f es=>exact .nil _ cap g
def Mt:List DVal->List DVal->Prop
 | [],[]=>True
 | x::xs,y::ys=>Wf x y/\Mt xs ys
 | _,_=>False
theorem Mt.spec{xs ys:List DVal}(h:Mt xs ys):xs.length=ys.length/\∀ j,Wf (xs.getD j .any) (ys.getD j .any):=by
 induction xs generalizing ys with
 | nil=>cases ys with
  | nil=>exact ⟨rfl,fun j=>Wf.refl _⟩
  | cons y ys=>exact h.elim
 | cons x xs ih=>cases ys with
  | nil=>exact h.elim
  | cons y ys=>
   obtain ⟨g,c⟩:=h;obtain ⟨d,b⟩:=ih c
   refine ⟨by simp [d],fun j=>?_⟩
   cases j with
   | zero=>exact g
   | succ j=>exact b j
theorem Q5w(hL:z7 P L)(h:Conc C nt R η e s a w){o:Oper}(hd:∀ x,o.dst=some x->x<nt){t:TypeId}{x:Operand}(hop:o.op=.call { callee:=.builtin .clear,args:= #[x],argTypes:= #[t] }){ti:TI}(ht:L t=some ti){el:Nat}(hk:ti.kind=.slice el){te:TI}(hte:L el=some te)(h0:0<te.size)(hzl:te.zero.length=te.size){zd0 zd:List DVal}(hz:VP te.zero=some zd0)(hle:Mt zd0 zd){id lo n N:Nat}{f:Nat->List DVal}(hx:YD s te.size (Y2 e x)=some (id,lo,n))(hs:s id=some (.arr te.size N f)):
  G4 P C nt R η e s a w o { v:=.any,upd:=some (id,.arr te.size N fun i=>if lo<=i/\i<lo+n then (fun _=>zd) (i-lo) else f i) }:=by
 obtain ⟨i,dd,z,B⟩:=hL t ti ht;obtain ⟨i2,d2,d,p⟩:=hL el te hte
 have D:=B.kind;rw [hk] at D
 simp only [ZK] at D;subst D
 have U:=ME h hx hs;have a1:=h.st id _ hs
 have H:∀ j ∈ (AVal.any).refs,R j:=fun j G=>by cases G
 have W:∀ v,a.eval x=v->(∃ Y A,v=.slice Y 0 A)->n=0->G4 P C nt R η e s a w o { v:=.any,upd:=some (id,.arr te.size N fun i=>if lo<=i/\i<lo+n then (fun _=>zd) (i-lo) else f i) }:=by
  rintro v V ⟨Y,A,rfl⟩ hn;have m:(execOp a.eval o).run P w=.ok (.value (.tuple #[])) w:=by
   cases Y <;> simp [execOp,hop,resolve,invoke,builtin,Builtin.clear_,run_underlying B.und,V]
  refine ge h hd hs rfl rfl (by simp [Obj.refs]) (Stp.refl _ _) m (fun X' Z=>?_) (fun X'=>.any _) H;have M:ORep w X' η C (η id) (.arr te.size N f):=a1.mono Z (fun j G=>rfl) fun b hb=>rfl
  rw [<-Z0V (k:=n) (lo:=lo) (f:=f) (g:=fun _=>zd) hn] at M;exact M
 generalize V:a.eval x=v at U
 cases U with
 | some b A c e' h1 h2 h3 h4 h5 h6 h7 h8 h9=>
  by_cases hn:n=0
  .grind
  .have l:d.cells.size=te.size:=by rw [(p.zrep w (XS C s η) η C).1,hzl]
   obtain ⟨F,T⟩:=Lp (p.zrep w (XS C s η) η C) hz;have I:(Builtin.zeroCells d.cells n).toList.length=n*te.size:=by simp [Builtin.zeroCells,l]
   have O:∀ u ∈ (Builtin.zeroCells d.cells n).toList,u.oneCell'=true:=by
    intro u hu;simp only [Builtin.zeroCells,Array.toList_map,List.mem_map] at hu
    obtain ⟨q,hq,rfl⟩:=hu;have r:q % d.cells.size<d.cells.size:=Nat.mod_lt _ (by rw [l];exact h0)
    have:=(T (q % d.cells.size) (by rw [F];exact r)).one
    simpa [r] using this
   have J:lo*te.size+0+(Builtin.zeroCells d.cells n).toList.length<=c.size:=by rw [I,h3,Nat.add_zero, <-Nat.add_mul];exact Nat.mul_le_mul_right _ (by omega)
   have y:=run_storeCells_at P b (lo*te.size) e' (Builtin.zeroCells d.cells n).toList 0 c w h2 J O;simp only [Nat.add_zero] at y
   have m:(execOp a.eval o).run P w=.ok (.value (.tuple #[])) (w.setRow b (c.toList.take (lo*te.size)++(Builtin.zeroCells d.cells n).toList++c.toList.drop (lo*te.size+(Builtin.zeroCells d.cells n).toList.length)).toArray):=by
    simp [execOp,hop,resolve,invoke,builtin,Builtin.clear_,run_underlying B.und,V,RU p,y,hn]
   refine ge h hd hs rfl rfl (by simp [Obj.refs]) (Q6y h1 (by omega) _) m (fun X' Z=>?_) (fun X'=>.any _) H;refine Q8w Z h1 h2 h3 h4 h5 (by omega) h6 h7 h8 I (fun i _=>by rw [<-hle.spec.1,F,l]) fun i j hi G=>?_
   have r:i*te.size+j<n*te.size:=by
    have:(i+1)*te.size<=n*te.size:=Nat.mul_le_mul_right _ hi
    grind
   have hm:(i*te.size+j) % te.size=j:=by rw [Nat.add_comm,Nat.add_mul_mod_self_right,Nat.mod_eq_of_lt G]
   have hg:(Builtin.zeroCells d.cells n).toList.getD (i*te.size+j) undef=d.cells.getD j undef:=by
    have:=yd (n*d.cells.size) (fun i=>d.cells[i % d.cells.size]!) (i*te.size+j) (by rw [l];exact r)
    have e1:(Builtin.zeroCells d.cells n).toList.getD (i*te.size+j) undef=(Builtin.zeroCells d.cells n).getD (i*te.size+j) undef:=by simp [List.getD_eq_getElem?_getD,Array.getD_eq_getD_getElem?]
    rw [e1];unfold Builtin.zeroCells
    rw [this,l,hm];have:j<d.cells.size:=by rw [l];exact G
    simp [this]
   rw [hg];exact hle.spec.2 j _ _ _ (T j (by rw [F,l];exact G))
 | nil ad0 ad' h1 h2 h3=>exact W _ V ⟨_,_,rfl⟩ h3
end
end
section
section
variable {P:Program} {C:Ctx} {nt:Nat} {L:V9} {ops:Array Oper} {ds:List Dir} {e:W4} {s:W5}
def rE(r:SR):Array Oper->Oper->W4->Eff:=fun ops o e=>HZ ops o e r r.v
theorem UH{o:Oper}(hdo:QS nt o=true){r:SR}(hg:Zg ops e o=some true)(hsnd:∀ (R:Nat->Prop) (η:Nat->Value) (e0:W4) (s0:W5) (a:Act) (w:World),(∀ x ∈ o.op.operands.toList,Y2 e0 x=Y2 e x)->(∀ x ∈ o.op.operands.toList,∀ i ∈ (Y2 e x).refs,s0 i=s i)->(∀ d,o.dst=some d->r.new≠none->¬ R d) ->
   Conc C nt R η e0 s0 a w->G4 P C nt R η e0 s0 a w o r):WG P C nt ops o (HZ ops o e r r.v) e s:=by
 intro R η e0 s0 a w c p y b K Q M;have m:∀ x ∈ o.op.operands.toList,Y2 e0 x=Y2 e x:=by
  intro x m
  cases x with
  | tmp t=>exact c t (List.mem_append.2 (.inl (List.mem_filterMap.2 ⟨_,m,rfl⟩)))
  | const v=>rfl
  | global g=>rfl
  | func f=>rfl
 have u:∀ x ∈ o.op.operands.toList,∀ i ∈ (Y2 e x).refs,s0 i=s i:=fun x m i B=>p i (List.mem_flatMap.2 ⟨x,m,B⟩)
 have G:=UG (e:=e) b (fun t F=>c t (List.mem_append.2 (.inr F))) hg;rw [if_pos G]
 have D:=hsnd R η e0 s0 a w m u (fun d I J=>y d (by
  obtain ⟨N,A⟩:=Option.ne_none_iff_exists'.1 J;simp [HZ,SR.nw,A,I])) b
 refine D.wp fun η' H w' q=>M η' H w' ?_
 have z:=q.wider (LS r o.dst R);have h:ZC (HZ ops o e r r.v).l s0=r.sto o.dst s0:=LR r o.dst s0
 rw [h];have j:Zw o.dst (HZ ops o e r r.v).v e0=r.env o.dst e0:=rfl
 rw [j];exact z
theorem FSq{s0:W5}{es:Nat}{x:AVal}(h:∀ i ∈ x.refs,s0 i=s i):YD s0 es x=YD s es x:=by
 unfold YD;split
 .rw [h _ (by simp [AVal.refs,TV.refs,CV.refs])]
 .rfl
 .rfl
theorem FR{es:Nat}{x:AVal}{id lo n:Nat}(h:YD s es x=some (id,lo,n)):id ∈ x.refs:=by
 unfold YD at h;split at h
 .split at h
  .split at h
   .cases h;simp [AVal.refs,TV.refs,CV.refs]
   .cases h
  .cases h
 .split at h
  .cases h;simp [AVal.refs,TV.refs,CV.refs]
  .cases h
 .cases h
def VR(L:V9)(t:TypeId)(te:TI):Prop:=∃ ti el,L t=some ti/\ti.kind=.slice el/\L el=some te
variable {k:Nat}
theorem GY(hL:z7 P L){te:TI}{t:TypeId}(hT:VR L t te){x:Operand}{lo hi:Option Operand}{l u:Option Int}{id lo0 n N:Nat}{f:Nat->List DVal}{r:AVal}(hk:Qs ds k=rE { v:=r })(hop:(Y6 ops.toList k).op=.slice t x lo hi none)(hdo:(QS nt (Y6 ops.toList k)&&(Zg ops (V7 L ops ops.toList ds e s k) (Y6 ops.toList k)==some true))=true)(hl:oI (V7 L ops ops.toList ds e s k) lo=some l)(hu:oI (V7 L ops ops.toList ds e s k) hi=some u)(hx:YD (QU L ops ops.toList ds e s k) te.size (Y2 (V7 L ops ops.toList ds e s k) x)=some (id,lo0,n))(hs:QU L ops ops.toList ds e s k id=some (.arr te.size N f))(hc:0<=l.getD 0/\l.getD 0<=u.getD n/\(lo0:Int)+u.getD n<=N)(hr:r=.v (.c (.sub id te.size (lo0+(l.getD 0).toNat) ((u.getD n).toNat-(l.getD 0).toNat)))):U9 P C nt L ops ds e s k:=by
 unfold U9;rw [hk]
 simp only [Bool.and_eq_true,beq_iff_eq] at hdo;obtain ⟨I,J,G,D,B⟩:=hT
 refine UH hdo.1 hdo.2 fun R η m F a w j g _ o=>?_
 have b:∀ y,(y=x\/lo=some y\/hi=some y)->y ∈ (Y6 ops.toList k).op.operands.toList:=by
  intro y i;rw [hop]
  rcases i with h|h|h
  .subst h;simp [Op.operands]
  .subst h;simp [Op.operands,optional]
  .subst h;simp [Op.operands,optional]
 have q:YD F te.size (Y2 m x)=some (id,lo0,n):=by
  rw [j x (b x (.inl rfl)),FSq (g x (b x (.inl rfl)))];exact hx
 have p:F id=some (.arr te.size N f):=by rw [g x (b x (.inl rfl)) id (FR hx)];exact hs
 have A:oI m lo=some l:=by rw [TN fun y i=>j y (b y (.inr (.inl i)))];exact hl
 have z:oI m hi=some u:=by rw [TN fun y i=>j y (b y (.inr (.inr i)))];exact hu
 rw [hr];exact Q5t hL o (fun d H=>YY hdo.1 d H) hop G D B A z q p hc
theorem Q3F(hL:z7 P L){te:TI}{t:TypeId}(hT:VR L t te){x:Operand}{es id lo0 n N:Nat}{f:Nat->List DVal}(hk:Qs ds k=rE { v:=vi n })(hop:(Y6 ops.toList k).op=.call { callee:=.builtin .len,args:= #[x],argTypes:= #[t] })(hdo:(QS nt (Y6 ops.toList k)&&(Zg ops (V7 L ops ops.toList ds e s k) (Y6 ops.toList k)==some true))=true)(hx:YD (QU L ops ops.toList ds e s k) es (Y2 (V7 L ops ops.toList ds e s k) x)=some (id,lo0,n))(hs:QU L ops ops.toList ds e s k id=some (.arr es N f)):U9 P C nt L ops ds e s k:=by
 unfold U9;rw [hk]
 simp only [Bool.and_eq_true,beq_iff_eq] at hdo;obtain ⟨u,y,p,j,r⟩:=hT
 refine UH hdo.1 hdo.2 fun R η o l a w m b _ c=>?_
 have g:x ∈ (Y6 ops.toList k).op.operands.toList:=by rw [hop];simp [Op.operands,Call.operands]
 have i:YD l es (Y2 o x)=some (id,lo0,n):=by
  rw [m x g,FSq (b x g)];exact hx
 have h:l id=some (.arr es N f):=by rw [b x g id (FR hx)];exact hs
 exact Q5u hL c (fun d q=>YY hdo.1 d q) hop p j i h
theorem xD(hL:z7 P L){te:TI}{t:TypeId}(hT:VR L t te){x i:Operand}{m:Int}{id lo0 n N:Nat}{f:Nat->List DVal}{r:AVal}(hk:Qs ds k=rE { v:=r })(hop:(Y6 ops.toList k).op=.indexAddr t x i)(hdo:(QS nt (Y6 ops.toList k)&&(Zg ops (V7 L ops ops.toList ds e s k) (Y6 ops.toList k)==some true))=true)(hi:ZJ (Y2 (V7 L ops ops.toList ds e s k) i)=some m)(hx:YD (QU L ops ops.toList ds e s k) te.size (Y2 (V7 L ops ops.toList ds e s k) x)=some (id,lo0,n))(hs:QU L ops ops.toList ds e s k id=some (.arr te.size N f))(hc:0<=m/\m<n)(hr:r=.v (.c (.pte id te.size (lo0+m.toNat) 0))):U9 P C nt L ops ds e s k:=by
 unfold U9;rw [hk]
 simp only [Bool.and_eq_true,beq_iff_eq] at hdo;obtain ⟨D,F,A,p,o⟩:=hT
 refine UH hdo.1 hdo.2 fun R η z y a w u b _ g=>?_
 have h:x ∈ (Y6 ops.toList k).op.operands.toList:=by rw [hop];simp [Op.operands]
 have q:i ∈ (Y6 ops.toList k).op.operands.toList:=by rw [hop];simp [Op.operands]
 have l:YD y te.size (Y2 z x)=some (id,lo0,n):=by
  rw [u x h,FSq (b x h)];exact hx
 have j:y id=some (.arr te.size N f):=by rw [b x h id (FR hx)];exact hs
 rw [<-u i q] at hi;rw [hr]
 exact Q5v hL g (fun d B=>YY hdo.1 d B) hop A p o hi l j hc
theorem xF(hL:z7 P L){te:TI}{t:TypeId}(hT:VR L t te){x:Operand}{id lo0 n N:Nat}{f g:Nat->List DVal}(zd0 zd:List DVal)(hle:Mt zd0 zd)(hk:Qs ds k=rE { v:=.any,upd:=some (id,.arr te.size N g) })(hop:(Y6 ops.toList k).op=.call { callee:=.builtin .clear,args:= #[x],argTypes:= #[t] })(hdo:(QS nt (Y6 ops.toList k)&&(Zg ops (V7 L ops ops.toList ds e s k) (Y6 ops.toList k)==some true))=true)(h0:0<te.size)(hzl:te.zero.length=te.size)(hz:VP te.zero=some zd0)(hx:YD (QU L ops ops.toList ds e s k) te.size (Y2 (V7 L ops ops.toList ds e s k) x)=some (id,lo0,n))(hs:QU L ops ops.toList ds e s k id=some (.arr te.size N f))(hg:g=fun i=>if lo0<=i/\i<lo0+n then (fun _=>zd) (i-lo0) else f i):U9 P C nt L ops ds e s k:=by
 unfold U9;rw [hk,hg]
 simp only [Bool.and_eq_true,beq_iff_eq] at hdo;obtain ⟨z,A,u,o,m⟩:=hT
 refine UH hdo.1 hdo.2 fun R η r p a w q b _ c=>?_
 have h:x ∈ (Y6 ops.toList k).op.operands.toList:=by rw [hop];simp [Op.operands,Call.operands]
 have l:YD p te.size (Y2 r x)=some (id,lo0,n):=by
  rw [q x h,FSq (b x h)];exact hx
 have j:p id=some (.arr te.size N f):=by rw [b x h id (FR hx)];exact hs
 exact Q5w hL c (fun d y=>YY hdo.1 d y) hop u o m h0 hzl hz hle l j
end
end
section
section
variable {P:Program} {C:Ctx} {nt:Nat} {L:V9} {pins:List Nat} {K:Act->World->Prop}
theorem Qq(k:Nat)(o:Obj)(S:List (Nat×Obj))(i:Nat):ls ((k,o)::S) i=if i=k then some o else ls S i:=by
 unfold ls
 grind
theorem Hl(k:Nat)(o:AVal)(E:List (Nat×AVal))(i:Nat):lk ((k,o)::E) i=if i=k then o else lk E i:=by
 unfold lk
 grind
end
end
end
end Go.Ab
