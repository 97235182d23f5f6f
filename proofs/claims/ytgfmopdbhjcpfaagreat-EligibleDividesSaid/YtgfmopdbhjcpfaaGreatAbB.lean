/- Abstract states over the model. -/
import Derived.Test.YtgfmopdbhjcpfaaGreatAbA
import Derived.KernelRfl
import Derived.Laws.StructEq
set_option linter.unusedVariables false
set_option linter.unusedSimpArgs false
namespace Go.Ab
noncomputable section
section
def CV.noSem:CV->Bool
 | .sem _=>false
 | _=>true
def TV.noSem:TV->Bool
 | .c x=>x.noSem
 | .g xs=>xs.all CV.noSem
def AVal.noSem:AVal->Bool
 | .any=>true
 | .v x=>x.noSem
 | .t xs=>xs.all TV.noSem
def Obj.noSem:Obj->Bool
 | .box _ cs=>cs.all CV.noSem
 | .arr _ _ _=>true
 | .ext _=>true
 | .exr _ _=>true
section
variable {w:World} {X:Nat->Prop} {η:Nat->Value} {C C' : Ctx}
theorem CRep.ctx{v:Value}{x:CV}(h:CRep w X η C v x)(hx:x.noSem=true):CRep w X η C' v x:=by
 cases h with
 | d _ _ h=>exact .d _ _ h
 | fl _ _ _ h=>exact .fl _ _ _ h
 | own _ _ h h1=>exact .own _ _ h h1
 | ptr _ _ _ h=>exact .ptr _ _ _ h
 | pte _ _ _ _ _ _ _ h=>exact .pte _ _ _ _ _ _ _ h
 | sub b N cap _ es lo n h h1 h2=>exact .sub b N cap _ es lo n h h1 h2
 | subN ad ad' N _ es h=>exact .subN ad ad' N _ es h
 | elm _ _ _ _ _ _ h1 h2 h3 h4=>exact .elm _ _ _ _ _ _ h1 h2 h3 h4
 | clo _ _ _ h=>exact .clo _ _ _ h
 | sem _ _ h h1=>cases hx
 | ap _ _ h h1=>exact .ap _ _ h h1
 | bnd _ _ _ h1 h2=>exact .bnd _ _ _ h1 h2
 | cp _ _ _ _ h h1 h2=>exact .cp _ _ _ _ h h1 h2
theorem Q0e.ctx{vs:Array Value}{cs:List CV}(h:Q0e w X η C vs cs)(hx:cs.all CV.noSem=true):Q0e w X η C' vs cs:=
 ⟨h.1,fun j a=>(h.2 j a).ctx (List.all_eq_true.1 hx _ (Q0R a))⟩
theorem TRep.ctx{v:Value}{x:TV}(h:TRep w X η C v x)(hx:x.noSem=true):TRep w X η C' v x:=by
 cases h with
 | c _ _ h=>exact .c _ _ (h.ctx hx)
 | g _ _ h=>exact .g _ _ (h.ctx hx)
theorem ARep.ctx{v:Value}{x:AVal}(h:ARep w X η C v x)(hx:x.noSem=true):ARep w X η C' v x:=by
 cases h with
 | any=>exact .any v
 | v _ _ h=>exact .v _ _ (h.ctx hx)
 | t us xs h1 h2=>exact .t us xs h1 fun j a=>(h2 j a).ctx (List.all_eq_true.1 hx _ (Q0R a))
theorem ORep.ctx{v:Value}{o:Obj}(h:ORep w X η C v o)(hx:o.noSem=true):ORep w X η C' v o:=by
 cases h with
 | box b ro c e cs h1 h2=>exact .box b ro c e cs h1 (h2.ctx hx)
 | nil ad es f=>exact .nil ad es f
 | arr b n cap es c e f h1 h2 h3 h4 h5 h6 h7=>exact .arr b n cap es c e f h1 h2 h3 h4 h5 h6 h7
 | ext _ _ h1 h2 h3=>exact .ext _ _ h1 h2 h3
 | exr _ _ _ h1 h2 h3=>exact .exr _ _ _ h1 h2 h3
theorem CRep.toRen{ρ:Nat->Nat}{v:Value}{x:CV}(h:CRep w X (fun i=>η (ρ i)) C v x):CRep w X η C v (x.ren ρ):=by
 cases h with
 | d _ _ h=>exact .d _ _ h
 | fl _ _ _ h=>exact .fl _ _ _ h
 | own _ _ h h1=>exact .own _ _ h h1
 | ptr _ _ _ h=>exact .ptr _ _ _ h
 | pte _ _ _ _ _ _ _ h=>exact .pte _ _ _ _ _ _ _ h
 | sub b N cap _ es lo n h h1 h2=>exact .sub b N cap _ es lo n h h1 h2
 | subN ad ad' N _ es h=>exact .subN ad ad' N _ es h
 | elm _ _ _ _ _ _ h1 h2 h3 h4=>exact .elm _ _ _ _ _ _ h1 h2 h3 h4
 | clo f ids vs h=>exact .clo f _ vs (by rw [h,List.map_map];rfl)
 | sem _ _ h h1=>exact .sem _ _ h h1
 | ap _ _ h h1=>exact .ap _ _ h h1
 | bnd _ _ _ h1 h2=>exact .bnd _ _ _ h1 h2
 | cp _ _ _ _ h h1 h2=>exact .cp _ _ _ _ h h1 h2
theorem Q0e.toRen{ρ:Nat->Nat}{vs:Array Value}{cs:List CV}(h:Q0e w X (fun i=>η (ρ i)) C vs cs):Q0e w X η C vs (cs.map (CV.ren ρ)):=by
 refine ⟨by simpa using h.1,fun j b=>?_⟩;have a : j<cs.length:=by simpa using b
 have:=(h.2 j a).toRen
 rw [List.getD_eq_getElem?_getD,List.getElem?_map,List.getElem?_eq_getElem a];rw [List.getD_eq_getElem?_getD,List.getElem?_eq_getElem a] at this
 exact this
theorem TRep.toRen{ρ:Nat->Nat}{v:Value}{x:TV}(h:TRep w X (fun i=>η (ρ i)) C v x):TRep w X η C v (x.ren ρ):=by
 cases h with
 | c _ _ h=>exact .c _ _ h.toRen
 | g _ _ h=>exact .g _ _ h.toRen
theorem ARep.toRen{ρ:Nat->Nat}{v:Value}{x:AVal}(h:ARep w X (fun i=>η (ρ i)) C v x):ARep w X η C v (x.ren ρ):=by
 cases h with
 | any=>exact .any v
 | v _ _ h=>exact .v _ _ h.toRen
 | t us xs h1 h2=>
  refine .t us _ (by simpa using h1) fun j b=>?_
  have a : j<xs.length:=by simpa using b
  have:=(h2 j a).toRen
  rw [List.getD_eq_getElem?_getD,List.getElem?_map,List.getElem?_eq_getElem a];rw [List.getD_eq_getElem?_getD,List.getElem?_eq_getElem a] at this
  exact this
theorem ORep.toRen{ρ:Nat->Nat}{v:Value}{o:Obj}(h:ORep w X (fun i=>η (ρ i)) C v o):ORep w X η C v (o.ren ρ):=by
 cases h with
 | box b ro c e cs h1 h2=>exact .box b ro c e _ h1 h2.toRen
 | nil ad es f=>exact .nil ad es f
 | arr b n cap es c e f h1 h2 h3 h4 h5 h6 h7=>exact .arr b n cap es c e f h1 h2 h3 h4 h5 h6 h7
 | ext _ _ h1 h2 h3=>exact .ext _ _ h1 h2 h3
 | exr _ refs p h1 h2 h3=>
  have e:refs.map (fun i=>η (ρ i))=(refs.map ρ).map η:=by rw [List.map_map];rfl
  rw [e] at h1 h2;exact .exr _ _ p h1 h2 h3
end
def Q0i(C:Ctx)(nt:Nat)(e:Env)(s:Sto)(Si:List (Nat×Obj))(m:Nat->Nat)(rd ids:List Nat)(x:Operand)(y:AVal):Prop:=
 ∀ R η e0 s0 a w,(∀ t ∈ rd,e0 t=e t)->(∀ i ∈ ids,s0 i=s i)->Conc C nt R η e0 s0 a w ->
  ARep w (XS C s0 η) (fun i=>η (m i)) (K6 Si w (XS C s0 η) fun i=>η (m i)) (a.eval x) y
section
variable {P:Program} {C:Ctx} {nt:Nat} {e:Env} {s:Sto}
def Q5E(rd:List Nat)(x:Operand):Bool:=match x with | .tmp t=>rd.contains t|_=>true
theorem Y8L{rd:List Nat}{t:Nat}(h:Q5E rd (.tmp t)=true):t ∈ rd:=by
 simpa [Q5E] using h
theorem K4{e0 e:Env}{x:Operand}{rd:List Nat}(hrd:∀ t ∈ rd,e0 t=e t)(hx:Q5E rd x=true):aev e0 x=aev e x:=by
 cases x <;> first|rfl|exact hrd _ (Y8L hx)
theorem Q0i.plain{Si:List (Nat×Obj)}{m:Nat->Nat}{rd ids:List Nat}{x:Operand}{y:AVal}(hx:Q5E rd x=true)(hle:ALe (aev e x) (y.ren m))(hs:y.noSem=true):Q0i C nt e s Si m rd ids x y:=by
 intro R η h g a w b d f;have c:=(W8 f x).1
 rw [K4 b hx] at c;exact (ARep.unren (hle.1 _ _ _ _ _ c)).ctx hs
def Y5q(ops:Array Oper)(o:Oper)(e:Env)(m:Nat->Nat)(extra:List Nat)(r:AVal)(Si So:List (Nat×Obj)):Eff where
 rd:=Q0l o++U4 ops o
 ids:=Z2T e o++(Si.map (fun p=>m p.1)++extra)
 v:=r.ren m
 l:=(So.map fun p=>(m p.1,some (p.2.ren m)))++Si.map fun p=>(m p.1,none)
 news:=(So.filter fun p=> !(Si.map (·.1)).contains p.1).map fun p=>m p.1
def Q7a(m:Nat->Nat)(r:AVal)(Si So:List (Nat×Obj)):Bool:=
 Q3h (Si.map (·.1))&&Q3h (So.map (·.1))&&Q3h ((So.filter fun p=> !(Si.map (·.1)).contains p.1).map (fun p=>m p.1)++Si.map fun p=>m p.1) &&
 r.refs.all (fun i=>(So.map (·.1)).contains i)&&So.all (fun p=>p.2.refs.all fun i=>(So.map (·.1)).contains i)&&r.noSem&&Si.all (fun p=>p.2.noSem)&&So.all (fun p=>p.2.noSem) &&
 So.all (fun p=> !(Si.map (·.1)).contains p.1||Si.any fun q=>q.1==p.1&&q.2.ro==p.2.ro)&&So.all (fun p=>(Si.map (·.1)).contains p.1 || !p.2.ro)
theorem CV.ren_refs{ρ:Nat->Nat}(x:CV):∀ j ∈ (x.ren ρ).refs,∃ i ∈ x.refs,j=ρ i:=by
 cases x <;> simp [CV.refs,CV.ren]
 intro i a;exact ⟨i,a,rfl⟩
theorem Y3d{α β:Type}{f:α->List Nat}{g:α->α}{l:List α}{ρ:Nat->Nat}(h:∀ x,∀ j ∈ f (g x),∃ i ∈ f x,j=ρ i)(_:β):∀ j ∈ (l.map g).flatMap f,∃ i ∈ l.flatMap f,j=ρ i:=by
 intro j a;obtain ⟨y,c,a⟩:=List.mem_flatMap.1 a
 obtain ⟨x,d,rfl⟩:=List.mem_map.1 c;obtain ⟨i,b,e⟩:=h x j a
 exact ⟨i,List.mem_flatMap.2 ⟨x,d,b⟩,e⟩
theorem TV.ren_refs{ρ:Nat->Nat}(x:TV):∀ j ∈ (x.ren ρ).refs,∃ i ∈ x.refs,j=ρ i:=by
 cases x with
 | c x=>exact CV.ren_refs x
 | g xs=>exact Y3d (f:=CV.refs) CV.ren_refs ()
theorem AVal.ren_refs{ρ:Nat->Nat}(x:AVal):∀ j ∈ (x.ren ρ).refs,∃ i ∈ x.refs,j=ρ i:=by
 cases x with
 | any=>intro j a;cases a
 | v x=>exact TV.ren_refs x
 | t xs=>exact Y3d (f:=TV.refs) TV.ren_refs ()
theorem Obj.ren_refs{ρ:Nat->Nat}(o:Obj):∀ j ∈ (o.ren ρ).refs,∃ i ∈ o.refs,j=ρ i:=by
 cases o with
 | box ro cs=>exact Y3d (f:=CV.refs) CV.ren_refs ()
 | arr es n f=>intro j a;cases a
 | ext p=>intro j a;cases a
 | exr refs p=>
  intro j a;obtain ⟨i,b,rfl⟩:=List.mem_map.1 a
  exact ⟨i,b,rfl⟩
theorem Conc.call{R:Nat->Prop}{η:Nat->Value}{e0:Env}{s0:Sto}{a:Act}{w:World}(h:Conc C nt R η e0 s0 a w){m:Nat->Nat}{Si So:List (Nat×Obj)}{r:AVal}{d:Option Tmp}(hd:∀ x,d=some x->x<nt)(hchk:Q7a m r Si So=true)(hsi:∀ p ∈ Si,∃ o1,s0 (m p.1)=some o1/\OLe o1 (p.2.ren m))(hfr:∀ k ∈ (So.filter fun p=> !(Si.map (·.1)).contains p.1).map (fun p=>m p.1),¬ R k){v:Value}{η' : Nat->Value}{w' : World}(hb:Behind (K6 Si w (XS C s0 η) fun i=>η (m i)) r So v η' w'):
  ∃ η1,Conc C nt (fun i=>R i\/i ∈ (So.filter fun p=> !(Si.map (·.1)).contains p.1).map fun p=>m p.1) η1 (Z0r d (r.ren m) e0) (upS ((So.map fun p=>(m p.1,some (p.2.ren m)))++Si.map fun p=>(m p.1,none)) s0) (a.put d v) w':=by
 simp only [Q7a,Bool.and_eq_true] at hchk;obtain ⟨⟨⟨⟨⟨⟨⟨⟨⟨c1,c2⟩,c3⟩,c4⟩,c5⟩,c6⟩,c7⟩,c8⟩,c9⟩,g9⟩:=hchk
 have n1:=Q4C c1;have n2:=Q4C c2
 have n3:=Q4C c3
 let news:=(So.filter fun p=> !(Si.map (·.1)).contains p.1).map fun p=>m p.1
 have G:∀ i,i ∈ Si.map (·.1)->∃ o,(i,o) ∈ Si:=fun i c=>by obtain ⟨p,g,rfl⟩:=List.mem_map.1 c;exact ⟨p.2,g⟩
 have d2:∀ i o,(i,o) ∈ Si->ls Si i=some o:=by
  intro i o c;unfold ls
  obtain ⟨l1,l2,rfl⟩:=List.append_of_mem c;rw [List.map_append,List.map_cons,List.nodup_append] at n1
  rw [List.lookup_append];have:l1.lookup i=none:=by
   rw [List.lookup_eq_none_iff];intro p g
   have:=n1.2.2 p.1 (List.mem_map_of_mem g) i (List.mem_cons_self)
   simpa using fun Z=>this Z.symm
  rw [this];simp
 have E:∀ i o,(i,o) ∈ So->ls So i=some o:=by
  intro i o c;unfold ls
  obtain ⟨l1,l2,rfl⟩:=List.append_of_mem c;rw [List.map_append,List.map_cons,List.nodup_append] at n2
  rw [List.lookup_append];have:l1.lookup i=none:=by
   rw [List.lookup_eq_none_iff];intro p g
   have:=n2.2.2 p.1 (List.mem_map_of_mem g) i (List.mem_cons_self)
   simpa using fun Z=>this Z.symm
  rw [this];simp
 have L:∀ p ∈ So,p.1 ∈ Si.map (·.1)\/m p.1 ∈ news:=by
  intro p g
  by_cases hc:p.1 ∈ Si.map (·.1)
  .exact .inl hc
  .exact .inr (List.mem_map.2 ⟨p,List.mem_filter.2 ⟨g,by simpa using hc⟩,rfl⟩)
 rw [List.nodup_append] at n3;obtain ⟨g4,h3,b2⟩:=n3
 have a3:∀ {α:Type} (f:α->Nat) (l:List α),(l.map f).Nodup->∀ x ∈ l,∀ y ∈ l,f x=f y->x=y:=by
  intro α f l
  induction l with
  | nil=>intro _ x W;cases W
  | cons z l ih=>
   intro hn x W y hy d7;rw [List.map_cons,List.nodup_cons] at hn
   rcases List.mem_cons.1 W with hx1|hx1 <;> rcases List.mem_cons.1 hy with a6|a6
   .rw [hx1,a6]
   .exact absurd (List.mem_map.2 ⟨y,a6,by rw [<-d7,hx1]⟩) hn.1
   .exact absurd (List.mem_map.2 ⟨x,hx1,by rw [d7,a6]⟩) hn.1
   .exact ih hn.2 x hx1 y a6 d7
 have d4:∀ i j,i ∈ Si.map (·.1)->j ∈ Si.map (·.1)->m i=m j->i=j:=by
  intro i j c hj g0;obtain ⟨F,c⟩:=G i c
  obtain ⟨oj,hj⟩:=G j hj;have:=a3 (fun p:Nat×Obj=>m p.1) Si h3 _ c _ hj g0
  injection this
 have d1:∀ p ∈ So,∀ q ∈ So,m p.1=m q.1->p.1=q.1:=by
  intro p g q S b1;rcases L p g with J|J <;> rcases L q S with N|N
  .exact d4 _ _ J N b1
  .obtain ⟨op,b9⟩:=G _ J
   exact absurd b1.symm (b2 _ N _ (List.mem_map.2 ⟨_,b9,rfl⟩))
  .obtain ⟨oq,d3⟩:=G _ N
   exact absurd b1 (b2 _ J _ (List.mem_map.2 ⟨_,d3,rfl⟩))
  .obtain ⟨p',j5,e1⟩:=List.mem_map.1 J
   obtain ⟨q',i9,e2⟩:=List.mem_map.1 N
   by_cases hps:p.1 ∈ Si.map (·.1)
   .obtain ⟨op,b9⟩:=G _ hps
    exact absurd rfl (b2 _ J _ (List.mem_map.2 ⟨_,b9,rfl⟩))
   .by_cases hqs:q.1 ∈ Si.map (·.1)
    .obtain ⟨oq,d3⟩:=G _ hqs
     exact absurd rfl (b2 _ N _ (List.mem_map.2 ⟨_,d3,rfl⟩))
    .have:=a3 (fun p:Nat×Obj=>m p.1) _ g4 p (List.mem_filter.2 ⟨g,by simpa using hps⟩) q (List.mem_filter.2 ⟨S,by simpa using hqs⟩) b1
     rw [this]
 let η1:Nat->Value:=fun k=>match So.find? (fun p=>m p.1==k) with|some p=>η' p.1|none=>η k
 have O:∀ p ∈ So,η1 (m p.1)=η' p.1:=by
  intro p g;simp only [η1]
  cases hf:So.find? (fun q=>m q.1==m p.1) with
  | none=>rw [List.find?_eq_none] at hf;have:=hf p g;simp at this
  | some q=>
   have S:=List.mem_of_find?_eq_some hf;have g3:m q.1=m p.1:=by simpa using List.find?_some hf
   simp only [d1 q S p g g3]
 have b7:∀ i,i ∈ Si.map (·.1)->η' i=η (m i):=by
  intro i c;obtain ⟨o,K⟩:=G i c
  refine hb.pn i _ ?_;have:=d2 i o K
  unfold ls at this;simp [K6,this]
 have I:∀ k,(∀ p ∈ So,m p.1≠k)->η1 k=η k:=by
  intro k H;simp only [η1]
  cases hf:So.find? (fun q=>m q.1==k) with
  | none=>rfl
  | some q=>exact absurd (by simpa using List.find?_some hf) (H q (List.mem_of_find?_eq_some hf))
 have eR:∀ k,R k->η1 k=η k:=by
  intro k H;rcases Classical.em (∃ p ∈ So,m p.1=k) with ⟨p,g,rfl⟩|d8
  .rw [O p g]
   rcases L p g with J|J
   .exact b7 _ J
   .exact absurd H (hfr _ J)
  .exact I k fun p g Z=>d8 ⟨p,g,Z⟩
 generalize hs1:upS ((So.map fun p=>(m p.1,some (p.2.ren m)))++Si.map fun p=>(m p.1,none)) s0=s1;have B:∀ k o,s1 k=some o->(∃ p ∈ So,m p.1=k/\o=p.2.ren m)\/(s0 k=some o/\(∀ p ∈ So,m p.1≠k)/\∀ p ∈ Si,m p.1≠k):=by
  intro k o H;rw [<-hs1] at H
  unfold upS at H;rw [List.lookup_append] at H
  cases hl1:(So.map fun p=>(m p.1,some (p.2.ren m))).lookup k with
  | some x=>
   rw [hl1] at H;simp only [Option.some_or] at H
   obtain ⟨l1,l2,hl,_⟩:=List.lookup_eq_some_iff.1 hl1;have b0:(k,x) ∈ So.map fun p=>(m p.1,some (p.2.ren m)):=by rw [hl];simp
   obtain ⟨p,g,he⟩:=List.mem_map.1 b0
   injection he with e1 e2
   subst e2;cases H
   exact .inl ⟨p,g,e1,rfl⟩
  | none=>
   rw [hl1] at H;simp only [Option.none_or] at H
   have d8:∀ p ∈ So,m p.1≠k:=by
    intro p g Z;rw [List.lookup_eq_none_iff] at hl1
    have:=hl1 _ (List.mem_map_of_mem g)
    simp at this
    exact this Z.symm
   cases hl2:(Si.map fun p=>(m p.1,(none:Option Obj))).lookup k with
   | some x=>
    rw [hl2] at H;obtain ⟨l1,l2,hl,_⟩:=List.lookup_eq_some_iff.1 hl2
    have b0:(k,x) ∈ Si.map fun p=>(m p.1,(none:Option Obj)):=by rw [hl];simp
    obtain ⟨p,g,he⟩:=List.mem_map.1 b0
    injection he with e1 e2
    subst e2;cases H
   | none=>
    rw [hl2] at H;refine .inr ⟨H,d8,fun p g Z=>?_⟩
    rw [List.lookup_eq_none_iff] at hl2;have:=hl2 _ (List.mem_map_of_mem g)
    simp at this
    exact this Z.symm
 have a1:∀ i o,ls Si i=some o->∀ b,b ∈ W2 (η (m i))->Own s0 η b:=by
  intro i o c b e3;obtain ⟨o1,J,_⟩:=hsi _ (J1 c)
  exact ⟨m i,o1,J,e3⟩
 have T:∀ k o i F b,s0 k=some o->ls Si i=some F->b ∈ W2 (η k)->b ∈ W2 (η (m i))->k=m i:=by
  intro k o i F b H c c0 a5;obtain ⟨o1,J,_⟩:=hsi _ (J1 c)
  exact h.ds k (m i) b (by rw [H];simp) (by rw [J];simp) c0 a5
 have a9:∀ i F b,ls Si i=some F->F.ro=false->b ∈ W2 (η (m i))->C.M b\/C.w0.heap.size<=b:=by
  intro i F b c a2 e3;obtain ⟨o1,J,h6⟩:=hsi _ (J1 c)
  rcases h.ow _ o1 b J e3 with ⟨N,_⟩|N
  .have:o1.ro=F.ro:=by rw [<-h6.2.1,Obj.ro_ren]
   rw [this,a2] at N;cases N
  .exact N
 have e4:∀ b,XS C s1 η1 b->(b<w.heap.size->XS C s0 η b)/\XS (K6 Si w (XS C s0 η) fun i=>η (m i)) (ls So) η' b:=by
  intro b W;rcases W with ⟨W,hD⟩|⟨k,o,H,D⟩
  .refine ⟨fun _=>.inl ⟨W,hD⟩,.inl ⟨.inl ⟨W,hD⟩,fun K=>?_⟩⟩
   obtain ⟨i,o,c,A⟩:=K;obtain ⟨o1,J,_⟩:=hsi _ (J1 c)
   have b3:=h.ok.lt b W;rcases h.ow _ o1 b J A with ⟨_,N⟩|N|N
   .exact hD N
   .exact hD (h.ok.md b N)
   .omega
  .rcases B k o H with ⟨p,g,rfl,rfl⟩|⟨K,U,a0⟩
   .rw [O p g] at D
    refine ⟨fun b3=>?_,.inr ⟨p.1,p.2,E _ _ g,D⟩⟩;rcases hb.ow p.1 p.2 b (E _ _ g) D with ⟨_,⟨i,F,c,A⟩⟩|⟨i,F,c,_,A⟩|a8
    .exact .inr (a1 i F c b A)
    .exact .inr (a1 i F c b A)
    .have:w.heap.size<=b:=a8
     omega
   .rw [I k U] at D
    have b4:Own s0 η b:=⟨k,o,K,D⟩;refine ⟨fun _=>.inr b4,.inl ⟨.inr b4,fun W=>?_⟩⟩
    obtain ⟨i,F,c,A⟩:=W;exact a0 _ (J1 c) (T k o i F b K c D A).symm
 have d9:Q7o w w' (XS C s0 η) (XS C s1 η1):=by
  intro b b3 hX;refine ⟨hb.stp.block b b3 fun hM=>?_,fun W=>hX ((e4 b W).1 b3)⟩
  obtain ⟨i,F,c,_,A⟩:=hM;exact hX (.inr (a1 i F c b A))
 have e8:Q7o w' w' (XS (K6 Si w (XS C s0 η) fun i=>η (m i)) (ls So) η') (XS C s1 η1):=fun b _ hX=>⟨rfl,fun W=>hX (e4 b W).2⟩
 have d5:∀ p ∈ So,R (m p.1)\/m p.1 ∈ news:=by
  intro p g;rcases L p g with J|J
  .obtain ⟨o,K⟩:=G _ J
   obtain ⟨o1,N,_⟩:=hsi _ K;exact .inl (h.sr _ o1 N).1
  .exact .inr J
 have Q:∀ i,(So.map (·.1)).contains i=true->∃ p ∈ So,p.1=i:=by
  intro i c;have g6 : i ∈ So.map (·.1):=by simpa using c
  obtain ⟨p,g,e⟩:=List.mem_map.1 g6;exact ⟨p,g,e⟩
 have d0:∀ p ∈ So,ORep w' (XS C s1 η1) η1 C (η1 (m p.1)) (p.2.ren m):=by
  intro p g;have J:=hb.objs p.1 p.2 (E _ _ g)
  have N:=J.mono (η':=fun i=>η1 (m i)) e8 (fun i c=>by
   obtain ⟨q,S,rfl⟩:=Q i (List.all_eq_true.1 (List.all_eq_true.1 c5 p g) i c);exact O q S) (fun _ _=>rfl)
  rw [O p g];exact (N.toRen).ctx (by
   have:=List.all_eq_true.1 c8 p g
   cases hp2:p.2 with
   | box ro cs=>
    rw [hp2] at this;simp only [Obj.ren,Obj.noSem,List.all_map]
    rw [List.all_eq_true];intro x W
    have:=List.all_eq_true.1 this x W
    cases x <;> first|rfl|cases this
   | arr es n f=>rfl
   | ext p=>rfl
   | exr refs p=>rfl)
 refine ⟨η1,h.ok,by rw [Y2P];exact h.df,by rw [Y5W];exact h.sz,fun t=>?_,fun t i c=>?_,fun k o H=>?_,fun k o H=>?_,fun i j b c hj Y V=>?_,fun k o b H D=>?_,?_,fun i u c=>?_⟩
 .rw [Y2O a d v t (by rw [h.sz];exact hd)]
  unfold Z0r;have e6:ARep w' (XS C s1 η1) η1 C v (r.ren m):=by
   have N:=hb.res.mono (η':=fun i=>η1 (m i)) e8 (fun i c=>by
    obtain ⟨q,S,rfl⟩:=Q i (List.all_eq_true.1 c4 i c);exact O q S)
   exact (N.ctx c6).toRen
  cases d with
  | none=>exact (h.ev t).mono d9 fun i c=>eR i (h.er t i c)
  | some d=>
   simp only [Option.some.injEq]
   by_cases htd:t=d
   .subst htd;simp only [if_true];exact e6
   .rw [if_neg (fun Z=>htd Z.symm),if_neg htd]
    exact (h.ev t).mono d9 fun i c=>eR i (h.er t i c)
 .unfold Z0r at c
  have b5:i ∈ (e0 t).refs->R i\/i ∈ news:=fun Z=>.inl (h.er t i Z)
  have e7:i ∈ (r.ren m).refs->R i\/i ∈ news:=by
   intro Z;obtain ⟨j,hj,rfl⟩:=AVal.ren_refs r i Z
   obtain ⟨q,S,rfl⟩:=Q j (List.all_eq_true.1 c4 j hj);exact d5 q S
  cases d with
  | none=>exact b5 c
  | some d=>
   simp only at c
   by_cases htd:t=d
   .rw [if_pos htd] at c;exact e7 c
   .rw [if_neg htd] at c;exact b5 c
 .rcases B k o H with ⟨p,g,rfl,rfl⟩|⟨K,U,a0⟩
  .exact d0 p g
  .rw [I k U]
   refine (h.st k o K).mono d9 (fun j hj=>eR j ((h.sr k o K).2 j hj)) fun b D=>?_
   refine hb.stp.block b ((h.st k o K).lt D) fun hM=>?_
   obtain ⟨i,F,c,_,A⟩:=hM;exact a0 _ (J1 c) (T k o i F b K c D A).symm
 .rcases B k o H with ⟨p,g,rfl,rfl⟩|⟨K,U,a0⟩
  .refine ⟨d5 p g,fun j hj=>?_⟩
   obtain ⟨i,c,rfl⟩:=Obj.ren_refs p.2 j hj;obtain ⟨q,S,rfl⟩:=Q i (List.all_eq_true.1 (List.all_eq_true.1 c5 p g) i c)
   exact d5 q S
  .exact ⟨.inl (h.sr k o K).1,fun j hj=>.inl ((h.sr k o K).2 j hj)⟩
 .obtain ⟨F,g7⟩:=Option.ne_none_iff_exists'.1 c
  obtain ⟨oj,g5⟩:=Option.ne_none_iff_exists'.1 hj;have a7:∀ p ∈ So,∀ k o,s0 k=some o->(∀ p ∈ Si,m p.1≠k)->∀ b,b ∈ W2 (η' p.1)->b ∈ W2 (η k)->False:=by
   intro p g k o K hn b c0 a5;rcases hb.ow p.1 p.2 b (E _ _ g) c0 with ⟨_,⟨i,F,c,A⟩⟩|⟨i,F,c,_,A⟩|a8
   .exact hn _ (J1 c) (T k o i F b K c a5 A).symm
   .exact hn _ (J1 c) (T k o i F b K c a5 A).symm
   .have J:w.heap.size<=b:=a8
    have N:=(h.st k o K).lt a5;omega
  rcases B i F g7 with ⟨p,g,rfl,rfl⟩|⟨K,U,a0⟩ <;> rcases B j oj g5 with ⟨q,S,rfl,rfl⟩|⟨e5,b6,f4⟩
  .rw [O p g] at Y;rw [O q S] at V
   rw [hb.ds p.1 q.1 b (by rw [E _ _ g];simp) (by rw [E _ _ S];simp) Y V]
  .rw [O p g] at Y;rw [I _ b6] at V
   exact (a7 p g _ _ e5 f4 b Y V).elim
  .rw [O q S] at V;rw [I _ U] at Y
   exact (a7 q S _ _ K a0 b V Y).elim
  .rw [I _ U] at Y;rw [I _ b6] at V
   exact h.ds i j b (by rw [K];simp) (by rw [e5];simp) Y V
 .rcases B k o H with ⟨p,g,rfl,rfl⟩|⟨K,U,a0⟩
  .rw [O p g] at D
   rw [Obj.ro_ren];rcases hb.ow p.1 p.2 b (E _ _ g) D with ⟨a2,_⟩|⟨i,F,c,a2,A⟩|a8
   .
    have f2:p.1 ∈ Si.map (·.1):=by
     have:=List.all_eq_true.1 g9 p g
     simpa [a2] using this
    have h9:=List.all_eq_true.1 c9 p g;have f1 : (Si.map (·.1)).contains p.1=true:=by simpa using f2
    simp only [f1,Bool.not_true,Bool.false_or,List.any_eq_true] at h9;obtain ⟨q,S,d6⟩:=h9
    simp only [Bool.and_eq_true,beq_iff_eq] at d6;obtain ⟨o1,g1,g2⟩:=hsi q S
    rw [d6.1] at g1;rw [b7 _ f2] at D
    have e9:o1.ro=p.2.ro:=by rw [<-g2.2.1,Obj.ro_ren,d6.2]
    rw [<-e9];exact h.ow _ o1 b g1 D
   .exact .inr (a9 i F b c a2 A)
   .exact .inr (.inr (Nat.le_trans h.fr.size a8))
  .rw [I k U] at D
   exact h.ow k o b K D
 .refine h.fr.trans (hb.stp.mono fun b _ hM=>?_)
  obtain ⟨i,F,c,a2,A⟩:=hM;exact a9 i F b c a2 A
 .have:=h.pn i u c
  exact ⟨(eR i this.2).trans this.1,.inl this.2⟩
end
end
section
def CV.closed(x:CV):Bool:=x.refs.isEmpty&&x.noSem
def AVal.closed(x:AVal):Bool:=x.refs.isEmpty&&x.noSem
section
variable {w:World} {X:Nat->Prop} {η η' : Nat->Value} {C C' : Ctx}
theorem ARep.free{v:Value}{x:AVal}(h:ARep w X η C v x)(hx:x.closed=true):ARep w X η' C' v x:=by
 simp only [AVal.closed,Bool.and_eq_true,List.isEmpty_iff] at hx;exact (h.mono (fun b _ c=>⟨rfl,c⟩) (fun i a=>by rw [hx.1] at a;cases a)).ctx hx.2
theorem Q0e.free{vs:Array Value}{cs:List CV}(h:Q0e w X η C vs cs)(hx:cs.all CV.closed=true):Q0e w X η' C' vs cs:=by
 refine ⟨h.1,fun j c=>?_⟩;have:=List.all_eq_true.1 hx _ (Q0R (d:=.d .any) c)
 simp only [CV.closed,Bool.and_eq_true,List.isEmpty_iff] at this;exact ((h.2 j c).mono (fun b _ f=>⟨rfl,f⟩) (fun i a=>by rw [this.1] at a;cases a)).ctx this.2
end
def Q0B(P:Program)(F:List AVal->AVal->Prop)(w0:World)(D X:Nat->Prop)(v:Value):Prop:=
 ∃ f caps,v=.func (.func f) #[] caps/\(∀ args w,(callFunc f args).run P w=.ok (.enter f args) w) /\
  ∀ (w1:World) (X1:Nat->Prop) (vs:Array Value) (args:List AVal) (r:AVal),F args r->w0.heap.size<=w1.heap.size->(∀ b,b<w0.heap.size->¬ D b->w1.heap[b]?=w0.heap[b]?)->(∀ b,X1 b->b<w1.heap.size) ->
   (∀ b,b<w0.heap.size->¬ D b->(X1 b↔X b))->vs.size=args.length->(∀ j,j<args.length->∀ η C,ARep w1 X1 η C (vs.getD j undef) (args.getD j .any)) ->
   Calls P f (vs++caps) w1 fun e w'=>∃ v',e=.returned v' /\ Stp (fun _=>False) w1 w' /\ ∀ η C,ARep w' X1 η C v' r
def Z5z(P:Program)(F:List AVal->AVal->Prop):AVal:=.v (.c (.sem (Q0B P F)))
section
variable {P:Program} {C:Ctx} {nt:Nat} {ops:Array Oper} {e:Env} {s:Sto}
theorem Z7o{o:Oper}{fx:Operand}{xs:Array Operand}{tys:Array TypeId}(hop:o.op=.call { callee:=.value fx,args:=xs,argTypes:=tys }){a:Act}{w:World}{f:Nat}{caps:Array Value}(hf:a.eval fx=.func (.func f) #[] caps)(hcall:∀ args w,(callFunc f args).run P w=.ok (.enter f args) w):(execOp a.eval o).run P w=.ok (.enter f (xs.map a.eval++caps)) w:=by
 simp [execOp,hop,resolve,Deferred.ofValue,hf,invoke,hcall]
theorem Q5I{o:Oper}(hdo:Q1M nt o=true):∀ x,o.dst=some x->x<nt:=by
 intro x a;simp only [Q1M,a,Bool.and_eq_true,decide_eq_true_eq] at hdo
 exact hdo.1
theorem Z9N{w:World}{X:Nat->Prop}{η:Nat->Value}{v:Value}{f:Nat}{ids:List Nat}(h:ARep w X η C v (.v (.c (.clo f ids)))):v=.func (.func f) #[] (ids.map η).toArray:=by
 cases h with|v _ _ h=>cases h with|c _ _ h=>cases h with|clo _ _ vs h=>rw [h]
theorem Y9y{f:Nat}(hcall:∀ args w,(callFunc f args).run P w=.ok (.enter f args) w){o:Oper}{fx:Operand}{xs:Array Operand}{tys:Array TypeId}(hop:o.op=.call { callee:=.value fx,args:=xs,argTypes:=tys })(hfx:aev e fx=.v (.c (.clo f [])))(hrf:Q5E (Q0l o++U4 ops o) fx=true){args:List AVal}{Si:List (Nat×Obj)}{r:AVal}{So:List (Nat×Obj)}(hspec:K7 P f args Si r So)(hlen:xs.size=args.length)(m:Nat->Nat)(extra:List Nat)(hargs:∀ j,j<args.length->Q0i C nt e s Si m (Q0l o++U4 ops o) (Z2T e o++(Si.map (fun p=>m p.1)++extra)) (xs.toList.getD j (.const undef)) (args.getD j .any))(hsi:∀ p ∈ Si,∃ o1,s (m p.1)=some o1/\OLe o1 (p.2.ren m))(hchk:Q7a m r Si So=true)(hdo:Q1M nt o=true)(hg:Q8s ops e o=some true):StT P C nt ops o (Y5q ops o e m extra r Si So) e s:=by
 intro R η e0 F a w q k I h K Q hK;have W:=Q5N (e:=e) h (fun t ht=>q t (List.mem_append.2 (.inr ht))) hg
 rw [if_pos W];have A:=(W8 h fx).1
 rw [K4 q hrf,hfx] at A;have B:=Z9N A
 have N:=Z7o (w:=w) hop B hcall;have d:∀ p ∈ Si,∃ o1,F (m p.1)=some o1/\OLe o1 (p.2.ren m):=by
  intro p T;rw [k (m p.1) (List.mem_append.2 (.inr (List.mem_append.2 (.inl (List.mem_map.2 ⟨p,T,rfl⟩)))))]
  exact hsi p T
 simp only [Q7a,Bool.and_eq_true] at hchk;have l:=hchk
 obtain ⟨⟨⟨⟨⟨⟨⟨⟨⟨c1,c2⟩,c3⟩,c4⟩,c5⟩,c6⟩,Y⟩,c8⟩,c9⟩,a7⟩:=hchk;have E:∀ b,XS C F η b->b<w.heap.size:=by
  rintro b (⟨hx,_⟩|hx)
  .exact Nat.lt_of_lt_of_le (h.ok.lt b hx) h.fr.size
  .exact h.lt hx
 have D:∀ i u,ls Si i=some u -> u.noSem=true:=fun i u g=>List.all_eq_true.1 Y _ (J1 g)
 have M:=hspec w (XS C F η) (fun i=>η (m i)) (xs.map a.eval++(([]:List Nat).map η).toArray) E
  (fun b ⟨i,u,g,hib⟩=>by obtain ⟨o1,z,_⟩:=d _ (J1 g);exact .inr ⟨m i,o1,z,hib⟩)
  (fun i u g=>by
   obtain ⟨o1,z,O⟩:=d _ (J1 g);exact (ORep.unren (O.1 _ _ _ _ _ (h.st _ o1 z))).ctx (D i u g))
  (fun i j b g x H J=>by
   obtain ⟨oi,g⟩:=Option.ne_none_iff_exists'.1 g;obtain ⟨oj,x⟩:=Option.ne_none_iff_exists'.1 x
   obtain ⟨o1,z,_⟩:=d _ (J1 g);obtain ⟨o2,Z,_⟩:=d _ (J1 x)
   have y:m i=m j:=h.ds _ _ b (by rw [z];simp) (by rw [Z];simp) H J;have S:=Q4C c3
   rw [List.nodup_append] at S;exact Y7n (ρ:=m) S.2.1 (by rw [g];simp) (by rw [x];simp) y)
  (by simp [hlen])
  (fun j x=>by
   have L : j<xs.size:=by omega
   have e1:(xs.map a.eval++(([]:List Nat).map η).toArray).getD j undef=a.eval (xs.toList.getD j (.const undef)):=by
    simp [List.getD_eq_getElem?_getD,L]
   rw [e1];exact hargs j x R η e0 F a w q k h)
 unfold Oper.wp;rw [N]
 show Calls P f _ w _;refine M.mono fun en V U=>?_
 obtain ⟨v,η',rfl,hb⟩:=U;have n:Q7a m r Si So=true:=by simp only [Q7a,Bool.and_eq_true];exact l
 obtain ⟨η1,G⟩:=h.call (Q5I hdo) n d I hb;exact hK η1 _ V G
def Z5L(ops:Array Oper)(o:Oper)(e:Env)(r:AVal):Eff where
 rd:=Q0l o++U4 ops o
 ids:=Z2T e o
 v:=r
 l:=[]
 news:=[]
theorem Y5D{F:List AVal->AVal->Prop}{o:Oper}{fx:Operand}{xs:Array Operand}{tys:Array TypeId}(hop:o.op=.call { callee:=.value fx,args:=xs,argTypes:=tys })(hfx:aev e fx=Z5z P F){args:List AVal}{r:AVal}(hF:F args r)(hlen:xs.size=args.length)(hrd' : Q5E (Q0l o++U4 ops o) fx=true/\∀ x ∈ xs.toList,Q5E (Q0l o++U4 ops o) x=true)(hargs:∀ j,j<args.length->ALe (aev e (xs.toList.getD j (.const undef))) (args.getD j .any)/\(args.getD j .any).closed=true)(hr:r.closed=true)(hdo:Q1M nt o=true)(hg:Q8s ops e o=some true):StT P C nt ops o (Z5L ops o e r) e s:=by
 intro R η e0 q a w p a1 a5 d K Q hK;have hw:=Q5N (e:=e) d (fun t ht=>p t (List.mem_append.2 (.inr ht))) hg
 rw [if_pos hw];have m:=(W8 d fx).1
 rw [K4 p hrd'.1,hfx] at m;have H:Q0B P F C.w0 C.D C.X (a.eval fx):=by
  generalize a.eval fx=u at m
  cases m with|v _ _ h=>cases h with|c _ _ h=>cases h with|sem _ _ h _=>exact h
 obtain ⟨f,a0,S,n,V⟩:=H;have U:=Z7o (w:=w) hop S n
 have G:∀ b,XS C q η b->b<w.heap.size:=by
  rintro b (⟨g,_⟩|g)
  .exact Nat.lt_of_lt_of_le (d.ok.lt b g) d.fr.size
  .exact d.lt g
 have N:=V w (XS C q η) (xs.map a.eval) args r hF d.fr.size (fun b J y=>d.fr.block b J fun hM=>y (d.ok.md b hM)) G
  (fun b J y=>⟨fun g=>by
   rcases g with ⟨g,_⟩|⟨i,o',T,L⟩
   .exact g
   .rcases d.ow i o' b T L with ⟨_,I⟩|I|I
    .exact absurd I y
    .exact absurd (d.ok.md b I) y
    .omega,fun g=>.inl ⟨g,y⟩⟩) (by simp [hlen])
  (fun j B η2 C2=>by
   have E : j<xs.size:=by omega
   have e1:(xs.map a.eval).getD j undef=a.eval (xs.toList.getD j (.const undef)):=by simp [List.getD_eq_getElem?_getD,E]
   rw [e1];obtain ⟨g1,g2⟩:=hargs j B
   have g:=(W8 d (xs.toList.getD j (.const undef))).1;rw [K4 p (hrd'.2 _ (Q0R (by simpa using E)))] at g
   exact (g1.1 _ _ _ _ _ g).free g2)
 unfold Oper.wp;rw [U]
 show Calls P f _ w _;refine N.mono fun en W hh=>?_
 obtain ⟨v,rfl,A,z⟩:=hh;have Y:SR.sto { v:=r } o.dst q=q:=by funext i;simp [SR.sto]
 have Z:SR.eta { v:=r } o.dst v η=η:=by funext i;simp [SR.eta]
 have M:SR.rng { v:=r } o.dst R=R:=by funext i;simp [SR.rng]
 have:=d.step o.dst (Q5I hdo) { v:=r } v W (fun _=>False) A (fun b J=>J.elim) (fun o dd O=>by cases O) (fun k o O=>by cases O)
  (fun _=>by rw [Y,Z];refine ⟨z _ _,fun j B=>?_⟩;simp only [AVal.closed,Bool.and_eq_true,List.isEmpty_iff] at hr;simp only at B;rw [hr.1] at B;cases B)
 rw [Y,Z,M] at this;refine hK η _ W ?_
 have hu:upS (Z5L ops o e r).l q=q:=by funext i;rfl
 rw [hu];exact this.wider fun i T=>.inl T
theorem Q0i.sem{F:List AVal->AVal->Prop}{Si:List (Nat×Obj)}{m:Nat->Nat}{rd ids:List Nat}{x:Operand}(hx:Q5E rd x=true)(hv:aev e x=Z5z P F)(hsi:∀ p ∈ Si,∃ o1,s (m p.1)=some o1)(hin:∀ p ∈ Si,m p.1 ∈ ids):Q0i C nt e s Si m rd ids x (Z5z P F):=by
 intro R η e0 Z a w S I k;have o:=(W8 k x).1
 rw [K4 S hx,hv] at o;have K:Q0B P F C.w0 C.D C.X (a.eval x)/\(a.eval x).oneCell'=true:=by
  generalize a.eval x=u at o
  cases o with|v _ _ h=>cases h with|c _ _ h=>cases h with|sem _ _ h d=>exact ⟨h,d⟩
 obtain ⟨⟨f,B,Q,q,U⟩,z⟩:=K;refine .v _ _ (.c _ _ (.sem _ _ ⟨f,B,Q,q,?_⟩ z))
 intro V Y W J r hF T A M O N n;have H : w.heap.size<=V.heap.size:=T
 have E:∀ b,Own (ls Si) (fun i=>η (m i)) b->Own Z η b:=by
  rintro b ⟨i,L,y,g⟩;obtain ⟨o1,d⟩:=hsi _ (J1 y)
  exact ⟨m i,o1,by rw [I _ (hin _ (J1 y))];exact d,g⟩
 have G:∀ b,b<C.w0.heap.size->¬ C.D b->¬ Own (ls Si) (fun i=>η (m i)) b:=by
  intro b t j ho;obtain ⟨i,L,y,g⟩:=E b ho
  rcases k.ow i L b y g with ⟨_,d⟩|d|d
  .exact j d
  .exact j (k.ok.md b d)
  .omega
 refine U V Y W J r hF (Nat.le_trans k.fr.size H) (fun b t j=>?_) M (fun b t j=>?_) N n
 .have l:b<w.heap.size:=Nat.lt_of_lt_of_le t k.fr.size
  exact (A b l (G b t j)).trans (k.fr.block b t fun hM=>j (k.ok.md b hM))
 .have l:b<w.heap.size:=Nat.lt_of_lt_of_le t k.fr.size
  rw [O b l (G b t j)];constructor
  .rintro (⟨hx,_⟩|⟨i,L,y,g⟩)
   .exact hx
   .rcases k.ow i L b y g with ⟨_,d⟩|d|d
    .exact absurd d j
    .exact absurd (k.ok.md b d) j
    .omega
  .exact fun hx=>.inl ⟨hx,j⟩
def Z0g(cs:List (List CV)):List (Nat×Obj):=cs.zipIdx.map fun p=>(p.2,.box true p.1)
def Z8P(cs:List (List CV)):List AVal:=(List.range cs.length).map fun k=>.v (.c (.ptr k 0))
theorem Y8r(cs:List (List CV))(k:Nat):ls (Z0g cs) k=(cs[k]?).map (Obj.box true):=by
 have a:∀ (l:List (List CV)) (n k:Nat),((l.zipIdx n).map fun p=>(p.2,Obj.box true p.1)).lookup k=if k<n then none else (l[k-n]?).map (Obj.box true):=by
  intro l
  induction l with
  | nil=>intro n k;simp
  | cons x l ih=>
   intro n k;simp only [List.zipIdx_cons,List.map_cons,List.lookup_cons]
   by_cases hk:k=n
   .subst hk;simp
   .have:(k==n)=false:=by simpa using hk
    simp only [this];rw [ih (n+1) k]
    by_cases h1:k<n
    .rw [if_pos (by omega),if_pos h1]
    .rw [if_neg (by omega),if_neg h1]
     have:k-n=(k-(n+1))+1:=by omega
     rw [this];simp
 have:=a cs 0 k
 simpa [ls,Z0g] using this
theorem Q0i.clo{f:Nat}(hcall:∀ args w,(callFunc f args).run P w=.ok (.enter f args) w){F:List AVal->AVal->Prop}{cs:List (List CV)}(hspec:∀ args r,F args r->K7 P f (args++Z8P cs) (Z0g cs) r (Z0g cs))(hres:∀ args r,F args r->r.closed=true){Si:List (Nat×Obj)}{m:Nat->Nat}{rd ids:List Nat}{x:Operand}(hx:Q5E rd x=true){cids:List Nat}(hv:aev e x=.v (.c (.clo f cids)))(hlen:cids.length=cs.length)(hnd:Q3h cids=true)(hbox:∀ k,k<cs.length->∃ ro,s (cids.getD k 0)=some (.box ro (cs.getD k [])))(hcl:cs.all (fun c=>c.all CV.closed)=true)(hsi:∀ p ∈ Si,∃ o1,s (m p.1)=some o1)(hin:∀ p ∈ Si,m p.1 ∈ ids)(hcin:∀ i ∈ cids,i ∈ ids)(hapart:∀ p ∈ Si,m p.1 ∉ cids):Q0i C nt e s Si m rd ids x (Z5z P F):=by
 intro R η e0 Y a w c4 D hc;have a0:=(W8 hc x).1
 rw [K4 c4 hx,hv] at a0;have a1:=Z9N a0
 refine .v _ _ (.c _ _ (.sem _ _ ⟨f,_,a1,hcall,?_⟩ (by rw [a1];rfl)));intro V T I args r hF b2 J a5 Z b7 M
 have c5 : w.heap.size<=V.heap.size:=b2;have z:∀ k,k<cs.length->cids.getD k 0 ∈ cids:=fun k t=>Q0R (by omega)
 have l:∀ k,k<cs.length->∃ ro,Y (cids.getD k 0)=some (.box ro (cs.getD k [])):=by
  intro k t;obtain ⟨ro,d⟩:=hbox k t
  exact ⟨ro,by rw [D _ (hcin _ (z k t))];exact d⟩
 have y:∀ k,k<cs.length->∃ b L S,η (cids.getD k 0)=.pointer (some ⟨b,0,none⟩)/\w.heap[b]?=some (.cells L S (0,0))/\Q0e w (XS C Y η) η C L (cs.getD k []):=by
  intro k t;obtain ⟨ro,d⟩:=l k t
  have:=hc.st _ _ d
  generalize η (cids.getD k 0)=u at this
  cases this with
  | box b _ L S _ G hcs=>exact ⟨b,L,S,rfl,G,hcs⟩
 have E:∀ k,k<cs.length->∀ b,b ∈ W2 (η (cids.getD k 0))->¬ Own (ls Si) (fun i=>η (m i)) b:=by
  rintro k t b G ⟨i,A,g,n⟩;obtain ⟨ro,d⟩:=l k t
  obtain ⟨o1,H⟩:=hsi _ (J1 g);have b9 : Y (m i)=some o1:=by rw [D _ (hin _ (J1 g))];exact H
  have:=hc.ds _ _ b (by rw [d];simp) (by rw [b9];simp) G n
  exact hapart _ (J1 g) (this ▸ z k t)
 have a8:∀ b,Own (ls Si) (fun i=>η (m i)) b->XS C Y η b:=by
  rintro b ⟨i,A,g,n⟩;obtain ⟨o1,H⟩:=hsi _ (J1 g)
  exact .inr ⟨m i,o1,by rw [D _ (hin _ (J1 g))];exact H,n⟩
 have t:Q7o w V (XS C Y η) T:=by
  intro b G hX;have a2:¬ Own (ls Si) (fun i=>η (m i)) b:=fun W=>hX (a8 b W)
  exact ⟨J b G a2,fun hx=>hX ((Z b G a2).1 hx)⟩
 have q:∀ k o,ls (Z0g cs) k=some o->k<cs.length/\o=.box true (cs.getD k []):=by
  intro k o t;rw [Y8r] at t
  rcases Nat.lt_or_ge k cs.length with d|d
  .rw [List.getElem?_eq_getElem d] at t
   cases t
   exact ⟨d,by rw [List.getD_eq_getElem?_getD,List.getElem?_eq_getElem d];rfl⟩
  .rw [List.getElem?_eq_none d] at t;cases t
 have B:∀ b,Own (ls (Z0g cs)) (fun k=>η (cids.getD k 0)) b->T b:=by
  rintro b ⟨k,A,N,O⟩;obtain ⟨h,_⟩:=q k A N
  obtain ⟨ro,d⟩:=l k h;have c3:b<w.heap.size:=(hc.st _ _ d).lt O
  exact (Z b c3 (E k h b O)).2 (.inr ⟨_,_,d,O⟩)
 have b5:=hspec args r hF V T (fun k=>η (cids.getD k 0)) (I++(cids.map η).toArray) a5 B
  (fun k o N=>by
   obtain ⟨h,rfl⟩:=q k o N;obtain ⟨b,L,S,d,H,h3⟩:=y k h
   have c1:=E k h b (by rw [d];simp [W2]);show ORep V T _ _ (η (cids.getD k 0)) _
   rw [d];have b4:(cs.getD k []).all CV.closed=true:=List.all_eq_true.1 hcl _ (Q0R h)
   exact .box b true L S _ ((J b (y7 H) c1).trans H) ((h3.mono (η':=η) t (fun _ _=>rfl)).free b4))
  (fun i j b g Q c0 b1=>by
   obtain ⟨oi,g⟩:=Option.ne_none_iff_exists'.1 g;obtain ⟨oj,Q⟩:=Option.ne_none_iff_exists'.1 Q
   obtain ⟨a9,_⟩:=q i oi g;obtain ⟨b6,_⟩:=q j oj Q
   obtain ⟨r1,d⟩:=l i a9;obtain ⟨r2,H⟩:=l j b6
   have U:=hc.ds _ _ b (by rw [d];simp) (by rw [H];simp) c0 b1;have hn:=Q4C hnd
   have a6:i<cids.length:=by omega
   have a7:j<cids.length:=by omega
   rw [List.getD_eq_getElem?_getD,List.getD_eq_getElem?_getD,List.getElem?_eq_getElem a6,List.getElem?_eq_getElem a7] at U;exact (List.getElem_inj hn).1 (by simpa using U))
  (by simp [b7,Z8P,hlen])
  (fun j Q=>by
   rw [List.length_append] at Q
   by_cases hja:j<args.length
   .have e1:(I++(cids.map η).toArray).getD j undef=I.getD j undef:=by
     have:j<I.size:=by omega
     simp [Array.getD_eq_getD_getElem?,Array.getElem?_append,this]
    have e2:(args++Z8P cs).getD j .any=args.getD j .any:=by simp [List.getD_eq_getElem?_getD,List.getElem?_append,hja]
    rw [e1,e2];exact M j hja _ _
   .have h:j-args.length<cs.length:=by simp [Z8P] at Q;omega
    obtain ⟨b,L,S,d,H,h3⟩:=y _ h;have e1:(I++(cids.map η).toArray).getD j undef=η (cids.getD (j-args.length) 0):=by
     have g1:¬ j<I.size:=by omega
     have g2:j-I.size<cids.length:=by omega
     have g3:j-args.length<cids.length:=by omega
     have:j-I.size=j-args.length:=by omega
     simp [Array.getD_eq_getD_getElem?,Array.getElem?_append,g1,List.getD_eq_getElem?_getD,this,g3]
    have e2:(args++Z8P cs).getD j .any=.v (.c (.ptr (j-args.length) 0)):=by
     simp [List.getD_eq_getElem?_getD,List.getElem?_append,hja,Z8P,h]
    rw [e1,e2,d];exact .v _ _ (.c _ _ (.ptr b _ 0 d)))
 refine b5.mono fun en w' hh=>?_
 obtain ⟨v,η',rfl,G⟩:=hh;refine ⟨v,rfl,G.stp.mono fun b _ hM=>?_,fun η2 C2=>?_⟩
 .obtain ⟨i,A,g,b8,_⟩:=hM
  obtain ⟨_,rfl⟩:=q i A g;cases b8
 .have hX:∀ b,XS (K6 (Z0g cs) V T fun k=>η (cids.getD k 0)) (ls (Z0g cs)) η' b↔T b:=by
   have K:∀ i A,ls (Z0g cs) i=some A -> η' i=η (cids.getD i 0):=by
    intro i A g;refine G.pn i _ ?_
    unfold ls at g;simp [K6,g]
   intro b;constructor
   .rintro (⟨hx,_⟩|⟨i,A,g,n⟩)
    .exact hx
    .rw [K i A g] at n
     exact B b ⟨i,A,g,n⟩
   .intro hx
    rcases Classical.em (Own (ls (Z0g cs)) (fun k=>η (cids.getD k 0)) b) with W|W
    .obtain ⟨i,A,g,n⟩:=W
     exact .inr ⟨i,A,g,by rw [K i A g];exact n⟩
    .exact .inl ⟨hx,W⟩
  exact (G.res.mono (η':=η') (fun b _ hx=>⟨rfl,fun b0=>hx ((hX b).2 b0)⟩) (fun _ _=>rfl)).free (hres args r hF)
end
end
section
class Emb (α:Type) where
 cells:α->List DVal
 es:Nat
 d:α
 len:∀ x,(cells x).length=es
section
variable {α:Type} [Emb α]
def LF(l:List α)(i:Nat):List DVal:=Emb.cells (l.getD i Emb.d)
def DL(l:List α):DVal:=.lst l.length (LF l)
def AL(l:List α):AVal:=.v (.c (.d (DL l)))
def AO(l:List α):Obj:=.arr (Emb.es α) l.length (LF l)
structure Is (n:Nat) (f:Nat->List DVal) (l:List α):Prop where
 len_eq:n=l.length
 at_eq:∀ i,i<n->f i=LF l i
theorem Is.refl(l:List α):Is l.length (LF l) l:=⟨rfl,fun _ _=>rfl⟩
theorem Is.nil{f:Nat->List DVal}:Is 0 f ([]:List α):=⟨rfl,fun i a=>by omega⟩
theorem Is.app{n k:Nat}{f g:Nat->List DVal}{l m:List α}(h:Is n f l)(h' : Is k g m):Is (n+k) (Q5L n f g) (l++m):=by
 obtain ⟨d,b⟩:=h;obtain ⟨a,c⟩:=h'
 subst d a;refine ⟨by simp,fun i j=>?_⟩
 unfold Q5L LF
 by_cases hil:i<l.length
 .rw [if_pos hil,b i hil,LF,List.getD_eq_getElem?_getD,List.getD_eq_getElem?_getD,List.getElem?_append_left hil]
 .rw [if_neg hil,c _ (by omega),LF,List.getD_eq_getElem?_getD,List.getD_eq_getElem?_getD,List.getElem?_append_right (by omega)]
theorem Y8U{β γ:Type}{l:List β}{m:List γ}{δ:Type}{f:β->δ}{g:γ->δ}(h:l.map f=m.map g)(i:Nat):(l[i]?).map f=(m[i]?).map g:=by
 rw [<-List.getElem?_map, <-List.getElem?_map,h]
theorem Is.lit{k:Nat}{g:Nat->List DVal}(ys:List α)(h:(List.range k).map g=ys.map Emb.cells):Is k g ys:=by
 have b:k=ys.length:=by simpa using congrArg List.length h
 refine ⟨b,fun i a=>?_⟩;have:=Y8U h i
 rw [List.getElem?_range a,List.getElem?_eq_getElem (by omega)] at this;simp only [Option.map_some,Option.some.injEq] at this
 rw [this,LF,List.getD_eq_getElem?_getD,List.getElem?_eq_getElem (by omega)];rfl
theorem Is.set{n i:Nat}{f:Nat->List DVal}{l:List α}{off:Nat}{ds:List DVal}(h:Is n f l)(hi:i<n)(y:α)(hy:Q4E (f i) off ds=Emb.cells y):
  Is n (fun j=>if j=i then Q4E (f i) off ds else f j) (l.set i y):=by
 obtain ⟨c,b⟩:=h;refine ⟨by simpa using c,fun j a=>?_⟩
 unfold LF;rw [List.getD_eq_getElem?_getD]
 by_cases hji:j=i
 .subst hji
  rw [if_pos rfl,hy,List.getElem?_set_self (by omega)];rfl
 .rw [if_neg hji,List.getElem?_set_ne (fun h=>hji h.symm),b j a,LF,List.getD_eq_getElem?_getD]
theorem Is.take{n:Nat}{f:Nat->List DVal}{l:List α}(h:Is n f l){k:Int}(hk:k<=n):Is k.toNat f (l.take k.toNat):=by
 obtain ⟨c,b⟩:=h;refine ⟨by simp;omega,fun j a=>?_⟩
 rw [b j (by omega),LF,LF,List.getD_eq_getElem?_getD,List.getD_eq_getElem?_getD,List.getElem?_take,if_pos a]
theorem Is.rep{n:Nat}{z:List DVal}(hz:z=Emb.cells (Emb.d:α)):Is n (fun _=>z) (List.replicate n (Emb.d:α)):=by
 refine ⟨by simp,fun j a=>?_⟩;rw [hz,LF,List.getD_eq_getElem?_getD,List.getElem?_replicate,if_pos a];rfl
theorem Is.len{n:Nat}{f:Nat->List DVal}{l:List α}(h:Is n f l):∀ j,j<n->(f j).length=Emb.es α:=fun j a=>by rw [h.at_eq j a];exact Emb.len _
theorem DRep.is{w:World}{X:Nat->Prop}{v:Value}{n:Nat}{f:Nat->List DVal}{l:List α}(h:Is n f l)(hr:DRep w X v (.lst n f)):DRep w X v (DL l):=by
 obtain ⟨k,g⟩:=h;unfold DL
 cases hr with
 | nil a cap _=>
  have:l.length=0:=k.symm
  rw [this];exact .nil a cap _
 | lst b off n cap c e fz _ es g1 g2 g3 g4 g5 g6=>
  rw [<-k];exact .lst b off n cap c e fz _ es g1 g2 g3 g4 (fun i d=>by rw [<-g i d];exact g5 i d) fun i j d m=>by rw [<-g i d];exact g6 i j d m
theorem OLe.is{n:Nat}{f:Nat->List DVal}{l:List α}(h:Is n f l):OLe (.arr (Emb.es α) n f) (AO l):=by
 refine ⟨fun w X η C v m=>?_,rfl,fun i a=>by cases a⟩;obtain ⟨g,d⟩:=h
 unfold AO
 cases m with
 | nil ad es _=>
  have:l.length=0:=g.symm
  rw [this];exact .nil ad _ _
 | arr b n cap es c e _ g1 g2 g3 g4 g5 g6 g7=>
  rw [<-g];exact .arr b n cap _ c e _ g1 g2 g3 g4 g5 (fun i a=>by rw [<-d i a];exact g6 i a) fun i j a k=>by rw [<-d i a];exact g7 i j a k
theorem Z7O(l:List α)(lo hi:Option Int)(h:(sl l.length (LF l) lo hi).2):Is (sl l.length (LF l) lo hi).1.1 (sl l.length (LF l) lo hi).1.2
  (match lo,hi with|none,none=>l|some a,none=>l.drop a.toNat|none,some b=>l.take b.toNat|some a,some b=>(l.take b.toNat).drop a.toNat):=by
 cases lo with
 | none=>cases hi with
  | none=>exact .refl l
  | some b=>exact (Is.refl l).take h.2
 | some a=>cases hi with
  | none=>
   refine ⟨by simp [sl],fun i hi=>?_⟩;simp only [sl,LF,List.getD_eq_getElem?_getD,List.getElem?_drop]
  | some b=>
   simp only [sl] at h;refine ⟨by simp only [sl,List.length_drop,List.length_take];omega,fun i hi=>?_⟩
   simp only [sl] at hi;simp only [sl,LF,List.getD_eq_getElem?_getD,List.getElem?_drop,List.getElem?_take]
   rw [if_pos (by omega)]
end
def CLe(x y:CV):Prop:=(∀ w X η C v,CRep w X η C v x->CRep w X η C v y)/\∀ i ∈ y.refs,i ∈ x.refs
theorem CLe.refl(x:CV):CLe x x:=⟨fun _ _ _ _ _ h=>h,fun _ h=>h⟩
theorem CLe.lst{α:Type}[Emb α]{n:Nat}{f:Nat->List DVal}{l:List α}(h:Is n f l):CLe (.d (.lst n f)) (.d (DL l)):=
 ⟨fun w X η C v a=>by cases a with|d _ _ a=>exact .d _ _ (a.is h),fun i b=>by cases b⟩
theorem CLe.fl{α:Type}[Emb α]{n:Nat}{f:Nat->List DVal}{l:List α}(h:Is n f l):CLe (.fl n f) (.d (DL l)):=
 ⟨fun w X η C v a=>by cases a with|fl _ _ _ a=>exact .d _ _ (a.is h),fun i b=>by cases b⟩
theorem CLe.fls{α:Type}[Emb α]{n:Nat}{f:Nat->List DVal}{l:List α}(h:Is n f l):CLe (.fl n f) (.fl l.length (LF l)):=
 ⟨fun w X η C v a=>by
  cases a with
  | fl _ _ _ a=>
   have:=a.is h
   unfold DL at this;have c:=h.len_eq
   subst c;exact .fl _ _ _ this,fun i b=>by cases b⟩
def Y6G:List CV->List CV->Prop
 | [],[]=>True
 | x::xs,y::ys=>CLe x y/\Y6G xs ys
 | _,_=>False
theorem Y6G.spec{xs ys:List CV}(h:Y6G xs ys):xs.length=ys.length/\(∀ j,CLe (xs.getD j (.d .any)) (ys.getD j (.d .any)))/\∀ i ∈ ys.flatMap CV.refs,i ∈ xs.flatMap CV.refs:=by
 induction xs generalizing ys with
 | nil=>cases ys with
  | nil=>exact ⟨rfl,fun j=>CLe.refl _,fun i a=>a⟩
  | cons y ys=>exact h.elim
 | cons x xs ih=>cases ys with
  | nil=>exact h.elim
  | cons y ys=>
   obtain ⟨b,g⟩:=h;obtain ⟨c,k,f⟩:=ih g
   refine ⟨by simp [c],fun j=>?_,fun i a=>?_⟩
   .cases j with
    | zero=>exact b
    | succ j=>exact k j
   .simp only [List.flatMap_cons,List.mem_append] at a ⊢
    rcases a with a|a
    .exact .inl (b.2 i a)
    .exact .inr (f i a)
theorem Y6G.rep{xs ys:List CV}(h:Y6G xs ys){w:World}{X:Nat->Prop}{η:Nat->Value}{C:Ctx}{vs:Array Value}(hv:Q0e w X η C vs xs):Q0e w X η C vs ys:=by
 obtain ⟨a,b,_⟩:=h.spec;exact ⟨hv.1.trans a,fun j c=>(b j).1 _ _ _ _ _ (hv.2 j (by omega))⟩
def TLe(x y:TV):Prop:=(∀ w X η C v,TRep w X η C v x->TRep w X η C v y)/\∀ i ∈ y.refs,i ∈ x.refs
theorem TLe.c{x y:CV}(h:CLe x y):TLe (.c x) (.c y):=⟨fun w X η C v a=>by cases a with|c _ _ a=>exact .c _ _ (h.1 _ _ _ _ _ a),h.2⟩
theorem TLe.g{xs ys:List CV}(h:Y6G xs ys):TLe (.g xs) (.g ys):=⟨fun w X η C v a=>by cases a with|g _ _ a=>exact .g _ _ (h.rep a),h.spec.2.2⟩
theorem ALe.v{x y:TV}(h:TLe x y):ALe (.v x) (.v y):=⟨fun w X η C v a=>by cases a with|v _ _ a=>exact .v _ _ (h.1 _ _ _ _ _ a),h.2⟩
theorem ALe.c{x y:CV}(h:CLe x y):ALe (.v (.c x)) (.v (.c y)):=.v (.c h)
theorem ALe.g{xs ys:List CV}(h:Y6G xs ys):ALe (.v (.g xs)) (.v (.g ys)):=.v (.g h)
theorem OLe.box{ro:Bool}{xs ys:List CV}(h:Y6G xs ys):OLe (.box ro xs) (.box ro ys):=
 ⟨fun w X η C v a=>by cases a with|box b _ c e _ h1 h2=>exact .box b ro c e _ h1 (h.rep h2),rfl,h.spec.2.2⟩
theorem ALe.lst{α:Type}[Emb α]{n:Nat}{f:Nat->List DVal}{l:List α}(h:Is n f l):ALe (.v (.c (.d (.lst n f)))) (AL l):=.c (.lst h)
theorem ALe.bool{b c:Bool}(h:b=c):ALe (vb b) (vb c):=.of_eq (congrArg vb h)
def FE:List (Nat×AVal)->List (Nat×AVal)->Prop
 | [],[]=>True
 | (t,x)::E,(u,y)::E'=>t=u/\ALe x y/\FE E E'
 | _,_=>False
def FSl:List (Nat×Obj)->List (Nat×Obj)->Prop
 | [],[]=>True
 | (t,x)::E,(u,y)::E'=>t=u/\OLe x y/\FSl E E'
 | _,_=>False
theorem FE.lk{E E' : List (Nat×AVal)}(h:FE E E')(t:Nat):ALe (lk E t) (lk E' t):=by
 induction E generalizing E' with
 | nil=>cases E' with
  | nil=>exact ALe.refl _
  | cons p r=>exact h.elim
 | cons p r ih=>cases E' with
  | nil=>exact h.elim
  | cons q s=>
   obtain ⟨a,c,b⟩:=h;have:=ih b
   unfold Ab.lk at this ⊢;obtain ⟨u,x⟩:=p
   obtain ⟨d,y⟩:=q;simp only at a
   subst a;rw [List.lookup_cons,List.lookup_cons]
   cases htu:t==u with
   | true=>exact c
   | false=>exact this
theorem FSl.ls{S S' : List (Nat×Obj)}(h:FSl S S')(i:Nat)(o' : Obj)(hi:ls S' i=some o'):∃ o,ls S i=some o/\OLe o o':=by
 induction S generalizing S' with
 | nil=>cases S' with
  | nil=>cases hi
  | cons p r=>exact h.elim
 | cons p r ih=>cases S' with
  | nil=>exact h.elim
  | cons q s=>
   obtain ⟨a,c,b⟩:=h;have:=ih b
   unfold Ab.ls at this hi ⊢;obtain ⟨u,x⟩:=p
   obtain ⟨d,y⟩:=q;simp only at a
   subst a;rw [List.lookup_cons] at hi ⊢
   cases htu:i==u with
   | true=>rw [htu] at hi;cases hi;exact ⟨x,rfl,c⟩
   | false=>rw [htu] at hi;exact this hi
section
variable {P:Program} {C:Ctx} {nt:Nat} {L:Lay} {pins:List Nat} {K:Act->World->Prop} {E:List (Nat×AVal)} {S:List (Nat×Obj)} {Q:Exit->Act->World->Prop}
theorem Q6I(E' : List (Nat×AVal))(S' : List (Nat×Obj))(hE:FE E E')(hS:FSl S S')(h:Kn C nt E' S' K):Kn C nt E S K:=by
 intro R η a w c;refine h R (fun i=>η i) a w (c.conv (fun i=>i) (fun t=>by rw [AVal.ren_id];exact hE.lk t) (fun i x b=>?_) (fun i j b f d=>d) (fun u i b=>c.er u i ((hE.lk u).2 i b)) (fun i x b=>?_) (fun i b=>?_))
 .rw [Obj.ren_id];exact hS.ls i x b
 .obtain ⟨o,k,g⟩:=hS.ls i x b
  have:=c.sr i o k
  exact ⟨this.1,fun j f=>this.2 j (g.2.2 j f)⟩
 .obtain ⟨v,l⟩:=Option.ne_none_iff_exists'.1 b
  exact ⟨rfl,(c.pn i v l).2⟩
theorem Fr.pinsB(Fm:Fr P L C pins){ρ:List (Nat×Nat)}(h:pins.all (fun i=>J6 ρ i==i)=true):pinsB C (J6 ρ):=fun i a=>by
 have:=List.all_eq_true.1 h i (Fm.pin i a)
 simpa using this
theorem Kn.re(Fm:Fr P L C pins)(ρ:List (Nat×Nat))(E' : List (Nat×AVal))(S' : List (Nat×Obj))(hp:pins.all (fun i=>J6 ρ i==i)=true)(hE:E'.map (fun p=>lk E p.1)=E'.map (fun p=>p.2.ren (J6 ρ)))(hS:S'.map (fun p=>ls S (J6 ρ p.1))=S'.map (fun p=>some (p.2.ren (J6 ρ))))(hinj:Q3h (S'.map fun p=>J6 ρ p.1)=true)(h:Kn C nt E' S' K):Kn C nt E S K:=
 W3H ρ (Fm.pinsB hp) hE hS hinj h
def CV.frz(k n:Nat)(f:Nat->List DVal):CV->CV
 | .own i=>if i=k then .d (.lst n f) else .own i
 | .ap i=>if i=k then .d (.lst n f) else .ap i
 | x=>x
def TV.frz(k n:Nat)(f:Nat->List DVal):TV->TV
 | .c x=>.c (x.frz k n f)
 | .g xs=>.g (xs.map (CV.frz k n f))
def AVal.frz(k n:Nat)(f:Nat->List DVal):AVal->AVal
 | .any=>.any
 | .v x=>.v (x.frz k n f)
 | .t xs=>.t (xs.map (TV.frz k n f))
def Obj.frz(k n:Nat)(f:Nat->List DVal):Obj->Obj
 | .box ro cs=>.box ro (cs.map (CV.frz k n f))
 | o=>o
end
section
variable {w:World} {X X' : Nat->Prop} {η:Nat->Value} {C:Ctx} {k n:Nat} {f:Nat->List DVal}
theorem CRep.frz{v:Value}{x:CV}(h:CRep w X η C v x)(hX:∀ b,¬ X b->¬ X' b)(hk:DRep w X' (η k) (.lst n f)):CRep w X' η C v (x.frz k n f):=by
 have a:∀ b,b<w.heap.size->¬ X b->w.heap[b]?=w.heap[b]? /\ ¬ X' b:=fun b _ o=>⟨rfl,hX b o⟩
 cases h with
 | d _ _ h=>exact .d _ _ (h.mono a)
 | fl _ _ _ h=>exact .fl _ _ _ (h.mono a)
 | own _ i h h1=>
  simp only [CV.frz];split
  .rename_i g;subst g;rw [h];exact .d _ _ hk
  .exact .own _ _ h h1
 | ptr _ _ _ h=>exact .ptr _ _ _ h
 | pte _ _ _ _ _ _ _ h=>exact .pte _ _ _ _ _ _ _ h
 | sub b N cap _ es lo n h h1 h2=>exact .sub b N cap _ es lo n h h1 h2
 | subN ad ad' N _ es h=>exact .subN ad ad' N _ es h
 | elm b off c e fz cs h1 h2 h3 h4=>exact .elm b off c e fz cs (hX _ h1) h2 h3 fun j m=>(h4 j m).mono a
 | clo _ _ _ h=>exact .clo _ _ _ h
 | sem _ _ h h1=>exact .sem _ _ h h1
 | ap v i h h1=>
  simp only [CV.frz];split
  .rename_i g
   subst g;rcases h with h|h|⟨l,h⟩
   .rw [<-h];exact .d _ _ hk
   .rw [h] at hk;cases hk
   .rw [h] at hk;cases hk
  .exact .ap _ _ h h1
 | bnd f vs cs h1 h2=>exact .bnd f vs cs h1 fun j m=>(h2 j m).mono a
 | cp _ id j vs h h1 h2=>exact .cp _ id j vs h h1 h2
theorem Q0e.frz{vs:Array Value}{cs:List CV}(h:Q0e w X η C vs cs)(hX:∀ b,¬ X b->¬ X' b)(hk:DRep w X' (η k) (.lst n f)):Q0e w X' η C vs (cs.map (CV.frz k n f)):=by
 refine ⟨by simpa using h.1,fun j c=>?_⟩;have a : j<cs.length:=by simpa using c
 have:=(h.2 j a).frz hX hk
 rw [List.getD_eq_getElem?_getD,List.getElem?_map,List.getElem?_eq_getElem a];rw [List.getD_eq_getElem?_getD,List.getElem?_eq_getElem a] at this
 exact this
theorem TRep.frz{v:Value}{x:TV}(h:TRep w X η C v x)(hX:∀ b,¬ X b->¬ X' b)(hk:DRep w X' (η k) (.lst n f)):TRep w X' η C v (x.frz k n f):=by
 cases h with
 | c _ _ h=>exact .c _ _ (h.frz hX hk)
 | g _ _ h=>exact .g _ _ (h.frz hX hk)
theorem ARep.frz{v:Value}{x:AVal}(h:ARep w X η C v x)(hX:∀ b,¬ X b->¬ X' b)(hk:DRep w X' (η k) (.lst n f)):ARep w X' η C v (x.frz k n f):=by
 cases h with
 | any=>exact .any v
 | v _ _ h=>exact .v _ _ (h.frz hX hk)
 | t us xs h1 h2=>
  refine .t us _ (by simpa using h1) fun j c=>?_
  have a : j<xs.length:=by simpa using c
  have:=(h2 j a).frz hX hk
  rw [List.getD_eq_getElem?_getD,List.getElem?_map,List.getElem?_eq_getElem a];rw [List.getD_eq_getElem?_getD,List.getElem?_eq_getElem a] at this
  exact this
theorem ORep.frz{v:Value}{o:Obj}(h:ORep w X η C v o)(hX:∀ b,¬ X b->¬ X' b)(hk:DRep w X' (η k) (.lst n f)):ORep w X' η C v (o.frz k n f):=by
 cases h with
 | box b ro c e cs h1 h2=>exact .box b ro c e _ h1 (h2.frz hX hk)
 | nil ad es f=>exact .nil ad es f
 | arr b n cap es c e f h1 h2 h3 h4 h5 h6 h7=>exact .arr b n cap es c e f h1 h2 h3 h4 h5 h6 fun i j d g=>(h7 i j d g).mono fun b _ a=>⟨rfl,hX b a⟩
 | ext _ p h1 h2 h3=>exact .ext _ p (h2 w w X X' (fun b _ a=>⟨rfl,hX b a⟩) (fun _ _=>rfl) h1) h2 h3
 | exr _ refs p h1 h2 h3=>exact .exr _ refs p (h2 w w X X' (fun b _ a=>⟨rfl,hX b a⟩) (fun _ _=>rfl) h1) h2 h3
theorem Q4x{α β:Type}{fr:α->List Nat}{gr:β->List Nat}{g:α->β}{l:List α}(h:∀ x,∀ j ∈ gr (g x),j ∈ fr x):∀ j ∈ (l.map g).flatMap gr,j ∈ l.flatMap fr:=by
 intro j a;obtain ⟨y,c,a⟩:=List.mem_flatMap.1 a
 obtain ⟨x,b,rfl⟩:=List.mem_map.1 c;exact List.mem_flatMap.2 ⟨x,b,h x j a⟩
theorem CV.frz_refs(x:CV):∀ j ∈ (x.frz k n f).refs,j ∈ x.refs:=by
 cases x <;> simp only [CV.frz] <;> try exact fun j a=>a
 all_goals
  split
  .intro j a;cases a
  .exact fun j a=>a
theorem TV.frz_refs(x:TV):∀ j ∈ (x.frz k n f).refs,j ∈ x.refs:=by
 cases x with
 | c x=>exact CV.frz_refs x
 | g xs=>exact Q4x CV.frz_refs
theorem AVal.frz_refs(x:AVal):∀ j ∈ (x.frz k n f).refs,j ∈ x.refs:=by
 cases x with
 | any=>exact fun j a=>a
 | v x=>exact TV.frz_refs x
 | t xs=>exact Q4x TV.frz_refs
theorem Obj.frz_refs(o:Obj):∀ j ∈ (o.frz k n f).refs,j ∈ o.refs:=by
 cases o with
 | box ro cs=>exact Q4x CV.frz_refs
 | arr es n f=>exact fun j a=>a
 | ext p=>exact fun j a=>a
 | exr refs p=>exact fun j a=>a
end
end
section
section
variable {P:Program} {C:Ctx} {nt:Nat} {L:Lay} {pins:List Nat} {K:Act->World->Prop} {E:List (Nat×AVal)} {S:List (Nat×Obj)} {Q:Exit->Act->World->Prop}
theorem Y5f{g:AVal->AVal}(hg:g .any=.any)(E:List (Nat×AVal))(t:Nat):lk (E.map fun p=>(p.1,g p.2)) t=g (lk E t):=by
 unfold lk
 induction E with
 | nil=>exact hg.symm
 | cons p r ih=>
  rw [List.map_cons,List.lookup_cons,List.lookup_cons]
  cases htp:t==p.1 with
  | true=>rfl
  | false=>exact ih
theorem Z4z{g:Obj->Obj}(S:List (Nat×Obj))(i:Nat):ls (S.map fun p=>(p.1,g p.2)) i=(ls S i).map g:=by
 unfold ls
 induction S with
 | nil=>rfl
 | cons p r ih=>
  rw [List.map_cons,List.lookup_cons,List.lookup_cons]
  cases htp:i==p.1 with
  | true=>rfl
  | false=>exact ih
theorem Kn.frz{k es n:Nat}{f:Nat->List DVal}(E' : List (Nat×AVal))(S' : List (Nat×Obj))(hE:E.map (fun p=>(p.1,p.2.frz k n f))=E')(hS:S.map (fun p=>(p.1,p.2.frz k n f))=S')(hk:(S.map (·.1)).contains k=false)(h:Kn C nt E' S' K):Kn C nt E ((k,.arr es n f)::S) K:=by
 subst hE hS;intro R η a w m
 have z:ls ((k,.arr es n f)::S) k=some (.arr es n f):=by unfold ls;rw [List.lookup_cons];simp
 have J:ls S k=none:=by
  cases ho:ls S k with
  | none=>rfl
  | some o=>
   have:k ∈ S.map (·.1):=List.mem_map.2 ⟨_,J1 ho,rfl⟩
   rw [List.contains_iff_mem.2 this] at hk;cases hk
 have l:∀ i o,ls S i=some o->ls ((k,.arr es n f)::S) i=some o/\i≠k:=by
  intro i o d;have r:i≠k:=by intro h;rw [h,J] at d;cases d
  refine ⟨?_,r⟩;unfold ls;rw [List.lookup_cons]
  have:(i==k)=false:=by simpa using r
  rw [this];exact d
 have y:∀ b,Own (ls (S.map fun p=>(p.1,p.2.frz k n f))) η b->Own (ls S) η b:=by
  rintro b ⟨i,H,d,q⟩;rw [Z4z] at d
  cases ho:ls S i with
  | none=>rw [ho] at d;cases d
  | some o=>exact ⟨i,o,ho,q⟩
 have M:∀ b,¬ XS C (ls ((k,.arr es n f)::S)) η b->¬ XS C (ls (S.map fun p=>(p.1,p.2.frz k n f))) η b:=by
  intro b v N;rcases N with x|x
  .exact v (.inl x)
  .obtain ⟨i,o,d,q⟩:=y b x
   exact v (.inr ⟨i,o,(l i o d).1,q⟩)
 have V:∀ b,b<w.heap.size->¬ XS C (ls ((k,.arr es n f)::S)) η b->w.heap[b]?=w.heap[b]? /\ ¬ XS C (ls (S.map fun p=>(p.1,p.2.frz k n f))) η b:=fun b _ v=>⟨rfl,M b v⟩
 have D:∀ b,b ∈ W2 (η k)->¬ XS C (ls (S.map fun p=>(p.1,p.2.frz k n f))) η b:=by
  intro b v x;rcases x with ⟨x,T⟩|x
  .rcases m.ow k _ b z v with ⟨A,_⟩|U|W
   .cases A
   .exact T (m.ok.md b U)
   .have:=m.ok.lt b x;omega
  .obtain ⟨i,o,d,q⟩:=y b x
   obtain ⟨G,I⟩:=l i o d;exact I (m.ds i k b (by rw [G];simp) (by rw [z];simp) q v)
 have F:DRep w (XS C (ls (S.map fun p=>(p.1,p.2.frz k n f))) η) (η k) (.lst n f):=by
  have:=m.st k _ z
  generalize hu:η k=u at this D
  cases this with
  | nil ad es f=>exact .nil ad 0 f
  | arr b n cap es c e f G I h3 h4 h5 h6 h7=>
   have v:¬ XS C (ls (S.map fun p=>(p.1,p.2.frz k n f))) η b:=D b (by simp [W2];omega);refine .lst b 0 n cap c e _ f es v G h3 (by rw [I,Nat.zero_add];exact Nat.mul_le_mul_right _ h3) h6 fun i j d B=>?_
   rw [Nat.zero_add];exact (h7 i j d B).mono V
 refine h R η a w ⟨m.ok,m.df,m.sz,fun t=>?_,fun t i d=>?_,fun i H d=>?_,fun i H d=>?_,fun i j b d B=>?_,fun i H b d=>?_,m.fr,m.pn⟩
 .rw [Y5f (g:=AVal.frz k n f) rfl]
  exact (m.ev t).frz M F
 .rw [Y5f (g:=AVal.frz k n f) rfl] at d
  exact m.er t i (AVal.frz_refs _ i d)
 .rw [Z4z] at d
  cases ho:ls S i with
  | none=>rw [ho] at d;cases d
  | some o=>
   rw [ho] at d;cases d
   exact (m.st i o (l i o ho).1).frz M F
 .rw [Z4z] at d
  cases ho:ls S i with
  | none=>rw [ho] at d;cases d
  | some o=>
   rw [ho] at d;cases d
   have:=m.sr i o (l i o ho).1
   exact ⟨this.1,fun j B=>this.2 j (Obj.frz_refs o j B)⟩
 .have r:∀ i,ls (S.map fun p=>(p.1,p.2.frz k n f)) i≠none->ls ((k,.arr es n f)::S) i≠none:=by
   intro i d O;apply d
   rw [Z4z]
   cases ho:ls S i with
   | none=>rfl
   | some o=>rw [(l i o ho).1] at O;cases O
  exact m.ds i j b (r i d) (r j B)
 .rw [Z4z] at d
  cases ho:ls S i with
  | none=>rw [ho] at d;cases d
  | some o=>
   rw [ho] at d;cases d
   have A:(o.frz k n f).ro=o.ro:=by cases o <;> rfl
   rw [A];exact m.ow i o b (l i o ho).1
def gd{R:Type}(p:Prop)[Decidable p](x:Option R):Option R:=if p then x else none
theorem Y8e{R:Type}{p:Prop}[Decidable p]{x:Option R}{r:R}(h:gd p x=some r):p/\x=some r:=by
 unfold gd at h;split at h
 .exact ⟨‹_›,h⟩
 .cases h
theorem W2v{α R:Type}{x:Option α}{f:α->Option R}{r:R}(h:x.bind f=some r):∃ z,x=some z/\f z=some r:=by
 cases x with
 | none=>cases h
 | some z=>exact ⟨z,rfl,h⟩
def br{R:Type}(b:Bool)(x y:Option R):Option R:=match b with|true=>x|false=>y
theorem W3W{R:Type}{b:Bool}{x y:Option R}{r:R}(h:br b x y=some r)(hb:b=true):x=some r:=by subst hb;exact h
theorem W3X{R:Type}{b:Bool}{x y:Option R}{r:R}(h:br b x y=some r)(hb:b=false):y=some r:=by subst hb;exact h
def Z2{σ R:Type}(body:(σ->Option R)->σ->Option R):Nat->σ->Option R
 | 0,_=>none
 | n+1,z=>body (Z2 body n) z
theorem Y8B{σ R:Type}{r:R}{x y:Code}(f:σ->Option R)(E' : σ->List (Nat×AVal))(S' : σ->List (Nat×Obj))(hy:∀ z,f z=some r->AW P C nt y (E' z) (S' z) Q)(hx:∀ J:Act->World->Prop,(∀ z,f z=some r->Kn C nt (E' z) (S' z) J)->AW P C nt x E S (Exit.then J Q)):AW P C nt (.seq x y) E S Q:=
 AW.seq (hx _ fun z a=>hy z a)
theorem W1p{σ R:Type}{r:R}{c:Code}{body:(σ->Option R)->σ->Option R}(E' : σ->List (Nat×AVal))(S' : σ->List (Nat×Obj))(round:∀ (again:σ->Option R) (z:σ) (J:Act->World->Prop),(∀ z',again z'=some r->Kn C nt (E' z') (S' z') J)->body again z=some r->AW P C nt c (E' z) (S' z) (Exit.then J Q)){n:Nat}{z0:σ}(h:Z2 body n z0=some r):AW P C nt (.loop c) (E' z0) (S' z0) Q:=by
 refine AW.loop (σ:=Nat×σ) (fun p=>Z2 body p.1 p.2=some r) (fun p=>p.1) (fun p=>E' p.2) (fun p=>S' p.2) (fun p b=>?_) (n,z0) h;obtain ⟨m,z⟩:=p
 cases m with
 | zero=>cases b
 | succ m=>
  refine round (Z2 body m) z _ (fun z' a=>?_) b;exact W3I (I:=fun p:Nat×σ=>Z2 body p.1 p.2=some r/\p.1<m+1) (E':=fun p=>E' p.2) (S':=fun p=>S' p.2) (m,z') ⟨a,Nat.lt_succ_self m⟩
def V5(L:Lay)(ops:Array Oper):List Oper->List Dir->Env->Sto->Nat->Env
 | o::os,d::ds,e,s,k+1=>V5 L ops os ds (Z0r o.dst (Z3y L ops o d e s).v e) (upS (Z3y L ops o d e s).l s) k
 | _,_,e,_,_=>e
def Q2s(L:Lay)(ops:Array Oper):List Oper->List Dir->Env->Sto->Nat->Sto
 | o::os,d::ds,e,s,k+1=>Q2s L ops os ds (Z0r o.dst (Z3y L ops o d e s).v e) (upS (Z3y L ops o d e s).l s) k
 | _,_,_,s,_=>s
def Y9:List Oper->Nat->Oper
 | [],_=>default
 | o::_,0=>o
 | _::os,k+1=>Y9 os k
def Q1V:List Dir->Nat->Array Oper->Oper->Env->Eff
 | .k f::_,0=>f
 | _::ds,k+1=>Q1V ds k
 | _,_=>fun _ _ _=>default
def KAt(P:Program)(C:Ctx)(nt:Nat)(L:Lay)(ops:Array Oper)(ds:List Dir)(e:Env)(s:Sto)(k:Nat):Prop:=
 StT P C nt ops (Y9 ops.toList k) (Q1V ds k ops (Y9 ops.toList k) (V5 L ops ops.toList ds e s k)) (V5 L ops ops.toList ds e s k) (Q2s L ops ops.toList ds e s k)
theorem W2z(Fm:Fr P L C pins){id:Nat}{ops:Array Oper}{draw:Bool}(ds:List Dir)(ρ:List (Nat×Nat))(c:(Nat->Prop)->Prop)(E' : List (Nat×AVal))(S' : List (Nat×Obj))(hc:c (KAt P C nt L ops ds (lk E) (ls S)))(hchk:W2u L pins nt ops draw ds E S ρ S'=true)(hC:Y1l P C nt L ops ops.toList ds (lk E) (ls S)=c (KAt P C nt L ops ds (lk E) (ls S)))(he0:E'.map (fun p=>Y5n ops.toList (Z6N L ops ops.toList ds (lk E) (ls S)) (lk E) p.1)=E'.map (fun p=>p.2.ren (J6 ρ)))(hs0:S'.map (fun p=>Y5m (Z6N L ops ops.toList ds (lk E) (ls S)) (ls S) (J6 ρ p.1))=S'.map (fun p=>some (p.2.ren (J6 ρ))))(k:Kn C nt E' S' (Q .normal)):AW P C nt (.region id ops draw) E S Q:=AW.region Fm ds ρ hchk (hC ▸ hc) he0 hs0 k
end
end
section
def Y0B(o:Oper):Bool:=match o.op with | .call { callee:=.value _,.. }=>true|_=>false
def callX(o:Oper):Operand:=match o.op with | .call { callee:=.value fx,.. }=>fx|_=>.const undef
def callXs(o:Oper):Array Operand:=match o.op with | .call { callee:=.value _,args,.. }=>args|_=> #[]
theorem Z7g{o:Oper}(h:Y0B o=true):∃ tys,o.op=.call { callee:=.value (callX o),args:=callXs o,argTypes:=tys }:=by
 unfold Y0B at h;split at h
 .rename_i c b tys a
  exact ⟨tys,by simp only [callX,callXs,a]⟩
 .cases h
def cE(m:List (Nat×Nat))(extra:List Nat)(r:AVal)(Si So:List (Nat×Obj)):Array Oper->Oper->Env->Eff:=fun ops o e=>Y5q ops o e (J6 m) extra r Si So
def sE(r:AVal):Array Oper->Oper->Env->Eff:=fun ops o e=>Z5L ops o e r
def Z6P(C:Ctx)(nt:Nat)(e:Env)(s:Sto)(Si:List (Nat×Obj))(m:Nat->Nat)(rd ids:List Nat):List Operand->List AVal->Prop
 | [],[]=>True
 | x::xs,y::ys=>Q0i C nt e s Si m rd ids x y/\Z6P C nt e s Si m rd ids xs ys
 | _,_=>False
theorem Z6P.spec{C:Ctx}{nt:Nat}{e:Env}{s:Sto}{Si:List (Nat×Obj)}{m:Nat->Nat}{rd ids:List Nat}{xs:List Operand}{ys:List AVal}(h:Z6P C nt e s Si m rd ids xs ys):
  xs.length=ys.length/\∀ j,j<ys.length->Q0i C nt e s Si m rd ids (xs.getD j (.const undef)) (ys.getD j .any):=by
 induction xs generalizing ys with
 | nil=>cases ys with
  | nil=>exact ⟨rfl,fun j a=>by simp at a⟩
  | cons y ys=>exact h.elim
 | cons x xs ih=>cases ys with
  | nil=>exact h.elim
  | cons y ys=>
   obtain ⟨d,c⟩:=h;obtain ⟨b,g⟩:=ih c
   refine ⟨by simp [b],fun j a=>?_⟩
   cases j with
   | zero=>exact d
   | succ j=>exact g j (by simpa using a)
theorem Z6P.plains{C:Ctx}{nt:Nat}{e:Env}{s:Sto}{Si:List (Nat×Obj)}{m:Nat->Nat}{rd ids:List Nat}:∀ {xs:List Operand} {ys:List AVal},xs.all (Q5E rd)=true->ys.all AVal.noSem=true->xs.map (aev e)=ys.map (AVal.ren m)->Z6P C nt e s Si m rd ids xs ys
 | [],[],_,_,_=>trivial
 | [],_::_,_,_,h=>by cases h
 | _::_,[],_,_,h=>by cases h
 | x::xs,y::ys,h1,h2,h3=>by
  simp only [List.all_cons,Bool.and_eq_true] at h1 h2;simp only [List.map_cons,List.cons.injEq] at h3
  exact ⟨Q0i.plain h1.1 (ALe.of_eq h3.1) h2.1,Z6P.plains h1.2 h2.2 h3.2⟩
def Y5h(f:Nat):AVal->Bool
 | .v (.c (.clo g []))=>g==f
 | _=>false
theorem Y4u{f:Nat}{x:AVal}(h:Y5h f x=true):x=.v (.c (.clo f [])):=by
 unfold Y5h at h;split at h
 .rename_i g;simp at h;rw [h]
 .cases h
def callB(ops:Array Oper)(nt:Nat)(e:Env)(o:Oper)(f:Nat)(m:List (Nat×Nat))(r:AVal)(Si So:List (Nat×Obj)):Bool:=
 Y0B o&&Y5h f (aev e (callX o))&&Q5E (Q0l o++U4 ops o) (callX o)&&Q7a (J6 m) r Si So&&Q1M nt o&&(Q8s ops e o==some true)
section
variable {P:Program} {C:Ctx} {nt:Nat} {L:Lay} {ops:Array Oper} {ds:List Dir} {e:Env} {s:Sto}
theorem Y4G{k:Nat}{f:Nat}{args:List AVal}{Si:List (Nat×Obj)}{r:AVal}{So:List (Nat×Obj)}(hspec:K7 P f args Si r So)(hcall:∀ args w,(callFunc f args).run P w=.ok (.enter f args) w)(m:List (Nat×Nat))(extra:List Nat)(hk:Q1V ds k=cE m extra r Si So)(hb:callB ops nt (V5 L ops ops.toList ds e s k) (Y9 ops.toList k) f m r Si So=true)(hsi:Si.map (fun p=>Q2s L ops ops.toList ds e s k (J6 m p.1))=Si.map (fun p=>some (p.2.ren (J6 m))))(hargs:Z6P C nt (V5 L ops ops.toList ds e s k) (Q2s L ops ops.toList ds e s k) Si (J6 m) (Q0l (Y9 ops.toList k)++U4 ops (Y9 ops.toList k)) (Z2T (V5 L ops ops.toList ds e s k) (Y9 ops.toList k)++(Si.map (fun p=>J6 m p.1)++extra))
   (callXs (Y9 ops.toList k)).toList args):KAt P C nt L ops ds e s k:=by
 unfold KAt;rw [hk]
 simp only [callB,Bool.and_eq_true] at hb;obtain ⟨⟨⟨⟨⟨o,c⟩,u⟩,i⟩,q⟩,d⟩:=hb
 obtain ⟨h,a⟩:=Z7g o;obtain ⟨g,t⟩:=hargs.spec
 exact Y9y hcall a (Y4u c) u hspec (by simpa using g) (J6 m) extra (fun j b=>t j b) (fun p l=>⟨_,Q1T hsi p l,OLe.refl _⟩) i q (by simpa using d)
theorem KAt.call{k:Nat}{f:Nat}{args:List AVal}{Si:List (Nat×Obj)}{r:AVal}{So:List (Nat×Obj)}(hspec:K7 P f args Si r So)(hcall:∀ args w,(callFunc f args).run P w=.ok (.enter f args) w)(m:List (Nat×Nat))(hk:Q1V ds k=cE m [] r Si So)(hb:callB ops nt (V5 L ops ops.toList ds e s k) (Y9 ops.toList k) f m r Si So=true)(hsi:Si.map (fun p=>Q2s L ops ops.toList ds e s k (J6 m p.1))=Si.map (fun p=>some (p.2.ren (J6 m))))(hrd:((callXs (Y9 ops.toList k)).toList.all (Q5E (Q0l (Y9 ops.toList k)++U4 ops (Y9 ops.toList k)))&&args.all AVal.noSem)=true)(hargs:(callXs (Y9 ops.toList k)).toList.map (aev (V5 L ops ops.toList ds e s k))=args.map (AVal.ren (J6 m))):KAt P C nt L ops ds e s k:=by
 rw [Bool.and_eq_true] at hrd;exact Y4G hspec hcall m [] hk hb hsi (Z6P.plains hrd.1 hrd.2 hargs)
def W3u(ops:Array Oper)(nt:Nat)(e:Env)(o:Oper)(args:List AVal)(r:AVal):Bool:=
 Y0B o&&Q5E (Q0l o++U4 ops o) (callX o)&&(callXs o).toList.all (Q5E (Q0l o++U4 ops o))&&args.all AVal.closed&&r.closed&&Q1M nt o&&(Q8s ops e o==some true)
theorem KAt.sem{k:Nat}{F:List AVal->AVal->Prop}{args:List AVal}{r:AVal}(hF:F args r)(hk:Q1V ds k=sE r)(hb:W3u ops nt (V5 L ops ops.toList ds e s k) (Y9 ops.toList k) args r=true)(hfx:aev (V5 L ops ops.toList ds e s k) (callX (Y9 ops.toList k))=Z5z P F)(hargs:(callXs (Y9 ops.toList k)).toList.map (aev (V5 L ops ops.toList ds e s k))=args):KAt P C nt L ops ds e s k:=by
 unfold KAt;rw [hk]
 simp only [W3u,Bool.and_eq_true] at hb;obtain ⟨⟨⟨⟨⟨⟨o,g⟩,u⟩,m⟩,i⟩,h⟩,t⟩:=hb
 obtain ⟨p,b⟩:=Z7g o;have d:(callXs (Y9 ops.toList k)).size=args.length:=by rw [<-hargs];simp
 refine Y5D b hfx hF d ⟨g,fun x q=>List.all_eq_true.1 u x q⟩ (fun j c=>?_) i h (by simpa using t);have a : j<(callXs (Y9 ops.toList k)).toList.length:=by simpa [d] using c
 have l:aev (V5 L ops ops.toList ds e s k) ((callXs (Y9 ops.toList k)).toList.getD j (.const undef))=args.getD j .any:=by
  rw [<-hargs];simp only [List.getD_eq_getElem?_getD,List.getElem?_map,List.getElem?_eq_getElem a,Option.map_some,Option.getD_some]
 exact ⟨ALe.of_eq l,List.all_eq_true.1 m _ (Q0R c)⟩
end
end
instance (n:Int):Decidable (I64 n):=inferInstanceAs (Decidable (_/\_))
def gl{α:Type}[Emb α](l:List α)(i:Nat):α:=l.getD i Emb.d
def Z0F(es:Nat)(ds:List DVal)(i:Nat):List DVal:=(ds.drop (i*es)).take es
theorem Z8{i:Int}{n:Nat}(h:0<=i/\i<(n:Int)):i.toNat<n:=by omega
theorem FE.refl:∀ E:List (Nat×AVal),FE E E
 | []=>trivial
 | (_,_)::E=>⟨rfl,ALe.refl _,FE.refl E⟩
theorem FSl.refl:∀ S:List (Nat×Obj),FSl S S
 | []=>trivial
 | (_,_)::S=>⟨rfl,OLe.refl _,FSl.refl S⟩
instance:Emb Int:=⟨fun x=>[.int .i64 x],1,0,fun _=>rfl⟩
instance:Emb Bool:=⟨fun x=>[.bool x],1,false,fun _=>rfl⟩
instance:Emb ByteArray:=⟨fun x=>[.str x],1,ByteArray.empty,fun _=>rfl⟩
instance {α:Type} [Emb α]:Emb (List α):=⟨fun x=>[DL x],1,[],fun _=>rfl⟩
section
section
variable {P:Program} {C:Ctx} {nt:Nat} {L:Lay} {ops:Array Oper} {ds:List Dir} {e:Env} {s:Sto}
theorem Z1H{o:Oper}{r:AVal}(hr:r.refs=[])(hdo:Q1M nt o=true)(hg:Q8s ops e o=some true)(hex:∀ (R:Nat->Prop) (η:Nat->Value) (e0:Env) (s0:Sto) (a:Act) (w:World),(∀ t ∈ Q0l o++U4 ops o,e0 t=e t)->Conc C nt R η e0 s0 a w->∃ v,(execOp a.eval o).run P w=.ok (.value v) w/\ARep w (XS C s0 η) η C v r):
  StT P C nt ops o (Z5L ops o e r) e s:=by
 intro R η e0 s0 a w c h p d K Q q;have m:=Q5N (e:=e) d (fun t A=>c t (List.mem_append.2 (.inr A))) hg
 rw [if_pos m];obtain ⟨v,u,b⟩:=hex R η e0 s0 a w c d
 unfold Oper.wp;rw [u]
 show K (a.put o.dst v) w;refine q η _ w ?_
 have:=d.val o.dst (Q5I hdo) r v fun _=>⟨b,fun j g=>by rw [hr] at g;cases g⟩
 have z:upS (Z5L ops o e r).l s0=s0:=by funext i;rfl
 rw [z];have x:Z0r o.dst (Z5L ops o e r).v e0=SR.env { v:=r } o.dst e0:=rfl
 rw [x];exact this.wider fun i y=>.inl y
def eqK(d:TypeDesc)(x y:CV):Option Bool:=
 match d,x,y with
 | .int _,.d (.int k a),.d (.int k' b)=>if k=k' then some (a==b) else none
 | .bool,.d (.bool a),.d (.bool b)=>some (a==b)
 | _,_,_=>none
def W2m(P:Program)(xs ys:List CV):List Field->Option Bool
 | []=>some true
 | f::fs=>if f.name= "_" then none else match P.underlying f.type,xs[f.offset]?,ys[f.offset]?,W2m P xs ys fs with
  | some d,some x,some y,some c=>match eqK d x y with
   | some b=>some (b&&c)
   | none=>none
  | _,_,_,_=>none
theorem W3j{w w1:World}{X:Nat->Prop}{η:Nat->Value}{d:TypeDesc}{x y:CV}{b:Bool}(h:eqK d x y=some b){u v:Value}(hu:CRep w X η C u x)(hv:CRep w X η C v y){t:TypeId}(ht:P.underlying t=some d)(n:Nat):
  (isAgg t).run P w1=.ok false w1/\(Op.equalIn (n+1) t u v).run P w1=.ok b w1:=by
 unfold eqK at h;split at h
 .split at h
  .cases h
   rename_i a
   subst a
   cases hu with|d _ _ hu=>cases hu with|int=>
   cases hv with|d _ _ hv=>cases hv with|int=>
   exact ⟨by simp [isAgg,run_underlying ht],run_equalIn_int _ _ _ _ _ _ _ ht⟩
  .cases h
 .cases h
  cases hu with|d _ _ hu=>cases hu with|bool=>
  cases hv with|d _ _ hv=>cases hv with|bool=>
  exact ⟨by simp [isAgg,run_underlying ht],run_equalIn_bool' _ _ _ _ _ ht⟩
 .cases h
theorem Y6s{w:World}{X:Nat->Prop}{η:Nat->Value}{vs:Array Value}{xs:List CV}(h:Q0e w X η C vs xs){j:Nat}{x:CV}(hx:xs[j]?=some x):∃ v,vs[j]?=some v/\CRep w X η C v x:=by
 have b:j<xs.length:=(List.getElem?_eq_some_iff.1 hx).1;have a : j<vs.size:=by rw [h.1];exact b
 refine ⟨vs[j],Array.getElem?_eq_getElem a,?_⟩;have:=h.2 j b
 rw [List.getD_eq_getElem?_getD,hx] at this;simpa [Array.getD_eq_getD_getElem?,Array.getElem?_eq_getElem a] using this
theorem Y8o{w:World}{X:Nat->Prop}{η:Nat->Value}{xs ys:List CV}{us vs:Array Value}(hu:Q0e w X η C us xs)(hv:Q0e w X η C vs ys)(n:Nat)(w1:World):∀ (fs:List Field) (b:Bool),W2m P xs ys fs=some b->(Op.eqFields (n+1) us vs fs).run P w1=.ok b w1
 | [],b,h=>by cases h;simp [Op.eqFields]
 | f::fs,b,h=>by
  simp only [W2m] at h;split at h
  .cases h
  .rename_i g
   split at h
   .rename_i d x y c q G r A
    split at h
    .rename_i D l
     cases h
     obtain ⟨u,m,i⟩:=Y6s hu G;obtain ⟨v,o,j⟩:=Y6s hv r
     obtain ⟨p,z⟩:=W3j (P:=P) (w1:=w1) l i j q n;have B:=Y8o hu hv n w1 fs c A
     have F:(part f.type us f.offset).run P w1=.ok u w1:=by simp [part,p,m]
     have t:(part f.type vs f.offset).run P w1=.ok v w1:=by simp [part,p,o]
     have a : f.name ≠ "_":=g;simp only [Op.eqFields,a,ne_eq,not_false_eq_true,if_true,Sem.run_bind,F,t,z,Result.andThen_ok]
     cases D with
     | true=>simpa using B
     | false=>simp
    .cases h
   .cases h
def eqX(o:Oper):Operand:=match o.op with | .binOp _ _ x _ _=>x|_=>.const undef
def eqY(o:Oper):Operand:=match o.op with | .binOp _ _ _ y _=>y|_=>.const undef
def Y8n(o:Oper)(t:TypeId):Option Bool:=match o.op with
 | .binOp op t' _ _ _=>if t=t' then match op with
  | .eql=>some true
  | .neq=>some false
  | _=>none else none
 | _=>none
theorem Y6o{o:Oper}{t:TypeId}{q:Bool}(h:Y8n o t=some q):∃ t',o.op=.binOp (if q then .eql else .neq) t (eqX o) (eqY o) t':=by
 unfold Y8n at h;split at h
 .rename_i op d x y b a
  split at h
  .rename_i c
   subst c;split at h
   .cases h;exact ⟨b,by simp only [eqX,eqY,a];rfl⟩
   .cases h;exact ⟨b,by simp only [eqX,eqY,a];rfl⟩
   .cases h
  .cases h
 .cases h
structure EqT (P:Program) (t:TypeId):Prop where
 und:P.underlying t=some (.struct (P.fieldsOf t))
 held:P.stoodInHeld t=false
 guard:P.eqGuardType P.depth t=false
def eqB(ops:Array Oper)(nt:Nat)(e:Env)(o:Oper):Bool:=Q5E (Q0l o++U4 ops o) (eqX o)&&Q5E (Q0l o++U4 ops o) (eqY o)&&Q1M nt o&&(Q8s ops e o==some true)
theorem KAt.eq{k:Nat}{t:TypeId}(ht:EqT P t)(q:Bool){xs ys:List CV}{b:Bool}(hk:Q1V ds k=sE (vb (if q then b else !b)))(hop:Y8n (Y9 ops.toList k) t=some q)(hb:eqB ops nt (V5 L ops ops.toList ds e s k) (Y9 ops.toList k)=true)(hx:aev (V5 L ops ops.toList ds e s k) (eqX (Y9 ops.toList k))=.v (.g xs))(hy:aev (V5 L ops ops.toList ds e s k) (eqY (Y9 ops.toList k))=.v (.g ys))(hfl:W2m P xs ys (P.fieldsOf t).toList=some b):KAt P C nt L ops ds e s k:=by
 unfold KAt;rw [hk]
 simp only [eqB,Bool.and_eq_true] at hb;obtain ⟨⟨⟨y,r⟩,z⟩,x⟩:=hb
 obtain ⟨A,h⟩:=Y6o hop;refine Z1H rfl z (by simpa using x) fun R η D B a w l m=>⟨.bool (if q then b else !b),?_,.v _ _ (.c _ _ (.d _ _ (.bool _)))⟩
 have j:=(W8 m (eqX (Y9 ops.toList k))).1;rw [K4 l y,hx] at j
 have i:=(W8 m (eqY (Y9 ops.toList k))).1;rw [K4 l r,hy] at i
 generalize hu:a.eval (eqX (Y9 ops.toList k))=u at j;generalize hv:a.eval (eqY (Y9 ops.toList k))=v at i
 cases j with|v _ _ j=>cases j with|g us _ j=>
 cases i with|v _ _ i=>cases i with|g vs _ i=>
 have p:=Y8o (P:=P) j i 9998 w _ b hfl;have o:(Op.equalIn 10000 t (.agg us) (.agg vs)).run P w=.ok b w:=by
  rw [run_equalIn_agg w 9999 t us vs ht.und ht.held];exact p
 cases q with
 | true=>simp only [execOp,h,if_true,Sem.run_bind,hu,hv,run_eqGuard_agg w _ _ _ _ _ _ ht.guard,Result.andThen_ok,run_eql_struct,o,Sem.run_pure]
 | false=>simp only [execOp,h,Bool.false_eq_true,if_false,Sem.run_bind,hu,hv,run_eqGuard_agg w _ _ _ _ _ _ ht.guard,Result.andThen_ok,run_neq_struct,o,Sem.run_pure]
end
end
section
def nbP(n:Nat):World->(Nat->Prop)->(Nat->Prop)->Value->Prop:=fun _ _ _ v=>∃ b,v=.bool b/\(b=true->n=0)
def nb(n:Nat):AVal:=.v (.c (.sem (nbP n)))
def DVal.flat:DVal->Bool
 | .int _ _=>true
 | .bool _=>true
 | .str _=>true
 | _=>false
def CV.flat:CV->Bool
 | .d x=>x.flat
 | _=>false
def TV.flat:TV->Bool
 | .c x=>x.flat
 | .g xs=>xs.all CV.flat
def AVal.flat:AVal->Bool
 | .any=>true
 | .v x=>x.flat
 | .t xs=>xs.all TV.flat
section
variable {w w' : World} {X X' : Nat->Prop} {η η' : Nat->Value} {C C' : Ctx}
theorem CRep.flat{v:Value}{x:CV}(h:CRep w X η C v x)(hx:x.flat=true):CRep w' X' η' C' v x:=by
 cases h with
 | d _ _ h=>cases h with
  | int=>exact .d _ _ (.int _ _)
  | bool=>exact .d _ _ (.bool _)
  | str=>exact .d _ _ (.str _)
  | any=>cases hx
  | nil=>cases hx
  | lst=>cases hx
  | mp=>cases hx
 | _=>cases hx
theorem TRep.flat{v:Value}{x:TV}(h:TRep w X η C v x)(hx:x.flat=true):TRep w' X' η' C' v x:=by
 cases h with
 | c _ _ h=>exact .c _ _ (h.flat hx)
 | g _ _ h=>exact .g _ _ ⟨h.1,fun j a=>(h.2 j a).flat (List.all_eq_true.1 hx _ (Q0R a))⟩
theorem ARep.flat{v:Value}{x:AVal}(h:ARep w X η C v x)(hx:x.flat=true):ARep w' X' η' C' v x:=by
 cases h with
 | any=>exact .any v
 | v _ _ h=>exact .v _ _ (h.flat hx)
 | t us xs h1 h2=>exact .t us xs h1 fun j a=>(h2 j a).flat (List.all_eq_true.1 hx _ (Q0R a))
theorem CV.flat_refs{x:CV}(hx:x.flat=true):x.refs=[]:=by cases x <;> first|rfl|cases hx
theorem TV.flat_refs{x:TV}(hx:x.flat=true):x.refs=[]:=by
 cases x with
 | c x=>exact CV.flat_refs hx
 | g xs=>exact List.flatMap_eq_nil_iff.2 fun y a=>CV.flat_refs (List.all_eq_true.1 hx y a)
theorem AVal.flat_refs{x:AVal}(hx:x.flat=true):x.refs=[]:=by
 cases x with
 | any=>rfl
 | v x=>exact TV.flat_refs hx
 | t xs=>exact List.flatMap_eq_nil_iff.2 fun y a=>TV.flat_refs (List.all_eq_true.1 hx y a)
end
section
variable {P:Program} {C:Ctx} {nt:Nat} {L:Lay} {ops:Array Oper} {ds:List Dir} {e:Env} {s:Sto} {E:List (Nat×AVal)} {S:List (Nat×Obj)} {Q:Exit->Act->World->Prop}
theorem Y3G{t n:Nat}{x y:Code}(hb:lk E t=nb n)(ht:n=0->AW P C nt x E S Q)(hf:AW P C nt y E S Q):AW P C nt (.cond (.tmp t) x y) E S Q:=by
 intro R η a w d;have g:=d.ev t
 rw [hb] at g;have:∃ b,a.eval (.tmp t)=.bool b/\(b=true->n=0):=by
  change ∃ b,a.tmps.getD t undef=.bool b/\(b=true->n=0);generalize a.tmps.getD t undef=u at g
  cases g with|v _ _ h=>cases h with|c _ _ h=>cases h with|sem _ _ h _=>exact h
 obtain ⟨b,i,j⟩:=this
 cases b with
 | true=>exact wp_cond_true i (ht (j rfl) R η a w d)
 | false=>exact wp_cond_false i (hf R η a w d)
def W2Y:AVal->Option Nat
 | .v (.c (.d (.lst n _)))=>some n
 | .v (.c (.fl n _))=>some n
 | _=>none
theorem W1T{w:World}{X:Nat->Prop}{η:Nat->Value}{v:Value}{x:AVal}{n:Nat}(h:W2Y x=some n)(hv:ARep w X η C v x):∃ ad cap,v=.slice ad n cap/\(ad=none->n=0):=by
 unfold W2Y at h;split at h
 .cases h
  cases hv with|v _ _ hv=>cases hv with|c _ _ hv=>cases hv with|d _ _ hv=>cases hv with
   | nil a cap f=>exact ⟨a,cap,rfl,fun _=>rfl⟩
   | lst b off n cap c e fz f es=>exact ⟨_,_,rfl,fun h=>by cases h⟩
 .cases h
  cases hv with|v _ _ hv=>cases hv with|c _ _ hv=>cases hv with|fl a n f hv=>cases hv with
   | nil a cap f=>exact ⟨_,_,rfl,fun _=>rfl⟩
   | lst b off n cap c e fz f es=>exact ⟨_,_,rfl,fun h=>by cases h⟩
 .cases h
def Y7l(x:Operand):Bool:=match x with | .const (.slice none 0 0)=>true|_=>false
theorem Y8Y{x:Operand}(h:Y7l x=true):x=.const (.slice none 0 0):=by
 unfold Y7l at h;split at h
 .rfl
 .cases h
theorem Y1s{t el:TypeId}(ht:P.underlying t=some (.slice el))(d:Nat)(ad:Option Addr)(n cap:Nat)(w:World):(Op.equalIn (d+1) t (.slice ad n cap) (.slice none 0 0)).run P w=.ok ad.isNone w:=by
 cases ad <;> simp only [Op.equalIn,Sem.run_bind,run_underlying ht,Result.andThen_ok,Sem.run_pure] <;> rfl
theorem Y5O{t el:TypeId}(ht:P.underlying t=some (.slice el))(ad:Option Addr)(n cap:Nat)(w:World):(binOp .eql t (.slice ad n cap) (.slice none 0 0)).run P w=.ok (.bool ad.isNone) w:=by
 have h:binOp .eql t (.slice ad n cap) (.slice none 0 0)=(do pure (.bool (<-Op.equalIn Op.maxDepth t (.slice ad n cap) (.slice none 0 0)))):=rfl;have b:=Y1s ht 9999 ad n cap w
 rw [h,Sem.run_bind];have a:(Op.equalIn Op.maxDepth t (.slice ad n cap) (.slice none 0 0)).run P w=.ok ad.isNone w:=b
 rw [a];rfl
theorem KAt.nil{k:Nat}{t el:TypeId}(ht:P.underlying t=some (.slice el)){n:Nat}(hk:Q1V ds k=sE (nb n))(hop:Y8n (Y9 ops.toList k) t=some true)(hb:eqB ops nt (V5 L ops ops.toList ds e s k) (Y9 ops.toList k)=true)(hx:W2Y (aev (V5 L ops ops.toList ds e s k) (eqX (Y9 ops.toList k)))=some n)(hy:Y7l (eqY (Y9 ops.toList k))=true):KAt P C nt L ops ds e s k:=by
 unfold KAt;rw [hk]
 simp only [eqB,Bool.and_eq_true] at hb;obtain ⟨⟨⟨q,z⟩,x⟩,m⟩:=hb
 obtain ⟨y,b⟩:=Y6o hop;simp only [if_true] at b
 refine Z1H rfl x (by simpa using m) fun R η B A a w g p=>?_
 have i:=(W8 p (eqX (Y9 ops.toList k))).1;rw [K4 g q] at i
 obtain ⟨j,d,o,h⟩:=W1T hx i;refine ⟨.bool j.isNone,?_,.v _ _ (.c _ _ (.sem _ _ ⟨_,rfl,fun l=>h (by simpa using l)⟩ rfl))⟩
 have r:a.eval (eqY (Y9 ops.toList k))=.slice none 0 0:=by rw [Y8Y hy];rfl
 have u:(eqGuard .eql t (eqX (Y9 ops.toList k)) (eqY (Y9 ops.toList k)) (.slice j n d) (.slice none 0 0)).run P w=.ok () w:=rfl;simp only [execOp,b,Sem.run_bind,r,o,u,Result.andThen_ok,Y5O ht,Sem.run_pure]
def Z9W(P:Program)(e:Env)(s:Sto)(bor:List Nat)(rd:List Nat)(x:Operand)(y:AVal):Prop:=
 Q5E rd x=true/\((ALe (aev e x) y/\y.closed=true)\/(∃ k es n f,k ∈ bor/\aev e x=.v (.c (.own k))/\s k=some (.arr es n f)/\y=.v (.c (.d (.lst n f))))\/∃ F,aev e x=Z5z P F/\y=Z5z P F)
theorem Y8E{f:Nat}(hcall:∀ args w,(callFunc f args).run P w=.ok (.enter f args) w){o:Oper}{fx:Operand}{xs:Array Operand}{tys:Array TypeId}(hop:o.op=.call { callee:=.value fx,args:=xs,argTypes:=tys })(hfx:aev e fx=.v (.c (.clo f [])))(hrf:Q5E (Q0l o++U4 ops o) fx=true){args:List AVal}{r:AVal}(hspec:K7 P f args [] r [])(hlen:xs.size=args.length)(bor:List Nat)(hargs:∀ j,j<args.length->Z9W P e s bor (Q0l o++U4 ops o) (xs.toList.getD j (.const undef)) (args.getD j .any))(hids:∀ k ∈ bor,k ∈ Z2T e o)(hr:r.flat=true)(hdo:Q1M nt o=true)(hg:Q8s ops e o=some true):StT P C nt ops o (Z5L ops o e r) e s:=by
 intro R η e0 A a w T a0 d3 x K Q hK;have hw:=Q5N (e:=e) x (fun t ht=>T t (List.mem_append.2 (.inr ht))) hg
 rw [if_pos hw];have a6:=(W8 x fx).1
 rw [K4 T hrf,hfx] at a6;have c2:=Z7o (w:=w) hop (Z9N a6) hcall
 have a8:∀ b,XS C A η b->b<w.heap.size:=by
  rintro b (⟨m,_⟩|m)
  .exact Nat.lt_of_lt_of_le (x.ok.lt b m) x.fr.size
  .exact x.lt m
 let X1:Nat->Prop:=fun b=>XS C A η b/\∀ k ∈ bor,s k≠none->b ∉ W2 (η k)
 have b2:Q7o w w (XS C A η) X1:=fun b _ q=>⟨rfl,fun m=>q m.1⟩
 have b5:=hspec w X1 η (xs.map a.eval++(([]:List Nat).map η).toArray) (fun b q=>a8 b q.1) (fun b ⟨i,y,p,_⟩=>by cases p) (fun i y p=>by cases p) (fun i j b p=>absurd rfl p) (by simp [hlen]) (fun j J=>by
  have c1 : j<xs.size:=by omega
  have e1:(xs.map a.eval++(([]:List Nat).map η).toArray).getD j undef=a.eval (xs.toList.getD j (.const undef)):=by simp [List.getD_eq_getElem?_getD,c1]
  rw [e1];obtain ⟨g0,g⟩:=hargs j J
  have m:=(W8 x (xs.toList.getD j (.const undef))).1;rw [K4 T g0] at m
  rcases g with ⟨V,g2⟩|⟨k,es,n,fl,V,g2,g3,g4⟩|⟨F,V,g2⟩
  .exact ((V.1 _ _ _ _ _ m).mono (η':=η) b2 (fun _ _=>rfl)).free g2
  .rw [g2] at m
   rw [g4];have hv:a.eval (xs.toList.getD j (.const undef))=η k:=by
    generalize a.eval (xs.toList.getD j (.const undef))=u at m
    cases m with|v _ _ m=>cases m with|c _ _ m=>cases m with|own _ _ h _=>exact h
   rw [hv];have O:A k=some (.arr es n fl):=by rw [a0 k (hids k V)];exact g3
   have U:=x.st k _ O;have a1:∀ b,b ∈ W2 (η k)->¬ X1 b:=fun b q m=>m.2 k V (by rw [g3];simp) q
   refine .v _ _ (.c _ _ (.d _ _ ?_));generalize η k=u at U a1
   cases U with
   | nil ad es _=>exact .nil ad 0 fl
   | arr b n cap es c e _ G h2 h3 h4 h5 h6 h7=>
    refine .lst b 0 n cap c e _ fl es (a1 b (by simp [W2];omega)) G h3 (by rw [h2,Nat.zero_add];exact Nat.mul_le_mul_right _ h3) h6 fun i j p J=>?_
    rw [Nat.zero_add];exact (h7 i j p J).mono fun b q hX=>⟨rfl,fun m=>hX m.1⟩
  .rw [V] at m
   rw [g2];have a9:Q0B P F C.w0 C.D C.X (a.eval (xs.toList.getD j (.const undef)))/\(a.eval (xs.toList.getD j (.const undef))).oneCell'=true:=by
    generalize a.eval (xs.toList.getD j (.const undef))=u at m
    cases m with|v _ _ h=>cases h with|c _ _ h=>cases h with|sem _ _ h G=>exact ⟨h,G⟩
   obtain ⟨⟨ff,Z,c0,z,b6⟩,a4⟩:=a9;refine .v _ _ (.c _ _ (.sem _ _ ⟨ff,Z,c0,z,?_⟩ a4))
   intro w1 X2 vs I r2 hF b4 a5 b1 b9 b7 B;have a2 : w.heap.size<=w1.heap.size:=b4
   have a7:∀ b,¬ (K6 ([]:List (Nat×Obj)) w X1 η).D b:=by rintro b ⟨i,y,p,_⟩;cases p
   refine b6 w1 X2 vs I r2 hF (Nat.le_trans x.fr.size a2) (fun b q W=>?_) b1 (fun b q W=>?_) b7 B
   .have N:b<w.heap.size:=Nat.lt_of_lt_of_le q x.fr.size
    exact (a5 b N (a7 b)).trans (x.fr.block b q fun hM=>W (x.ok.md b hM))
   .have N:b<w.heap.size:=Nat.lt_of_lt_of_le q x.fr.size
    rw [b9 b N (a7 b)];have H:∀ i y,A i=some y -> b ∉ W2 (η i):=by
     intro i y p M;rcases x.ow i y b p M with ⟨_,G⟩|G|G
     .exact W G
     .exact W (x.ok.md b G)
     .omega
    constructor
    .rintro ⟨⟨m,_⟩|⟨i,y,p,M⟩,_⟩
     .exact m
     .exact absurd M (H i y p)
    .refine fun m=>⟨.inl ⟨m,W⟩,fun k hk O=>?_⟩
     obtain ⟨y,b3⟩:=Option.ne_none_iff_exists'.1 O;exact H k y (by rw [a0 k (hids k hk)];exact b3))
 unfold Oper.wp;rw [c2]
 show Calls P f _ w _;refine b5.mono fun en w' hh=>?_
 obtain ⟨v,η',rfl,q⟩:=hh;have Y:Stp (fun _=>False) w w':=q.stp.mono fun b _ hM=>by obtain ⟨i,y,p,_⟩:=hM;cases p
 have hs:SR.sto { v:=r } o.dst A=A:=by funext i;simp [SR.sto]
 have he:SR.eta { v:=r } o.dst v η=η:=by funext i;simp [SR.eta]
 have b8:SR.rng { v:=r } o.dst R=R:=by funext i;simp [SR.rng]
 have:=x.step o.dst (Q5I hdo) { v:=r } v w' (fun _=>False) Y (fun b q=>q.elim) (fun o dd U=>by cases U) (fun k o U=>by cases U)
  (fun _=>by rw [hs,he];refine ⟨q.res.flat hr,fun j J=>?_⟩;simp only at J;rw [AVal.flat_refs hr] at J;cases J)
 rw [hs,he,b8] at this;refine hK η _ w' ?_
 have hu:upS (Z5L ops o e r).l A=A:=by funext i;rfl
 rw [hu];exact this.wider fun i p=>.inl p
def Y6H(P:Program)(e:Env)(s:Sto)(bor:List Nat)(rd:List Nat):List Operand->List AVal->Prop
 | [],[]=>True
 | x::xs,y::ys=>Z9W P e s bor rd x y/\Y6H P e s bor rd xs ys
 | _,_=>False
theorem Y6H.spec{bor:List Nat}{rd:List Nat}{xs:List Operand}{ys:List AVal}(h:Y6H P e s bor rd xs ys):xs.length=ys.length/\∀ j,j<ys.length->Z9W P e s bor rd (xs.getD j (.const undef)) (ys.getD j .any):=by
 induction xs generalizing ys with
 | nil=>cases ys with
  | nil=>exact ⟨rfl,fun j a=>by simp at a⟩
  | cons y ys=>exact h.elim
 | cons x xs ih=>cases ys with
  | nil=>exact h.elim
  | cons y ys=>
   obtain ⟨d,c⟩:=h;obtain ⟨b,g⟩:=ih c
   refine ⟨by simp [b],fun j a=>?_⟩
   cases j with
   | zero=>exact d
   | succ j=>exact g j (by simpa using a)
theorem Z9W.own{bor:List Nat}{rd:List Nat}{x:Operand}(k:Nat){es n:Nat}{f:Nat->List DVal}(h0:Q5E rd x=true)(h1:bor.contains k=true)(h2:aev e x=.v (.c (.own k)))(h3:s k=some (.arr es n f)):Z9W P e s bor rd x (.v (.c (.d (.lst n f)))):=
 ⟨h0,.inr (.inl ⟨k,es,n,f,by simpa using h1,h2,h3,rfl⟩)⟩
theorem Z9W.sem{bor:List Nat}{rd:List Nat}{x:Operand}{F:List AVal->AVal->Prop}(h0:Q5E rd x=true)(h1:aev e x=Z5z P F):Z9W P e s bor rd x (Z5z P F):=⟨h0,.inr (.inr ⟨F,h1,rfl⟩)⟩
def callBB(ops:Array Oper)(nt:Nat)(e:Env)(o:Oper)(f:Nat)(r:AVal)(bor:List Nat):Bool:=
 Y0B o&&Y5h f (aev e (callX o))&&Q5E (Q0l o++U4 ops o) (callX o)&&r.flat&&bor.all (fun k=>(Z2T e o).contains k)&&Q1M nt o&&(Q8s ops e o==some true)
theorem KAt.callB{k:Nat}{f:Nat}{args:List AVal}{r:AVal}(hspec:K7 P f args [] r [])(hcall:∀ args w,(callFunc f args).run P w=.ok (.enter f args) w)(bor:List Nat)(hk:Q1V ds k=sE r)(hb:callBB ops nt (V5 L ops ops.toList ds e s k) (Y9 ops.toList k) f r bor=true)(hargs:Y6H P (V5 L ops ops.toList ds e s k) (Q2s L ops ops.toList ds e s k) bor (Q0l (Y9 ops.toList k)++U4 ops (Y9 ops.toList k)) (callXs (Y9 ops.toList k)).toList args):KAt P C nt L ops ds e s k:=by
 unfold KAt;rw [hk]
 simp only [callBB,Bool.and_eq_true] at hb;obtain ⟨⟨⟨⟨⟨⟨m,c⟩,q⟩,i⟩,o⟩,d⟩,l⟩:=hb
 obtain ⟨h,a⟩:=Z7g m;obtain ⟨g,p⟩:=hargs.spec
 exact Y8E hcall a (Y4u c) q hspec (by simpa using g) bor (fun j b=>p j b) (fun k hk=>by simpa using List.all_eq_true.1 o k hk) i d (by simpa using l)
end
end
section
section
variable {P:Program} {C:Ctx} {nt:Nat} {L:Lay} {ops:Array Oper} {ds:List Dir} {e:Env} {s:Sto}
theorem Y9p{k:Nat}{f:Nat}{args:List AVal}{Si:List (Nat×Obj)}{r:AVal}{So:List (Nat×Obj)}(hspec:K7 P f args Si r So)(hcall:∀ args w,(callFunc f args).run P w=.ok (.enter f args) w)(m:List (Nat×Nat))(extra:List Nat)(xs:List Operand)(hk:Q1V ds k=cE m extra r Si So)(hb:Go.Ab.callB ops nt (V5 L ops ops.toList ds e s k) (Y9 ops.toList k) f m r Si So=true)(hsi:Si.map (fun p=>Q2s L ops ops.toList ds e s k (J6 m p.1))=Si.map (fun p=>some (p.2.ren (J6 m))))(hxs:(Go.Ab.callXs (Y9 ops.toList k)).toList=xs)(hargs:Z6P C nt (V5 L ops ops.toList ds e s k) (Q2s L ops ops.toList ds e s k) Si (J6 m) (Q0l (Y9 ops.toList k)++U4 ops (Y9 ops.toList k)) (Z2T (V5 L ops ops.toList ds e s k) (Y9 ops.toList k)++(Si.map (fun p=>J6 m p.1)++extra)) xs args):KAt P C nt L ops ds e s k:=
 Y4G hspec hcall m extra hk hb hsi (hxs ▸ hargs)
theorem Z4N{k:Nat}{f:Nat}{args:List AVal}{r:AVal}(hspec:K7 P f args [] r [])(hcall:∀ args w,(callFunc f args).run P w=.ok (.enter f args) w)(bor:List Nat)(xs:List Operand)(hk:Q1V ds k=sE r)(hb:Go.Ab.callBB ops nt (V5 L ops ops.toList ds e s k) (Y9 ops.toList k) f r bor=true)(hxs:(Go.Ab.callXs (Y9 ops.toList k)).toList=xs)(hargs:Y6H P (V5 L ops ops.toList ds e s k) (Q2s L ops ops.toList ds e s k) bor (Q0l (Y9 ops.toList k)++U4 ops (Y9 ops.toList k)) xs args):KAt P C nt L ops ds e s k:=
 KAt.callB hspec hcall bor hk hb (hxs ▸ hargs)
def siB(s:Sto)(Si:List (Nat×Obj))(m:Nat->Nat)(ids cids:List Nat):Bool:=Si.all fun p=>(s (m p.1)).isSome&&ids.contains (m p.1) && !cids.contains (m p.1)
theorem Z5K{Si:List (Nat×Obj)}{m:Nat->Nat}{ids cids:List Nat}(h:siB s Si m ids cids=true):(∀ p ∈ Si,∃ o1,s (m p.1)=some o1)/\(∀ p ∈ Si,m p.1 ∈ ids)/\∀ p ∈ Si,m p.1 ∉ cids:=by
 refine ⟨fun p a=>?_,fun p a=>?_,fun p a=>?_⟩ <;> (have:=List.all_eq_true.1 h p a;simp only [Bool.and_eq_true,Bool.not_eq_true'] at this)
 .exact Option.isSome_iff_exists.1 this.1.1
 .simpa using this.1.2
 .simpa using this.2
theorem Q0i.semX{F:List AVal->AVal->Prop}{Si:List (Nat×Obj)}{m:Nat->Nat}{rd ids:List Nat}{x:Operand}(hx:Q5E rd x=true)(hv:aev e x=Z5z P F)(hsi:siB s Si m ids []=true):Q0i C nt e s Si m rd ids x (Z5z P F):=
 Q0i.sem hx hv (Z5K hsi).1 (Z5K hsi).2.1
def W0S(s:Sto):List Nat->List (List CV)->Prop
 | [],[]=>True
 | i::is,c::cs=>(∃ ro,s i=some (.box ro c))/\W0S s is cs
 | _,_=>False
theorem Y8t{is:List Nat}{cs:List (List CV)}(h:W0S s is cs):is.length=cs.length/\∀ k,k<cs.length->∃ ro,s (is.getD k 0)=some (.box ro (cs.getD k [])):=by
 induction is generalizing cs with
 | nil=>cases cs with
  | nil=>exact ⟨rfl,fun k a=>by simp at a⟩
  | cons c cs=>exact h.elim
 | cons i is ih=>cases cs with
  | nil=>exact h.elim
  | cons c cs=>
   obtain ⟨g,d⟩:=h;obtain ⟨b,j⟩:=ih d
   refine ⟨by simp [b],fun k a=>?_⟩
   cases k with
   | zero=>exact g
   | succ k=>exact j k (by simpa using a)
theorem Q0i.cloX{f:Nat}(hcall:∀ args w,(callFunc f args).run P w=.ok (.enter f args) w){F:List AVal->AVal->Prop}(cs:List (List CV))(hspec:∀ args r,F args r->K7 P f (args++Z8P cs) (Z0g cs) r (Z0g cs))(hres:∀ args r,F args r->r.closed=true){Si:List (Nat×Obj)}{m:Nat->Nat}{rd ids:List Nat}{x:Operand}(hx:Q5E rd x=true)(cids:List Nat)(hv:aev e x=.v (.c (.clo f cids)))(hnd:(Q3h cids&&cs.all (fun c=>c.all CV.closed)&&cids.all (fun i=>ids.contains i))=true)(hbox:W0S s cids cs)(hsi:siB s Si m ids cids=true):Q0i C nt e s Si m rd ids x (Z5z P F):=by
 simp only [Bool.and_eq_true] at hnd;obtain ⟨b,d⟩:=Y8t hbox
 exact Q0i.clo hcall hspec hres hx hv b hnd.1.1 d hnd.1.2 (Z5K hsi).1 (Z5K hsi).2.1 (fun i a=>by simpa using List.all_eq_true.1 hnd.2 i a) (Z5K hsi).2.2
end
noncomputable def gdc{R:Type}(p:Prop)(x:Option R):Option R:= @gd R p (Classical.propDecidable p) x
theorem Y6i{R:Type}{p:Prop}{x:Option R}{r:R}(h:gdc p x=some r):p/\x=some r:= @Y8e R p (Classical.propDecidable p) x r h
noncomputable def brN{R:Type}(n:Nat)(x y:Option R):Option R:=match n with
 | 0=>gdc (x=y) x
 | _+1=>y
theorem W2K{R:Type}{n:Nat}{x y:Option R}{r:R}(h:brN n x y=some r)(hn:n=0):x=some r:=by subst hn;exact (Y6i h).2
theorem W2L{R:Type}{n:Nat}{x y:Option R}{r:R}(h:brN n x y=some r):y=some r:=by
 cases n with
 | zero=>obtain ⟨a,b⟩:=Y6i h;exact a ▸ b
 | succ n=>exact h
end
section
def asV(s:Sto)(es:Nat):AVal->Option (Nat×Nat×Nat)
 | .v (.c (.own id))=>match s id with
  | some (.arr es' N _)=>if es=es' then some (id,0,N) else none
  | _=>none
 | .v (.c (.sub id es' lo n))=>if es=es' then some (id,lo,n) else none
 | _=>none
section
variable {P:Program} {L:Lay} {C:Ctx} {nt:Nat} {R:Nat->Prop} {η:Nat->Value} {e:Env} {s:Sto} {a:Act} {w:World}
inductive VOk (w:World) (X:Nat->Prop) (η:Nat->Value) (id es N:Nat) (f:Nat->List DVal) (lo n:Nat):Value->Prop
 | some (b cap:Nat) (c:Array Value) (e' : TypeId):η id=.slice (some ⟨b,0,none⟩) N cap->w.heap[b]?=some (.cells c e' (0,0))->c.size=cap*es->N<=cap->cap<=maxLen ->
   (∀ i,i<N->(f i).length=es)->(∀ i j,i<N->j<es->DRep w X (c.getD (i*es+j) undef) ((f i).getD j .any))->lo+n<=N->lo<cap ->
   VOk w X η id es N f lo n (.slice (some ⟨b,lo*es,none⟩) n (cap-lo))
 | nil (ad ad' : Option Addr):η id=.slice ad N N->lo=N->n=0->VOk w X η id es N f lo n (.slice ad' 0 0)
theorem Y1L(h:Conc C nt R η e s a w){x:Operand}{es id lo n N:Nat}{f:Nat->List DVal}(hx:asV s es (aev e x)=some (id,lo,n))(hs:s id=some (.arr es N f)):
  VOk w (XS C s η) η id es N f lo n (a.eval x):=by
 have g:=(W8 h x).1;have d:=h.st id _ hs
 unfold asV at hx;split at hx
 .rename_i l j
  split at hx
  .rename_i o p r i
   split at hx
   .cases hx
    rw [hs] at i;cases i
    rw [j] at g;rw [Q6V g]
    generalize hu:η id=u at d
    cases d with
    | nil ad=>exact .nil ad ad hu rfl rfl
    | arr b _ cap _ c e' _ h1 h2 h3 h4 h5 h6 h7=>
     have:=VOk.some (w:=w) (X:=XS C s η) (η:=η) (id:=id) (f:=f) (lo:=0) b cap c e' hu h1 h2 h3 h4 h6 h7 (Nat.le_of_eq (Nat.zero_add _)) h5
     simpa using this
   .cases hx
  .cases hx
 .rename_i l o q t j
  split at hx
  .rename_i m
   cases hx
   subst m;rw [j] at g
   generalize a.eval x=v at g
   cases g with|v _ _ g=>cases g with|c _ _ g=>cases g with
    | sub b p cap _ _ _ _ hη h1 h2=>
     rw [hη] at d
     cases d with
     | nil=>omega
     | arr _ _ _ _ c e' _ g1 g2 g3 g4 g5 g6 g7=>exact .some b cap c e' hη g1 g2 g3 g4 g6 g7 h1 h2
    | subN ad ad' p _ _ hη=>
     rw [hη] at d
     cases d with
     | nil=>exact .nil _ _ hη rfl rfl
     | arr _ _ _ _ c e' _ g1 g2 g3 g4 g5 g6 g7=>exact .nil _ _ hη rfl rfl
  .cases hx
 .cases hx
theorem VOk.slice{X:Nat->Prop}{v:Value}{id es N lo n:Nat}{f:Nat->List DVal}(h:VOk w X η id es N f lo n v):∃ ad cap,v=.slice ad n cap/\(n<=cap)/\lo+n<=N:=by
 cases h with
 | some b cap c e' h1 h2 h3 h4 h5 h6 h7 h8 h9=>exact ⟨_,_,rfl,by omega,h8⟩
 | nil ad ad' h1 h2 h3=>exact ⟨_,_,by rw [h3],by omega,by omega⟩
theorem VOk.part{X X' : Nat->Prop}{ad:Option Addr}{id es N lo n cap:Nat}{f:Nat->List DVal}(h:VOk w X η id es N f lo n (.slice ad n cap)){l u:Nat}(hlu:l<=u)(hu:lo+u<=N):
  ARep w X' η C (.slice (if cap=l then ad else ad.map (·.add (l*es))) (u-l) (cap-l)) (.v (.c (.sub id es (lo+l) (u-l)))):=by
 generalize hv:Value.slice ad n cap=v at h
 cases h with
 | some b cap' c e' h1 h2 h3 h4 h5 h6 h7 h8 h9=>
  cases hv
  by_cases hc:cap' - lo=l
  .have d:u-l=0:=by omega
   have g:cap' - lo-l=0:=by omega
   have i:lo+l=N:=by omega
   have j:cap'=N:=by omega
   rw [d,g,i];subst j
   exact .v _ _ (.c _ _ (.subN _ _ _ _ _ h1))
  .rw [if_neg hc]
   simp only [Option.map_some,add_lit];have d:lo*es+l*es=(lo+l)*es:=by rw [Nat.add_mul]
   have g:cap' - lo-l=cap' - (lo+l):=by omega
   rw [d,g];exact .v _ _ (.c _ _ (.sub b N cap' id es (lo+l) (u-l) h1 (by omega) (by omega)))
 | nil ad0 ad' h1 h2 h3=>
  cases hv
  have d:u-l=0:=by omega
  have g:lo+l=N:=by omega
  rw [d,g,Nat.zero_sub];exact .v _ _ (.c _ _ (.subN ad0 _ N id es h1))
theorem Y1p(h:Conc C nt R η e s a w){lo hi:Option Operand}{l u:Option Int}(hl:oI e lo=some l)(hu:oI e hi=some u)(n cap:Nat)(hc:0<=l.getD 0/\l.getD 0<=u.getD n/\u.getD n<=cap):
  (Instr.sliceBounds true n cap (lo.map a.eval) (hi.map a.eval) none).run P w=.ok ((l.getD 0).toNat,(u.getD n).toNat,cap) w:=by
 rcases Y7V h hl with ⟨h1,h2⟩|⟨k,m,h1,h2⟩ <;> rcases Y7V h hu with ⟨h3,h4⟩|⟨k',m',h3,h4⟩ <;> subst h2 <;> subst h4 <;> simp only [Option.getD_some,Option.getD_none] at hc
 .subst h1;subst h3
  simp [Instr.sliceBounds]
 .subst h1
  simp [Instr.sliceBounds,h3,Q4v m' cap _ ⟨hc.2.1,by omega⟩]
 .subst h3
  have b:=Q4v (P:=P) (w:=w) m n .sliceB ⟨hc.1,by omega⟩ k;simp [Instr.sliceBounds,h1,b]
 .have b:=Q4v (P:=P) (w:=w) m m'.toNat .sliceB ⟨hc.1,by omega⟩ k
  simp [Instr.sliceBounds,h1,h3,Q4v m' cap _ ⟨by omega,by omega⟩,b]
theorem Y6O(hL:LOk P L)(h:Conc C nt R η e s a w){o:Oper}(hd:∀ x,o.dst=some x->x<nt){t:TypeId}{x:Operand}{lo hi:Option Operand}(hop:o.op=.slice t x lo hi none){ti:TI}(ht:L t=some ti){el:Nat}(hk:ti.kind=.slice el){te:TI}(hte:L el=some te){l u:Option Int}(hl:oI e lo=some l)(hu:oI e hi=some u){id lo0 n N:Nat}{f:Nat->List DVal}(hx:asV s te.size (aev e x)=some (id,lo0,n))(hs:s id=some (.arr te.size N f))(hc:0<=l.getD 0/\l.getD 0<=u.getD n/\(lo0:Int)+u.getD n<=N):
  Snd P C nt R η e s a w o { v:=.v (.c (.sub id te.size (lo0+(l.getD 0).toNat) ((u.getD n).toNat-(l.getD 0).toNat))) }:=by
 obtain ⟨i,dd,z,r⟩:=hL t ti ht;obtain ⟨J,D,H,p⟩:=hL el te hte
 have m:=r.kind;rw [hk] at m
 simp only [KOk] at m;have d:=Y1L h hx hs
 obtain ⟨G,g,y,I,M⟩:=d.slice;have q:(u.getD n)<=g:=by
  rw [y] at d;generalize hv:Value.slice G n g=v at d
  cases d with
  | some b cap' c e' h1 h2 h3 h4 h5 h6 h7 h8 h9=>cases hv;omega
  | nil ad0 ad' h1 h2 h3=>cases hv;omega
 rw [y] at d;have F:=Y1p (P:=P) h hl hu n g ⟨hc.1,hc.2.1,q⟩
 have B:∀ j ∈ (AVal.v (.c (.sub id te.size (lo0+(l.getD 0).toNat) ((u.getD n).toNat-(l.getD 0).toNat)))).refs,R j:=by
  intro j A;simp [AVal.refs,TV.refs,CV.refs] at A
  rw [A];exact (h.sr id _ hs).1
 refine y8 h hd ?_ (d.part (l:=(l.getD 0).toNat) (u:=(u.getD n).toNat) (by omega) (by omega)) B;simp only [execOp,hop,Sem.run_bind,Instr.sliceAt,run_underlying r.und,Result.andThen_ok,m,Instr.slice,y,Option.map_none,F,y6 p,Sem.run_pure]
theorem Y9C(hL:LOk P L)(h:Conc C nt R η e s a w){o:Oper}(hd:∀ x,o.dst=some x->x<nt){t:TypeId}{x:Operand}(hop:o.op=.call { callee:=.builtin .len,args:= #[x],argTypes:= #[t] }){ti:TI}(ht:L t=some ti){el:Nat}(hk:ti.kind=.slice el){es id lo n N:Nat}{f:Nat->List DVal}(hx:asV s es (aev e x)=some (id,lo,n))(hs:s id=some (.arr es N f)):Snd P C nt R η e s a w o { v:=vi n }:=by
 obtain ⟨i,dd,z,c⟩:=hL t ti ht;have b:=c.kind
 rw [hk] at b;simp only [KOk] at b
 obtain ⟨j,d,g,_⟩:=(Y1L h hx hs).slice;refine y8 h hd (v:=.int .i64 n) ?_ (Q5e _ _ _) (by simp [vi,AVal.refs,TV.refs,CV.refs])
 simp [execOp,hop,resolve,invoke,builtin,Builtin.len_,run_underlying c.und,b,g,goInt]
theorem Y6P(hL:LOk P L)(h:Conc C nt R η e s a w){o:Oper}(hd:∀ x,o.dst=some x->x<nt){t:TypeId}{x i:Operand}(hop:o.op=.indexAddr t x i){ti:TI}(ht:L t=some ti){el:Nat}(hk:ti.kind=.slice el){te:TI}(hte:L el=some te){m:Int}(hi:asI (aev e i)=some m){id lo n N:Nat}{f:Nat->List DVal}(hx:asV s te.size (aev e x)=some (id,lo,n))(hs:s id=some (.arr te.size N f))(hc:0<=m/\m<n):
  Snd P C nt R η e s a w o { v:=.v (.c (.pte id te.size (lo+m.toNat) 0)) }:=by
 obtain ⟨D,z,F,g⟩:=hL t ti ht;obtain ⟨B,y,A,l⟩:=hL el te hte
 have d:=g.kind;rw [hk] at d
 simp only [KOk] at d;subst d
 obtain ⟨k,u⟩:=Y0T h hi;have p:=Y1L h hx hs
 generalize ev:a.eval x=v at p
 cases p with
 | some b cap c e' h1 h2 h3 h4 h5 h6 h7 h8 h9=>
  refine y8 h hd (v:=.pointer (some ⟨b,(lo+m.toNat)*te.size+0,none⟩)) ?_ (.v _ _ (.c _ _ (.pte b N cap _ _ _ _ h1))) (fun j q=>by simp [AVal.refs,TV.refs,CV.refs] at q;rw [q];exact (h.sr id _ hs).1);have r:lo*te.size+m.toNat*te.size=(lo+m.toNat)*te.size:=by rw [Nat.add_mul]
  simp [execOp,hop,Instr.indexAt,u,ev,asIntOf,run_underlying g.und,hc,y6 l,add_lit,r]
 | nil ad0 ad' h1 h2 h3=>omega
theorem Y5H(h:Conc C nt R η e s a w){o:Oper}(hd:∀ x,o.dst=some x->x<nt){id:Nat}{ob ob' : Obj}(hs:s id=some ob)(hro:ob.ro=false)(hro' : ob'.ro=false)(hrf:∀ j ∈ ob'.refs,R j){w' : World}{v:Value}{x:AVal}(hstp:Stp (fun b=>b ∈ W2 (η id)) w w')(hrun:(execOp a.eval o).run P w=.ok (.value v) w')(hob:∀ X',Q7o w w' (XS C s η) X' -> ORep w' X' η C (η id) ob')(hv:∀ X',ARep w' X' η C v x)(hx:∀ j ∈ x.refs,R j):Snd P C nt R η e s a w o { v:=x,upd:=some (id,ob') }:=by
 have m:=Q5X (C:=C) (s:=s) (η:=η) { v:=x,upd:=some (id,ob') } o.dst v (fun b=>b ∈ W2 (η id)) hstp (fun b l=>⟨id,ob,hs,l⟩) (fun _ _ d=>by cases d)
  (fun k o d=>by cases d;rw [hs];simp)
 have c:SR.eta { v:=x,upd:=some (id,ob') } o.dst v η=η:=by funext i;simp [SR.eta]
 refine ⟨v,w',.inl hrun,?_⟩;refine h.step o.dst hd _ _ _ (fun b=>b ∈ W2 (η id)) hstp ?_ (fun _ _ d=>by cases d) ?_ (fun _=>⟨?_,fun j p=>.inl (hx j p)⟩)
 .intro b l
  refine ⟨⟨id,.inr ⟨ob',rfl⟩,by rw [hs];simp,l⟩,?_⟩;rcases h.ow id ob _ hs l with ⟨g,_⟩|g
  .rw [hro] at g;cases g
  .exact g
 .intro k q d
  cases d
  refine ⟨⟨ob,hs,hro⟩,hro',by simp,hrf,?_⟩;rw [c]
  rw [c] at m;exact hob _ m
 .rw [c];exact hv _
theorem W1Q{X' : Nat->Prop}{id es N cap b lo k:Nat}{f g:Nat->List DVal}{c:Array Value}{e' : TypeId}{news:List Value}(hX:Q7o w (w.setRow b (c.toList.take (lo*es)++news++c.toList.drop (lo*es+news.length)).toArray) (XS C s η) X')(h1:η id=.slice (some ⟨b,0,none⟩) N cap)(h2:w.heap[b]?=some (.cells c e' (0,0)))(h3:c.size=cap*es)(h4:N<=cap)(h5:cap<=maxLen)(h50:0<cap)(h6:∀ i,i<N->(f i).length=es)(h7:∀ i j,i<N->j<es->DRep w (XS C s η) (c.getD (i*es+j) undef) ((f i).getD j .any))(hk:lo+k<=N)(hn:news.length=k*es)(g1:∀ i,i<k->(g i).length=es)(g2:∀ i j,i<k->j<es->DRep w (XS C s η) (news.getD (i*es+j) undef) ((g i).getD j .any)):
  ORep (w.setRow b (c.toList.take (lo*es)++news++c.toList.drop (lo*es+news.length)).toArray) X' η C (η id) (.arr es N fun i=>if lo<=i/\i<lo+k then g (i-lo) else f i):=by
 have h:lo*es+news.length<=c.size:=by rw [hn,h3, <-Nat.add_mul];exact Nat.mul_le_mul_right _ (by omega)
 obtain ⟨t,u⟩:=Z1h c (lo*es) news h;rw [h1]
 refine .arr b N cap es _ e' _ (setRow_heap w b c _ e' _ h2) (by rw [t];exact h3) h4 h5 h50 (fun i m=>?_) (fun i j m r=>?_)
 .by_cases hc:lo<=i/\i<lo+k
  .simp only [hc,and_self,if_true];exact g1 _ (by omega)
  .simp only [hc,if_false];exact h6 i m
 .rw [u]
  have d:∀ {p q:Nat},p<q->p*es+es<=q*es:=fun {p q} hpq=>by
   have:(p+1)*es<=q*es:=Nat.mul_le_mul_right _ hpq
   rwa [Nat.add_mul,Nat.one_mul] at this
  by_cases hc:lo<=i/\i<lo+k
  .have B:lo*es<=i*es:=Nat.mul_le_mul_right _ hc.1
   have y:=d hc.2;rw [Nat.add_mul] at y
   rw [if_pos ⟨by omega,by omega⟩];simp only [hc,and_self,if_true]
   have v:i*es+j-lo*es=(i-lo)*es+j:=by rw [Nat.sub_mul];omega
   rw [v];exact (g2 (i-lo) j (by omega) r).mono fun x o hn=>hX x o hn
  .rw [if_neg]
   .simp only [hc,if_false];exact (h7 i j m r).mono fun x o hn=>hX x o hn
   .rintro ⟨D,A⟩
    rcases Nat.lt_or_ge i lo with l|z
    .have:=d l;omega
    .have:(lo+k)*es<=i*es:=Nat.mul_le_mul_right _ (by omega)
     rw [Nat.add_mul] at this;omega
theorem Y5L{id N cap b:Nat}(h1:η id=.slice (some ⟨b,0,none⟩) N cap)(h:0<cap)(cs:Array Value):Stp (fun x=>x ∈ W2 (η id)) w (w.setRow b cs):=
 (Z4r w b cs).mono fun x _ c=>by have e:x=b:=c;rw [h1,e];simp [W2];omega
theorem W0u{k lo:Nat}{f g:Nat->List DVal}(h:k=0):(fun i=>if lo<=i/\i<lo+k then g (i-lo) else f i)=f:=by
 funext i;rw [if_neg (by omega)]
def DLe(x y:DVal):Prop:=∀ w X v,DRep w X v x->DRep w X v y
theorem DLe.refl(x:DVal):DLe x x:=fun _ _ _ h=>h
theorem DLe.nil(f g:Nat->List DVal):DLe (.lst 0 f) (.lst 0 g):=fun w X v h=>by
 cases h with
 | nil a cap=>exact .nil a cap g
 | lst b off n cap c e fz f es=>exact .nil _ cap g
def W1j:List DVal->List DVal->Prop
 | [],[]=>True
 | x::xs,y::ys=>DLe x y/\W1j xs ys
 | _,_=>False
theorem W1j.spec{xs ys:List DVal}(h:W1j xs ys):xs.length=ys.length/\∀ j,DLe (xs.getD j .any) (ys.getD j .any):=by
 induction xs generalizing ys with
 | nil=>cases ys with
  | nil=>exact ⟨rfl,fun j=>DLe.refl _⟩
  | cons y ys=>exact h.elim
 | cons x xs ih=>cases ys with
  | nil=>exact h.elim
  | cons y ys=>
   obtain ⟨d,c⟩:=h;obtain ⟨b,g⟩:=ih c
   refine ⟨by simp [b],fun j=>?_⟩
   cases j with
   | zero=>exact d
   | succ j=>exact g j
theorem Y6Q(hL:LOk P L)(h:Conc C nt R η e s a w){o:Oper}(hd:∀ x,o.dst=some x->x<nt){t:TypeId}{x:Operand}(hop:o.op=.call { callee:=.builtin .clear,args:= #[x],argTypes:= #[t] }){ti:TI}(ht:L t=some ti){el:Nat}(hk:ti.kind=.slice el){te:TI}(hte:L el=some te)(h0:0<te.size)(hzl:te.zero.length=te.size){zd0 zd:List DVal}(hz:Y2g te.zero=some zd0)(hle:W1j zd0 zd){id lo n N:Nat}{f:Nat->List DVal}(hx:asV s te.size (aev e x)=some (id,lo,n))(hs:s id=some (.arr te.size N f)):
  Snd P C nt R η e s a w o { v:=.any,upd:=some (id,.arr te.size N fun i=>if lo<=i/\i<lo+n then (fun _=>zd) (i-lo) else f i) }:=by
 obtain ⟨i,dd,z,F⟩:=hL t ti ht;obtain ⟨i2,d2,d,p⟩:=hL el te hte
 have D:=F.kind;rw [hk] at D
 simp only [KOk] at D;subst D
 have W:=Y1L h hx hs;have Z:=h.st id _ hs
 have Y:∀ j ∈ (AVal.any).refs,R j:=fun j G=>by cases G
 have V:∀ v,a.eval x=v->(∃ ad r,v=.slice ad 0 r)->n=0->Snd P C nt R η e s a w o { v:=.any,upd:=some (id,.arr te.size N fun i=>if lo<=i/\i<lo+n then (fun _=>zd) (i-lo) else f i) }:=by
  rintro v M ⟨ad,r,rfl⟩ J;have m:(execOp a.eval o).run P w=.ok (.value (.tuple #[])) w:=by
   cases ad <;> simp [execOp,hop,resolve,invoke,builtin,Builtin.clear_,run_underlying F.und,M]
  refine Y5H h hd hs rfl rfl (by simp [Obj.refs]) (Stp.refl _ _) m (fun X' hX=>?_) (fun X'=>.any _) Y;have U:ORep w X' η C (η id) (.arr te.size N f):=Z.mono hX (fun j G=>rfl) fun b hb=>rfl
  rw [<-W0u (k:=n) (lo:=lo) (f:=f) (g:=fun _=>zd) J] at U;exact U
 generalize M:a.eval x=v at W
 cases W with
 | some b r c e' h1 h2 h3 h4 h5 h6 h7 h8 h9=>
  by_cases J:n=0
  .exact V _ M ⟨some ⟨b,lo*te.size,none⟩,r-lo,by rw [J]⟩ J
  .have l:d.cells.size=te.size:=by rw [(p.zrep w (XS C s η) η C).1,hzl]
   obtain ⟨B,I⟩:=Z8n (p.zrep w (XS C s η) η C) hz;have H:(Builtin.zeroCells d.cells n).toList.length=n*te.size:=by simp [Builtin.zeroCells,l]
   have O:∀ u ∈ (Builtin.zeroCells d.cells n).toList,u.oneCell'=true:=by
    intro u hu;simp only [Builtin.zeroCells,Array.toList_map,List.mem_map] at hu
    obtain ⟨q,hq,rfl⟩:=hu;have y:q % d.cells.size<d.cells.size:=Nat.mod_lt _ (by rw [l];exact h0)
    have:=(I (q % d.cells.size) (by rw [B];exact y)).one
    simpa [y] using this
   have T:lo*te.size+0+(Builtin.zeroCells d.cells n).toList.length<=c.size:=by rw [H,h3,Nat.add_zero, <-Nat.add_mul];exact Nat.mul_le_mul_right _ (by omega)
   have A:=run_storeCells_at P b (lo*te.size) e' (Builtin.zeroCells d.cells n).toList 0 c w h2 T O;simp only [Nat.add_zero] at A
   have m:(execOp a.eval o).run P w=.ok (.value (.tuple #[])) (w.setRow b (c.toList.take (lo*te.size)++(Builtin.zeroCells d.cells n).toList++c.toList.drop (lo*te.size+(Builtin.zeroCells d.cells n).toList.length)).toArray):=by
    simp [execOp,hop,resolve,invoke,builtin,Builtin.clear_,run_underlying F.und,M,Q9w p,A,J]
   refine Y5H h hd hs rfl rfl (by simp [Obj.refs]) (Y5L h1 (by omega) _) m (fun X' hX=>?_) (fun X'=>.any _) Y;refine W1Q hX h1 h2 h3 h4 h5 (by omega) h6 h7 h8 H (fun i _=>by rw [<-hle.spec.1,B,l]) fun i j hi G=>?_
   have y:i*te.size+j<n*te.size:=by
    have:(i+1)*te.size<=n*te.size:=Nat.mul_le_mul_right _ hi
    rw [Nat.add_mul,Nat.one_mul] at this;omega
   have hm:(i*te.size+j) % te.size=j:=by rw [Nat.add_comm,Nat.add_mul_mod_self_right,Nat.mod_eq_of_lt G]
   have hg:(Builtin.zeroCells d.cells n).toList.getD (i*te.size+j) undef=d.cells.getD j undef:=by
    have:=Z3n (n*d.cells.size) (fun i=>d.cells[i % d.cells.size]!) (i*te.size+j) (by rw [l];exact y)
    have e1:(Builtin.zeroCells d.cells n).toList.getD (i*te.size+j) undef=(Builtin.zeroCells d.cells n).getD (i*te.size+j) undef:=by simp [List.getD_eq_getElem?_getD,Array.getD_eq_getD_getElem?]
    rw [e1];unfold Builtin.zeroCells
    rw [this,l,hm];have:j<d.cells.size:=by rw [l];exact G
    simp [this]
   rw [hg];exact hle.spec.2 j _ _ _ (I j (by rw [B,l];exact G))
 | nil ad0 ad' h1 h2 h3=>exact V _ M ⟨_,_,rfl⟩ h3
end
end
section
section
variable {P:Program} {C:Ctx} {nt:Nat} {L:Lay} {ops:Array Oper} {ds:List Dir} {e:Env} {s:Sto}
def rE(r:SR):Array Oper->Oper->Env->Eff:=fun ops o e=>Y3j ops o e r r.v
theorem Z1c{o:Oper}(hdo:Q1M nt o=true){r:SR}(hg:Q8s ops e o=some true)(hsnd:∀ (R:Nat->Prop) (η:Nat->Value) (e0:Env) (s0:Sto) (a:Act) (w:World),(∀ x ∈ o.op.operands.toList,aev e0 x=aev e x)->(∀ x ∈ o.op.operands.toList,∀ i ∈ (aev e x).refs,s0 i=s i)->(∀ d,o.dst=some d->r.new≠none->¬ R d) ->
   Conc C nt R η e0 s0 a w->Snd P C nt R η e0 s0 a w o r):StT P C nt ops o (Y3j ops o e r r.v) e s:=by
 intro R η e0 s0 a w m c y b K Q F;have p:∀ x ∈ o.op.operands.toList,aev e0 x=aev e x:=by
  intro x p
  cases x with
  | tmp t=>exact m t (List.mem_append.2 (.inl (List.mem_filterMap.2 ⟨_,p,rfl⟩)))
  | const v=>rfl
  | global g=>rfl
  | func f=>rfl
 have u:∀ x ∈ o.op.operands.toList,∀ i ∈ (aev e x).refs,s0 i=s i:=fun x p i I=>c i (List.mem_flatMap.2 ⟨x,p,I⟩)
 have D:=Q5N (e:=e) b (fun t M=>m t (List.mem_append.2 (.inr M))) hg;rw [if_pos D]
 have G:=hsnd R η e0 s0 a w p u (fun d B H=>y d (by
  obtain ⟨N,q⟩:=Option.ne_none_iff_exists'.1 H;simp [Y3j,SR.nw,q,B])) b
 refine G.wp fun η' J w' z=>F η' J w' ?_
 have A:=z.wider (Y6K r o.dst R);have h:upS (Y3j ops o e r r.v).l s0=r.sto o.dst s0:=Y6J r o.dst s0
 rw [h];have j:Z0r o.dst (Y3j ops o e r r.v).v e0=r.env o.dst e0:=rfl
 rw [j];exact A
theorem Z7q{s0:Sto}{es:Nat}{x:AVal}(h:∀ i ∈ x.refs,s0 i=s i):asV s0 es x=asV s es x:=by
 unfold asV;split
 .rw [h _ (by simp [AVal.refs,TV.refs,CV.refs])]
 .rfl
 .rfl
theorem Y1W{es:Nat}{x:AVal}{id lo n:Nat}(h:asV s es x=some (id,lo,n)):id ∈ x.refs:=by
 unfold asV at h;split at h
 .split at h
  .split at h
   .cases h;simp [AVal.refs,TV.refs,CV.refs]
   .cases h
  .cases h
 .split at h
  .cases h;simp [AVal.refs,TV.refs,CV.refs]
  .cases h
 .cases h
def slT(L:Lay)(t:TypeId)(te:TI):Prop:=∃ ti el,L t=some ti/\ti.kind=.slice el/\L el=some te
variable {k:Nat}
theorem Q7p(hL:LOk P L){te:TI}{t:TypeId}(hT:slT L t te){x:Operand}{lo hi:Option Operand}{l u:Option Int}{id lo0 n N:Nat}{f:Nat->List DVal}{r:AVal}(hk:Q1V ds k=rE { v:=r })(hop:(Y9 ops.toList k).op=.slice t x lo hi none)(hdo:(Q1M nt (Y9 ops.toList k)&&(Q8s ops (V5 L ops ops.toList ds e s k) (Y9 ops.toList k)==some true))=true)(hl:oI (V5 L ops ops.toList ds e s k) lo=some l)(hu:oI (V5 L ops ops.toList ds e s k) hi=some u)(hx:asV (Q2s L ops ops.toList ds e s k) te.size (aev (V5 L ops ops.toList ds e s k) x)=some (id,lo0,n))(hs:Q2s L ops ops.toList ds e s k id=some (.arr te.size N f))(hc:0<=l.getD 0/\l.getD 0<=u.getD n/\(lo0:Int)+u.getD n<=N)(hr:r=.v (.c (.sub id te.size (lo0+(l.getD 0).toNat) ((u.getD n).toNat-(l.getD 0).toNat)))):KAt P C nt L ops ds e s k:=by
 unfold KAt;rw [hk]
 simp only [Bool.and_eq_true,beq_iff_eq] at hdo;obtain ⟨J,I,H,D,B⟩:=hT
 refine Z1c hdo.1 hdo.2 fun R η m F a w p g _ z=>?_
 have i:∀ y,(y=x\/lo=some y\/hi=some y)->y ∈ (Y9 ops.toList k).op.operands.toList:=by
  intro y b;rw [hop]
  rcases b with h|h|h
  .subst h;simp [Op.operands]
  .subst h;simp [Op.operands,optional]
  .subst h;simp [Op.operands,optional]
 have o:asV F te.size (aev m x)=some (id,lo0,n):=by
  rw [p x (i x (.inl rfl)),Z7q (g x (i x (.inl rfl)))];exact hx
 have q:F id=some (.arr te.size N f):=by rw [g x (i x (.inl rfl)) id (Y1W hx)];exact hs
 have A:oI m lo=some l:=by rw [Z9y fun y b=>p y (i y (.inr (.inl b)))];exact hl
 have j:oI m hi=some u:=by rw [Z9y fun y b=>p y (i y (.inr (.inr b)))];exact hu
 rw [hr];exact Y6O hL z (fun d G=>Q5I hdo.1 d G) hop H D B A j o q hc
theorem Y6D(hL:LOk P L){te:TI}{t:TypeId}(hT:slT L t te){x:Operand}{es id lo0 n N:Nat}{f:Nat->List DVal}(hk:Q1V ds k=rE { v:=vi n })(hop:(Y9 ops.toList k).op=.call { callee:=.builtin .len,args:= #[x],argTypes:= #[t] })(hdo:(Q1M nt (Y9 ops.toList k)&&(Q8s ops (V5 L ops ops.toList ds e s k) (Y9 ops.toList k)==some true))=true)(hx:asV (Q2s L ops ops.toList ds e s k) es (aev (V5 L ops ops.toList ds e s k) x)=some (id,lo0,n))(hs:Q2s L ops ops.toList ds e s k id=some (.arr es N f)):KAt P C nt L ops ds e s k:=by
 unfold KAt;rw [hk]
 simp only [Bool.and_eq_true,beq_iff_eq] at hdo;obtain ⟨y,u,q,i,r⟩:=hT
 refine Z1c hdo.1 hdo.2 fun R η o l a w p b _ h=>?_
 have j:x ∈ (Y9 ops.toList k).op.operands.toList:=by rw [hop];simp [Op.operands,Call.operands]
 have c:asV l es (aev o x)=some (id,lo0,n):=by
  rw [p x j,Z7q (b x j)];exact hx
 have g:l id=some (.arr es N f):=by rw [b x j id (Y1W hx)];exact hs
 exact Y9C hL h (fun d m=>Q5I hdo.1 d m) hop q i c g
theorem Z8S(hL:LOk P L){te:TI}{t:TypeId}(hT:slT L t te){x i:Operand}{m:Int}{id lo0 n N:Nat}{f:Nat->List DVal}{r:AVal}(hk:Q1V ds k=rE { v:=r })(hop:(Y9 ops.toList k).op=.indexAddr t x i)(hdo:(Q1M nt (Y9 ops.toList k)&&(Q8s ops (V5 L ops ops.toList ds e s k) (Y9 ops.toList k)==some true))=true)(hi:asI (aev (V5 L ops ops.toList ds e s k) i)=some m)(hx:asV (Q2s L ops ops.toList ds e s k) te.size (aev (V5 L ops ops.toList ds e s k) x)=some (id,lo0,n))(hs:Q2s L ops ops.toList ds e s k id=some (.arr te.size N f))(hc:0<=m/\m<n)(hr:r=.v (.c (.pte id te.size (lo0+m.toNat) 0))):KAt P C nt L ops ds e s k:=by
 unfold KAt;rw [hk]
 simp only [Bool.and_eq_true,beq_iff_eq] at hdo;obtain ⟨F,D,B,p,o⟩:=hT
 refine Z1c hdo.1 hdo.2 fun R η A u a w y b _ l=>?_
 have q:x ∈ (Y9 ops.toList k).op.operands.toList:=by rw [hop];simp [Op.operands]
 have h:i ∈ (Y9 ops.toList k).op.operands.toList:=by rw [hop];simp [Op.operands]
 have g:asV u te.size (aev A x)=some (id,lo0,n):=by
  rw [y x q,Z7q (b x q)];exact hx
 have j:u id=some (.arr te.size N f):=by rw [b x q id (Y1W hx)];exact hs
 rw [<-y i h] at hi;rw [hr]
 exact Y6P hL l (fun d z=>Q5I hdo.1 d z) hop B p o hi g j hc
theorem Z8T(hL:LOk P L){te:TI}{t:TypeId}(hT:slT L t te){x:Operand}{id lo0 n N:Nat}{f g:Nat->List DVal}(zd0 zd:List DVal)(hle:W1j zd0 zd)(hk:Q1V ds k=rE { v:=.any,upd:=some (id,.arr te.size N g) })(hop:(Y9 ops.toList k).op=.call { callee:=.builtin .clear,args:= #[x],argTypes:= #[t] })(hdo:(Q1M nt (Y9 ops.toList k)&&(Q8s ops (V5 L ops ops.toList ds e s k) (Y9 ops.toList k)==some true))=true)(h0:0<te.size)(hzl:te.zero.length=te.size)(hz:Y2g te.zero=some zd0)(hx:asV (Q2s L ops ops.toList ds e s k) te.size (aev (V5 L ops ops.toList ds e s k) x)=some (id,lo0,n))(hs:Q2s L ops ops.toList ds e s k id=some (.arr te.size N f))(hg:g=fun i=>if lo0<=i/\i<lo0+n then (fun _=>zd) (i-lo0) else f i):KAt P C nt L ops ds e s k:=by
 unfold KAt;rw [hk,hg]
 simp only [Bool.and_eq_true,beq_iff_eq] at hdo;obtain ⟨A,z,y,m,l⟩:=hT
 refine Z1c hdo.1 hdo.2 fun R η r p a w u b _ j=>?_
 have o:x ∈ (Y9 ops.toList k).op.operands.toList:=by rw [hop];simp [Op.operands,Call.operands]
 have c:asV p te.size (aev r x)=some (id,lo0,n):=by
  rw [u x o,Z7q (b x o)];exact hx
 have h:p id=some (.arr te.size N f):=by rw [b x o id (Y1W hx)];exact hs
 exact Y6Q hL j (fun d q=>Q5I hdo.1 d q) hop y m l h0 hzl hz hle c h
end
end
section
section
variable {P:Program} {C:Ctx} {nt:Nat} {L:Lay} {pins:List Nat} {K:Act->World->Prop}
theorem J2(k:Nat)(o:Obj)(S:List (Nat×Obj))(i:Nat):ls ((k,o)::S) i=if i=k then some o else ls S i:=by
 unfold ls;rw [List.lookup_cons]
 by_cases h:i=k
 .subst h;simp
 .have:(i==k)=false:=by simpa using h
  rw [this,if_neg h]
theorem Z9B(k:Nat)(o:AVal)(E:List (Nat×AVal))(i:Nat):lk ((k,o)::E) i=if i=k then o else lk E i:=by
 unfold lk;rw [List.lookup_cons]
 by_cases h:i=k
 .subst h;simp
 .have:(i==k)=false:=by simpa using h
  rw [this,if_neg h]
end
end
end
end Go.Ab
