/- Abstract states over the model. -/
import Derived.Test.YtgfmopdbhjcpfaaGreatAbA
import Derived.KernelRfl
import Derived.Laws.StructEq
set_option linter.unusedVariables false
set_option linter.unusedSimpArgs false
namespace Go.Ab
noncomputable section
section
def CV.noSem:CV->Bool
 | .sem _=>false
 | _=>true
def TV.noSem:TV->Bool
 | .c x=>x.noSem
 | .g xs=>xs.all CV.noSem
def AVal.noSem:AVal->Bool
 | .any=>true
 | .v x=>x.noSem
 | .t xs=>xs.all TV.noSem
def Obj.noSem:Obj->Bool
 | .box _ cs=>cs.all CV.noSem
 | .arr _ _ _=>true
 | .ext _=>true
 | .exr _ _=>true
section
variable {w:World} {X:Nat->Prop} {η:Nat->Value} {C C' : Ctx}
theorem CRep.ctx{v:Value}{x:CV}(h:CRep w X η C v x)(hx:x.noSem=true):CRep w X η C' v x:=by
 cases h with
 | d _ _ h=>exact .d _ _ h
 | fl _ _ _ h=>exact .fl _ _ _ h
 | own _ _ h h1=>exact .own _ _ h h1
 | ptr _ _ _ h=>exact .ptr _ _ _ h
 | pte _ _ _ _ _ _ _ h=>exact .pte _ _ _ _ _ _ _ h
 | sub b N cap _ es lo n h h1 h2=>exact .sub b N cap _ es lo n h h1 h2
 | subN ad ad' N _ es h=>exact .subN ad ad' N _ es h
 | elm _ _ _ _ _ _ h1 h2 h3 h4=>exact .elm _ _ _ _ _ _ h1 h2 h3 h4
 | clo _ _ _ h=>exact .clo _ _ _ h
 | sem _ _ h h1=>cases hx
 | ap _ _ h h1=>exact .ap _ _ h h1
 | bnd _ _ _ h1 h2=>exact .bnd _ _ _ h1 h2
 | cp _ _ _ _ h h1 h2=>exact .cp _ _ _ _ h h1 h2
theorem y8.ctx{vs:Array Value}{cs:List CV}(h:y8 w X η C vs cs)(hx:cs.all CV.noSem=true):y8 w X η C' vs cs:=
 ⟨h.1,fun j a=>(h.2 j a).ctx (List.all_eq_true.1 hx _ (Q0H a))⟩
theorem TRep.ctx{v:Value}{x:TV}(h:TRep w X η C v x)(hx:x.noSem=true):TRep w X η C' v x:=by
 cases h with
 | c _ _ h=>exact .c _ _ (h.ctx hx)
 | g _ _ h=>exact .g _ _ (h.ctx hx)
theorem ARep.ctx{v:Value}{x:AVal}(h:ARep w X η C v x)(hx:x.noSem=true):ARep w X η C' v x:=by
 cases h with
 | any=>exact .any v
 | v _ _ h=>exact .v _ _ (h.ctx hx)
 | t us xs h1 h2=>exact .t us xs h1 fun j a=>(h2 j a).ctx (List.all_eq_true.1 hx _ (Q0H a))
theorem ORep.ctx{v:Value}{o:Obj}(h:ORep w X η C v o)(hx:o.noSem=true):ORep w X η C' v o:=by
 cases h with
 | box b ro c e cs h1 h2=>exact .box b ro c e cs h1 (h2.ctx hx)
 | nil ad es f=>exact .nil ad es f
 | arr b n cap es c e f h1 h2 h3 h4 h5 h6 h7=>exact .arr b n cap es c e f h1 h2 h3 h4 h5 h6 h7
 | ext _ _ h1 h2 h3=>exact .ext _ _ h1 h2 h3
 | exr _ _ _ h1 h2 h3=>exact .exr _ _ _ h1 h2 h3
theorem CRep.toRen{ρ:Nat->Nat}{v:Value}{x:CV}(h:CRep w X (fun i=>η (ρ i)) C v x):CRep w X η C v (x.ren ρ):=by
 cases h with
 | d _ _ h=>exact .d _ _ h
 | fl _ _ _ h=>exact .fl _ _ _ h
 | own _ _ h h1=>exact .own _ _ h h1
 | ptr _ _ _ h=>exact .ptr _ _ _ h
 | pte _ _ _ _ _ _ _ h=>exact .pte _ _ _ _ _ _ _ h
 | sub b N cap _ es lo n h h1 h2=>exact .sub b N cap _ es lo n h h1 h2
 | subN ad ad' N _ es h=>exact .subN ad ad' N _ es h
 | elm _ _ _ _ _ _ h1 h2 h3 h4=>exact .elm _ _ _ _ _ _ h1 h2 h3 h4
 | clo f ids vs h=>exact .clo f _ vs (by rw [h,List.map_map];rfl)
 | sem _ _ h h1=>exact .sem _ _ h h1
 | ap _ _ h h1=>exact .ap _ _ h h1
 | bnd _ _ _ h1 h2=>exact .bnd _ _ _ h1 h2
 | cp _ _ _ _ h h1 h2=>exact .cp _ _ _ _ h h1 h2
theorem y8.toRen{ρ:Nat->Nat}{vs:Array Value}{cs:List CV}(h:y8 w X (fun i=>η (ρ i)) C vs cs):y8 w X η C vs (cs.map (CV.ren ρ)):=by
 refine ⟨by simpa using h.1,fun j b=>?_⟩;have a : j<cs.length:=by simpa using b
 have:=(h.2 j a).toRen
 rw [List.getD_eq_getElem?_getD,List.getElem?_map,List.getElem?_eq_getElem a];rw [List.getD_eq_getElem?_getD,List.getElem?_eq_getElem a] at this
 exact this
theorem TRep.toRen{ρ:Nat->Nat}{v:Value}{x:TV}(h:TRep w X (fun i=>η (ρ i)) C v x):TRep w X η C v (x.ren ρ):=by
 cases h with
 | c _ _ h=>exact .c _ _ h.toRen
 | g _ _ h=>exact .g _ _ h.toRen
theorem ARep.toRen{ρ:Nat->Nat}{v:Value}{x:AVal}(h:ARep w X (fun i=>η (ρ i)) C v x):ARep w X η C v (x.ren ρ):=by
 cases h with
 | any=>exact .any v
 | v _ _ h=>exact .v _ _ h.toRen
 | t us xs h1 h2=>
  refine .t us _ (by simpa using h1) fun j b=>?_
  have a : j<xs.length:=by simpa using b
  have:=(h2 j a).toRen
  rw [List.getD_eq_getElem?_getD,List.getElem?_map,List.getElem?_eq_getElem a];rw [List.getD_eq_getElem?_getD,List.getElem?_eq_getElem a] at this
  exact this
theorem ORep.toRen{ρ:Nat->Nat}{v:Value}{o:Obj}(h:ORep w X (fun i=>η (ρ i)) C v o):ORep w X η C v (o.ren ρ):=by
 cases h with
 | box b ro c e cs h1 h2=>exact .box b ro c e _ h1 h2.toRen
 | nil ad es f=>exact .nil ad es f
 | arr b n cap es c e f h1 h2 h3 h4 h5 h6 h7=>exact .arr b n cap es c e f h1 h2 h3 h4 h5 h6 h7
 | ext _ _ h1 h2 h3=>exact .ext _ _ h1 h2 h3
 | exr _ refs p h1 h2 h3=>
  have e:refs.map (fun i=>η (ρ i))=(refs.map ρ).map η:=by rw [List.map_map];rfl
  rw [e] at h1 h2;exact .exr _ _ p h1 h2 h3
end
def Q0c(C:Ctx)(nt:Nat)(e:Env)(s:Sto)(Si:List (Nat×Obj))(m:Nat->Nat)(rd ids:List Nat)(x:Operand)(y:AVal):Prop:=
 ∀ R η e0 s0 a w,(∀ t ∈ rd,e0 t=e t)->(∀ i ∈ ids,s0 i=s i)->Conc C nt R η e0 s0 a w ->
  ARep w (XS C s0 η) (fun i=>η (m i)) (K3 Si w (XS C s0 η) fun i=>η (m i)) (a.eval x) y
section
variable {P:Program} {C:Ctx} {nt:Nat} {e:Env} {s:Sto}
def Q5t(rd:List Nat)(x:Operand):Bool:=match x with | .tmp t=>rd.contains t|_=>true
theorem Y8E{rd:List Nat}{t:Nat}(h:Q5t rd (.tmp t)=true):t ∈ rd:=by
 simpa [Q5t] using h
theorem J9{e0 e:Env}{x:Operand}{rd:List Nat}(hrd:∀ t ∈ rd,e0 t=e t)(hx:Q5t rd x=true):aev e0 x=aev e x:=by
 cases x <;> first|rfl|exact hrd _ (Y8E hx)
theorem Q0c.plain{Si:List (Nat×Obj)}{m:Nat->Nat}{rd ids:List Nat}{x:Operand}{y:AVal}(hx:Q5t rd x=true)(hle:ALe (aev e x) (y.ren m))(hs:y.noSem=true):Q0c C nt e s Si m rd ids x y:=by
 intro R η g h a w b c f;have d:=(W8 f x).1
 rw [J9 b hx] at d;exact (ARep.unren (hle.1 _ _ _ _ _ d)).ctx hs
def Y5c(ops:Array Oper)(o:Oper)(e:Env)(m:Nat->Nat)(extra:List Nat)(r:AVal)(Si So:List (Nat×Obj)):Eff where
 rd:=Q0e o++U2 ops o
 ids:=Z2E e o++(Si.map (fun p=>m p.1)++extra)
 v:=r.ren m
 l:=(So.map fun p=>(m p.1,some (p.2.ren m)))++Si.map fun p=>(m p.1,none)
 news:=(So.filter fun p=> !(Si.map (·.1)).contains p.1).map fun p=>m p.1
def Q6V(m:Nat->Nat)(r:AVal)(Si So:List (Nat×Obj)):Bool:=
 Q2X (Si.map (·.1))&&Q2X (So.map (·.1))&&Q2X ((So.filter fun p=> !(Si.map (·.1)).contains p.1).map (fun p=>m p.1)++Si.map fun p=>m p.1) &&
 r.refs.all (fun i=>(So.map (·.1)).contains i)&&So.all (fun p=>p.2.refs.all fun i=>(So.map (·.1)).contains i)&&r.noSem&&Si.all (fun p=>p.2.noSem)&&So.all (fun p=>p.2.noSem) &&
 So.all (fun p=> !(Si.map (·.1)).contains p.1||Si.any fun q=>q.1==p.1&&q.2.ro==p.2.ro)&&So.all (fun p=>(Si.map (·.1)).contains p.1 || !p.2.ro)
theorem CV.ren_refs{ρ:Nat->Nat}(x:CV):∀ j ∈ (x.ren ρ).refs,∃ i ∈ x.refs,j=ρ i:=by
 cases x <;> simp [CV.refs,CV.ren]
 intro i a;exact ⟨i,a,rfl⟩
theorem Y2M{α β:Type}{f:α->List Nat}{g:α->α}{l:List α}{ρ:Nat->Nat}(h:∀ x,∀ j ∈ f (g x),∃ i ∈ f x,j=ρ i)(_:β):∀ j ∈ (l.map g).flatMap f,∃ i ∈ l.flatMap f,j=ρ i:=by
 intro j a;obtain ⟨y,c,a⟩:=List.mem_flatMap.1 a
 obtain ⟨x,d,rfl⟩:=List.mem_map.1 c;obtain ⟨i,b,e⟩:=h x j a
 exact ⟨i,List.mem_flatMap.2 ⟨x,d,b⟩,e⟩
theorem TV.ren_refs{ρ:Nat->Nat}(x:TV):∀ j ∈ (x.ren ρ).refs,∃ i ∈ x.refs,j=ρ i:=by
 cases x with
 | c x=>exact CV.ren_refs x
 | g xs=>exact Y2M (f:=CV.refs) CV.ren_refs ()
theorem AVal.ren_refs{ρ:Nat->Nat}(x:AVal):∀ j ∈ (x.ren ρ).refs,∃ i ∈ x.refs,j=ρ i:=by
 cases x with
 | any=>intro j a;cases a
 | v x=>exact TV.ren_refs x
 | t xs=>exact Y2M (f:=TV.refs) TV.ren_refs ()
theorem Obj.ren_refs{ρ:Nat->Nat}(o:Obj):∀ j ∈ (o.ren ρ).refs,∃ i ∈ o.refs,j=ρ i:=by
 cases o with
 | box ro cs=>exact Y2M (f:=CV.refs) CV.ren_refs ()
 | arr es n f=>intro j a;cases a
 | ext p=>intro j a;cases a
 | exr refs p=>
  intro j a;obtain ⟨i,b,rfl⟩:=List.mem_map.1 a
  exact ⟨i,b,rfl⟩
theorem Conc.call{R:Nat->Prop}{η:Nat->Value}{e0:Env}{s0:Sto}{a:Act}{w:World}(h:Conc C nt R η e0 s0 a w){m:Nat->Nat}{Si So:List (Nat×Obj)}{r:AVal}{d:Option Tmp}(hd:∀ x,d=some x->x<nt)(hchk:Q6V m r Si So=true)(hsi:∀ p ∈ Si,∃ o1,s0 (m p.1)=some o1/\OLe o1 (p.2.ren m))(hfr:∀ k ∈ (So.filter fun p=> !(Si.map (·.1)).contains p.1).map (fun p=>m p.1),¬ R k){v:Value}{η' : Nat->Value}{w' : World}(hb:Behind (K3 Si w (XS C s0 η) fun i=>η (m i)) r So v η' w'):
  ∃ η1,Conc C nt (fun i=>R i\/i ∈ (So.filter fun p=> !(Si.map (·.1)).contains p.1).map fun p=>m p.1) η1 (Z0m d (r.ren m) e0) (upS ((So.map fun p=>(m p.1,some (p.2.ren m)))++Si.map fun p=>(m p.1,none)) s0) (a.put d v) w':=by
 simp only [Q6V,Bool.and_eq_true] at hchk;obtain ⟨⟨⟨⟨⟨⟨⟨⟨⟨c1,c2⟩,c3⟩,c4⟩,c5⟩,c6⟩,c7⟩,c8⟩,c9⟩,h6⟩:=hchk
 have n1:=Q4x c1;have n2:=Q4x c2
 have n3:=Q4x c3
 let news:=(So.filter fun p=> !(Si.map (·.1)).contains p.1).map fun p=>m p.1
 have G:∀ i,i ∈ Si.map (·.1)->∃ o,(i,o) ∈ Si:=fun i c=>by obtain ⟨p,g,rfl⟩:=List.mem_map.1 c;exact ⟨p.2,g⟩
 have d9:∀ i o,(i,o) ∈ Si->ls Si i=some o:=by
  intro i o c;unfold ls
  obtain ⟨l1,l2,rfl⟩:=List.append_of_mem c;rw [List.map_append,List.map_cons,List.nodup_append] at n1
  rw [List.lookup_append];have:l1.lookup i=none:=by
   rw [List.lookup_eq_none_iff];intro p g
   have:=n1.2.2 p.1 (List.mem_map_of_mem g) i (List.mem_cons_self)
   simpa using fun hh=>this hh.symm
  rw [this];simp
 have E:∀ i o,(i,o) ∈ So->ls So i=some o:=by
  intro i o c;unfold ls
  obtain ⟨l1,l2,rfl⟩:=List.append_of_mem c;rw [List.map_append,List.map_cons,List.nodup_append] at n2
  rw [List.lookup_append];have:l1.lookup i=none:=by
   rw [List.lookup_eq_none_iff];intro p g
   have:=n2.2.2 p.1 (List.mem_map_of_mem g) i (List.mem_cons_self)
   simpa using fun hh=>this hh.symm
  rw [this];simp
 have L:∀ p ∈ So,p.1 ∈ Si.map (·.1)\/m p.1 ∈ news:=by
  intro p g
  by_cases hc:p.1 ∈ Si.map (·.1)
  .exact .inl hc
  .exact .inr (List.mem_map.2 ⟨p,List.mem_filter.2 ⟨g,by simpa using hc⟩,rfl⟩)
 rw [List.nodup_append] at n3;obtain ⟨g0,h0,b2⟩:=n3
 have a3:∀ {α:Type} (f:α->Nat) (l:List α),(l.map f).Nodup->∀ x ∈ l,∀ y ∈ l,f x=f y->x=y:=by
  intro α f l
  induction l with
  | nil=>intro _ x Y;cases Y
  | cons z l ih=>
   intro hn x Y y hy d4;rw [List.map_cons,List.nodup_cons] at hn
   rcases List.mem_cons.1 Y with hx1|hx1 <;> rcases List.mem_cons.1 hy with a8|a8
   .rw [hx1,a8]
   .exact absurd (List.mem_map.2 ⟨y,a8,by rw [<-d4,hx1]⟩) hn.1
   .exact absurd (List.mem_map.2 ⟨x,hx1,by rw [d4,a8]⟩) hn.1
   .exact ih hn.2 x hx1 y a8 d4
 have d8:∀ i j,i ∈ Si.map (·.1)->j ∈ Si.map (·.1)->m i=m j->i=j:=by
  intro i j c hj g6;obtain ⟨F,c⟩:=G i c
  obtain ⟨oj,hj⟩:=G j hj;have:=a3 (fun p:Nat×Obj=>m p.1) Si h0 _ c _ hj g6
  injection this
 have b9:∀ p ∈ So,∀ q ∈ So,m p.1=m q.1->p.1=q.1:=by
  intro p g q U b3;rcases L p g with K|K <;> rcases L q U with N|N
  .exact d8 _ _ K N b3
  .obtain ⟨op,d1⟩:=G _ K
   exact absurd b3.symm (b2 _ N _ (List.mem_map.2 ⟨_,d1,rfl⟩))
  .obtain ⟨oq,d3⟩:=G _ N
   exact absurd b3 (b2 _ K _ (List.mem_map.2 ⟨_,d3,rfl⟩))
  .obtain ⟨p',j2,e1⟩:=List.mem_map.1 K
   obtain ⟨q',j0,e2⟩:=List.mem_map.1 N
   by_cases hps:p.1 ∈ Si.map (·.1)
   .obtain ⟨op,d1⟩:=G _ hps
    exact absurd rfl (b2 _ K _ (List.mem_map.2 ⟨_,d1,rfl⟩))
   .by_cases hqs:q.1 ∈ Si.map (·.1)
    .obtain ⟨oq,d3⟩:=G _ hqs
     exact absurd rfl (b2 _ N _ (List.mem_map.2 ⟨_,d3,rfl⟩))
    .have:=a3 (fun p:Nat×Obj=>m p.1) _ g0 p (List.mem_filter.2 ⟨g,by simpa using hps⟩) q (List.mem_filter.2 ⟨U,by simpa using hqs⟩) b3
     rw [this]
 let η1:Nat->Value:=fun k=>match So.find? (fun p=>m p.1==k) with|some p=>η' p.1|none=>η k
 have O:∀ p ∈ So,η1 (m p.1)=η' p.1:=by
  intro p g;simp only [η1]
  cases hf:So.find? (fun q=>m q.1==m p.1) with
  | none=>rw [List.find?_eq_none] at hf;have:=hf p g;simp at this
  | some q=>
   have U:=List.mem_of_find?_eq_some hf;have h4:m q.1=m p.1:=by simpa using List.find?_some hf
   simp only [b9 q U p g h4]
 have b4:∀ i,i ∈ Si.map (·.1)->η' i=η (m i):=by
  intro i c;obtain ⟨o,J⟩:=G i c
  refine hb.pn i _ ?_;have:=d9 i o J
  unfold ls at this;simp [K3,this]
 have I:∀ k,(∀ p ∈ So,m p.1≠k)->η1 k=η k:=by
  intro k H;simp only [η1]
  cases hf:So.find? (fun q=>m q.1==k) with
  | none=>rfl
  | some q=>exact absurd (by simpa using List.find?_some hf) (H q (List.mem_of_find?_eq_some hf))
 have eR:∀ k,R k->η1 k=η k:=by
  intro k H;rcases Classical.em (∃ p ∈ So,m p.1=k) with ⟨p,g,rfl⟩|d7
  .rw [O p g]
   rcases L p g with K|K
   .exact b4 _ K
   .exact absurd H (hfr _ K)
  .exact I k fun p g hh=>d7 ⟨p,g,hh⟩
 generalize hs1:upS ((So.map fun p=>(m p.1,some (p.2.ren m)))++Si.map fun p=>(m p.1,none)) s0=s1;have B:∀ k o,s1 k=some o->(∃ p ∈ So,m p.1=k/\o=p.2.ren m)\/(s0 k=some o/\(∀ p ∈ So,m p.1≠k)/\∀ p ∈ Si,m p.1≠k):=by
  intro k o H;rw [<-hs1] at H
  unfold upS at H;rw [List.lookup_append] at H
  cases hl1:(So.map fun p=>(m p.1,some (p.2.ren m))).lookup k with
  | some x=>
   rw [hl1] at H;simp only [Option.some_or] at H
   obtain ⟨l1,l2,hl,_⟩:=List.lookup_eq_some_iff.1 hl1;have b0:(k,x) ∈ So.map fun p=>(m p.1,some (p.2.ren m)):=by rw [hl];simp
   obtain ⟨p,g,he⟩:=List.mem_map.1 b0
   injection he with e1 e2
   subst e2;cases H
   exact .inl ⟨p,g,e1,rfl⟩
  | none=>
   rw [hl1] at H;simp only [Option.none_or] at H
   have d7:∀ p ∈ So,m p.1≠k:=by
    intro p g hh;rw [List.lookup_eq_none_iff] at hl1
    have:=hl1 _ (List.mem_map_of_mem g)
    simp at this
    exact this hh.symm
   cases hl2:(Si.map fun p=>(m p.1,(none:Option Obj))).lookup k with
   | some x=>
    rw [hl2] at H;obtain ⟨l1,l2,hl,_⟩:=List.lookup_eq_some_iff.1 hl2
    have b0:(k,x) ∈ Si.map fun p=>(m p.1,(none:Option Obj)):=by rw [hl];simp
    obtain ⟨p,g,he⟩:=List.mem_map.1 b0
    injection he with e1 e2
    subst e2;cases H
   | none=>
    rw [hl2] at H;refine .inr ⟨H,d7,fun p g hh=>?_⟩
    rw [List.lookup_eq_none_iff] at hl2;have:=hl2 _ (List.mem_map_of_mem g)
    simp at this
    exact this hh.symm
 have a0:∀ i o,ls Si i=some o->∀ b,b ∈ W3 (η (m i))->Own s0 η b:=by
  intro i o c b e3;obtain ⟨o1,K,_⟩:=hsi _ (U8 c)
  exact ⟨m i,o1,K,e3⟩
 have T:∀ k o i F b,s0 k=some o->ls Si i=some F->b ∈ W3 (η k)->b ∈ W3 (η (m i))->k=m i:=by
  intro k o i F b H c d0 a9;obtain ⟨o1,K,_⟩:=hsi _ (U8 c)
  exact h.ds k (m i) b (by rw [H];simp) (by rw [K];simp) d0 a9
 have a6:∀ i F b,ls Si i=some F->F.ro=false->b ∈ W3 (η (m i))->C.M b\/C.w0.heap.size<=b:=by
  intro i F b c Z e3;obtain ⟨o1,K,h3⟩:=hsi _ (U8 c)
  rcases h.ow _ o1 b K e3 with ⟨N,_⟩|N
  .have:o1.ro=F.ro:=by rw [<-h3.2.1,Obj.ro_ren]
   rw [this,Z] at N;cases N
  .exact N
 have e4:∀ b,XS C s1 η1 b->(b<w.heap.size->XS C s0 η b)/\XS (K3 Si w (XS C s0 η) fun i=>η (m i)) (ls So) η' b:=by
  intro b Y;rcases Y with ⟨Y,hD⟩|⟨k,o,H,D⟩
  .refine ⟨fun _=>.inl ⟨Y,hD⟩,.inl ⟨.inl ⟨Y,hD⟩,fun J=>?_⟩⟩
   obtain ⟨i,o,c,A⟩:=J;obtain ⟨o1,K,_⟩:=hsi _ (U8 c)
   have b1:=h.ok.lt b Y;rcases h.ow _ o1 b K A with ⟨_,N⟩|N|N
   .exact hD N
   .exact hD (h.ok.md b N)
   .omega
  .rcases B k o H with ⟨p,g,rfl,rfl⟩|⟨J,S,a1⟩
   .rw [O p g] at D
    refine ⟨fun b1=>?_,.inr ⟨p.1,p.2,E _ _ g,D⟩⟩;rcases hb.ow p.1 p.2 b (E _ _ g) D with ⟨_,⟨i,F,c,A⟩⟩|⟨i,F,c,_,A⟩|a7
    .exact .inr (a0 i F c b A)
    .exact .inr (a0 i F c b A)
    .have:w.heap.size<=b:=a7
     omega
   .rw [I k S] at D
    have b7:Own s0 η b:=⟨k,o,J,D⟩;refine ⟨fun _=>.inr b7,.inl ⟨.inr b7,fun Y=>?_⟩⟩
    obtain ⟨i,F,c,A⟩:=Y;exact a1 _ (U8 c) (T k o i F b J c D A).symm
 have d6:Q7i w w' (XS C s0 η) (XS C s1 η1):=by
  intro b b1 hX;refine ⟨hb.stp.block b b1 fun hM=>?_,fun Y=>hX ((e4 b Y).1 b1)⟩
  obtain ⟨i,F,c,_,A⟩:=hM;exact hX (.inr (a0 i F c b A))
 have e9:Q7i w' w' (XS (K3 Si w (XS C s0 η) fun i=>η (m i)) (ls So) η') (XS C s1 η1):=fun b _ hX=>⟨rfl,fun Y=>hX (e4 b Y).2⟩
 have b8:∀ p ∈ So,R (m p.1)\/m p.1 ∈ news:=by
  intro p g;rcases L p g with K|K
  .obtain ⟨o,J⟩:=G _ K
   obtain ⟨o1,N,_⟩:=hsi _ J;exact .inl (h.sr _ o1 N).1
  .exact .inr K
 have Q:∀ i,(So.map (·.1)).contains i=true->∃ p ∈ So,p.1=i:=by
  intro i c;have g4 : i ∈ So.map (·.1):=by simpa using c
  obtain ⟨p,g,e⟩:=List.mem_map.1 g4;exact ⟨p,g,e⟩
 have d2:∀ p ∈ So,ORep w' (XS C s1 η1) η1 C (η1 (m p.1)) (p.2.ren m):=by
  intro p g;have K:=hb.objs p.1 p.2 (E _ _ g)
  have N:=K.mono (η':=fun i=>η1 (m i)) e9 (fun i c=>by
   obtain ⟨q,U,rfl⟩:=Q i (List.all_eq_true.1 (List.all_eq_true.1 c5 p g) i c);exact O q U) (fun _ _=>rfl)
  rw [O p g];exact (N.toRen).ctx (by
   have:=List.all_eq_true.1 c8 p g
   cases hp2:p.2 with
   | box ro cs=>
    rw [hp2] at this;simp only [Obj.ren,Obj.noSem,List.all_map]
    rw [List.all_eq_true];intro x Y
    have:=List.all_eq_true.1 this x Y
    cases x <;> first|rfl|cases this
   | arr es n f=>rfl
   | ext p=>rfl
   | exr refs p=>rfl)
 refine ⟨η1,h.ok,by rw [Y2z];exact h.df,by rw [Y5J];exact h.sz,fun t=>?_,fun t i c=>?_,fun k o H=>?_,fun k o H=>?_,fun i j b c hj V W=>?_,fun k o b H D=>?_,?_,fun i u c=>?_⟩
 .rw [Y2y a d v t (by rw [h.sz];exact hd)]
  unfold Z0m;have f1:ARep w' (XS C s1 η1) η1 C v (r.ren m):=by
   have N:=hb.res.mono (η':=fun i=>η1 (m i)) e9 (fun i c=>by
    obtain ⟨q,U,rfl⟩:=Q i (List.all_eq_true.1 c4 i c);exact O q U)
   exact (N.ctx c6).toRen
  cases d with
  | none=>exact (h.ev t).mono d6 fun i c=>eR i (h.er t i c)
  | some d=>
   simp only [Option.some.injEq]
   by_cases htd:t=d
   .subst htd;simp only [if_true];exact f1
   .rw [if_neg (fun hh=>htd hh.symm),if_neg htd]
    exact (h.ev t).mono d6 fun i c=>eR i (h.er t i c)
 .unfold Z0m at c
  have b6:i ∈ (e0 t).refs->R i\/i ∈ news:=fun hh=>.inl (h.er t i hh)
  have f3:i ∈ (r.ren m).refs->R i\/i ∈ news:=by
   intro hh;obtain ⟨j,hj,rfl⟩:=AVal.ren_refs r i hh
   obtain ⟨q,U,rfl⟩:=Q j (List.all_eq_true.1 c4 j hj);exact b8 q U
  cases d with
  | none=>exact b6 c
  | some d=>
   simp only at c
   by_cases htd:t=d
   .rw [if_pos htd] at c;exact f3 c
   .rw [if_neg htd] at c;exact b6 c
 .rcases B k o H with ⟨p,g,rfl,rfl⟩|⟨J,S,a1⟩
  .exact d2 p g
  .rw [I k S]
   refine (h.st k o J).mono d6 (fun j hj=>eR j ((h.sr k o J).2 j hj)) fun b D=>?_
   refine hb.stp.block b ((h.st k o J).lt D) fun hM=>?_
   obtain ⟨i,F,c,_,A⟩:=hM;exact a1 _ (U8 c) (T k o i F b J c D A).symm
 .rcases B k o H with ⟨p,g,rfl,rfl⟩|⟨J,S,a1⟩
  .refine ⟨b8 p g,fun j hj=>?_⟩
   obtain ⟨i,c,rfl⟩:=Obj.ren_refs p.2 j hj;obtain ⟨q,U,rfl⟩:=Q i (List.all_eq_true.1 (List.all_eq_true.1 c5 p g) i c)
   exact b8 q U
  .exact ⟨.inl (h.sr k o J).1,fun j hj=>.inl ((h.sr k o J).2 j hj)⟩
 .obtain ⟨F,g7⟩:=Option.ne_none_iff_exists'.1 c
  obtain ⟨oj,h5⟩:=Option.ne_none_iff_exists'.1 hj;have a5:∀ p ∈ So,∀ k o,s0 k=some o->(∀ p ∈ Si,m p.1≠k)->∀ b,b ∈ W3 (η' p.1)->b ∈ W3 (η k)->False:=by
   intro p g k o J hn b d0 a9;rcases hb.ow p.1 p.2 b (E _ _ g) d0 with ⟨_,⟨i,F,c,A⟩⟩|⟨i,F,c,_,A⟩|a7
   .exact hn _ (U8 c) (T k o i F b J c a9 A).symm
   .exact hn _ (U8 c) (T k o i F b J c a9 A).symm
   .have K:w.heap.size<=b:=a7
    have N:=(h.st k o J).lt a9;omega
  rcases B i F g7 with ⟨p,g,rfl,rfl⟩|⟨J,S,a1⟩ <;> rcases B j oj h5 with ⟨q,U,rfl,rfl⟩|⟨f4,b5,e6⟩
  .rw [O p g] at V;rw [O q U] at W
   rw [hb.ds p.1 q.1 b (by rw [E _ _ g];simp) (by rw [E _ _ U];simp) V W]
  .rw [O p g] at V;rw [I _ b5] at W
   exact (a5 p g _ _ f4 e6 b V W).elim
  .rw [O q U] at W;rw [I _ S] at V
   exact (a5 q U _ _ J a1 b W V).elim
  .rw [I _ S] at V;rw [I _ b5] at W
   exact h.ds i j b (by rw [J];simp) (by rw [f4];simp) V W
 .rcases B k o H with ⟨p,g,rfl,rfl⟩|⟨J,S,a1⟩
  .rw [O p g] at D
   rw [Obj.ro_ren];rcases hb.ow p.1 p.2 b (E _ _ g) D with ⟨Z,_⟩|⟨i,F,c,Z,A⟩|a7
   .
    have e7:p.1 ∈ Si.map (·.1):=by
     have:=List.all_eq_true.1 h6 p g
     simpa [Z] using this
    have h9:=List.all_eq_true.1 c9 p g;have e5 : (Si.map (·.1)).contains p.1=true:=by simpa using e7
    simp only [e5,Bool.not_true,Bool.false_or,List.any_eq_true] at h9;obtain ⟨q,U,d5⟩:=h9
    simp only [Bool.and_eq_true,beq_iff_eq] at d5;obtain ⟨o1,g1,g2⟩:=hsi q U
    rw [d5.1] at g1;rw [b4 _ e7] at D
    have f2:o1.ro=p.2.ro:=by rw [<-g2.2.1,Obj.ro_ren,d5.2]
    rw [<-f2];exact h.ow _ o1 b g1 D
   .exact .inr (a6 i F b c Z A)
   .exact .inr (.inr (Nat.le_trans h.fr.size a7))
  .rw [I k S] at D
   exact h.ow k o b J D
 .refine h.fr.trans (hb.stp.mono fun b _ hM=>?_)
  obtain ⟨i,F,c,Z,A⟩:=hM;exact a6 i F b c Z A
 .have:=h.pn i u c
  exact ⟨(eR i this.2).trans this.1,.inl this.2⟩
end
end
section
def CV.closed(x:CV):Bool:=x.refs.isEmpty&&x.noSem
def AVal.closed(x:AVal):Bool:=x.refs.isEmpty&&x.noSem
section
variable {w:World} {X:Nat->Prop} {η η' : Nat->Value} {C C' : Ctx}
theorem ARep.free{v:Value}{x:AVal}(h:ARep w X η C v x)(hx:x.closed=true):ARep w X η' C' v x:=by
 simp only [AVal.closed,Bool.and_eq_true,List.isEmpty_iff] at hx;exact (h.mono (fun b _ c=>⟨rfl,c⟩) (fun i a=>by rw [hx.1] at a;cases a)).ctx hx.2
theorem y8.free{vs:Array Value}{cs:List CV}(h:y8 w X η C vs cs)(hx:cs.all CV.closed=true):y8 w X η' C' vs cs:=by
 refine ⟨h.1,fun j c=>?_⟩;have:=List.all_eq_true.1 hx _ (Q0H (d:=.d .any) c)
 simp only [CV.closed,Bool.and_eq_true,List.isEmpty_iff] at this;exact ((h.2 j c).mono (fun b _ f=>⟨rfl,f⟩) (fun i a=>by rw [this.1] at a;cases a)).ctx this.2
end
def Q0t(P:Program)(F:List AVal->AVal->Prop)(w0:World)(D X:Nat->Prop)(v:Value):Prop:=
 ∃ f caps,v=.func (.func f) #[] caps/\(∀ args w,(callFunc f args).run P w=.ok (.enter f args) w) /\
  ∀ (w1:World) (X1:Nat->Prop) (vs:Array Value) (args:List AVal) (r:AVal),F args r->w0.heap.size<=w1.heap.size->(∀ b,b<w0.heap.size->¬ D b->w1.heap[b]?=w0.heap[b]?)->(∀ b,X1 b->b<w1.heap.size) ->
   (∀ b,b<w0.heap.size->¬ D b->(X1 b↔X b))->vs.size=args.length->(∀ j,j<args.length->∀ η C,ARep w1 X1 η C (vs.getD j undef) (args.getD j .any)) ->
   Calls P f (vs++caps) w1 fun e w'=>∃ v',e=.returned v' /\ Stp (fun _=>False) w1 w' /\ ∀ η C,ARep w' X1 η C v' r
def Z5n(P:Program)(F:List AVal->AVal->Prop):AVal:=.v (.c (.sem (Q0t P F)))
section
variable {P:Program} {C:Ctx} {nt:Nat} {ops:Array Oper} {e:Env} {s:Sto}
theorem Z7c{o:Oper}{fx:Operand}{xs:Array Operand}{tys:Array TypeId}(hop:o.op=.call { callee:=.value fx,args:=xs,argTypes:=tys }){a:Act}{w:World}{f:Nat}{caps:Array Value}(hf:a.eval fx=.func (.func f) #[] caps)(hcall:∀ args w,(callFunc f args).run P w=.ok (.enter f args) w):(execOp a.eval o).run P w=.ok (.enter f (xs.map a.eval++caps)) w:=by
 simp [execOp,hop,resolve,Deferred.ofValue,hf,invoke,hcall]
theorem Q5w{o:Oper}(hdo:Q1z nt o=true):∀ x,o.dst=some x->x<nt:=by
 intro x a;simp only [Q1z,a,Bool.and_eq_true,decide_eq_true_eq] at hdo
 exact hdo.1
theorem Z9G{w:World}{X:Nat->Prop}{η:Nat->Value}{v:Value}{f:Nat}{ids:List Nat}(h:ARep w X η C v (.v (.c (.clo f ids)))):v=.func (.func f) #[] (ids.map η).toArray:=by
 cases h with|v _ _ h=>cases h with|c _ _ h=>cases h with|clo _ _ vs h=>rw [h]
theorem Y9t{f:Nat}(hcall:∀ args w,(callFunc f args).run P w=.ok (.enter f args) w){o:Oper}{fx:Operand}{xs:Array Operand}{tys:Array TypeId}(hop:o.op=.call { callee:=.value fx,args:=xs,argTypes:=tys })(hfx:aev e fx=.v (.c (.clo f [])))(hrf:Q5t (Q0e o++U2 ops o) fx=true){args:List AVal}{Si:List (Nat×Obj)}{r:AVal}{So:List (Nat×Obj)}(hspec:J5 P f args Si r So)(hlen:xs.size=args.length)(m:Nat->Nat)(extra:List Nat)(hargs:∀ j,j<args.length->Q0c C nt e s Si m (Q0e o++U2 ops o) (Z2E e o++(Si.map (fun p=>m p.1)++extra)) (xs.toList.getD j (.const undef)) (args.getD j .any))(hsi:∀ p ∈ Si,∃ o1,s (m p.1)=some o1/\OLe o1 (p.2.ren m))(hchk:Q6V m r Si So=true)(hdo:Q1z nt o=true)(hg:Q8k ops e o=some true):StT P C nt ops o (Y5c ops o e m extra r Si So) e s:=by
 intro R η e0 F a w l k I h K Q Z;have V:=Q5A (e:=e) h (fun t U=>l t (List.mem_append.2 (.inr U))) hg
 rw [if_pos V];have z:=(W8 h fx).1
 rw [J9 l hrf,hfx] at z;have A:=Z9G z
 have O:=Z7c (w:=w) hop A hcall;have d:∀ p ∈ Si,∃ o1,F (m p.1)=some o1/\OLe o1 (p.2.ren m):=by
  intro p T;rw [k (m p.1) (List.mem_append.2 (.inr (List.mem_append.2 (.inl (List.mem_map.2 ⟨p,T,rfl⟩)))))]
  exact hsi p T
 simp only [Q6V,Bool.and_eq_true] at hchk;have q:=hchk
 obtain ⟨⟨⟨⟨⟨⟨⟨⟨⟨c1,c2⟩,c3⟩,c4⟩,c5⟩,c6⟩,c7⟩,c8⟩,c9⟩,a7⟩:=hchk;have B:∀ b,XS C F η b->b<w.heap.size:=by
  rintro b (⟨hx,_⟩|hx)
  .exact Nat.lt_of_lt_of_le (h.ok.lt b hx) h.fr.size
  .exact h.lt hx
 have y:∀ i x,ls Si i=some x -> x.noSem=true:=fun i x g=>List.all_eq_true.1 c7 _ (U8 g)
 have G:=hspec w (XS C F η) (fun i=>η (m i)) (xs.map a.eval++(([]:List Nat).map η).toArray) B
  (fun b ⟨i,x,g,hib⟩=>by obtain ⟨o1,E,_⟩:=d _ (U8 g);exact .inr ⟨m i,o1,E,hib⟩)
  (fun i x g=>by
   obtain ⟨o1,E,M⟩:=d _ (U8 g);exact (ORep.unren (M.1 _ _ _ _ _ (h.st _ o1 E))).ctx (y i x g))
  (fun i j b g u L H=>by
   obtain ⟨oi,g⟩:=Option.ne_none_iff_exists'.1 g;obtain ⟨oj,u⟩:=Option.ne_none_iff_exists'.1 u
   obtain ⟨o1,E,_⟩:=d _ (U8 g);obtain ⟨o2,W,_⟩:=d _ (U8 u)
   have D:m i=m j:=h.ds _ _ b (by rw [E];simp) (by rw [W];simp) L H;have S:=Q4x c3
   rw [List.nodup_append] at S;exact Y7f (ρ:=m) S.2.1 (by rw [g];simp) (by rw [u];simp) D)
  (by simp [hlen])
  (fun j u=>by
   have J : j<xs.size:=by omega
   have e1:(xs.map a.eval++(([]:List Nat).map η).toArray).getD j undef=a.eval (xs.toList.getD j (.const undef)):=by
    simp [List.getD_eq_getElem?_getD,J]
   rw [e1];exact hargs j u R η e0 F a w l k h)
 unfold Oper.wp;rw [O]
 show Calls P f _ w _;refine G.mono fun en w' hh=>?_
 obtain ⟨v,η',rfl,hb⟩:=hh;have n:Q6V m r Si So=true:=by simp only [Q6V,Bool.and_eq_true];exact q
 obtain ⟨Y,N⟩:=h.call (Q5w hdo) n d I hb;exact Z Y _ w' N
def Z5A(ops:Array Oper)(o:Oper)(e:Env)(r:AVal):Eff where
 rd:=Q0e o++U2 ops o
 ids:=Z2E e o
 v:=r
 l:=[]
 news:=[]
theorem Y5s{F:List AVal->AVal->Prop}{o:Oper}{fx:Operand}{xs:Array Operand}{tys:Array TypeId}(hop:o.op=.call { callee:=.value fx,args:=xs,argTypes:=tys })(hfx:aev e fx=Z5n P F){args:List AVal}{r:AVal}(hF:F args r)(hlen:xs.size=args.length)(hrd' : Q5t (Q0e o++U2 ops o) fx=true/\∀ x ∈ xs.toList,Q5t (Q0e o++U2 ops o) x=true)(hargs:∀ j,j<args.length->ALe (aev e (xs.toList.getD j (.const undef))) (args.getD j .any)/\(args.getD j .any).closed=true)(hr:r.closed=true)(hdo:Q1z nt o=true)(hg:Q8k ops e o=some true):StT P C nt ops o (Z5A ops o e r) e s:=by
 intro R η e0 q a w n a0 a5 d K Q hK;have hw:=Q5A (e:=e) d (fun t ht=>n t (List.mem_append.2 (.inr ht))) hg
 rw [if_pos hw];have m:=(W8 d fx).1
 rw [J9 n hrd'.1,hfx] at m;have z:Q0t P F C.w0 C.D C.X (a.eval fx):=by
  generalize a.eval fx=u at m
  cases m with|v _ _ h=>cases h with|c _ _ h=>cases h with|sem _ _ h _=>exact h
 obtain ⟨f,Y,O,p,U⟩:=z;have T:=Z7c (w:=w) hop O p
 have B:∀ b,XS C q η b->b<w.heap.size:=by
  rintro b (⟨g,_⟩|g)
  .exact Nat.lt_of_lt_of_le (d.ok.lt b g) d.fr.size
  .exact d.lt g
 have N:=U w (XS C q η) (xs.map a.eval) args r hF d.fr.size (fun b I y=>d.fr.block b I fun hM=>y (d.ok.md b hM)) B
  (fun b I y=>⟨fun g=>by
   rcases g with ⟨g,_⟩|⟨i,o',S,M⟩
   .exact g
   .rcases d.ow i o' b S M with ⟨_,J⟩|J|J
    .exact absurd J y
    .exact absurd (d.ok.md b J) y
    .omega,fun g=>.inl ⟨g,y⟩⟩) (by simp [hlen])
  (fun j A η2 C2=>by
   have E : j<xs.size:=by omega
   have e1:(xs.map a.eval).getD j undef=a.eval (xs.toList.getD j (.const undef)):=by simp [List.getD_eq_getElem?_getD,E]
   rw [e1];obtain ⟨g1,g2⟩:=hargs j A
   have g:=(W8 d (xs.toList.getD j (.const undef))).1;rw [J9 n (hrd'.2 _ (Q0H (by simpa using E)))] at g
   exact (g1.1 _ _ _ _ _ g).free g2)
 unfold Oper.wp;rw [T]
 show Calls P f _ w _;refine N.mono fun en w' hh=>?_
 obtain ⟨v,rfl,H,G⟩:=hh;have Z:SR.sto { v:=r } o.dst q=q:=by funext i;simp [SR.sto]
 have W:SR.eta { v:=r } o.dst v η=η:=by funext i;simp [SR.eta]
 have L:SR.rng { v:=r } o.dst R=R:=by funext i;simp [SR.rng]
 have:=d.step o.dst (Q5w hdo) { v:=r } v w' (fun _=>False) H (fun b I=>I.elim) (fun o dd V=>by cases V) (fun k o V=>by cases V)
  (fun _=>by rw [Z,W];refine ⟨G _ _,fun j A=>?_⟩;simp only [AVal.closed,Bool.and_eq_true,List.isEmpty_iff] at hr;simp only at A;rw [hr.1] at A;cases A)
 rw [Z,W,L] at this;refine hK η _ w' ?_
 have hu:upS (Z5A ops o e r).l q=q:=by funext i;rfl
 rw [hu];exact this.wider fun i S=>.inl S
theorem Q0c.sem{F:List AVal->AVal->Prop}{Si:List (Nat×Obj)}{m:Nat->Nat}{rd ids:List Nat}{x:Operand}(hx:Q5t rd x=true)(hv:aev e x=Z5n P F)(hsi:∀ p ∈ Si,∃ o1,s (m p.1)=some o1)(hin:∀ p ∈ Si,m p.1 ∈ ids):Q0c C nt e s Si m rd ids x (Z5n P F):=by
 intro R η e0 W a w U H j;have n:=(W8 j x).1
 rw [J9 U hx,hv] at n;have B:Q0t P F C.w0 C.D C.X (a.eval x)/\(a.eval x).oneCell'=true:=by
  generalize a.eval x=u at n
  cases n with|v _ _ h=>cases h with|c _ _ h=>cases h with|sem _ _ h d=>exact ⟨h,d⟩
 obtain ⟨⟨f,A,Q,t,T⟩,E⟩:=B;refine .v _ _ (.c _ _ (.sem _ _ ⟨f,A,Q,t,?_⟩ E))
 intro V X1 vs J r Y S z N M O o;have K : w.heap.size<=V.heap.size:=S
 have G:∀ b,Own (ls Si) (fun i=>η (m i)) b->Own W η b:=by
  rintro b ⟨i,L,y,g⟩;obtain ⟨o1,d⟩:=hsi _ (U8 y)
  exact ⟨m i,o1,by rw [H _ (hin _ (U8 y))];exact d,g⟩
 have I:∀ b,b<C.w0.heap.size->¬ C.D b->¬ Own (ls Si) (fun i=>η (m i)) b:=by
  intro b q k ho;obtain ⟨i,L,y,g⟩:=G b ho
  rcases j.ow i L b y g with ⟨_,d⟩|d|d
  .exact k d
  .exact k (j.ok.md b d)
  .omega
 refine T V X1 vs J r Y (Nat.le_trans j.fr.size K) (fun b q k=>?_) N (fun b q k=>?_) O o
 .have l:b<w.heap.size:=Nat.lt_of_lt_of_le q j.fr.size
  exact (z b l (I b q k)).trans (j.fr.block b q fun Z=>k (j.ok.md b Z))
 .have l:b<w.heap.size:=Nat.lt_of_lt_of_le q j.fr.size
  rw [M b l (I b q k)];constructor
  .rintro (⟨hx,_⟩|⟨i,L,y,g⟩)
   .exact hx
   .rcases j.ow i L b y g with ⟨_,d⟩|d|d
    .exact absurd d k
    .exact absurd (j.ok.md b d) k
    .omega
  .exact fun hx=>.inl ⟨hx,k⟩
def Z0c(cs:List (List CV)):List (Nat×Obj):=cs.zipIdx.map fun p=>(p.2,.box true p.1)
def Z8C(cs:List (List CV)):List AVal:=(List.range cs.length).map fun k=>.v (.c (.ptr k 0))
theorem Y8h(cs:List (List CV))(k:Nat):ls (Z0c cs) k=(cs[k]?).map (Obj.box true):=by
 have a:∀ (l:List (List CV)) (n k:Nat),((l.zipIdx n).map fun p=>(p.2,Obj.box true p.1)).lookup k=if k<n then none else (l[k-n]?).map (Obj.box true):=by
  intro l
  induction l with
  | nil=>intro n k;simp
  | cons x l ih=>
   intro n k;simp only [List.zipIdx_cons,List.map_cons,List.lookup_cons]
   by_cases hk:k=n
   .subst hk;simp
   .have:(k==n)=false:=by simpa using hk
    simp only [this];rw [ih (n+1) k]
    by_cases h1:k<n
    .rw [if_pos (by omega),if_pos h1]
    .rw [if_neg (by omega),if_neg h1]
     have:k-n=(k-(n+1))+1:=by omega
     rw [this];simp
 have:=a cs 0 k
 simpa [ls,Z0c] using this
theorem Q0c.clo{f:Nat}(hcall:∀ args w,(callFunc f args).run P w=.ok (.enter f args) w){F:List AVal->AVal->Prop}{cs:List (List CV)}(hspec:∀ args r,F args r->J5 P f (args++Z8C cs) (Z0c cs) r (Z0c cs))(hres:∀ args r,F args r->r.closed=true){Si:List (Nat×Obj)}{m:Nat->Nat}{rd ids:List Nat}{x:Operand}(hx:Q5t rd x=true){cids:List Nat}(hv:aev e x=.v (.c (.clo f cids)))(hlen:cids.length=cs.length)(hnd:Q2X cids=true)(hbox:∀ k,k<cs.length->∃ ro,s (cids.getD k 0)=some (.box ro (cs.getD k [])))(hcl:cs.all (fun c=>c.all CV.closed)=true)(hsi:∀ p ∈ Si,∃ o1,s (m p.1)=some o1)(hin:∀ p ∈ Si,m p.1 ∈ ids)(hcin:∀ i ∈ cids,i ∈ ids)(hapart:∀ p ∈ Si,m p.1 ∉ cids):Q0c C nt e s Si m rd ids x (Z5n P F):=by
 intro R η e0 V a w b4 D U;have a2:=(W8 U x).1
 rw [J9 b4 hx,hv] at a2;have Z:=Z9G a2
 refine .v _ _ (.c _ _ (.sem _ _ ⟨f,_,Z,hcall,?_⟩ (by rw [Z];rfl)));intro w1 T J args r hF b1 K a7 a1 c1 L
 have c7 : w.heap.size<=w1.heap.size:=b1;have y:∀ k,k<cs.length->cids.getD k 0 ∈ cids:=fun k t=>Q0H (by omega)
 have l:∀ k,k<cs.length->∃ ro,V (cids.getD k 0)=some (.box ro (cs.getD k [])):=by
  intro k t;obtain ⟨ro,d⟩:=hbox k t
  exact ⟨ro,by rw [D _ (hcin _ (y k t))];exact d⟩
 have A:∀ k,k<cs.length->∃ b N S,η (cids.getD k 0)=.pointer (some ⟨b,0,none⟩)/\w.heap[b]?=some (.cells N S (0,0))/\y8 w (XS C V η) η C N (cs.getD k []):=by
  intro k t;obtain ⟨ro,d⟩:=l k t
  have:=U.st _ _ d
  generalize η (cids.getD k 0)=u at this
  cases this with
  | box b _ N S _ G hcs=>exact ⟨b,N,S,rfl,G,hcs⟩
 have B:∀ k,k<cs.length->∀ b,b ∈ W3 (η (cids.getD k 0))->¬ Own (ls Si) (fun i=>η (m i)) b:=by
  rintro k t b G ⟨i,z,g,n⟩;obtain ⟨ro,d⟩:=l k t
  obtain ⟨o1,H⟩:=hsi _ (U8 g);have c4 : V (m i)=some o1:=by rw [D _ (hin _ (U8 g))];exact H
  have:=U.ds _ _ b (by rw [d];simp) (by rw [c4];simp) G n
  exact hapart _ (U8 g) (this ▸ y k t)
 have b5:∀ b,Own (ls Si) (fun i=>η (m i)) b->XS C V η b:=by
  rintro b ⟨i,z,g,n⟩;obtain ⟨o1,H⟩:=hsi _ (U8 g)
  exact .inr ⟨m i,o1,by rw [D _ (hin _ (U8 g))];exact H,n⟩
 have t:Q7i w w1 (XS C V η) T:=by
  intro b G hX;have W:¬ Own (ls Si) (fun i=>η (m i)) b:=fun ho=>hX (b5 b ho)
  exact ⟨K b G W,fun hx=>hX ((a1 b G W).1 hx)⟩
 have q:∀ k o,ls (Z0c cs) k=some o->k<cs.length/\o=.box true (cs.getD k []):=by
  intro k o t;rw [Y8h] at t
  rcases Nat.lt_or_ge k cs.length with d|d
  .rw [List.getElem?_eq_getElem d] at t
   cases t
   exact ⟨d,by rw [List.getD_eq_getElem?_getD,List.getElem?_eq_getElem d];rfl⟩
  .rw [List.getElem?_eq_none d] at t;cases t
 have E:∀ b,Own (ls (Z0c cs)) (fun k=>η (cids.getD k 0)) b->T b:=by
  rintro b ⟨k,z,O,M⟩;obtain ⟨h,_⟩:=q k z O
  obtain ⟨ro,d⟩:=l k h;have b3:b<w.heap.size:=(U.st _ _ d).lt M
  exact (a1 b b3 (B k h b M)).2 (.inr ⟨_,_,d,M⟩)
 have a5:=hspec args r hF w1 T (fun k=>η (cids.getD k 0)) (J++(cids.map η).toArray) a7 E
  (fun k o O=>by
   obtain ⟨h,rfl⟩:=q k o O;obtain ⟨b,N,S,d,H,h3⟩:=A k h
   have b0:=B k h b (by rw [d];simp [W3]);show ORep w1 T _ _ (η (cids.getD k 0)) _
   rw [d];have a6:(cs.getD k []).all CV.closed=true:=List.all_eq_true.1 hcl _ (Q0H h)
   exact .box b true N S _ ((K b (G9 H) b0).trans H) ((h3.mono (η':=η) t (fun _ _=>rfl)).free a6))
  (fun i j b g Q a9 b7=>by
   obtain ⟨oi,g⟩:=Option.ne_none_iff_exists'.1 g;obtain ⟨oj,Q⟩:=Option.ne_none_iff_exists'.1 Q
   obtain ⟨b9,_⟩:=q i oi g;obtain ⟨b6,_⟩:=q j oj Q
   obtain ⟨r1,d⟩:=l i b9;obtain ⟨r2,H⟩:=l j b6
   have Y:=U.ds _ _ b (by rw [d];simp) (by rw [H];simp) a9 b7;have hn:=Q4x hnd
   have c3:i<cids.length:=by omega
   have c2:j<cids.length:=by omega
   rw [List.getD_eq_getElem?_getD,List.getD_eq_getElem?_getD,List.getElem?_eq_getElem c3,List.getElem?_eq_getElem c2] at Y;exact (List.getElem_inj hn).1 (by simpa using Y))
  (by simp [c1,Z8C,hlen])
  (fun j Q=>by
   rw [List.length_append] at Q
   by_cases hja:j<args.length
   .have e1:(J++(cids.map η).toArray).getD j undef=J.getD j undef:=by
     have:j<J.size:=by omega
     simp [Array.getD_eq_getD_getElem?,Array.getElem?_append,this]
    have e2:(args++Z8C cs).getD j .any=args.getD j .any:=by simp [List.getD_eq_getElem?_getD,List.getElem?_append,hja]
    rw [e1,e2];exact L j hja _ _
   .have h:j-args.length<cs.length:=by simp [Z8C] at Q;omega
    obtain ⟨b,N,S,d,H,h3⟩:=A _ h;have e1:(J++(cids.map η).toArray).getD j undef=η (cids.getD (j-args.length) 0):=by
     have g1:¬ j<J.size:=by omega
     have g2:j-J.size<cids.length:=by omega
     have g3:j-args.length<cids.length:=by omega
     have:j-J.size=j-args.length:=by omega
     simp [Array.getD_eq_getD_getElem?,Array.getElem?_append,g1,List.getD_eq_getElem?_getD,this,g3]
    have e2:(args++Z8C cs).getD j .any=.v (.c (.ptr (j-args.length) 0)):=by
     simp [List.getD_eq_getElem?_getD,List.getElem?_append,hja,Z8C,h]
    rw [e1,e2,d];exact .v _ _ (.c _ _ (.ptr b _ 0 d)))
 refine a5.mono fun en w' hh=>?_
 obtain ⟨v,η',rfl,G⟩:=hh;refine ⟨v,rfl,G.stp.mono fun b _ hM=>?_,fun η2 C2=>?_⟩
 .obtain ⟨i,z,g,b2,_⟩:=hM
  obtain ⟨_,rfl⟩:=q i z g;cases b2
 .have hX:∀ b,XS (K3 (Z0c cs) w1 T fun k=>η (cids.getD k 0)) (ls (Z0c cs)) η' b↔T b:=by
   have I:∀ i z,ls (Z0c cs) i=some z -> η' i=η (cids.getD i 0):=by
    intro i z g;refine G.pn i _ ?_
    unfold ls at g;simp [K3,g]
   intro b;constructor
   .rintro (⟨hx,_⟩|⟨i,z,g,n⟩)
    .exact hx
    .rw [I i z g] at n
     exact E b ⟨i,z,g,n⟩
   .intro hx
    rcases Classical.em (Own (ls (Z0c cs)) (fun k=>η (cids.getD k 0)) b) with ho|ho
    .obtain ⟨i,z,g,n⟩:=ho
     exact .inr ⟨i,z,g,by rw [I i z g];exact n⟩
    .exact .inl ⟨hx,ho⟩
  exact (G.res.mono (η':=η') (fun b _ hx=>⟨rfl,fun a8=>hx ((hX b).2 a8)⟩) (fun _ _=>rfl)).free (hres args r hF)
end
end
section
class Emb (α:Type) where
 cells:α->List DVal
 es:Nat
 d:α
 len:∀ x,(cells x).length=es
section
variable {α:Type} [Emb α]
def LF(l:List α)(i:Nat):List DVal:=Emb.cells (l.getD i Emb.d)
def DL(l:List α):DVal:=.lst l.length (LF l)
def AL(l:List α):AVal:=.v (.c (.d (DL l)))
def AO(l:List α):Obj:=.arr (Emb.es α) l.length (LF l)
structure Is (n:Nat) (f:Nat->List DVal) (l:List α):Prop where
 len_eq:n=l.length
 at_eq:∀ i,i<n->f i=LF l i
theorem Is.refl(l:List α):Is l.length (LF l) l:=⟨rfl,fun _ _=>rfl⟩
theorem Is.nil{f:Nat->List DVal}:Is 0 f ([]:List α):=⟨rfl,fun i a=>by omega⟩
theorem Is.app{n k:Nat}{f g:Nat->List DVal}{l m:List α}(h:Is n f l)(h' : Is k g m):Is (n+k) (Q5y n f g) (l++m):=by
 obtain ⟨b,c⟩:=h;obtain ⟨a,d⟩:=h'
 subst b a;refine ⟨by simp,fun i j=>?_⟩
 unfold Q5y LF
 by_cases hil:i<l.length
 .rw [if_pos hil,c i hil,LF,List.getD_eq_getElem?_getD,List.getD_eq_getElem?_getD,List.getElem?_append_left hil]
 .rw [if_neg hil,d _ (by omega),LF,List.getD_eq_getElem?_getD,List.getD_eq_getElem?_getD,List.getElem?_append_right (by omega)]
theorem Y8L{β γ:Type}{l:List β}{m:List γ}{δ:Type}{f:β->δ}{g:γ->δ}(h:l.map f=m.map g)(i:Nat):(l[i]?).map f=(m[i]?).map g:=by
 rw [<-List.getElem?_map, <-List.getElem?_map,h]
theorem Is.lit{k:Nat}{g:Nat->List DVal}(ys:List α)(h:(List.range k).map g=ys.map Emb.cells):Is k g ys:=by
 have a:k=ys.length:=by simpa using congrArg List.length h
 refine ⟨a,fun i b=>?_⟩;have:=Y8L h i
 rw [List.getElem?_range b,List.getElem?_eq_getElem (by omega)] at this;simp only [Option.map_some,Option.some.injEq] at this
 rw [this,LF,List.getD_eq_getElem?_getD,List.getElem?_eq_getElem (by omega)];rfl
theorem Is.set{n i:Nat}{f:Nat->List DVal}{l:List α}{off:Nat}{ds:List DVal}(h:Is n f l)(hi:i<n)(y:α)(hy:Q4z (f i) off ds=Emb.cells y):
  Is n (fun j=>if j=i then Q4z (f i) off ds else f j) (l.set i y):=by
 obtain ⟨a,b⟩:=h;refine ⟨by simpa using a,fun j c=>?_⟩
 unfold LF;rw [List.getD_eq_getElem?_getD]
 by_cases hji:j=i
 .subst hji
  rw [if_pos rfl,hy,List.getElem?_set_self (by omega)];rfl
 .rw [if_neg hji,List.getElem?_set_ne (fun h=>hji h.symm),b j c,LF,List.getD_eq_getElem?_getD]
theorem Is.take{n:Nat}{f:Nat->List DVal}{l:List α}(h:Is n f l){k:Int}(hk:k<=n):Is k.toNat f (l.take k.toNat):=by
 obtain ⟨c,a⟩:=h;refine ⟨by simp;omega,fun j b=>?_⟩
 rw [a j (by omega),LF,LF,List.getD_eq_getElem?_getD,List.getD_eq_getElem?_getD,List.getElem?_take,if_pos b]
theorem Is.len{n:Nat}{f:Nat->List DVal}{l:List α}(h:Is n f l):∀ j,j<n->(f j).length=Emb.es α:=fun j a=>by rw [h.at_eq j a];exact Emb.len _
theorem DRep.is{w:World}{X:Nat->Prop}{v:Value}{n:Nat}{f:Nat->List DVal}{l:List α}(h:Is n f l)(hr:DRep w X v (.lst n f)):DRep w X v (DL l):=by
 obtain ⟨k,g⟩:=h;unfold DL
 cases hr with
 | nil a cap _=>
  have:l.length=0:=k.symm
  rw [this];exact .nil a cap _
 | lst b off n cap c e fz _ es g1 g2 g3 g4 g5 g6=>
  rw [<-k];exact .lst b off n cap c e fz _ es g1 g2 g3 g4 (fun i d=>by rw [<-g i d];exact g5 i d) fun i j d m=>by rw [<-g i d];exact g6 i j d m
theorem OLe.is{n:Nat}{f:Nat->List DVal}{l:List α}(h:Is n f l):OLe (.arr (Emb.es α) n f) (AO l):=by
 refine ⟨fun w X η C v k=>?_,rfl,fun i a=>by cases a⟩;obtain ⟨g,d⟩:=h
 unfold AO
 cases k with
 | nil ad es _=>
  have:l.length=0:=g.symm
  rw [this];exact .nil ad _ _
 | arr b n cap es c e _ g1 g2 g3 g4 g5 g6 g7=>
  rw [<-g];exact .arr b n cap _ c e _ g1 g2 g3 g4 g5 (fun i a=>by rw [<-d i a];exact g6 i a) fun i j a m=>by rw [<-d i a];exact g7 i j a m
theorem Z5x(l:List α)(lo hi:Option Int)(h:(sl l.length (LF l) lo hi).2):Is (sl l.length (LF l) lo hi).1.1 (sl l.length (LF l) lo hi).1.2
  (match lo,hi with|none,none=>l|some a,none=>l.drop a.toNat|none,some b=>l.take b.toNat|some a,some b=>(l.take b.toNat).drop a.toNat):=by
 cases lo with
 | none=>cases hi with
  | none=>exact .refl l
  | some b=>exact (Is.refl l).take h.2
 | some a=>cases hi with
  | none=>
   refine ⟨by simp [sl],fun i hi=>?_⟩;simp only [sl,LF,List.getD_eq_getElem?_getD,List.getElem?_drop]
  | some b=>
   simp only [sl] at h;refine ⟨by simp only [sl,List.length_drop,List.length_take];omega,fun i hi=>?_⟩
   simp only [sl] at hi;simp only [sl,LF,List.getD_eq_getElem?_getD,List.getElem?_drop,List.getElem?_take]
   rw [if_pos (by omega)]
end
def CLe(x y:CV):Prop:=(∀ w X η C v,CRep w X η C v x->CRep w X η C v y)/\∀ i ∈ y.refs,i ∈ x.refs
theorem CLe.refl(x:CV):CLe x x:=⟨fun _ _ _ _ _ h=>h,fun _ h=>h⟩
theorem CLe.lst{α:Type}[Emb α]{n:Nat}{f:Nat->List DVal}{l:List α}(h:Is n f l):CLe (.d (.lst n f)) (.d (DL l)):=
 ⟨fun w X η C v a=>by cases a with|d _ _ a=>exact .d _ _ (a.is h),fun i b=>by cases b⟩
theorem CLe.fl{α:Type}[Emb α]{n:Nat}{f:Nat->List DVal}{l:List α}(h:Is n f l):CLe (.fl n f) (.d (DL l)):=
 ⟨fun w X η C v a=>by cases a with|fl _ _ _ a=>exact .d _ _ (a.is h),fun i b=>by cases b⟩
theorem CLe.fls{α:Type}[Emb α]{n:Nat}{f:Nat->List DVal}{l:List α}(h:Is n f l):CLe (.fl n f) (.fl l.length (LF l)):=
 ⟨fun w X η C v a=>by
  cases a with
  | fl _ _ _ a=>
   have:=a.is h
   unfold DL at this;have b:=h.len_eq
   subst b;exact .fl _ _ _ this,fun i c=>by cases c⟩
def Y6x:List CV->List CV->Prop
 | [],[]=>True
 | x::xs,y::ys=>CLe x y/\Y6x xs ys
 | _,_=>False
theorem Y6x.spec{xs ys:List CV}(h:Y6x xs ys):xs.length=ys.length/\(∀ j,CLe (xs.getD j (.d .any)) (ys.getD j (.d .any)))/\∀ i ∈ ys.flatMap CV.refs,i ∈ xs.flatMap CV.refs:=by
 induction xs generalizing ys with
 | nil=>cases ys with
  | nil=>exact ⟨rfl,fun j=>CLe.refl _,fun i a=>a⟩
  | cons y ys=>exact h.elim
 | cons x xs ih=>cases ys with
  | nil=>exact h.elim
  | cons y ys=>
   obtain ⟨b,c⟩:=h;obtain ⟨k,g,f⟩:=ih c
   refine ⟨by simp [k],fun j=>?_,fun i a=>?_⟩
   .cases j with
    | zero=>exact b
    | succ j=>exact g j
   .simp only [List.flatMap_cons,List.mem_append] at a ⊢
    rcases a with a|a
    .exact .inl (b.2 i a)
    .exact .inr (f i a)
theorem Y6x.rep{xs ys:List CV}(h:Y6x xs ys){w:World}{X:Nat->Prop}{η:Nat->Value}{C:Ctx}{vs:Array Value}(hv:y8 w X η C vs xs):y8 w X η C vs ys:=by
 obtain ⟨b,a,_⟩:=h.spec;exact ⟨hv.1.trans b,fun j c=>(a j).1 _ _ _ _ _ (hv.2 j (by omega))⟩
def TLe(x y:TV):Prop:=(∀ w X η C v,TRep w X η C v x->TRep w X η C v y)/\∀ i ∈ y.refs,i ∈ x.refs
theorem TLe.c{x y:CV}(h:CLe x y):TLe (.c x) (.c y):=⟨fun w X η C v a=>by cases a with|c _ _ a=>exact .c _ _ (h.1 _ _ _ _ _ a),h.2⟩
theorem TLe.g{xs ys:List CV}(h:Y6x xs ys):TLe (.g xs) (.g ys):=⟨fun w X η C v a=>by cases a with|g _ _ a=>exact .g _ _ (h.rep a),h.spec.2.2⟩
theorem ALe.v{x y:TV}(h:TLe x y):ALe (.v x) (.v y):=⟨fun w X η C v a=>by cases a with|v _ _ a=>exact .v _ _ (h.1 _ _ _ _ _ a),h.2⟩
theorem ALe.c{x y:CV}(h:CLe x y):ALe (.v (.c x)) (.v (.c y)):=.v (.c h)
theorem ALe.g{xs ys:List CV}(h:Y6x xs ys):ALe (.v (.g xs)) (.v (.g ys)):=.v (.g h)
theorem OLe.box{ro:Bool}{xs ys:List CV}(h:Y6x xs ys):OLe (.box ro xs) (.box ro ys):=
 ⟨fun w X η C v a=>by cases a with|box b _ c e _ h1 h2=>exact .box b ro c e _ h1 (h.rep h2),rfl,h.spec.2.2⟩
theorem ALe.lst{α:Type}[Emb α]{n:Nat}{f:Nat->List DVal}{l:List α}(h:Is n f l):ALe (.v (.c (.d (.lst n f)))) (AL l):=.c (.lst h)
theorem ALe.bool{b c:Bool}(h:b=c):ALe (vb b) (vb c):=.of_eq (congrArg vb h)
def FE:List (Nat×AVal)->List (Nat×AVal)->Prop
 | [],[]=>True
 | (t,x)::E,(u,y)::E'=>t=u/\ALe x y/\FE E E'
 | _,_=>False
def FSl:List (Nat×Obj)->List (Nat×Obj)->Prop
 | [],[]=>True
 | (t,x)::E,(u,y)::E'=>t=u/\OLe x y/\FSl E E'
 | _,_=>False
theorem FE.lk{E E' : List (Nat×AVal)}(h:FE E E')(t:Nat):ALe (lk E t) (lk E' t):=by
 induction E generalizing E' with
 | nil=>cases E' with
  | nil=>exact ALe.refl _
  | cons p r=>exact h.elim
 | cons p r ih=>cases E' with
  | nil=>exact h.elim
  | cons q s=>
   obtain ⟨a,c,b⟩:=h;have:=ih b
   unfold Ab.lk at this ⊢;obtain ⟨u,x⟩:=p
   obtain ⟨d,y⟩:=q;simp only at a
   subst a;rw [List.lookup_cons,List.lookup_cons]
   cases htu:t==u with
   | true=>exact c
   | false=>exact this
theorem FSl.ls{S S' : List (Nat×Obj)}(h:FSl S S')(i:Nat)(o' : Obj)(hi:ls S' i=some o'):∃ o,ls S i=some o/\OLe o o':=by
 induction S generalizing S' with
 | nil=>cases S' with
  | nil=>cases hi
  | cons p r=>exact h.elim
 | cons p r ih=>cases S' with
  | nil=>exact h.elim
  | cons q s=>
   obtain ⟨a,c,b⟩:=h;have:=ih b
   unfold Ab.ls at this hi ⊢;obtain ⟨u,x⟩:=p
   obtain ⟨d,y⟩:=q;simp only at a
   subst a;rw [List.lookup_cons] at hi ⊢
   cases htu:i==u with
   | true=>rw [htu] at hi;cases hi;exact ⟨x,rfl,c⟩
   | false=>rw [htu] at hi;exact this hi
section
variable {P:Program} {C:Ctx} {nt:Nat} {L:Lay} {pins:List Nat} {K:Act->World->Prop} {E:List (Nat×AVal)} {S:List (Nat×Obj)} {Q:Exit->Act->World->Prop}
theorem Q7s(E' : List (Nat×AVal))(S' : List (Nat×Obj))(hE:FE E E')(hS:FSl S S')(h:Kn C nt E' S' K):Kn C nt E S K:=by
 intro R η a w c;refine h R (fun i=>η i) a w (c.conv (fun i=>i) (fun t=>by rw [AVal.ren_id];exact hE.lk t) (fun i x b=>?_) (fun i j b f d=>d) (fun u i b=>c.er u i ((hE.lk u).2 i b)) (fun i x b=>?_) (fun i b=>?_))
 .rw [Obj.ren_id];exact hS.ls i x b
 .obtain ⟨o,l,k⟩:=hS.ls i x b
  have:=c.sr i o l
  exact ⟨this.1,fun j f=>this.2 j (k.2.2 j f)⟩
 .obtain ⟨v,g⟩:=Option.ne_none_iff_exists'.1 b
  exact ⟨rfl,(c.pn i v g).2⟩
theorem Fr.pinsB(Fm:Fr P L C pins){ρ:List (Nat×Nat)}(h:pins.all (fun i=>J3 ρ i==i)=true):pinsB C (J3 ρ):=fun i a=>by
 have:=List.all_eq_true.1 h i (Fm.pin i a)
 simpa using this
theorem Kn.re(Fm:Fr P L C pins)(ρ:List (Nat×Nat))(E' : List (Nat×AVal))(S' : List (Nat×Obj))(hp:pins.all (fun i=>J3 ρ i==i)=true)(hE:E'.map (fun p=>lk E p.1)=E'.map (fun p=>p.2.ren (J3 ρ)))(hS:S'.map (fun p=>ls S (J3 ρ p.1))=S'.map (fun p=>some (p.2.ren (J3 ρ))))(hinj:Q2X (S'.map fun p=>J3 ρ p.1)=true)(h:Kn C nt E' S' K):Kn C nt E S K:=
 W3A ρ (Fm.pinsB hp) hE hS hinj h
def CV.frz(k n:Nat)(f:Nat->List DVal):CV->CV
 | .own i=>if i=k then .d (.lst n f) else .own i
 | .ap i=>if i=k then .d (.lst n f) else .ap i
 | x=>x
def TV.frz(k n:Nat)(f:Nat->List DVal):TV->TV
 | .c x=>.c (x.frz k n f)
 | .g xs=>.g (xs.map (CV.frz k n f))
def AVal.frz(k n:Nat)(f:Nat->List DVal):AVal->AVal
 | .any=>.any
 | .v x=>.v (x.frz k n f)
 | .t xs=>.t (xs.map (TV.frz k n f))
def Obj.frz(k n:Nat)(f:Nat->List DVal):Obj->Obj
 | .box ro cs=>.box ro (cs.map (CV.frz k n f))
 | o=>o
end
section
variable {w:World} {X X' : Nat->Prop} {η:Nat->Value} {C:Ctx} {k n:Nat} {f:Nat->List DVal}
theorem CRep.frz{v:Value}{x:CV}(h:CRep w X η C v x)(hX:∀ b,¬ X b->¬ X' b)(hk:DRep w X' (η k) (.lst n f)):CRep w X' η C v (x.frz k n f):=by
 have a:∀ b,b<w.heap.size->¬ X b->w.heap[b]?=w.heap[b]? /\ ¬ X' b:=fun b _ o=>⟨rfl,hX b o⟩
 cases h with
 | d _ _ h=>exact .d _ _ (h.mono a)
 | fl _ _ _ h=>exact .fl _ _ _ (h.mono a)
 | own _ i h h1=>
  simp only [CV.frz];split
  .rename_i m;subst m;rw [h];exact .d _ _ hk
  .exact .own _ _ h h1
 | ptr _ _ _ h=>exact .ptr _ _ _ h
 | pte _ _ _ _ _ _ _ h=>exact .pte _ _ _ _ _ _ _ h
 | sub b N cap _ es lo n h h1 h2=>exact .sub b N cap _ es lo n h h1 h2
 | subN ad ad' N _ es h=>exact .subN ad ad' N _ es h
 | elm b off c e fz cs h1 h2 h3 h4=>exact .elm b off c e fz cs (hX _ h1) h2 h3 fun j g=>(h4 j g).mono a
 | clo _ _ _ h=>exact .clo _ _ _ h
 | sem _ _ h h1=>exact .sem _ _ h h1
 | ap v i h h1=>
  simp only [CV.frz];split
  .rename_i m
   subst m;rcases h with h|h|⟨l,h⟩
   .rw [<-h];exact .d _ _ hk
   .rw [h] at hk;cases hk
   .rw [h] at hk;cases hk
  .exact .ap _ _ h h1
 | bnd f vs cs h1 h2=>exact .bnd f vs cs h1 fun j g=>(h2 j g).mono a
 | cp _ id j vs h h1 h2=>exact .cp _ id j vs h h1 h2
theorem y8.frz{vs:Array Value}{cs:List CV}(h:y8 w X η C vs cs)(hX:∀ b,¬ X b->¬ X' b)(hk:DRep w X' (η k) (.lst n f)):y8 w X' η C vs (cs.map (CV.frz k n f)):=by
 refine ⟨by simpa using h.1,fun j c=>?_⟩;have a : j<cs.length:=by simpa using c
 have:=(h.2 j a).frz hX hk
 rw [List.getD_eq_getElem?_getD,List.getElem?_map,List.getElem?_eq_getElem a];rw [List.getD_eq_getElem?_getD,List.getElem?_eq_getElem a] at this
 exact this
theorem TRep.frz{v:Value}{x:TV}(h:TRep w X η C v x)(hX:∀ b,¬ X b->¬ X' b)(hk:DRep w X' (η k) (.lst n f)):TRep w X' η C v (x.frz k n f):=by
 cases h with
 | c _ _ h=>exact .c _ _ (h.frz hX hk)
 | g _ _ h=>exact .g _ _ (h.frz hX hk)
theorem ARep.frz{v:Value}{x:AVal}(h:ARep w X η C v x)(hX:∀ b,¬ X b->¬ X' b)(hk:DRep w X' (η k) (.lst n f)):ARep w X' η C v (x.frz k n f):=by
 cases h with
 | any=>exact .any v
 | v _ _ h=>exact .v _ _ (h.frz hX hk)
 | t us xs h1 h2=>
  refine .t us _ (by simpa using h1) fun j c=>?_
  have a : j<xs.length:=by simpa using c
  have:=(h2 j a).frz hX hk
  rw [List.getD_eq_getElem?_getD,List.getElem?_map,List.getElem?_eq_getElem a];rw [List.getD_eq_getElem?_getD,List.getElem?_eq_getElem a] at this
  exact this
theorem ORep.frz{v:Value}{o:Obj}(h:ORep w X η C v o)(hX:∀ b,¬ X b->¬ X' b)(hk:DRep w X' (η k) (.lst n f)):ORep w X' η C v (o.frz k n f):=by
 cases h with
 | box b ro c e cs h1 h2=>exact .box b ro c e _ h1 (h2.frz hX hk)
 | nil ad es f=>exact .nil ad es f
 | arr b n cap es c e f h1 h2 h3 h4 h5 h6 h7=>exact .arr b n cap es c e f h1 h2 h3 h4 h5 h6 fun i j g d=>(h7 i j g d).mono fun b _ a=>⟨rfl,hX b a⟩
 | ext _ p h1 h2 h3=>exact .ext _ p (h2 w w X X' (fun b _ a=>⟨rfl,hX b a⟩) (fun _ _=>rfl) h1) h2 h3
 | exr _ refs p h1 h2 h3=>exact .exr _ refs p (h2 w w X X' (fun b _ a=>⟨rfl,hX b a⟩) (fun _ _=>rfl) h1) h2 h3
theorem Q4q{α β:Type}{fr:α->List Nat}{gr:β->List Nat}{g:α->β}{l:List α}(h:∀ x,∀ j ∈ gr (g x),j ∈ fr x):∀ j ∈ (l.map g).flatMap gr,j ∈ l.flatMap fr:=by
 intro j a;obtain ⟨y,b,a⟩:=List.mem_flatMap.1 a
 obtain ⟨x,c,rfl⟩:=List.mem_map.1 b;exact List.mem_flatMap.2 ⟨x,c,h x j a⟩
theorem CV.frz_refs(x:CV):∀ j ∈ (x.frz k n f).refs,j ∈ x.refs:=by
 cases x <;> simp only [CV.frz] <;> try exact fun j a=>a
 all_goals
  split
  .intro j a;cases a
  .exact fun j a=>a
theorem TV.frz_refs(x:TV):∀ j ∈ (x.frz k n f).refs,j ∈ x.refs:=by
 cases x with
 | c x=>exact CV.frz_refs x
 | g xs=>exact Q4q CV.frz_refs
theorem AVal.frz_refs(x:AVal):∀ j ∈ (x.frz k n f).refs,j ∈ x.refs:=by
 cases x with
 | any=>exact fun j a=>a
 | v x=>exact TV.frz_refs x
 | t xs=>exact Q4q TV.frz_refs
theorem Obj.frz_refs(o:Obj):∀ j ∈ (o.frz k n f).refs,j ∈ o.refs:=by
 cases o with
 | box ro cs=>exact Q4q CV.frz_refs
 | arr es n f=>exact fun j a=>a
 | ext p=>exact fun j a=>a
 | exr refs p=>exact fun j a=>a
end
end
section
section
variable {P:Program} {C:Ctx} {nt:Nat} {L:Lay} {pins:List Nat} {K:Act->World->Prop} {E:List (Nat×AVal)} {S:List (Nat×Obj)} {Q:Exit->Act->World->Prop}
theorem Y4O{g:AVal->AVal}(hg:g .any=.any)(E:List (Nat×AVal))(t:Nat):lk (E.map fun p=>(p.1,g p.2)) t=g (lk E t):=by
 unfold lk
 induction E with
 | nil=>exact hg.symm
 | cons p r ih=>
  rw [List.map_cons,List.lookup_cons,List.lookup_cons]
  cases htp:t==p.1 with
  | true=>rfl
  | false=>exact ih
theorem Z4n{g:Obj->Obj}(S:List (Nat×Obj))(i:Nat):ls (S.map fun p=>(p.1,g p.2)) i=(ls S i).map g:=by
 unfold ls
 induction S with
 | nil=>rfl
 | cons p r ih=>
  rw [List.map_cons,List.lookup_cons,List.lookup_cons]
  cases htp:i==p.1 with
  | true=>rfl
  | false=>exact ih
theorem Kn.frz{k es n:Nat}{f:Nat->List DVal}(E' : List (Nat×AVal))(S' : List (Nat×Obj))(hE:E.map (fun p=>(p.1,p.2.frz k n f))=E')(hS:S.map (fun p=>(p.1,p.2.frz k n f))=S')(hk:(S.map (·.1)).contains k=false)(h:Kn C nt E' S' K):Kn C nt E ((k,.arr es n f)::S) K:=by
 subst hE hS;intro R η a w m
 have z:ls ((k,.arr es n f)::S) k=some (.arr es n f):=by unfold ls;rw [List.lookup_cons];simp
 have H:ls S k=none:=by
  cases ho:ls S k with
  | none=>rfl
  | some o=>
   have:k ∈ S.map (·.1):=List.mem_map.2 ⟨_,U8 ho,rfl⟩
   rw [List.contains_iff_mem.2 this] at hk;cases hk
 have l:∀ i o,ls S i=some o->ls ((k,.arr es n f)::S) i=some o/\i≠k:=by
  intro i o d;have r:i≠k:=by intro h;rw [h,H] at d;cases d
  refine ⟨?_,r⟩;unfold ls;rw [List.lookup_cons]
  have:(i==k)=false:=by simpa using r
  rw [this];exact d
 have y:∀ b,Own (ls (S.map fun p=>(p.1,p.2.frz k n f))) η b->Own (ls S) η b:=by
  rintro b ⟨i,J,d,q⟩;rw [Z4n] at d
  cases ho:ls S i with
  | none=>rw [ho] at d;cases d
  | some o=>exact ⟨i,o,ho,q⟩
 have I:∀ b,¬ XS C (ls ((k,.arr es n f)::S)) η b->¬ XS C (ls (S.map fun p=>(p.1,p.2.frz k n f))) η b:=by
  intro b x M;rcases M with v|v
  .exact x (.inl v)
  .obtain ⟨i,o,d,q⟩:=y b v
   exact x (.inr ⟨i,o,(l i o d).1,q⟩)
 have V:∀ b,b<w.heap.size->¬ XS C (ls ((k,.arr es n f)::S)) η b->w.heap[b]?=w.heap[b]? /\ ¬ XS C (ls (S.map fun p=>(p.1,p.2.frz k n f))) η b:=fun b _ x=>⟨rfl,I b x⟩
 have F:∀ b,b ∈ W3 (η k)->¬ XS C (ls (S.map fun p=>(p.1,p.2.frz k n f))) η b:=by
  intro b x v;rcases v with ⟨v,T⟩|v
  .rcases m.ow k _ b z x with ⟨A,_⟩|U|W
   .cases A
   .exact T (m.ok.md b U)
   .have:=m.ok.lt b v;omega
  .obtain ⟨i,o,d,q⟩:=y b v
   obtain ⟨N,G⟩:=l i o d;exact G (m.ds i k b (by rw [N];simp) (by rw [z];simp) q x)
 have D:DRep w (XS C (ls (S.map fun p=>(p.1,p.2.frz k n f))) η) (η k) (.lst n f):=by
  have:=m.st k _ z
  generalize hu:η k=u at this F
  cases this with
  | nil ad es f=>exact .nil ad 0 f
  | arr b n cap es c e f N G h3 h4 h5 h6 h7=>
   have x:¬ XS C (ls (S.map fun p=>(p.1,p.2.frz k n f))) η b:=F b (by simp [W3];omega);refine .lst b 0 n cap c e _ f es x N h3 (by rw [G,Nat.zero_add];exact Nat.mul_le_mul_right _ h3) h6 fun i j d B=>?_
   rw [Nat.zero_add];exact (h7 i j d B).mono V
 refine h R η a w ⟨m.ok,m.df,m.sz,fun t=>?_,fun t i d=>?_,fun i J d=>?_,fun i J d=>?_,fun i j b d B=>?_,fun i J b d=>?_,m.fr,m.pn⟩
 .rw [Y4O (g:=AVal.frz k n f) rfl]
  exact (m.ev t).frz I D
 .rw [Y4O (g:=AVal.frz k n f) rfl] at d
  exact m.er t i (AVal.frz_refs _ i d)
 .rw [Z4n] at d
  cases ho:ls S i with
  | none=>rw [ho] at d;cases d
  | some o=>
   rw [ho] at d;cases d
   exact (m.st i o (l i o ho).1).frz I D
 .rw [Z4n] at d
  cases ho:ls S i with
  | none=>rw [ho] at d;cases d
  | some o=>
   rw [ho] at d;cases d
   have:=m.sr i o (l i o ho).1
   exact ⟨this.1,fun j B=>this.2 j (Obj.frz_refs o j B)⟩
 .have r:∀ i,ls (S.map fun p=>(p.1,p.2.frz k n f)) i≠none->ls ((k,.arr es n f)::S) i≠none:=by
   intro i d O;apply d
   rw [Z4n]
   cases ho:ls S i with
   | none=>rfl
   | some o=>rw [(l i o ho).1] at O;cases O
  exact m.ds i j b (r i d) (r j B)
 .rw [Z4n] at d
  cases ho:ls S i with
  | none=>rw [ho] at d;cases d
  | some o=>
   rw [ho] at d;cases d
   have A:(o.frz k n f).ro=o.ro:=by cases o <;> rfl
   rw [A];exact m.ow i o b (l i o ho).1
def gd{R:Type}(p:Prop)[Decidable p](x:Option R):Option R:=if p then x else none
theorem Y7T{R:Type}{p:Prop}[Decidable p]{x:Option R}{r:R}(h:gd p x=some r):p/\x=some r:=by
 unfold gd at h;split at h
 .exact ⟨‹_›,h⟩
 .cases h
theorem W2g{α R:Type}{x:Option α}{f:α->Option R}{r:R}(h:x.bind f=some r):∃ z,x=some z/\f z=some r:=by
 cases x with
 | none=>cases h
 | some z=>exact ⟨z,rfl,h⟩
def br{R:Type}(b:Bool)(x y:Option R):Option R:=match b with|true=>x|false=>y
theorem W3J{R:Type}{b:Bool}{x y:Option R}{r:R}(h:br b x y=some r)(hb:b=true):x=some r:=by subst hb;exact h
theorem W3K{R:Type}{b:Bool}{x y:Option R}{r:R}(h:br b x y=some r)(hb:b=false):y=some r:=by subst hb;exact h
def Q9{σ R:Type}(body:(σ->Option R)->σ->Option R):Nat->σ->Option R
 | 0,_=>none
 | n+1,z=>body (Q9 body n) z
theorem Y5i{σ R:Type}{r:R}{x y:Code}(f:σ->Option R)(E' : σ->List (Nat×AVal))(S' : σ->List (Nat×Obj))(hy:∀ z,f z=some r->AW P C nt y (E' z) (S' z) Q)(hx:∀ J:Act->World->Prop,(∀ z,f z=some r->Kn C nt (E' z) (S' z) J)->AW P C nt x E S (Exit.then J Q)):AW P C nt (.seq x y) E S Q:=
 AW.seq (hx _ fun z a=>hy z a)
theorem W1a{σ R:Type}{r:R}{c:Code}{body:(σ->Option R)->σ->Option R}(E' : σ->List (Nat×AVal))(S' : σ->List (Nat×Obj))(round:∀ (again:σ->Option R) (z:σ) (J:Act->World->Prop),(∀ z',again z'=some r->Kn C nt (E' z') (S' z') J)->body again z=some r->AW P C nt c (E' z) (S' z) (Exit.then J Q)){n:Nat}{z0:σ}(h:Q9 body n z0=some r):AW P C nt (.loop c) (E' z0) (S' z0) Q:=by
 refine AW.loop (σ:=Nat×σ) (fun p=>Q9 body p.1 p.2=some r) (fun p=>p.1) (fun p=>E' p.2) (fun p=>S' p.2) (fun p b=>?_) (n,z0) h;obtain ⟨m,z⟩:=p
 cases m with
 | zero=>cases b
 | succ m=>
  refine round (Q9 body m) z _ (fun z' a=>?_) b;exact W3B (I:=fun p:Nat×σ=>Q9 body p.1 p.2=some r/\p.1<m+1) (E':=fun p=>E' p.2) (S':=fun p=>S' p.2) (m,z') ⟨a,Nat.lt_succ_self m⟩
def V5(L:Lay)(ops:Array Oper):List Oper->List Dir->Env->Sto->Nat->Env
 | o::os,d::ds,e,s,k+1=>V5 L ops os ds (Z0m o.dst (Z3h L ops o d e s).v e) (upS (Z3h L ops o d e s).l s) k
 | _,_,e,_,_=>e
def Q2l(L:Lay)(ops:Array Oper):List Oper->List Dir->Env->Sto->Nat->Sto
 | o::os,d::ds,e,s,k+1=>Q2l L ops os ds (Z0m o.dst (Z3h L ops o d e s).v e) (upS (Z3h L ops o d e s).l s) k
 | _,_,_,s,_=>s
def W2:List Oper->Nat->Oper
 | [],_=>default
 | o::_,0=>o
 | _::os,k+1=>W2 os k
def Q1N:List Dir->Nat->Array Oper->Oper->Env->Eff
 | .k f::_,0=>f
 | _::ds,k+1=>Q1N ds k
 | _,_=>fun _ _ _=>default
def KAt(P:Program)(C:Ctx)(nt:Nat)(L:Lay)(ops:Array Oper)(ds:List Dir)(e:Env)(s:Sto)(k:Nat):Prop:=
 StT P C nt ops (W2 ops.toList k) (Q1N ds k ops (W2 ops.toList k) (V5 L ops ops.toList ds e s k)) (V5 L ops ops.toList ds e s k) (Q2l L ops ops.toList ds e s k)
theorem W2k(Fm:Fr P L C pins){id:Nat}{ops:Array Oper}{draw:Bool}(ds:List Dir)(ρ:List (Nat×Nat))(c:(Nat->Prop)->Prop)(E' : List (Nat×AVal))(S' : List (Nat×Obj))(hc:c (KAt P C nt L ops ds (lk E) (ls S)))(hchk:W2e L pins nt ops draw ds E S ρ S'=true)(hC:Y1a P C nt L ops ops.toList ds (lk E) (ls S)=c (KAt P C nt L ops ds (lk E) (ls S)))(he0:E'.map (fun p=>Y4X ops.toList (Z6A L ops ops.toList ds (lk E) (ls S)) (lk E) p.1)=E'.map (fun p=>p.2.ren (J3 ρ)))(hs0:S'.map (fun p=>Y4W (Z6A L ops ops.toList ds (lk E) (ls S)) (ls S) (J3 ρ p.1))=S'.map (fun p=>some (p.2.ren (J3 ρ))))(k:Kn C nt E' S' (Q .normal)):AW P C nt (.region id ops draw) E S Q:=AW.region Fm ds ρ hchk (hC ▸ hc) he0 hs0 k
end
end
section
def Y0r(o:Oper):Bool:=match o.op with | .call { callee:=.value _,.. }=>true|_=>false
def callX(o:Oper):Operand:=match o.op with | .call { callee:=.value fx,.. }=>fx|_=>.const undef
def callXs(o:Oper):Array Operand:=match o.op with | .call { callee:=.value _,args,.. }=>args|_=> #[]
theorem Z6X{o:Oper}(h:Y0r o=true):∃ tys,o.op=.call { callee:=.value (callX o),args:=callXs o,argTypes:=tys }:=by
 unfold Y0r at h;split at h
 .rename_i c b tys a
  exact ⟨tys,by simp only [callX,callXs,a]⟩
 .cases h
def cE(m:List (Nat×Nat))(extra:List Nat)(r:AVal)(Si So:List (Nat×Obj)):Array Oper->Oper->Env->Eff:=fun ops o e=>Y5c ops o e (J3 m) extra r Si So
def sE(r:AVal):Array Oper->Oper->Env->Eff:=fun ops o e=>Z5A ops o e r
def Z6F(C:Ctx)(nt:Nat)(e:Env)(s:Sto)(Si:List (Nat×Obj))(m:Nat->Nat)(rd ids:List Nat):List Operand->List AVal->Prop
 | [],[]=>True
 | x::xs,y::ys=>Q0c C nt e s Si m rd ids x y/\Z6F C nt e s Si m rd ids xs ys
 | _,_=>False
theorem Z6F.spec{C:Ctx}{nt:Nat}{e:Env}{s:Sto}{Si:List (Nat×Obj)}{m:Nat->Nat}{rd ids:List Nat}{xs:List Operand}{ys:List AVal}(h:Z6F C nt e s Si m rd ids xs ys):
  xs.length=ys.length/\∀ j,j<ys.length->Q0c C nt e s Si m rd ids (xs.getD j (.const undef)) (ys.getD j .any):=by
 induction xs generalizing ys with
 | nil=>cases ys with
  | nil=>exact ⟨rfl,fun j a=>by simp at a⟩
  | cons y ys=>exact h.elim
 | cons x xs ih=>cases ys with
  | nil=>exact h.elim
  | cons y ys=>
   obtain ⟨c,d⟩:=h;obtain ⟨g,b⟩:=ih d
   refine ⟨by simp [g],fun j a=>?_⟩
   cases j with
   | zero=>exact c
   | succ j=>exact b j (by simpa using a)
theorem Z6F.plains{C:Ctx}{nt:Nat}{e:Env}{s:Sto}{Si:List (Nat×Obj)}{m:Nat->Nat}{rd ids:List Nat}:∀ {xs:List Operand} {ys:List AVal},xs.all (Q5t rd)=true->ys.all AVal.noSem=true->xs.map (aev e)=ys.map (AVal.ren m)->Z6F C nt e s Si m rd ids xs ys
 | [],[],_,_,_=>trivial
 | [],_::_,_,_,h=>by cases h
 | _::_,[],_,_,h=>by cases h
 | x::xs,y::ys,h1,h2,h3=>by
  simp only [List.all_cons,Bool.and_eq_true] at h1 h2;simp only [List.map_cons,List.cons.injEq] at h3
  exact ⟨Q0c.plain h1.1 (ALe.of_eq h3.1) h2.1,Z6F.plains h1.2 h2.2 h3.2⟩
def Y4P(f:Nat):AVal->Bool
 | .v (.c (.clo g []))=>g==f
 | _=>false
theorem Y4d{f:Nat}{x:AVal}(h:Y4P f x=true):x=.v (.c (.clo f [])):=by
 unfold Y4P at h;split at h
 .rename_i g;simp at h;rw [h]
 .cases h
def callB(ops:Array Oper)(nt:Nat)(e:Env)(o:Oper)(f:Nat)(m:List (Nat×Nat))(r:AVal)(Si So:List (Nat×Obj)):Bool:=
 Y0r o&&Y4P f (aev e (callX o))&&Q5t (Q0e o++U2 ops o) (callX o)&&Q6V (J3 m) r Si So&&Q1z nt o&&(Q8k ops e o==some true)
section
variable {P:Program} {C:Ctx} {nt:Nat} {L:Lay} {ops:Array Oper} {ds:List Dir} {e:Env} {s:Sto}
theorem Y4p{k:Nat}{f:Nat}{args:List AVal}{Si:List (Nat×Obj)}{r:AVal}{So:List (Nat×Obj)}(hspec:J5 P f args Si r So)(hcall:∀ args w,(callFunc f args).run P w=.ok (.enter f args) w)(m:List (Nat×Nat))(extra:List Nat)(hk:Q1N ds k=cE m extra r Si So)(hb:callB ops nt (V5 L ops ops.toList ds e s k) (W2 ops.toList k) f m r Si So=true)(hsi:Si.map (fun p=>Q2l L ops ops.toList ds e s k (J3 m p.1))=Si.map (fun p=>some (p.2.ren (J3 m))))(hargs:Z6F C nt (V5 L ops ops.toList ds e s k) (Q2l L ops ops.toList ds e s k) Si (J3 m) (Q0e (W2 ops.toList k)++U2 ops (W2 ops.toList k)) (Z2E (V5 L ops ops.toList ds e s k) (W2 ops.toList k)++(Si.map (fun p=>J3 m p.1)++extra))
   (callXs (W2 ops.toList k)).toList args):KAt P C nt L ops ds e s k:=by
 unfold KAt;rw [hk]
 simp only [callB,Bool.and_eq_true] at hb;obtain ⟨⟨⟨⟨⟨l,h⟩,u⟩,c⟩,d⟩,q⟩:=hb
 obtain ⟨b,a⟩:=Z6X l;obtain ⟨t,i⟩:=hargs.spec
 exact Y9t hcall a (Y4d h) u hspec (by simpa using t) (J3 m) extra (fun j g=>i j g) (fun p o=>⟨_,Q1L hsi p o,OLe.refl _⟩) c d (by simpa using q)
theorem KAt.call{k:Nat}{f:Nat}{args:List AVal}{Si:List (Nat×Obj)}{r:AVal}{So:List (Nat×Obj)}(hspec:J5 P f args Si r So)(hcall:∀ args w,(callFunc f args).run P w=.ok (.enter f args) w)(m:List (Nat×Nat))(hk:Q1N ds k=cE m [] r Si So)(hb:callB ops nt (V5 L ops ops.toList ds e s k) (W2 ops.toList k) f m r Si So=true)(hsi:Si.map (fun p=>Q2l L ops ops.toList ds e s k (J3 m p.1))=Si.map (fun p=>some (p.2.ren (J3 m))))(hrd:((callXs (W2 ops.toList k)).toList.all (Q5t (Q0e (W2 ops.toList k)++U2 ops (W2 ops.toList k)))&&args.all AVal.noSem)=true)(hargs:(callXs (W2 ops.toList k)).toList.map (aev (V5 L ops ops.toList ds e s k))=args.map (AVal.ren (J3 m))):KAt P C nt L ops ds e s k:=by
 rw [Bool.and_eq_true] at hrd;exact Y4p hspec hcall m [] hk hb hsi (Z6F.plains hrd.1 hrd.2 hargs)
def W3n(ops:Array Oper)(nt:Nat)(e:Env)(o:Oper)(args:List AVal)(r:AVal):Bool:=
 Y0r o&&Q5t (Q0e o++U2 ops o) (callX o)&&(callXs o).toList.all (Q5t (Q0e o++U2 ops o))&&args.all AVal.closed&&r.closed&&Q1z nt o&&(Q8k ops e o==some true)
theorem KAt.sem{k:Nat}{F:List AVal->AVal->Prop}{args:List AVal}{r:AVal}(hF:F args r)(hk:Q1N ds k=sE r)(hb:W3n ops nt (V5 L ops ops.toList ds e s k) (W2 ops.toList k) args r=true)(hfx:aev (V5 L ops ops.toList ds e s k) (callX (W2 ops.toList k))=Z5n P F)(hargs:(callXs (W2 ops.toList k)).toList.map (aev (V5 L ops ops.toList ds e s k))=args):KAt P C nt L ops ds e s k:=by
 unfold KAt;rw [hk]
 simp only [W3n,Bool.and_eq_true] at hb;obtain ⟨⟨⟨⟨⟨⟨o,m⟩,u⟩,i⟩,l⟩,p⟩,h⟩:=hb
 obtain ⟨g,a⟩:=Z6X o;have c:(callXs (W2 ops.toList k)).size=args.length:=by rw [<-hargs];simp
 refine Y5s a hfx hF c ⟨m,fun x t=>List.all_eq_true.1 u x t⟩ (fun j d=>?_) l p (by simpa using h);have b : j<(callXs (W2 ops.toList k)).toList.length:=by simpa [c] using d
 have q:aev (V5 L ops ops.toList ds e s k) ((callXs (W2 ops.toList k)).toList.getD j (.const undef))=args.getD j .any:=by
  rw [<-hargs];simp only [List.getD_eq_getElem?_getD,List.getElem?_map,List.getElem?_eq_getElem b,Option.map_some,Option.getD_some]
 exact ⟨ALe.of_eq q,List.all_eq_true.1 i _ (Q0H d)⟩
end
end
instance (n:Int):Decidable (I64 n):=inferInstanceAs (Decidable (_/\_))
def gl{α:Type}[Emb α](l:List α)(i:Nat):α:=l.getD i Emb.d
def Z0y(es:Nat)(ds:List DVal)(i:Nat):List DVal:=(ds.drop (i*es)).take es
theorem Y4{i:Int}{n:Nat}(h:0<=i/\i<(n:Int)):i.toNat<n:=by omega
theorem FE.refl:∀ E:List (Nat×AVal),FE E E
 | []=>trivial
 | (_,_)::E=>⟨rfl,ALe.refl _,FE.refl E⟩
theorem FSl.refl:∀ S:List (Nat×Obj),FSl S S
 | []=>trivial
 | (_,_)::S=>⟨rfl,OLe.refl _,FSl.refl S⟩
instance:Emb Int:=⟨fun x=>[.int .i64 x],1,0,fun _=>rfl⟩
instance:Emb Bool:=⟨fun x=>[.bool x],1,false,fun _=>rfl⟩
instance:Emb ByteArray:=⟨fun x=>[.str x],1,ByteArray.empty,fun _=>rfl⟩
instance {α:Type} [Emb α]:Emb (List α):=⟨fun x=>[DL x],1,[],fun _=>rfl⟩
section
section
variable {P:Program} {C:Ctx} {nt:Nat} {L:Lay} {ops:Array Oper} {ds:List Dir} {e:Env} {s:Sto}
theorem Z1t{o:Oper}{r:AVal}(hr:r.refs=[])(hdo:Q1z nt o=true)(hg:Q8k ops e o=some true)(hex:∀ (R:Nat->Prop) (η:Nat->Value) (e0:Env) (s0:Sto) (a:Act) (w:World),(∀ t ∈ Q0e o++U2 ops o,e0 t=e t)->Conc C nt R η e0 s0 a w->∃ v,(execOp a.eval o).run P w=.ok (.value v) w/\ARep w (XS C s0 η) η C v r):
  StT P C nt ops o (Z5A ops o e r) e s:=by
 intro R η e0 s0 a w b h y d K Q A;have q:=Q5A (e:=e) d (fun t p=>b t (List.mem_append.2 (.inr p))) hg
 rw [if_pos q];obtain ⟨v,z,c⟩:=hex R η e0 s0 a w b d
 unfold Oper.wp;rw [z]
 show K (a.put o.dst v) w;refine A η _ w ?_
 have:=d.val o.dst (Q5w hdo) r v fun _=>⟨c,fun j g=>by rw [hr] at g;cases g⟩
 have u:upS (Z5A ops o e r).l s0=s0:=by funext i;rfl
 rw [u];have m:Z0m o.dst (Z5A ops o e r).v e0=SR.env { v:=r } o.dst e0:=rfl
 rw [m];exact this.wider fun i x=>.inl x
def eqK(d:TypeDesc)(x y:CV):Option Bool:=
 match d,x,y with
 | .int _,.d (.int k a),.d (.int k' b)=>if k=k' then some (a==b) else none
 | .bool,.d (.bool a),.d (.bool b)=>some (a==b)
 | _,_,_=>none
def W1U(P:Program)(xs ys:List CV):List Field->Option Bool
 | []=>some true
 | f::fs=>if f.name= "_" then none else match P.underlying f.type,xs[f.offset]?,ys[f.offset]?,W1U P xs ys fs with
  | some d,some x,some y,some c=>match eqK d x y with
   | some b=>some (b&&c)
   | none=>none
  | _,_,_,_=>none
theorem W2Z{w w1:World}{X:Nat->Prop}{η:Nat->Value}{d:TypeDesc}{x y:CV}{b:Bool}(h:eqK d x y=some b){u v:Value}(hu:CRep w X η C u x)(hv:CRep w X η C v y){t:TypeId}(ht:P.underlying t=some d)(n:Nat):
  (isAgg t).run P w1=.ok false w1/\(Op.equalIn (n+1) t u v).run P w1=.ok b w1:=by
 unfold eqK at h;split at h
 .split at h
  .cases h
   rename_i a
   subst a
   cases hu with|d _ _ hu=>cases hu with|int=>
   cases hv with|d _ _ hv=>cases hv with|int=>
   exact ⟨by simp [isAgg,run_underlying ht],run_equalIn_int _ _ _ _ _ _ _ ht⟩
  .cases h
 .cases h
  cases hu with|d _ _ hu=>cases hu with|bool=>
  cases hv with|d _ _ hv=>cases hv with|bool=>
  exact ⟨by simp [isAgg,run_underlying ht],run_equalIn_bool' _ _ _ _ _ ht⟩
 .cases h
theorem Y6i{w:World}{X:Nat->Prop}{η:Nat->Value}{vs:Array Value}{xs:List CV}(h:y8 w X η C vs xs){j:Nat}{x:CV}(hx:xs[j]?=some x):∃ v,vs[j]?=some v/\CRep w X η C v x:=by
 have b:j<xs.length:=(List.getElem?_eq_some_iff.1 hx).1;have a : j<vs.size:=by rw [h.1];exact b
 refine ⟨vs[j],Array.getElem?_eq_getElem a,?_⟩;have:=h.2 j b
 rw [List.getD_eq_getElem?_getD,hx] at this;simpa [Array.getD_eq_getD_getElem?,Array.getElem?_eq_getElem a] using this
theorem Y8c{w:World}{X:Nat->Prop}{η:Nat->Value}{xs ys:List CV}{us vs:Array Value}(hu:y8 w X η C us xs)(hv:y8 w X η C vs ys)(n:Nat)(w1:World):∀ (fs:List Field) (b:Bool),W1U P xs ys fs=some b->(Op.eqFields (n+1) us vs fs).run P w1=.ok b w1
 | [],b,h=>by cases h;simp [Op.eqFields]
 | f::fs,b,h=>by
  simp only [W1U] at h;split at h
  .cases h
  .rename_i g
   split at h
   .rename_i d x y c D B G r
    split at h
    .rename_i z o
     cases h
     obtain ⟨u,l,j⟩:=Y6i hu B;obtain ⟨v,m,i⟩:=Y6i hv G
     obtain ⟨p,t⟩:=W2Z (P:=P) (w1:=w1) o j i D n;have A:=Y8c hu hv n w1 fs c r
     have q:(part f.type us f.offset).run P w1=.ok u w1:=by simp [part,p,l]
     have F:(part f.type vs f.offset).run P w1=.ok v w1:=by simp [part,p,m]
     have a : f.name ≠ "_":=g;simp only [Op.eqFields,a,ne_eq,not_false_eq_true,if_true,Sem.run_bind,q,F,t,Result.andThen_ok]
     cases z with
     | true=>simpa using A
     | false=>simp
    .cases h
   .cases h
def eqX(o:Oper):Operand:=match o.op with | .binOp _ _ x _ _=>x|_=>.const undef
def eqY(o:Oper):Operand:=match o.op with | .binOp _ _ _ y _=>y|_=>.const undef
def Y8b(o:Oper)(t:TypeId):Option Bool:=match o.op with
 | .binOp op t' _ _ _=>if t=t' then match op with
  | .eql=>some true
  | .neq=>some false
  | _=>none else none
 | _=>none
theorem Y6d{o:Oper}{t:TypeId}{q:Bool}(h:Y8b o t=some q):∃ t',o.op=.binOp (if q then .eql else .neq) t (eqX o) (eqY o) t':=by
 unfold Y8b at h;split at h
 .rename_i op d x y b a
  split at h
  .rename_i c
   subst c;split at h
   .cases h;exact ⟨b,by simp only [eqX,eqY,a];rfl⟩
   .cases h;exact ⟨b,by simp only [eqX,eqY,a];rfl⟩
   .cases h
  .cases h
 .cases h
structure EqT (P:Program) (t:TypeId):Prop where
 und:P.underlying t=some (.struct (P.fieldsOf t))
 held:P.stoodInHeld t=false
 guard:P.eqGuardType P.depth t=false
def eqB(ops:Array Oper)(nt:Nat)(e:Env)(o:Oper):Bool:=Q5t (Q0e o++U2 ops o) (eqX o)&&Q5t (Q0e o++U2 ops o) (eqY o)&&Q1z nt o&&(Q8k ops e o==some true)
theorem Y7z{k:Nat}{t:TypeId}(ht:EqT P t)(q:Bool){xs ys:List CV}{b:Bool}(hk:Q1N ds k=sE (vb (if q then b else !b)))(hop:Y8b (W2 ops.toList k) t=some q)(hb:eqB ops nt (V5 L ops ops.toList ds e s k) (W2 ops.toList k)=true)(hx:aev (V5 L ops ops.toList ds e s k) (eqX (W2 ops.toList k))=.v (.g xs))(hy:aev (V5 L ops ops.toList ds e s k) (eqY (W2 ops.toList k))=.v (.g ys))(hfl:W1U P xs ys (P.fieldsOf t).toList=some b):KAt P C nt L ops ds e s k:=by
 unfold KAt;rw [hk]
 simp only [eqB,Bool.and_eq_true] at hb;obtain ⟨⟨⟨y,x⟩,z⟩,p⟩:=hb
 obtain ⟨B,h⟩:=Y6d hop;refine Z1t rfl z (by simpa using p) fun R η D A a w l m=>⟨.bool (if q then b else !b),?_,.v _ _ (.c _ _ (.d _ _ (.bool _)))⟩
 have j:=(W8 m (eqX (W2 ops.toList k))).1;rw [J9 l y,hx] at j
 have i:=(W8 m (eqY (W2 ops.toList k))).1;rw [J9 l x,hy] at i
 generalize hu:a.eval (eqX (W2 ops.toList k))=u at j;generalize hv:a.eval (eqY (W2 ops.toList k))=v at i
 cases j with|v _ _ j=>cases j with|g us _ j=>
 cases i with|v _ _ i=>cases i with|g vs _ i=>
 have r:=Y8c (P:=P) j i 9998 w _ b hfl;have o:(Op.equalIn 10000 t (.agg us) (.agg vs)).run P w=.ok b w:=by
  rw [run_equalIn_agg w 9999 t us vs ht.und ht.held];exact r
 cases q with
 | true=>simp only [execOp,h,if_true,Sem.run_bind,hu,hv,run_eqGuard_agg w _ _ _ _ _ _ ht.guard,Result.andThen_ok,run_eql_struct,o,Sem.run_pure]
 | false=>simp only [execOp,h,Bool.false_eq_true,if_false,Sem.run_bind,hu,hv,run_eqGuard_agg w _ _ _ _ _ _ ht.guard,Result.andThen_ok,run_neq_struct,o,Sem.run_pure]
end
end
section
def nbP(n:Nat):World->(Nat->Prop)->(Nat->Prop)->Value->Prop:=fun _ _ _ v=>∃ b,v=.bool b/\(b=true->n=0)
def nb(n:Nat):AVal:=.v (.c (.sem (nbP n)))
def DVal.flat:DVal->Bool
 | .int _ _=>true
 | .bool _=>true
 | .str _=>true
 | _=>false
def CV.flat:CV->Bool
 | .d x=>x.flat
 | _=>false
def TV.flat:TV->Bool
 | .c x=>x.flat
 | .g xs=>xs.all CV.flat
def AVal.flat:AVal->Bool
 | .any=>true
 | .v x=>x.flat
 | .t xs=>xs.all TV.flat
section
variable {w w' : World} {X X' : Nat->Prop} {η η' : Nat->Value} {C C' : Ctx}
theorem CRep.flat{v:Value}{x:CV}(h:CRep w X η C v x)(hx:x.flat=true):CRep w' X' η' C' v x:=by
 cases h with
 | d _ _ h=>cases h with
  | int=>exact .d _ _ (.int _ _)
  | bool=>exact .d _ _ (.bool _)
  | str=>exact .d _ _ (.str _)
  | any=>cases hx
  | nil=>cases hx
  | lst=>cases hx
  | mp=>cases hx
 | _=>cases hx
theorem TRep.flat{v:Value}{x:TV}(h:TRep w X η C v x)(hx:x.flat=true):TRep w' X' η' C' v x:=by
 cases h with
 | c _ _ h=>exact .c _ _ (h.flat hx)
 | g _ _ h=>exact .g _ _ ⟨h.1,fun j a=>(h.2 j a).flat (List.all_eq_true.1 hx _ (Q0H a))⟩
theorem ARep.flat{v:Value}{x:AVal}(h:ARep w X η C v x)(hx:x.flat=true):ARep w' X' η' C' v x:=by
 cases h with
 | any=>exact .any v
 | v _ _ h=>exact .v _ _ (h.flat hx)
 | t us xs h1 h2=>exact .t us xs h1 fun j a=>(h2 j a).flat (List.all_eq_true.1 hx _ (Q0H a))
theorem CV.flat_refs{x:CV}(hx:x.flat=true):x.refs=[]:=by cases x <;> first|rfl|cases hx
theorem TV.flat_refs{x:TV}(hx:x.flat=true):x.refs=[]:=by
 cases x with
 | c x=>exact CV.flat_refs hx
 | g xs=>exact List.flatMap_eq_nil_iff.2 fun y a=>CV.flat_refs (List.all_eq_true.1 hx y a)
theorem AVal.flat_refs{x:AVal}(hx:x.flat=true):x.refs=[]:=by
 cases x with
 | any=>rfl
 | v x=>exact TV.flat_refs hx
 | t xs=>exact List.flatMap_eq_nil_iff.2 fun y a=>TV.flat_refs (List.all_eq_true.1 hx y a)
end
section
variable {P:Program} {C:Ctx} {nt:Nat} {L:Lay} {ops:Array Oper} {ds:List Dir} {e:Env} {s:Sto} {E:List (Nat×AVal)} {S:List (Nat×Obj)} {Q:Exit->Act->World->Prop}
theorem Y3n{t n:Nat}{x y:Code}(hb:lk E t=nb n)(ht:n=0->AW P C nt x E S Q)(hf:AW P C nt y E S Q):AW P C nt (.cond (.tmp t) x y) E S Q:=by
 intro R η a w g;have d:=g.ev t
 rw [hb] at d;have:∃ b,a.eval (.tmp t)=.bool b/\(b=true->n=0):=by
  change ∃ b,a.tmps.getD t undef=.bool b/\(b=true->n=0);generalize a.tmps.getD t undef=u at d
  cases d with|v _ _ h=>cases h with|c _ _ h=>cases h with|sem _ _ h _=>exact h
 obtain ⟨b,i,j⟩:=this
 cases b with
 | true=>exact wp_cond_true i (ht (j rfl) R η a w g)
 | false=>exact wp_cond_false i (hf R η a w g)
def W2P:AVal->Option Nat
 | .v (.c (.d (.lst n _)))=>some n
 | .v (.c (.fl n _))=>some n
 | _=>none
theorem W1z{w:World}{X:Nat->Prop}{η:Nat->Value}{v:Value}{x:AVal}{n:Nat}(h:W2P x=some n)(hv:ARep w X η C v x):∃ ad cap,v=.slice ad n cap/\(ad=none->n=0):=by
 unfold W2P at h;split at h
 .cases h
  cases hv with|v _ _ hv=>cases hv with|c _ _ hv=>cases hv with|d _ _ hv=>cases hv with
   | nil a cap f=>exact ⟨a,cap,rfl,fun _=>rfl⟩
   | lst b off n cap c e fz f es=>exact ⟨_,_,rfl,fun h=>by cases h⟩
 .cases h
  cases hv with|v _ _ hv=>cases hv with|c _ _ hv=>cases hv with|fl a n f hv=>cases hv with
   | nil a cap f=>exact ⟨_,_,rfl,fun _=>rfl⟩
   | lst b off n cap c e fz f es=>exact ⟨_,_,rfl,fun h=>by cases h⟩
 .cases h
def Y7d(x:Operand):Bool:=match x with | .const (.slice none 0 0)=>true|_=>false
theorem Y8P{x:Operand}(h:Y7d x=true):x=.const (.slice none 0 0):=by
 unfold Y7d at h;split at h
 .rfl
 .cases h
theorem Y1h{t el:TypeId}(ht:P.underlying t=some (.slice el))(d:Nat)(ad:Option Addr)(n cap:Nat)(w:World):(Op.equalIn (d+1) t (.slice ad n cap) (.slice none 0 0)).run P w=.ok ad.isNone w:=by
 cases ad <;> simp only [Op.equalIn,Sem.run_bind,run_underlying ht,Result.andThen_ok,Sem.run_pure] <;> rfl
theorem Y5E{t el:TypeId}(ht:P.underlying t=some (.slice el))(ad:Option Addr)(n cap:Nat)(w:World):(binOp .eql t (.slice ad n cap) (.slice none 0 0)).run P w=.ok (.bool ad.isNone) w:=by
 have h:binOp .eql t (.slice ad n cap) (.slice none 0 0)=(do pure (.bool (<-Op.equalIn Op.maxDepth t (.slice ad n cap) (.slice none 0 0)))):=rfl;have b:=Y1h ht 9999 ad n cap w
 rw [h,Sem.run_bind];have a:(Op.equalIn Op.maxDepth t (.slice ad n cap) (.slice none 0 0)).run P w=.ok ad.isNone w:=b
 rw [a];rfl
theorem KAt.nil{k:Nat}{t el:TypeId}(ht:P.underlying t=some (.slice el)){n:Nat}(hk:Q1N ds k=sE (nb n))(hop:Y8b (W2 ops.toList k) t=some true)(hb:eqB ops nt (V5 L ops ops.toList ds e s k) (W2 ops.toList k)=true)(hx:W2P (aev (V5 L ops ops.toList ds e s k) (eqX (W2 ops.toList k)))=some n)(hy:Y7d (eqY (W2 ops.toList k))=true):KAt P C nt L ops ds e s k:=by
 unfold KAt;rw [hk]
 simp only [eqB,Bool.and_eq_true] at hb;obtain ⟨⟨⟨m,z⟩,o⟩,r⟩:=hb
 obtain ⟨y,b⟩:=Y6d hop;simp only [if_true] at b
 refine Z1t rfl o (by simpa using r) fun R η A B a w g l=>?_
 have i:=(W8 l (eqX (W2 ops.toList k))).1;rw [J9 g m] at i
 obtain ⟨j,h,p,d⟩:=W1z hx i;refine ⟨.bool j.isNone,?_,.v _ _ (.c _ _ (.sem _ _ ⟨_,rfl,fun x=>d (by simpa using x)⟩ rfl))⟩
 have q:a.eval (eqY (W2 ops.toList k))=.slice none 0 0:=by rw [Y8P hy];rfl
 have u:(eqGuard .eql t (eqX (W2 ops.toList k)) (eqY (W2 ops.toList k)) (.slice j n h) (.slice none 0 0)).run P w=.ok () w:=rfl;simp only [execOp,b,Sem.run_bind,q,p,u,Result.andThen_ok,Y5E ht,Sem.run_pure]
def Z9N(P:Program)(e:Env)(s:Sto)(bor:List Nat)(rd:List Nat)(x:Operand)(y:AVal):Prop:=
 Q5t rd x=true/\((ALe (aev e x) y/\y.closed=true)\/(∃ k es n f,k ∈ bor/\aev e x=.v (.c (.own k))/\s k=some (.arr es n f)/\y=.v (.c (.d (.lst n f))))\/∃ F,aev e x=Z5n P F/\y=Z5n P F)
theorem Y8w{f:Nat}(hcall:∀ args w,(callFunc f args).run P w=.ok (.enter f args) w){o:Oper}{fx:Operand}{xs:Array Operand}{tys:Array TypeId}(hop:o.op=.call { callee:=.value fx,args:=xs,argTypes:=tys })(hfx:aev e fx=.v (.c (.clo f [])))(hrf:Q5t (Q0e o++U2 ops o) fx=true){args:List AVal}{r:AVal}(hspec:J5 P f args [] r [])(hlen:xs.size=args.length)(bor:List Nat)(hargs:∀ j,j<args.length->Z9N P e s bor (Q0e o++U2 ops o) (xs.toList.getD j (.const undef)) (args.getD j .any))(hids:∀ k ∈ bor,k ∈ Z2E e o)(hr:r.flat=true)(hdo:Q1z nt o=true)(hg:Q8k ops e o=some true):StT P C nt ops o (Z5A ops o e r) e s:=by
 intro R η e0 A a w J a0 d0 x K Q hK;have hw:=Q5A (e:=e) x (fun t ht=>J t (List.mem_append.2 (.inr ht))) hg
 rw [if_pos hw];have a2:=(W8 x fx).1
 rw [J9 J hrf,hfx] at a2;have c2:=Z7c (w:=w) hop (Z9G a2) hcall
 have a7:∀ b,XS C A η b->b<w.heap.size:=by
  rintro b (⟨m,_⟩|m)
  .exact Nat.lt_of_lt_of_le (x.ok.lt b m) x.fr.size
  .exact x.lt m
 let X1:Nat->Prop:=fun b=>XS C A η b/\∀ k ∈ bor,s k≠none->b ∉ W3 (η k)
 have b7:Q7i w w (XS C A η) X1:=fun b _ q=>⟨rfl,fun m=>q m.1⟩
 have b1:=hspec w X1 η (xs.map a.eval++(([]:List Nat).map η).toArray) (fun b q=>a7 b q.1) (fun b ⟨i,y,p,_⟩=>by cases p) (fun i y p=>by cases p) (fun i j b p=>absurd rfl p) (by simp [hlen]) (fun j I=>by
  have b3 : j<xs.size:=by omega
  have e1:(xs.map a.eval++(([]:List Nat).map η).toArray).getD j undef=a.eval (xs.toList.getD j (.const undef)):=by simp [List.getD_eq_getElem?_getD,b3]
  rw [e1];obtain ⟨g0,g⟩:=hargs j I
  have m:=(W8 x (xs.toList.getD j (.const undef))).1;rw [J9 J g0] at m
  rcases g with ⟨V,Z⟩|⟨k,es,n,fl,V,Z,g3,g4⟩|⟨F,V,Z⟩
  .exact ((V.1 _ _ _ _ _ m).mono (η':=η) b7 (fun _ _=>rfl)).free Z
  .rw [Z] at m
   rw [g4];have hv:a.eval (xs.toList.getD j (.const undef))=η k:=by
    generalize a.eval (xs.toList.getD j (.const undef))=u at m
    cases m with|v _ _ m=>cases m with|c _ _ m=>cases m with|own _ _ h _=>exact h
   rw [hv];have O:A k=some (.arr es n fl):=by rw [a0 k (hids k V)];exact g3
   have U:=x.st k _ O;have a6:∀ b,b ∈ W3 (η k)->¬ X1 b:=fun b q m=>m.2 k V (by rw [g3];simp) q
   refine .v _ _ (.c _ _ (.d _ _ ?_));generalize η k=u at U a6
   cases U with
   | nil ad es _=>exact .nil ad 0 fl
   | arr b n cap es c e _ H h2 h3 h4 h5 h6 h7=>
    refine .lst b 0 n cap c e _ fl es (a6 b (by simp [W3];omega)) H h3 (by rw [h2,Nat.zero_add];exact Nat.mul_le_mul_right _ h3) h6 fun i j p I=>?_
    rw [Nat.zero_add];exact (h7 i j p I).mono fun b q hX=>⟨rfl,fun m=>hX m.1⟩
  .rw [V] at m
   rw [Z];have Y:Q0t P F C.w0 C.D C.X (a.eval (xs.toList.getD j (.const undef)))/\(a.eval (xs.toList.getD j (.const undef))).oneCell'=true:=by
    generalize a.eval (xs.toList.getD j (.const undef))=u at m
    cases m with|v _ _ h=>cases h with|c _ _ h=>cases h with|sem _ _ h H=>exact ⟨h,H⟩
   obtain ⟨⟨ff,a3,b4,z,b6⟩,a4⟩:=Y;refine .v _ _ (.c _ _ (.sem _ _ ⟨ff,a3,b4,z,?_⟩ a4))
   intro w1 X2 vs T r2 hF b5 a1 c0 b8 c1 B;have a8 : w.heap.size<=w1.heap.size:=b5
   have a5:∀ b,¬ (K3 ([]:List (Nat×Obj)) w X1 η).D b:=by rintro b ⟨i,y,p,_⟩;cases p
   refine b6 w1 X2 vs T r2 hF (Nat.le_trans x.fr.size a8) (fun b q W=>?_) c0 (fun b q W=>?_) c1 B
   .have M:b<w.heap.size:=Nat.lt_of_lt_of_le q x.fr.size
    exact (a1 b M (a5 b)).trans (x.fr.block b q fun hM=>W (x.ok.md b hM))
   .have M:b<w.heap.size:=Nat.lt_of_lt_of_le q x.fr.size
    rw [b8 b M (a5 b)];have G:∀ i y,A i=some y -> b ∉ W3 (η i):=by
     intro i y p N;rcases x.ow i y b p N with ⟨_,H⟩|H|H
     .exact W H
     .exact W (x.ok.md b H)
     .omega
    constructor
    .rintro ⟨⟨m,_⟩|⟨i,y,p,N⟩,_⟩
     .exact m
     .exact absurd N (G i y p)
    .refine fun m=>⟨.inl ⟨m,W⟩,fun k hk O=>?_⟩
     obtain ⟨y,c3⟩:=Option.ne_none_iff_exists'.1 O;exact G k y (by rw [a0 k (hids k hk)];exact c3))
 unfold Oper.wp;rw [c2]
 show Calls P f _ w _;refine b1.mono fun en w' hh=>?_
 obtain ⟨v,η',rfl,q⟩:=hh;have a9:Stp (fun _=>False) w w':=q.stp.mono fun b _ hM=>by obtain ⟨i,y,p,_⟩:=hM;cases p
 have hs:SR.sto { v:=r } o.dst A=A:=by funext i;simp [SR.sto]
 have he:SR.eta { v:=r } o.dst v η=η:=by funext i;simp [SR.eta]
 have b2:SR.rng { v:=r } o.dst R=R:=by funext i;simp [SR.rng]
 have:=x.step o.dst (Q5w hdo) { v:=r } v w' (fun _=>False) a9 (fun b q=>q.elim) (fun o dd U=>by cases U) (fun k o U=>by cases U)
  (fun _=>by rw [hs,he];refine ⟨q.res.flat hr,fun j I=>?_⟩;simp only at I;rw [AVal.flat_refs hr] at I;cases I)
 rw [hs,he,b2] at this;refine hK η _ w' ?_
 have hu:upS (Z5A ops o e r).l A=A:=by funext i;rfl
 rw [hu];exact this.wider fun i p=>.inl p
def Y6y(P:Program)(e:Env)(s:Sto)(bor:List Nat)(rd:List Nat):List Operand->List AVal->Prop
 | [],[]=>True
 | x::xs,y::ys=>Z9N P e s bor rd x y/\Y6y P e s bor rd xs ys
 | _,_=>False
theorem Y6y.spec{bor:List Nat}{rd:List Nat}{xs:List Operand}{ys:List AVal}(h:Y6y P e s bor rd xs ys):xs.length=ys.length/\∀ j,j<ys.length->Z9N P e s bor rd (xs.getD j (.const undef)) (ys.getD j .any):=by
 induction xs generalizing ys with
 | nil=>cases ys with
  | nil=>exact ⟨rfl,fun j a=>by simp at a⟩
  | cons y ys=>exact h.elim
 | cons x xs ih=>cases ys with
  | nil=>exact h.elim
  | cons y ys=>
   obtain ⟨c,d⟩:=h;obtain ⟨g,b⟩:=ih d
   refine ⟨by simp [g],fun j a=>?_⟩
   cases j with
   | zero=>exact c
   | succ j=>exact b j (by simpa using a)
theorem Z9N.own{bor:List Nat}{rd:List Nat}{x:Operand}(k:Nat){es n:Nat}{f:Nat->List DVal}(h0:Q5t rd x=true)(h1:bor.contains k=true)(h2:aev e x=.v (.c (.own k)))(h3:s k=some (.arr es n f)):Z9N P e s bor rd x (.v (.c (.d (.lst n f)))):=
 ⟨h0,.inr (.inl ⟨k,es,n,f,by simpa using h1,h2,h3,rfl⟩)⟩
theorem Z9N.sem{bor:List Nat}{rd:List Nat}{x:Operand}{F:List AVal->AVal->Prop}(h0:Q5t rd x=true)(h1:aev e x=Z5n P F):Z9N P e s bor rd x (Z5n P F):=⟨h0,.inr (.inr ⟨F,h1,rfl⟩)⟩
def callBB(ops:Array Oper)(nt:Nat)(e:Env)(o:Oper)(f:Nat)(r:AVal)(bor:List Nat):Bool:=
 Y0r o&&Y4P f (aev e (callX o))&&Q5t (Q0e o++U2 ops o) (callX o)&&r.flat&&bor.all (fun k=>(Z2E e o).contains k)&&Q1z nt o&&(Q8k ops e o==some true)
theorem KAt.callB{k:Nat}{f:Nat}{args:List AVal}{r:AVal}(hspec:J5 P f args [] r [])(hcall:∀ args w,(callFunc f args).run P w=.ok (.enter f args) w)(bor:List Nat)(hk:Q1N ds k=sE r)(hb:callBB ops nt (V5 L ops ops.toList ds e s k) (W2 ops.toList k) f r bor=true)(hargs:Y6y P (V5 L ops ops.toList ds e s k) (Q2l L ops ops.toList ds e s k) bor (Q0e (W2 ops.toList k)++U2 ops (W2 ops.toList k)) (callXs (W2 ops.toList k)).toList args):KAt P C nt L ops ds e s k:=by
 unfold KAt;rw [hk]
 simp only [callBB,Bool.and_eq_true] at hb;obtain ⟨⟨⟨⟨⟨⟨l,h⟩,q⟩,c⟩,d⟩,m⟩,p⟩:=hb
 obtain ⟨b,a⟩:=Z6X l;obtain ⟨o,i⟩:=hargs.spec
 exact Y8w hcall a (Y4d h) q hspec (by simpa using o) bor (fun j g=>i j g) (fun k hk=>by simpa using List.all_eq_true.1 d k hk) c m (by simpa using p)
end
end
section
section
variable {P:Program} {C:Ctx} {nt:Nat} {L:Lay} {ops:Array Oper} {ds:List Dir} {e:Env} {s:Sto}
theorem Y9g{k:Nat}{f:Nat}{args:List AVal}{Si:List (Nat×Obj)}{r:AVal}{So:List (Nat×Obj)}(hspec:J5 P f args Si r So)(hcall:∀ args w,(callFunc f args).run P w=.ok (.enter f args) w)(m:List (Nat×Nat))(extra:List Nat)(xs:List Operand)(hk:Q1N ds k=cE m extra r Si So)(hb:Go.Ab.callB ops nt (V5 L ops ops.toList ds e s k) (W2 ops.toList k) f m r Si So=true)(hsi:Si.map (fun p=>Q2l L ops ops.toList ds e s k (J3 m p.1))=Si.map (fun p=>some (p.2.ren (J3 m))))(hxs:(Go.Ab.callXs (W2 ops.toList k)).toList=xs)(hargs:Z6F C nt (V5 L ops ops.toList ds e s k) (Q2l L ops ops.toList ds e s k) Si (J3 m) (Q0e (W2 ops.toList k)++U2 ops (W2 ops.toList k)) (Z2E (V5 L ops ops.toList ds e s k) (W2 ops.toList k)++(Si.map (fun p=>J3 m p.1)++extra)) xs args):KAt P C nt L ops ds e s k:=
 Y4p hspec hcall m extra hk hb hsi (hxs ▸ hargs)
theorem Z4C{k:Nat}{f:Nat}{args:List AVal}{r:AVal}(hspec:J5 P f args [] r [])(hcall:∀ args w,(callFunc f args).run P w=.ok (.enter f args) w)(bor:List Nat)(xs:List Operand)(hk:Q1N ds k=sE r)(hb:Go.Ab.callBB ops nt (V5 L ops ops.toList ds e s k) (W2 ops.toList k) f r bor=true)(hxs:(Go.Ab.callXs (W2 ops.toList k)).toList=xs)(hargs:Y6y P (V5 L ops ops.toList ds e s k) (Q2l L ops ops.toList ds e s k) bor (Q0e (W2 ops.toList k)++U2 ops (W2 ops.toList k)) xs args):KAt P C nt L ops ds e s k:=
 KAt.callB hspec hcall bor hk hb (hxs ▸ hargs)
def siB(s:Sto)(Si:List (Nat×Obj))(m:Nat->Nat)(ids cids:List Nat):Bool:=Si.all fun p=>(s (m p.1)).isSome&&ids.contains (m p.1) && !cids.contains (m p.1)
theorem Z5z{Si:List (Nat×Obj)}{m:Nat->Nat}{ids cids:List Nat}(h:siB s Si m ids cids=true):(∀ p ∈ Si,∃ o1,s (m p.1)=some o1)/\(∀ p ∈ Si,m p.1 ∈ ids)/\∀ p ∈ Si,m p.1 ∉ cids:=by
 refine ⟨fun p a=>?_,fun p a=>?_,fun p a=>?_⟩ <;> (have:=List.all_eq_true.1 h p a;simp only [Bool.and_eq_true,Bool.not_eq_true'] at this)
 .exact Option.isSome_iff_exists.1 this.1.1
 .simpa using this.1.2
 .simpa using this.2
theorem Q0c.semX{F:List AVal->AVal->Prop}{Si:List (Nat×Obj)}{m:Nat->Nat}{rd ids:List Nat}{x:Operand}(hx:Q5t rd x=true)(hv:aev e x=Z5n P F)(hsi:siB s Si m ids []=true):Q0c C nt e s Si m rd ids x (Z5n P F):=
 Q0c.sem hx hv (Z5z hsi).1 (Z5z hsi).2.1
def W0E(s:Sto):List Nat->List (List CV)->Prop
 | [],[]=>True
 | i::is,c::cs=>(∃ ro,s i=some (.box ro c))/\W0E s is cs
 | _,_=>False
theorem Y8j{is:List Nat}{cs:List (List CV)}(h:W0E s is cs):is.length=cs.length/\∀ k,k<cs.length->∃ ro,s (is.getD k 0)=some (.box ro (cs.getD k [])):=by
 induction is generalizing cs with
 | nil=>cases cs with
  | nil=>exact ⟨rfl,fun k a=>by simp at a⟩
  | cons c cs=>exact h.elim
 | cons i is ih=>cases cs with
  | nil=>exact h.elim
  | cons c cs=>
   obtain ⟨d,g⟩:=h;obtain ⟨j,b⟩:=ih g
   refine ⟨by simp [j],fun k a=>?_⟩
   cases k with
   | zero=>exact d
   | succ k=>exact b k (by simpa using a)
theorem Q0c.cloX{f:Nat}(hcall:∀ args w,(callFunc f args).run P w=.ok (.enter f args) w){F:List AVal->AVal->Prop}(cs:List (List CV))(hspec:∀ args r,F args r->J5 P f (args++Z8C cs) (Z0c cs) r (Z0c cs))(hres:∀ args r,F args r->r.closed=true){Si:List (Nat×Obj)}{m:Nat->Nat}{rd ids:List Nat}{x:Operand}(hx:Q5t rd x=true)(cids:List Nat)(hv:aev e x=.v (.c (.clo f cids)))(hnd:(Q2X cids&&cs.all (fun c=>c.all CV.closed)&&cids.all (fun i=>ids.contains i))=true)(hbox:W0E s cids cs)(hsi:siB s Si m ids cids=true):Q0c C nt e s Si m rd ids x (Z5n P F):=by
 simp only [Bool.and_eq_true] at hnd;obtain ⟨a,b⟩:=Y8j hbox
 exact Q0c.clo hcall hspec hres hx hv a hnd.1.1 b hnd.1.2 (Z5z hsi).1 (Z5z hsi).2.1 (fun i d=>by simpa using List.all_eq_true.1 hnd.2 i d) (Z5z hsi).2.2
end
noncomputable def gdc{R:Type}(p:Prop)(x:Option R):Option R:= @gd R p (Classical.propDecidable p) x
theorem Y5X{R:Type}{p:Prop}{x:Option R}{r:R}(h:gdc p x=some r):p/\x=some r:= @Y7T R p (Classical.propDecidable p) x r h
noncomputable def brN{R:Type}(n:Nat)(x y:Option R):Option R:=match n with
 | 0=>gdc (x=y) x
 | _+1=>y
theorem W2B{R:Type}{n:Nat}{x y:Option R}{r:R}(h:brN n x y=some r)(hn:n=0):x=some r:=by subst hn;exact (Y5X h).2
theorem W2C{R:Type}{n:Nat}{x y:Option R}{r:R}(h:brN n x y=some r):y=some r:=by
 cases n with
 | zero=>obtain ⟨a,b⟩:=Y5X h;exact a ▸ b
 | succ n=>exact h
end
section
def asV(s:Sto)(es:Nat):AVal->Option (Nat×Nat×Nat)
 | .v (.c (.own id))=>match s id with
  | some (.arr es' N _)=>if es=es' then some (id,0,N) else none
  | _=>none
 | .v (.c (.sub id es' lo n))=>if es=es' then some (id,lo,n) else none
 | _=>none
section
variable {P:Program} {L:Lay} {C:Ctx} {nt:Nat} {R:Nat->Prop} {η:Nat->Value} {e:Env} {s:Sto} {a:Act} {w:World}
inductive VOk (w:World) (X:Nat->Prop) (η:Nat->Value) (id es N:Nat) (f:Nat->List DVal) (lo n:Nat):Value->Prop
 | some (b cap:Nat) (c:Array Value) (e' : TypeId):η id=.slice (some ⟨b,0,none⟩) N cap->w.heap[b]?=some (.cells c e' (0,0))->c.size=cap*es->N<=cap->cap<=maxLen ->
   (∀ i,i<N->(f i).length=es)->(∀ i j,i<N->j<es->DRep w X (c.getD (i*es+j) undef) ((f i).getD j .any))->lo+n<=N->lo<cap ->
   VOk w X η id es N f lo n (.slice (some ⟨b,lo*es,none⟩) n (cap-lo))
 | nil (ad ad' : Option Addr):η id=.slice ad N N->lo=N->n=0->VOk w X η id es N f lo n (.slice ad' 0 0)
theorem Y1y(h:Conc C nt R η e s a w){x:Operand}{es id lo n N:Nat}{f:Nat->List DVal}(hx:asV s es (aev e x)=some (id,lo,n))(hs:s id=some (.arr es N f)):
  VOk w (XS C s η) η id es N f lo n (a.eval x):=by
 have g:=(W8 h x).1;have d:=h.st id _ hs
 unfold asV at hx;split at hx
 .rename_i l m
  split at hx
  .rename_i o p r i
   split at hx
   .cases hx
    rw [hs] at i;cases i
    rw [m] at g;rw [Q6R g]
    generalize hu:η id=u at d
    cases d with
    | nil ad=>exact .nil ad ad hu rfl rfl
    | arr b _ cap _ c e' _ h1 h2 h3 h4 h5 h6 h7=>
     have:=VOk.some (w:=w) (X:=XS C s η) (η:=η) (id:=id) (f:=f) (lo:=0) b cap c e' hu h1 h2 h3 h4 h6 h7 (Nat.le_of_eq (Nat.zero_add _)) h5
     simpa using this
   .cases hx
  .cases hx
 .rename_i l o q t m
  split at hx
  .rename_i j
   cases hx
   subst j;rw [m] at g
   generalize a.eval x=v at g
   cases g with|v _ _ g=>cases g with|c _ _ g=>cases g with
    | sub b p cap _ _ _ _ hη h1 h2=>
     rw [hη] at d
     cases d with
     | nil=>omega
     | arr _ _ _ _ c e' _ g1 g2 g3 g4 g5 g6 g7=>exact .some b cap c e' hη g1 g2 g3 g4 g6 g7 h1 h2
    | subN ad ad' p _ _ hη=>
     rw [hη] at d
     cases d with
     | nil=>exact .nil _ _ hη rfl rfl
     | arr _ _ _ _ c e' _ g1 g2 g3 g4 g5 g6 g7=>exact .nil _ _ hη rfl rfl
  .cases hx
 .cases hx
theorem VOk.slice{X:Nat->Prop}{v:Value}{id es N lo n:Nat}{f:Nat->List DVal}(h:VOk w X η id es N f lo n v):∃ ad cap,v=.slice ad n cap/\(n<=cap)/\lo+n<=N:=by
 cases h with
 | some b cap c e' h1 h2 h3 h4 h5 h6 h7 h8 h9=>exact ⟨_,_,rfl,by omega,h8⟩
 | nil ad ad' h1 h2 h3=>exact ⟨_,_,by rw [h3],by omega,by omega⟩
theorem VOk.part{X X' : Nat->Prop}{ad:Option Addr}{id es N lo n cap:Nat}{f:Nat->List DVal}(h:VOk w X η id es N f lo n (.slice ad n cap)){l u:Nat}(hlu:l<=u)(hu:lo+u<=N):
  ARep w X' η C (.slice (if cap=l then ad else ad.map (·.add (l*es))) (u-l) (cap-l)) (.v (.c (.sub id es (lo+l) (u-l)))):=by
 generalize hv:Value.slice ad n cap=v at h
 cases h with
 | some b cap' c e' h1 h2 h3 h4 h5 h6 h7 h8 h9=>
  cases hv
  by_cases hc:cap' - lo=l
  .have g:u-l=0:=by omega
   have d:cap' - lo-l=0:=by omega
   have i:lo+l=N:=by omega
   have j:cap'=N:=by omega
   rw [g,d,i];subst j
   exact .v _ _ (.c _ _ (.subN _ _ _ _ _ h1))
  .rw [if_neg hc]
   simp only [Option.map_some,add_lit];have g:lo*es+l*es=(lo+l)*es:=by rw [Nat.add_mul]
   have d:cap' - lo-l=cap' - (lo+l):=by omega
   rw [g,d];exact .v _ _ (.c _ _ (.sub b N cap' id es (lo+l) (u-l) h1 (by omega) (by omega)))
 | nil ad0 ad' h1 h2 h3=>
  cases hv
  have g:u-l=0:=by omega
  have d:lo+l=N:=by omega
  rw [g,d,Nat.zero_sub];exact .v _ _ (.c _ _ (.subN ad0 _ N id es h1))
theorem Y1d(h:Conc C nt R η e s a w){lo hi:Option Operand}{l u:Option Int}(hl:oI e lo=some l)(hu:oI e hi=some u)(n cap:Nat)(hc:0<=l.getD 0/\l.getD 0<=u.getD n/\u.getD n<=cap):
  (Instr.sliceBounds true n cap (lo.map a.eval) (hi.map a.eval) none).run P w=.ok ((l.getD 0).toNat,(u.getD n).toNat,cap) w:=by
 rcases Y7L h hl with ⟨h1,h2⟩|⟨k,m,h1,h2⟩ <;> rcases Y7L h hu with ⟨h3,h4⟩|⟨k',m',h3,h4⟩ <;> subst h2 <;> subst h4 <;> simp only [Option.getD_some,Option.getD_none] at hc
 .subst h1;subst h3
  simp [Instr.sliceBounds]
 .subst h1
  simp [Instr.sliceBounds,h3,Q4o m' cap _ ⟨hc.2.1,by omega⟩]
 .subst h3
  have b:=Q4o (P:=P) (w:=w) m n .sliceB ⟨hc.1,by omega⟩ k;simp [Instr.sliceBounds,h1,b]
 .have b:=Q4o (P:=P) (w:=w) m m'.toNat .sliceB ⟨hc.1,by omega⟩ k
  simp [Instr.sliceBounds,h1,h3,Q4o m' cap _ ⟨by omega,by omega⟩,b]
theorem Y6G(hL:LOk P L)(h:Conc C nt R η e s a w){o:Oper}(hd:∀ x,o.dst=some x->x<nt){t:TypeId}{x:Operand}{lo hi:Option Operand}(hop:o.op=.slice t x lo hi none){ti:TI}(ht:L t=some ti){el:Nat}(hk:ti.kind=.slice el){te:TI}(hte:L el=some te){l u:Option Int}(hl:oI e lo=some l)(hu:oI e hi=some u){id lo0 n N:Nat}{f:Nat->List DVal}(hx:asV s te.size (aev e x)=some (id,lo0,n))(hs:s id=some (.arr te.size N f))(hc:0<=l.getD 0/\l.getD 0<=u.getD n/\(lo0:Int)+u.getD n<=N):
  Snd P C nt R η e s a w o { v:=.v (.c (.sub id te.size (lo0+(l.getD 0).toNat) ((u.getD n).toNat-(l.getD 0).toNat))) }:=by
 obtain ⟨i,dd,z,r⟩:=hL t ti ht;obtain ⟨H,D,I,q⟩:=hL el te hte
 have g:=r.kind;rw [hk] at g
 simp only [KOk] at g;have d:=Y1y h hx hs
 obtain ⟨G,m,y,J,M⟩:=d.slice;have p:(u.getD n)<=m:=by
  rw [y] at d;generalize hv:Value.slice G n m=v at d
  cases d with
  | some b cap' c e' h1 h2 h3 h4 h5 h6 h7 h8 h9=>cases hv;omega
  | nil ad0 ad' h1 h2 h3=>cases hv;omega
 rw [y] at d;have B:=Y1d (P:=P) h hl hu n m ⟨hc.1,hc.2.1,p⟩
 have F:∀ j ∈ (AVal.v (.c (.sub id te.size (lo0+(l.getD 0).toNat) ((u.getD n).toNat-(l.getD 0).toNat)))).refs,R j:=by
  intro j A;simp [AVal.refs,TV.refs,CV.refs] at A
  rw [A];exact (h.sr id _ hs).1
 refine z6 h hd ?_ (d.part (l:=(l.getD 0).toNat) (u:=(u.getD n).toNat) (by omega) (by omega)) F;simp only [execOp,hop,Sem.run_bind,Instr.sliceAt,run_underlying r.und,Result.andThen_ok,g,Instr.slice,y,Option.map_none,B,G8 q,Sem.run_pure]
theorem Y9x(hL:LOk P L)(h:Conc C nt R η e s a w){o:Oper}(hd:∀ x,o.dst=some x->x<nt){t:TypeId}{x:Operand}(hop:o.op=.call { callee:=.builtin .len,args:= #[x],argTypes:= #[t] }){ti:TI}(ht:L t=some ti){el:Nat}(hk:ti.kind=.slice el){es id lo n N:Nat}{f:Nat->List DVal}(hx:asV s es (aev e x)=some (id,lo,n))(hs:s id=some (.arr es N f)):Snd P C nt R η e s a w o { v:=vi n }:=by
 obtain ⟨i,dd,z,c⟩:=hL t ti ht;have b:=c.kind
 rw [hk] at b;simp only [KOk] at b
 obtain ⟨j,d,g,_⟩:=(Y1y h hx hs).slice;refine z6 h hd (v:=.int .i64 n) ?_ (Q4Y _ _ _) (by simp [vi,AVal.refs,TV.refs,CV.refs])
 simp [execOp,hop,resolve,invoke,builtin,Builtin.len_,run_underlying c.und,b,g,goInt]
theorem Y6H(hL:LOk P L)(h:Conc C nt R η e s a w){o:Oper}(hd:∀ x,o.dst=some x->x<nt){t:TypeId}{x i:Operand}(hop:o.op=.indexAddr t x i){ti:TI}(ht:L t=some ti){el:Nat}(hk:ti.kind=.slice el){te:TI}(hte:L el=some te){m:Int}(hi:asI (aev e i)=some m){id lo n N:Nat}{f:Nat->List DVal}(hx:asV s te.size (aev e x)=some (id,lo,n))(hs:s id=some (.arr te.size N f))(hc:0<=m/\m<n):
  Snd P C nt R η e s a w o { v:=.v (.c (.pte id te.size (lo+m.toNat) 0)) }:=by
 obtain ⟨y,A,z,p⟩:=hL t ti ht;obtain ⟨B,F,D,g⟩:=hL el te hte
 have d:=p.kind;rw [hk] at d
 simp only [KOk] at d;subst d
 obtain ⟨k,u⟩:=Y0K h hi;have l:=Y1y h hx hs
 generalize ev:a.eval x=v at l
 cases l with
 | some b cap c e' h1 h2 h3 h4 h5 h6 h7 h8 h9=>
  refine z6 h hd (v:=.pointer (some ⟨b,(lo+m.toNat)*te.size+0,none⟩)) ?_ (.v _ _ (.c _ _ (.pte b N cap _ _ _ _ h1))) (fun j q=>by simp [AVal.refs,TV.refs,CV.refs] at q;rw [q];exact (h.sr id _ hs).1);have r:lo*te.size+m.toNat*te.size=(lo+m.toNat)*te.size:=by rw [Nat.add_mul]
  simp [execOp,hop,Instr.indexAt,u,ev,asIntOf,run_underlying p.und,hc,G8 g,add_lit,r]
 | nil ad0 ad' h1 h2 h3=>omega
theorem Y5w(h:Conc C nt R η e s a w){o:Oper}(hd:∀ x,o.dst=some x->x<nt){id:Nat}{ob ob' : Obj}(hs:s id=some ob)(hro:ob.ro=false)(hro' : ob'.ro=false)(hrf:∀ j ∈ ob'.refs,R j){w' : World}{v:Value}{x:AVal}(hstp:Stp (fun b=>b ∈ W3 (η id)) w w')(hrun:(execOp a.eval o).run P w=.ok (.value v) w')(hob:∀ X',Q7i w w' (XS C s η) X' -> ORep w' X' η C (η id) ob')(hv:∀ X',ARep w' X' η C v x)(hx:∀ j ∈ x.refs,R j):Snd P C nt R η e s a w o { v:=x,upd:=some (id,ob') }:=by
 have m:=Q5L (C:=C) (s:=s) (η:=η) { v:=x,upd:=some (id,ob') } o.dst v (fun b=>b ∈ W3 (η id)) hstp (fun b g=>⟨id,ob,hs,g⟩) (fun _ _ d=>by cases d)
  (fun k o d=>by cases d;rw [hs];simp)
 have c:SR.eta { v:=x,upd:=some (id,ob') } o.dst v η=η:=by funext i;simp [SR.eta]
 refine ⟨v,w',.inl hrun,?_⟩;refine h.step o.dst hd _ _ _ (fun b=>b ∈ W3 (η id)) hstp ?_ (fun _ _ d=>by cases d) ?_ (fun _=>⟨?_,fun j p=>.inl (hx j p)⟩)
 .intro b g
  refine ⟨⟨id,.inr ⟨ob',rfl⟩,by rw [hs];simp,g⟩,?_⟩;rcases h.ow id ob _ hs g with ⟨l,_⟩|l
  .rw [hro] at l;cases l
  .exact l
 .intro k q d
  cases d
  refine ⟨⟨ob,hs,hro⟩,hro',by simp,hrf,?_⟩;rw [c]
  rw [c] at m;exact hob _ m
 .rw [c];exact hv _
theorem W1x{X' : Nat->Prop}{id es N cap b lo k:Nat}{f g:Nat->List DVal}{c:Array Value}{e' : TypeId}{news:List Value}(hX:Q7i w (w.setRow b (c.toList.take (lo*es)++news++c.toList.drop (lo*es+news.length)).toArray) (XS C s η) X')(h1:η id=.slice (some ⟨b,0,none⟩) N cap)(h2:w.heap[b]?=some (.cells c e' (0,0)))(h3:c.size=cap*es)(h4:N<=cap)(h5:cap<=maxLen)(h50:0<cap)(h6:∀ i,i<N->(f i).length=es)(h7:∀ i j,i<N->j<es->DRep w (XS C s η) (c.getD (i*es+j) undef) ((f i).getD j .any))(hk:lo+k<=N)(hn:news.length=k*es)(g1:∀ i,i<k->(g i).length=es)(g2:∀ i j,i<k->j<es->DRep w (XS C s η) (news.getD (i*es+j) undef) ((g i).getD j .any)):
  ORep (w.setRow b (c.toList.take (lo*es)++news++c.toList.drop (lo*es+news.length)).toArray) X' η C (η id) (.arr es N fun i=>if lo<=i/\i<lo+k then g (i-lo) else f i):=by
 have h:lo*es+news.length<=c.size:=by rw [hn,h3, <-Nat.add_mul];exact Nat.mul_le_mul_right _ (by omega)
 obtain ⟨t,y⟩:=Z0W c (lo*es) news h;rw [h1]
 refine .arr b N cap es _ e' _ (setRow_heap w b c _ e' _ h2) (by rw [t];exact h3) h4 h5 h50 (fun i m=>?_) (fun i j m r=>?_)
 .by_cases hc:lo<=i/\i<lo+k
  .simp only [hc,and_self,if_true];exact g1 _ (by omega)
  .simp only [hc,if_false];exact h6 i m
 .rw [y]
  have d:∀ {p q:Nat},p<q->p*es+es<=q*es:=fun {p q} hpq=>by
   have:(p+1)*es<=q*es:=Nat.mul_le_mul_right _ hpq
   rwa [Nat.add_mul,Nat.one_mul] at this
  by_cases hc:lo<=i/\i<lo+k
  .have D:lo*es<=i*es:=Nat.mul_le_mul_right _ hc.1
   have v:=d hc.2;rw [Nat.add_mul] at v
   rw [if_pos ⟨by omega,by omega⟩];simp only [hc,and_self,if_true]
   have z:i*es+j-lo*es=(i-lo)*es+j:=by rw [Nat.sub_mul];omega
   rw [z];exact (g2 (i-lo) j (by omega) r).mono fun x l hn=>hX x l hn
  .rw [if_neg]
   .simp only [hc,if_false];exact (h7 i j m r).mono fun x l hn=>hX x l hn
   .rintro ⟨B,A⟩
    rcases Nat.lt_or_ge i lo with o|u
    .have:=d o;omega
    .have:(lo+k)*es<=i*es:=Nat.mul_le_mul_right _ (by omega)
     rw [Nat.add_mul] at this;omega
theorem Y5A{id N cap b:Nat}(h1:η id=.slice (some ⟨b,0,none⟩) N cap)(h:0<cap)(cs:Array Value):Stp (fun x=>x ∈ W3 (η id)) w (w.setRow b cs):=
 (Z4h w b cs).mono fun x _ c=>by have e:x=b:=c;rw [h1,e];simp [W3];omega
theorem W0n{k lo:Nat}{f g:Nat->List DVal}(h:k=0):(fun i=>if lo<=i/\i<lo+k then g (i-lo) else f i)=f:=by
 funext i;rw [if_neg (by omega)]
def DLe(x y:DVal):Prop:=∀ w X v,DRep w X v x->DRep w X v y
theorem DLe.refl(x:DVal):DLe x x:=fun _ _ _ h=>h
theorem DLe.nil(f g:Nat->List DVal):DLe (.lst 0 f) (.lst 0 g):=fun w X v h=>by
 cases h with
 | nil a cap=>exact .nil a cap g
 | lst b off n cap c e fz f es=>exact .nil _ cap g
def W0V:List DVal->List DVal->Prop
 | [],[]=>True
 | x::xs,y::ys=>DLe x y/\W0V xs ys
 | _,_=>False
theorem W0V.spec{xs ys:List DVal}(h:W0V xs ys):xs.length=ys.length/\∀ j,DLe (xs.getD j .any) (ys.getD j .any):=by
 induction xs generalizing ys with
 | nil=>cases ys with
  | nil=>exact ⟨rfl,fun j=>DLe.refl _⟩
  | cons y ys=>exact h.elim
 | cons x xs ih=>cases ys with
  | nil=>exact h.elim
  | cons y ys=>
   obtain ⟨c,d⟩:=h;obtain ⟨g,b⟩:=ih d
   refine ⟨by simp [g],fun j=>?_⟩
   cases j with
   | zero=>exact c
   | succ j=>exact b j
theorem Y6I(hL:LOk P L)(h:Conc C nt R η e s a w){o:Oper}(hd:∀ x,o.dst=some x->x<nt){t:TypeId}{x:Operand}(hop:o.op=.call { callee:=.builtin .clear,args:= #[x],argTypes:= #[t] }){ti:TI}(ht:L t=some ti){el:Nat}(hk:ti.kind=.slice el){te:TI}(hte:L el=some te)(h0:0<te.size)(hzl:te.zero.length=te.size){zd0 zd:List DVal}(hz:Y1R te.zero=some zd0)(hle:W0V zd0 zd){id lo n N:Nat}{f:Nat->List DVal}(hx:asV s te.size (aev e x)=some (id,lo,n))(hs:s id=some (.arr te.size N f)):
  Snd P C nt R η e s a w o { v:=.any,upd:=some (id,.arr te.size N fun i=>if lo<=i/\i<lo+n then (fun _=>zd) (i-lo) else f i) }:=by
 obtain ⟨i,dd,z,D⟩:=hL t ti ht;obtain ⟨i2,d2,d,p⟩:=hL el te hte
 have B:=D.kind;rw [hk] at B
 simp only [KOk] at B;subst B
 have U:=Y1y h hx hs;have Z:=h.st id _ hs
 have W:∀ j ∈ (AVal.any).refs,R j:=fun j G=>by cases G
 have T:∀ v,a.eval x=v->(∃ ad y,v=.slice ad 0 y)->n=0->Snd P C nt R η e s a w o { v:=.any,upd:=some (id,.arr te.size N fun i=>if lo<=i/\i<lo+n then (fun _=>zd) (i-lo) else f i) }:=by
  rintro v V ⟨ad,y,rfl⟩ O;have m:(execOp a.eval o).run P w=.ok (.value (.tuple #[])) w:=by
   cases ad <;> simp [execOp,hop,resolve,invoke,builtin,Builtin.clear_,run_underlying D.und,V]
  refine Y5w h hd hs rfl rfl (by simp [Obj.refs]) (Stp.refl _ _) m (fun X' hX=>?_) (fun X'=>.any _) W;have M:ORep w X' η C (η id) (.arr te.size N f):=Z.mono hX (fun j G=>rfl) fun b hb=>rfl
  rw [<-W0n (k:=n) (lo:=lo) (f:=f) (g:=fun _=>zd) O] at M;exact M
 generalize V:a.eval x=v at U
 cases U with
 | some b y c e' h1 h2 h3 h4 h5 h6 h7 h8 h9=>
  by_cases O:n=0
  .exact T _ V ⟨some ⟨b,lo*te.size,none⟩,y-lo,by rw [O]⟩ O
  .have l:d.cells.size=te.size:=by rw [(p.zrep w (XS C s η) η C).1,hzl]
   obtain ⟨F,Y⟩:=Z8a (p.zrep w (XS C s η) η C) hz;have H:(Builtin.zeroCells d.cells n).toList.length=n*te.size:=by simp [Builtin.zeroCells,l]
   have I:∀ u ∈ (Builtin.zeroCells d.cells n).toList,u.oneCell'=true:=by
    intro u hu;simp only [Builtin.zeroCells,Array.toList_map,List.mem_map] at hu
    obtain ⟨q,hq,rfl⟩:=hu;have r:q % d.cells.size<d.cells.size:=Nat.mod_lt _ (by rw [l];exact h0)
    have:=(Y (q % d.cells.size) (by rw [F];exact r)).one
    simpa [r] using this
   have J:lo*te.size+0+(Builtin.zeroCells d.cells n).toList.length<=c.size:=by rw [H,h3,Nat.add_zero, <-Nat.add_mul];exact Nat.mul_le_mul_right _ (by omega)
   have A:=run_storeCells_at P b (lo*te.size) e' (Builtin.zeroCells d.cells n).toList 0 c w h2 J I;simp only [Nat.add_zero] at A
   have m:(execOp a.eval o).run P w=.ok (.value (.tuple #[])) (w.setRow b (c.toList.take (lo*te.size)++(Builtin.zeroCells d.cells n).toList++c.toList.drop (lo*te.size+(Builtin.zeroCells d.cells n).toList.length)).toArray):=by
    simp [execOp,hop,resolve,invoke,builtin,Builtin.clear_,run_underlying D.und,V,Q9p p,A,O]
   refine Y5w h hd hs rfl rfl (by simp [Obj.refs]) (Y5A h1 (by omega) _) m (fun X' hX=>?_) (fun X'=>.any _) W;refine W1x hX h1 h2 h3 h4 h5 (by omega) h6 h7 h8 H (fun i _=>by rw [<-hle.spec.1,F,l]) fun i j hi G=>?_
   have r:i*te.size+j<n*te.size:=by
    have:(i+1)*te.size<=n*te.size:=Nat.mul_le_mul_right _ hi
    rw [Nat.add_mul,Nat.one_mul] at this;omega
   have hm:(i*te.size+j) % te.size=j:=by rw [Nat.add_comm,Nat.add_mul_mod_self_right,Nat.mod_eq_of_lt G]
   have hg:(Builtin.zeroCells d.cells n).toList.getD (i*te.size+j) undef=d.cells.getD j undef:=by
    have:=Z2Z (n*d.cells.size) (fun i=>d.cells[i % d.cells.size]!) (i*te.size+j) (by rw [l];exact r)
    have e1:(Builtin.zeroCells d.cells n).toList.getD (i*te.size+j) undef=(Builtin.zeroCells d.cells n).getD (i*te.size+j) undef:=by simp [List.getD_eq_getElem?_getD,Array.getD_eq_getD_getElem?]
    rw [e1];unfold Builtin.zeroCells
    rw [this,l,hm];have:j<d.cells.size:=by rw [l];exact G
    simp [this]
   rw [hg];exact hle.spec.2 j _ _ _ (Y j (by rw [F,l];exact G))
 | nil ad0 ad' h1 h2 h3=>exact T _ V ⟨_,_,rfl⟩ h3
end
end
section
section
variable {P:Program} {C:Ctx} {nt:Nat} {L:Lay} {ops:Array Oper} {ds:List Dir} {e:Env} {s:Sto}
def rE(r:SR):Array Oper->Oper->Env->Eff:=fun ops o e=>Y2S ops o e r r.v
theorem Z0R{o:Oper}(hdo:Q1z nt o=true){r:SR}(hg:Q8k ops e o=some true)(hsnd:∀ (R:Nat->Prop) (η:Nat->Value) (e0:Env) (s0:Sto) (a:Act) (w:World),(∀ x ∈ o.op.operands.toList,aev e0 x=aev e x)->(∀ x ∈ o.op.operands.toList,∀ i ∈ (aev e x).refs,s0 i=s i)->(∀ d,o.dst=some d->r.new≠none->¬ R d) ->
   Conc C nt R η e0 s0 a w->Snd P C nt R η e0 s0 a w o r):StT P C nt ops o (Y2S ops o e r r.v) e s:=by
 intro R η e0 s0 a w m j z b K Q H;have h:∀ x ∈ o.op.operands.toList,aev e0 x=aev e x:=by
  intro x h
  cases x with
  | tmp t=>exact m t (List.mem_append.2 (.inl (List.mem_filterMap.2 ⟨_,h,rfl⟩)))
  | const v=>rfl
  | global g=>rfl
  | func f=>rfl
 have u:∀ x ∈ o.op.operands.toList,∀ i ∈ (aev e x).refs,s0 i=s i:=fun x h i G=>j i (List.mem_flatMap.2 ⟨x,h,G⟩)
 have D:=Q5A (e:=e) b (fun t B=>m t (List.mem_append.2 (.inr B))) hg;rw [if_pos D]
 have M:=hsnd R η e0 s0 a w h u (fun d J I=>z d (by
  obtain ⟨N,y⟩:=Option.ne_none_iff_exists'.1 I;simp [Y2S,SR.nw,y,J])) b
 refine M.wp fun η' F w' A=>H η' F w' ?_
 have q:=A.wider (Y6C r o.dst R);have p:upS (Y2S ops o e r r.v).l s0=r.sto o.dst s0:=Y6B r o.dst s0
 rw [p];have c:Z0m o.dst (Y2S ops o e r r.v).v e0=r.env o.dst e0:=rfl
 rw [c];exact q
theorem Z7e{s0:Sto}{es:Nat}{x:AVal}(h:∀ i ∈ x.refs,s0 i=s i):asV s0 es x=asV s es x:=by
 unfold asV;split
 .rw [h _ (by simp [AVal.refs,TV.refs,CV.refs])]
 .rfl
 .rfl
theorem Y1I{es:Nat}{x:AVal}{id lo n:Nat}(h:asV s es x=some (id,lo,n)):id ∈ x.refs:=by
 unfold asV at h;split at h
 .split at h
  .split at h
   .cases h;simp [AVal.refs,TV.refs,CV.refs]
   .cases h
  .cases h
 .split at h
  .cases h;simp [AVal.refs,TV.refs,CV.refs]
  .cases h
 .cases h
def slT(L:Lay)(t:TypeId)(te:TI):Prop:=∃ ti el,L t=some ti/\ti.kind=.slice el/\L el=some te
variable {k:Nat}
theorem Q7j(hL:LOk P L){te:TI}{t:TypeId}(hT:slT L t te){x:Operand}{lo hi:Option Operand}{l u:Option Int}{id lo0 n N:Nat}{f:Nat->List DVal}{r:AVal}(hk:Q1N ds k=rE { v:=r })(hop:(W2 ops.toList k).op=.slice t x lo hi none)(hdo:(Q1z nt (W2 ops.toList k)&&(Q8k ops (V5 L ops ops.toList ds e s k) (W2 ops.toList k)==some true))=true)(hl:oI (V5 L ops ops.toList ds e s k) lo=some l)(hu:oI (V5 L ops ops.toList ds e s k) hi=some u)(hx:asV (Q2l L ops ops.toList ds e s k) te.size (aev (V5 L ops ops.toList ds e s k) x)=some (id,lo0,n))(hs:Q2l L ops ops.toList ds e s k id=some (.arr te.size N f))(hc:0<=l.getD 0/\l.getD 0<=u.getD n/\(lo0:Int)+u.getD n<=N)(hr:r=.v (.c (.sub id te.size (lo0+(l.getD 0).toNat) ((u.getD n).toNat-(l.getD 0).toNat)))):KAt P C nt L ops ds e s k:=by
 unfold KAt;rw [hk]
 simp only [Bool.and_eq_true,beq_iff_eq] at hdo;obtain ⟨J,I,G,q,A⟩:=hT
 refine Z0R hdo.1 hdo.2 fun R η p F a w o g _ j=>?_
 have i:∀ y,(y=x\/lo=some y\/hi=some y)->y ∈ (W2 ops.toList k).op.operands.toList:=by
  intro y b;rw [hop]
  rcases b with h|h|h
  .subst h;simp [Op.operands]
  .subst h;simp [Op.operands,optional]
  .subst h;simp [Op.operands,optional]
 have B:asV F te.size (aev p x)=some (id,lo0,n):=by
  rw [o x (i x (.inl rfl)),Z7e (g x (i x (.inl rfl)))];exact hx
 have D:F id=some (.arr te.size N f):=by rw [g x (i x (.inl rfl)) id (Y1I hx)];exact hs
 have z:oI p lo=some l:=by rw [Z9q fun y b=>o y (i y (.inr (.inl b)))];exact hl
 have m:oI p hi=some u:=by rw [Z9q fun y b=>o y (i y (.inr (.inr b)))];exact hu
 rw [hr];exact Y6G hL j (fun d H=>Q5w hdo.1 d H) hop G q A z m B D hc
theorem Y6u(hL:LOk P L){te:TI}{t:TypeId}(hT:slT L t te){x:Operand}{es id lo0 n N:Nat}{f:Nat->List DVal}(hk:Q1N ds k=rE { v:=vi n })(hop:(W2 ops.toList k).op=.call { callee:=.builtin .len,args:= #[x],argTypes:= #[t] })(hdo:(Q1z nt (W2 ops.toList k)&&(Q8k ops (V5 L ops ops.toList ds e s k) (W2 ops.toList k)==some true))=true)(hx:asV (Q2l L ops ops.toList ds e s k) es (aev (V5 L ops ops.toList ds e s k) x)=some (id,lo0,n))(hs:Q2l L ops ops.toList ds e s k id=some (.arr es N f)):KAt P C nt L ops ds e s k:=by
 unfold KAt;rw [hk]
 simp only [Bool.and_eq_true,beq_iff_eq] at hdo;obtain ⟨y,u,o,g,q⟩:=hT
 refine Z0R hdo.1 hdo.2 fun R η p l a w m b _ c=>?_
 have h:x ∈ (W2 ops.toList k).op.operands.toList:=by rw [hop];simp [Op.operands,Call.operands]
 have i:asV l es (aev p x)=some (id,lo0,n):=by
  rw [m x h,Z7e (b x h)];exact hx
 have j:l id=some (.arr es N f):=by rw [b x h id (Y1I hx)];exact hs
 exact Y9x hL c (fun d r=>Q5w hdo.1 d r) hop o g i j
theorem Z8F(hL:LOk P L){te:TI}{t:TypeId}(hT:slT L t te){x i:Operand}{m:Int}{id lo0 n N:Nat}{f:Nat->List DVal}{r:AVal}(hk:Q1N ds k=rE { v:=r })(hop:(W2 ops.toList k).op=.indexAddr t x i)(hdo:(Q1z nt (W2 ops.toList k)&&(Q8k ops (V5 L ops ops.toList ds e s k) (W2 ops.toList k)==some true))=true)(hi:asI (aev (V5 L ops ops.toList ds e s k) i)=some m)(hx:asV (Q2l L ops ops.toList ds e s k) te.size (aev (V5 L ops ops.toList ds e s k) x)=some (id,lo0,n))(hs:Q2l L ops ops.toList ds e s k id=some (.arr te.size N f))(hc:0<=m/\m<n)(hr:r=.v (.c (.pte id te.size (lo0+m.toNat) 0))):KAt P C nt L ops ds e s k:=by
 unfold KAt;rw [hk]
 simp only [Bool.and_eq_true,beq_iff_eq] at hdo;obtain ⟨F,D,z,h,l⟩:=hT
 refine Z0R hdo.1 hdo.2 fun R η A y a w u b _ g=>?_
 have o:x ∈ (W2 ops.toList k).op.operands.toList:=by rw [hop];simp [Op.operands]
 have j:i ∈ (W2 ops.toList k).op.operands.toList:=by rw [hop];simp [Op.operands]
 have p:asV y te.size (aev A x)=some (id,lo0,n):=by
  rw [u x o,Z7e (b x o)];exact hx
 have q:y id=some (.arr te.size N f):=by rw [b x o id (Y1I hx)];exact hs
 rw [<-u i j] at hi;rw [hr]
 exact Y6H hL g (fun d B=>Q5w hdo.1 d B) hop z h l hi p q hc
theorem Z8G(hL:LOk P L){te:TI}{t:TypeId}(hT:slT L t te){x:Operand}{id lo0 n N:Nat}{f g:Nat->List DVal}(zd0 zd:List DVal)(hle:W0V zd0 zd)(hk:Q1N ds k=rE { v:=.any,upd:=some (id,.arr te.size N g) })(hop:(W2 ops.toList k).op=.call { callee:=.builtin .clear,args:= #[x],argTypes:= #[t] })(hdo:(Q1z nt (W2 ops.toList k)&&(Q8k ops (V5 L ops ops.toList ds e s k) (W2 ops.toList k)==some true))=true)(h0:0<te.size)(hzl:te.zero.length=te.size)(hz:Y1R te.zero=some zd0)(hx:asV (Q2l L ops ops.toList ds e s k) te.size (aev (V5 L ops ops.toList ds e s k) x)=some (id,lo0,n))(hs:Q2l L ops ops.toList ds e s k id=some (.arr te.size N f))(hg:g=fun i=>if lo0<=i/\i<lo0+n then (fun _=>zd) (i-lo0) else f i):KAt P C nt L ops ds e s k:=by
 unfold KAt;rw [hk,hg]
 simp only [Bool.and_eq_true,beq_iff_eq] at hdo;obtain ⟨A,z,r,h,j⟩:=hT
 refine Z0R hdo.1 hdo.2 fun R η u p a w q b _ c=>?_
 have l:x ∈ (W2 ops.toList k).op.operands.toList:=by rw [hop];simp [Op.operands,Call.operands]
 have m:asV p te.size (aev u x)=some (id,lo0,n):=by
  rw [q x l,Z7e (b x l)];exact hx
 have o:p id=some (.arr te.size N f):=by rw [b x l id (Y1I hx)];exact hs
 exact Y6I hL c (fun d y=>Q5w hdo.1 d y) hop r h j h0 hzl hz hle m o
end
end
section
section
variable {P:Program} {C:Ctx} {nt:Nat} {L:Lay} {pins:List Nat} {K:Act->World->Prop}
theorem U9(k:Nat)(o:Obj)(S:List (Nat×Obj))(i:Nat):ls ((k,o)::S) i=if i=k then some o else ls S i:=by
 unfold ls;rw [List.lookup_cons]
 by_cases h:i=k
 .subst h;simp
 .have:(i==k)=false:=by simpa using h
  rw [this,if_neg h]
theorem Z9u(k:Nat)(o:AVal)(E:List (Nat×AVal))(i:Nat):lk ((k,o)::E) i=if i=k then o else lk E i:=by
 unfold lk;rw [List.lookup_cons]
 by_cases h:i=k
 .subst h;simp
 .have:(i==k)=false:=by simpa using h
  rw [this,if_neg h]
end
end
end
end Go.Ab
