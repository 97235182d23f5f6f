/- Abstract states over the model. -/
import Derived.Test.YtgfmopdbhjcpfaaGreatAbA
import Derived.KernelRfl
import Derived.Laws.StructEq
set_option linter.unusedVariables false
set_option linter.unusedSimpArgs false
namespace Go.Ab
noncomputable section
section
def CV.noSem:CV->Bool
 | .sem _=>false
 | _=>true
def TV.noSem:TV->Bool
 | .c x=>x.noSem
 | .g xs=>xs.all CV.noSem
def AVal.noSem:AVal->Bool
 | .any=>true
 | .v x=>x.noSem
 | .t xs=>xs.all TV.noSem
def Obj.noSem:Obj->Bool
 | .box _ cs=>cs.all CV.noSem
 | .arr _ _ _=>true
 | .ext _=>true
 | .exr _ _=>true
section
variable {w:World} {X:Nat->Prop} {η:Nat->Value} {C C' : Ctx}
theorem CRep.ctx {v:Value} {x:CV} (h:CRep w X η C v x) (hx:x.noSem=true):CRep w X η C' v x:=by
 cases h with
 | d _ _ h=>exact .d _ _ h
 | fl _ _ _ h=>exact .fl _ _ _ h
 | own _ _ h h1=>exact .own _ _ h h1
 | ptr _ _ _ h=>exact .ptr _ _ _ h
 | pte _ _ _ _ _ _ _ h=>exact .pte _ _ _ _ _ _ _ h
 | sub b N cap _ es lo n h h1 h2=>exact .sub b N cap _ es lo n h h1 h2
 | subN ad ad' N _ es h=>exact .subN ad ad' N _ es h
 | elm _ _ _ _ _ _ h1 h2 h3 h4=>exact .elm _ _ _ _ _ _ h1 h2 h3 h4
 | clo _ _ _ h=>exact .clo _ _ _ h
 | sem _ _ h h1=>cases hx
 | ap _ _ h h1=>exact .ap _ _ h h1
 | bnd _ _ _ h1 h2=>exact .bnd _ _ _ h1 h2
 | cp _ _ _ _ h h1 h2=>exact .cp _ _ _ _ h h1 h2
theorem G9.ctx {vs:Array Value} {cs:List CV} (h:G9 w X η C vs cs) (hx:cs.all CV.noSem=true):G9 w X η C' vs cs:=
 ⟨h.1,fun j a=>(h.2 j a).ctx (List.all_eq_true.1 hx _ (Q0I a))⟩
theorem TRep.ctx {v:Value} {x:TV} (h:TRep w X η C v x) (hx:x.noSem=true):TRep w X η C' v x:=by
 cases h with
 | c _ _ h=>exact .c _ _ (h.ctx hx)
 | g _ _ h=>exact .g _ _ (h.ctx hx)
theorem ARep.ctx {v:Value} {x:AVal} (h:ARep w X η C v x) (hx:x.noSem=true):ARep w X η C' v x:=by
 cases h with
 | any=>exact .any v
 | v _ _ h=>exact .v _ _ (h.ctx hx)
 | t us xs h1 h2=>exact .t us xs h1 fun j a=>(h2 j a).ctx (List.all_eq_true.1 hx _ (Q0I a))
theorem ORep.ctx {v:Value} {o:Obj} (h:ORep w X η C v o) (hx:o.noSem=true):ORep w X η C' v o:=by
 cases h with
 | box b ro c e cs h1 h2=>exact .box b ro c e cs h1 (h2.ctx hx)
 | nil ad es f=>exact .nil ad es f
 | arr b n cap es c e f h1 h2 h3 h4 h5 h6 h7=>exact .arr b n cap es c e f h1 h2 h3 h4 h5 h6 h7
 | ext _ _ h1 h2 h3=>exact .ext _ _ h1 h2 h3
 | exr _ _ _ h1 h2 h3=>exact .exr _ _ _ h1 h2 h3
theorem CRep.toRen {ρ:Nat->Nat} {v:Value} {x:CV} (h:CRep w X (fun i=>η (ρ i)) C v x):CRep w X η C v (x.ren ρ):=by
 cases h with
 | d _ _ h=>exact .d _ _ h
 | fl _ _ _ h=>exact .fl _ _ _ h
 | own _ _ h h1=>exact .own _ _ h h1
 | ptr _ _ _ h=>exact .ptr _ _ _ h
 | pte _ _ _ _ _ _ _ h=>exact .pte _ _ _ _ _ _ _ h
 | sub b N cap _ es lo n h h1 h2=>exact .sub b N cap _ es lo n h h1 h2
 | subN ad ad' N _ es h=>exact .subN ad ad' N _ es h
 | elm _ _ _ _ _ _ h1 h2 h3 h4=>exact .elm _ _ _ _ _ _ h1 h2 h3 h4
 | clo f ids vs h=>exact .clo f _ vs (by rw [h,List.map_map];rfl)
 | sem _ _ h h1=>exact .sem _ _ h h1
 | ap _ _ h h1=>exact .ap _ _ h h1
 | bnd _ _ _ h1 h2=>exact .bnd _ _ _ h1 h2
 | cp _ _ _ _ h h1 h2=>exact .cp _ _ _ _ h h1 h2
theorem G9.toRen {ρ:Nat->Nat} {vs:Array Value} {cs:List CV} (h:G9 w X (fun i=>η (ρ i)) C vs cs):G9 w X η C vs (cs.map (CV.ren ρ)):=by
 refine ⟨by simpa using h.1,fun j b=>?_⟩;have a : j<cs.length:=by simpa using b
 have:=(h.2 j a).toRen
 rw [List.getD_eq_getElem?_getD,List.getElem?_map,List.getElem?_eq_getElem a];rw [List.getD_eq_getElem?_getD,List.getElem?_eq_getElem a] at this
 exact this
theorem TRep.toRen {ρ:Nat->Nat} {v:Value} {x:TV} (h:TRep w X (fun i=>η (ρ i)) C v x):TRep w X η C v (x.ren ρ):=by
 cases h with
 | c _ _ h=>exact .c _ _ h.toRen
 | g _ _ h=>exact .g _ _ h.toRen
theorem ARep.toRen {ρ:Nat->Nat} {v:Value} {x:AVal} (h:ARep w X (fun i=>η (ρ i)) C v x):ARep w X η C v (x.ren ρ):=by
 cases h with
 | any=>exact .any v
 | v _ _ h=>exact .v _ _ h.toRen
 | t us xs h1 h2=>
  refine .t us _ (by simpa using h1) fun j b=>?_
  have a : j<xs.length:=by simpa using b
  have:=(h2 j a).toRen
  rw [List.getD_eq_getElem?_getD,List.getElem?_map,List.getElem?_eq_getElem a];rw [List.getD_eq_getElem?_getD,List.getElem?_eq_getElem a] at this
  exact this
theorem ORep.toRen {ρ:Nat->Nat} {v:Value} {o:Obj} (h:ORep w X (fun i=>η (ρ i)) C v o):ORep w X η C v (o.ren ρ):=by
 cases h with
 | box b ro c e cs h1 h2=>exact .box b ro c e _ h1 h2.toRen
 | nil ad es f=>exact .nil ad es f
 | arr b n cap es c e f h1 h2 h3 h4 h5 h6 h7=>exact .arr b n cap es c e f h1 h2 h3 h4 h5 h6 h7
 | ext _ _ h1 h2 h3=>exact .ext _ _ h1 h2 h3
 | exr _ refs p h1 h2 h3=>
  have e:refs.map (fun i=>η (ρ i))=(refs.map ρ).map η:=by rw [List.map_map];rfl
  rw [e] at h1 h2;exact .exr _ _ p h1 h2 h3
end
def y6 (C:Ctx) (nt:Nat) (e:Env) (s:Sto) (Si:List (Nat×Obj)) (m:Nat->Nat) (rd ids:List Nat) (x:Operand) (y:AVal):Prop:=
 ∀ R η e0 s0 a w,(∀ t ∈ rd,e0 t=e t)->(∀ i ∈ ids,s0 i=s i)->Conc C nt R η e0 s0 a w ->
  ARep w (XS C s0 η) (fun i=>η (m i)) (J4 Si w (XS C s0 η) fun i=>η (m i)) (a.eval x) y
section
variable {P:Program} {C:Ctx} {nt:Nat} {e:Env} {s:Sto}
def Q5I (rd:List Nat) (x:Operand):Bool:=match x with | .tmp t=>rd.contains t|_=>true
theorem Y7c {rd:List Nat} {t:Nat} (h:Q5I rd (.tmp t)=true):t ∈ rd:=by
 simpa [Q5I] using h
theorem J2 {e0 e:Env} {x:Operand} {rd:List Nat} (hrd:∀ t ∈ rd,e0 t=e t) (hx:Q5I rd x=true):aev e0 x=aev e x:=by
 cases x <;> first|rfl|exact hrd _ (Y7c hx)
theorem y6.plain {Si:List (Nat×Obj)} {m:Nat->Nat} {rd ids:List Nat} {x:Operand} {y:AVal} (hx:Q5I rd x=true) (hle:ALe (aev e x) (y.ren m)) (hs:y.noSem=true):y6 C nt e s Si m rd ids x y:=by
 intro R η h g a w b c f;have d:=(W2 f x).1
 rw [J2 b hx] at d;exact (ARep.unren (hle.1 _ _ _ _ _ d)).ctx hs
def Y3y (ops:Array Oper) (o:Oper) (e:Env) (m:Nat->Nat) (extra:List Nat) (r:AVal) (Si So:List (Nat×Obj)):Eff where
 rd:=Q0h o++V4 ops o
 ids:=Z1O e o++(Si.map (fun p=>m p.1)++extra)
 v:=r.ren m
 l:=(So.map fun p=>(m p.1,some (p.2.ren m)))++Si.map fun p=>(m p.1,none)
 news:=(So.filter fun p=> !(Si.map (·.1)).contains p.1).map fun p=>m p.1
def Q6L (m:Nat->Nat) (r:AVal) (Si So:List (Nat×Obj)):Bool:=
 Q3m (Si.map (·.1))&&Q3m (So.map (·.1))&&Q3m ((So.filter fun p=> !(Si.map (·.1)).contains p.1).map (fun p=>m p.1)++Si.map fun p=>m p.1) &&
 r.refs.all (fun i=>(So.map (·.1)).contains i)&&So.all (fun p=>p.2.refs.all fun i=>(So.map (·.1)).contains i)&&r.noSem&&Si.all (fun p=>p.2.noSem)&&So.all (fun p=>p.2.noSem) &&
 So.all (fun p=> !(Si.map (·.1)).contains p.1||Si.any fun q=>q.1==p.1&&q.2.ro==p.2.ro)&&So.all (fun p=>(Si.map (·.1)).contains p.1 || !p.2.ro)
theorem CV.ren_refs {ρ:Nat->Nat} (x:CV):∀ j ∈ (x.ren ρ).refs,∃ i ∈ x.refs,j=ρ i:=by
 cases x <;> simp [CV.refs,CV.ren]
 intro i a;exact ⟨i,a,rfl⟩
theorem Y1t {α β:Type} {f:α->List Nat} {g:α->α} {l:List α} {ρ:Nat->Nat} (h:∀ x,∀ j ∈ f (g x),∃ i ∈ f x,j=ρ i) (_:β):∀ j ∈ (l.map g).flatMap f,∃ i ∈ l.flatMap f,j=ρ i:=by
 intro j a;obtain ⟨y,c,a⟩:=List.mem_flatMap.1 a
 obtain ⟨x,b,rfl⟩:=List.mem_map.1 c;obtain ⟨i,d,e⟩:=h x j a
 exact ⟨i,List.mem_flatMap.2 ⟨x,b,d⟩,e⟩
theorem TV.ren_refs {ρ:Nat->Nat} (x:TV):∀ j ∈ (x.ren ρ).refs,∃ i ∈ x.refs,j=ρ i:=by
 cases x with
 | c x=>exact CV.ren_refs x
 | g xs=>exact Y1t (f:=CV.refs) CV.ren_refs ()
theorem AVal.ren_refs {ρ:Nat->Nat} (x:AVal):∀ j ∈ (x.ren ρ).refs,∃ i ∈ x.refs,j=ρ i:=by
 cases x with
 | any=>intro j a;cases a
 | v x=>exact TV.ren_refs x
 | t xs=>exact Y1t (f:=TV.refs) TV.ren_refs ()
theorem Obj.ren_refs {ρ:Nat->Nat} (o:Obj):∀ j ∈ (o.ren ρ).refs,∃ i ∈ o.refs,j=ρ i:=by
 cases o with
 | box ro cs=>exact Y1t (f:=CV.refs) CV.ren_refs ()
 | arr es n f=>intro j a;cases a
 | ext p=>intro j a;cases a
 | exr refs p=>
  intro j a;obtain ⟨i,b,rfl⟩:=List.mem_map.1 a
  exact ⟨i,b,rfl⟩
theorem Conc.call {R:Nat->Prop} {η:Nat->Value} {e0:Env} {s0:Sto} {a:Act} {w:World} (h:Conc C nt R η e0 s0 a w) {m:Nat->Nat} {Si So:List (Nat×Obj)} {r:AVal} {d:Option Tmp} (hd:∀ x,d=some x->x<nt)
  (hchk:Q6L m r Si So=true) (hsi:∀ p ∈ Si,∃ o1,s0 (m p.1)=some o1/\OLe o1 (p.2.ren m))
  (hfr:∀ k ∈ (So.filter fun p=> !(Si.map (·.1)).contains p.1).map (fun p=>m p.1),¬ R k)
  {v:Value} {η' : Nat->Value} {w' : World} (hb:Behind (J4 Si w (XS C s0 η) fun i=>η (m i)) r So v η' w') :
  ∃ η1,Conc C nt (fun i=>R i\/i ∈ (So.filter fun p=> !(Si.map (·.1)).contains p.1).map fun p=>m p.1) η1 (Z0f d (r.ren m) e0) (upS ((So.map fun p=>(m p.1,some (p.2.ren m)))++Si.map fun p=>(m p.1,none)) s0) (a.put d v) w':=by
 simp only [Q6L,Bool.and_eq_true] at hchk;obtain ⟨⟨⟨⟨⟨⟨⟨⟨⟨c1,c2⟩,c3⟩,c4⟩,c5⟩,c6⟩,c7⟩,c8⟩,c9⟩,h3⟩:=hchk
 have n1:=Q4y c1;have n2:=Q4y c2
 have n3:=Q4y c3
 let news:=(So.filter fun p=> !(Si.map (·.1)).contains p.1).map fun p=>m p.1
 have G:∀ i,i ∈ Si.map (·.1)->∃ o,(i,o) ∈ Si:=fun i c=>by obtain ⟨p,g,rfl⟩:=List.mem_map.1 c;exact ⟨p.2,g⟩
 have b9:∀ i o,(i,o) ∈ Si->ls Si i=some o:=by
  intro i o c;unfold ls
  obtain ⟨l1,l2,rfl⟩:=List.append_of_mem c;rw [List.map_append,List.map_cons,List.nodup_append] at n1
  rw [List.lookup_append];have:l1.lookup i=none:=by
   rw [List.lookup_eq_none_iff];intro p g
   have:=n1.2.2 p.1 (List.mem_map_of_mem g) i (List.mem_cons_self)
   simpa using fun Z=>this Z.symm
  rw [this];simp
 have E:∀ i o,(i,o) ∈ So->ls So i=some o:=by
  intro i o c;unfold ls
  obtain ⟨l1,l2,rfl⟩:=List.append_of_mem c;rw [List.map_append,List.map_cons,List.nodup_append] at n2
  rw [List.lookup_append];have:l1.lookup i=none:=by
   rw [List.lookup_eq_none_iff];intro p g
   have:=n2.2.2 p.1 (List.mem_map_of_mem g) i (List.mem_cons_self)
   simpa using fun Z=>this Z.symm
  rw [this];simp
 have L:∀ p ∈ So,p.1 ∈ Si.map (·.1)\/m p.1 ∈ news:=by
  intro p g
  by_cases hc:p.1 ∈ Si.map (·.1)
  ·exact .inl hc
  ·exact .inr (List.mem_map.2 ⟨p,List.mem_filter.2 ⟨g,by simpa using hc⟩,rfl⟩)
 rw [List.nodup_append] at n3;obtain ⟨h6,g5,b3⟩:=n3
 have a3:∀ {α:Type} (f:α->Nat) (l:List α),(l.map f).Nodup->∀ x ∈ l,∀ y ∈ l,f x=f y->x=y:=by
  intro α f l
  induction l with
  | nil=>intro _ x V;cases V
  | cons z l ih=>
   intro hn x V y hy d5;rw [List.map_cons,List.nodup_cons] at hn
   rcases List.mem_cons.1 V with hx1|hx1 <;> rcases List.mem_cons.1 hy with a9|a9
   ·rw [hx1,a9]
   ·exact absurd (List.mem_map.2 ⟨y,a9,by rw [<-d5,hx1]⟩) hn.1
   ·exact absurd (List.mem_map.2 ⟨x,hx1,by rw [d5,a9]⟩) hn.1
   ·exact ih hn.2 x hx1 y a9 d5
 have c0:∀ i j,i ∈ Si.map (·.1)->j ∈ Si.map (·.1)->m i=m j->i=j:=by
  intro i j c hj g9;obtain ⟨F,c⟩:=G i c
  obtain ⟨oj,hj⟩:=G j hj;have:=a3 (fun p:Nat×Obj=>m p.1) Si g5 _ c _ hj g9
  injection this
 have d6:∀ p ∈ So,∀ q ∈ So,m p.1=m q.1->p.1=q.1:=by
  intro p g q S b1;rcases L p g with J|J <;> rcases L q S with N|N
  ·exact c0 _ _ J N b1
  ·obtain ⟨op,d4⟩:=G _ J
   exact absurd b1.symm (b3 _ N _ (List.mem_map.2 ⟨_,d4,rfl⟩))
  ·obtain ⟨oq,d8⟩:=G _ N
   exact absurd b1 (b3 _ J _ (List.mem_map.2 ⟨_,d8,rfl⟩))
  ·obtain ⟨p',j1,e1⟩:=List.mem_map.1 J
   obtain ⟨q',j6,e2⟩:=List.mem_map.1 N
   by_cases hps:p.1 ∈ Si.map (·.1)
   ·obtain ⟨op,d4⟩:=G _ hps
    exact absurd rfl (b3 _ J _ (List.mem_map.2 ⟨_,d4,rfl⟩))
   ·by_cases hqs:q.1 ∈ Si.map (·.1)
    ·obtain ⟨oq,d8⟩:=G _ hqs
     exact absurd rfl (b3 _ N _ (List.mem_map.2 ⟨_,d8,rfl⟩))
    ·have:=a3 (fun p:Nat×Obj=>m p.1) _ h6 p (List.mem_filter.2 ⟨g,by simpa using hps⟩) q (List.mem_filter.2 ⟨S,by simpa using hqs⟩) b1
     rw [this]
 let η1:Nat->Value:=fun k=>match So.find? (fun p=>m p.1==k) with|some p=>η' p.1|none=>η k
 have O:∀ p ∈ So,η1 (m p.1)=η' p.1:=by
  intro p g;simp only [η1]
  cases hf:So.find? (fun q=>m q.1==m p.1) with
  | none=>rw [List.find?_eq_none] at hf;have:=hf p g;simp at this
  | some q=>
   have S:=List.mem_of_find?_eq_some hf;have g0:m q.1=m p.1:=by simpa using List.find?_some hf
   simp only [d6 q S p g g0]
 have b6:∀ i,i ∈ Si.map (·.1)->η' i=η (m i):=by
  intro i c;obtain ⟨o,K⟩:=G i c
  refine hb.pn i _ ?_;have:=b9 i o K
  unfold ls at this;simp [J4,this]
 have I:∀ k,(∀ p ∈ So,m p.1≠k)->η1 k=η k:=by
  intro k H;simp only [η1]
  cases hf:So.find? (fun q=>m q.1==k) with
  | none=>rfl
  | some q=>exact absurd (by simpa using List.find?_some hf) (H q (List.mem_of_find?_eq_some hf))
 have eR:∀ k,R k->η1 k=η k:=by
  intro k H;rcases Classical.em (∃ p ∈ So,m p.1=k) with ⟨p,g,rfl⟩|d7
  ·rw [O p g]
   rcases L p g with J|J
   ·exact b6 _ J
   ·exact absurd H (hfr _ J)
  ·exact I k fun p g Z=>d7 ⟨p,g,Z⟩
 generalize hs1:upS ((So.map fun p=>(m p.1,some (p.2.ren m)))++Si.map fun p=>(m p.1,none)) s0=s1;have B:∀ k o,s1 k=some o->(∃ p ∈ So,m p.1=k/\o=p.2.ren m)\/(s0 k=some o/\(∀ p ∈ So,m p.1≠k)/\∀ p ∈ Si,m p.1≠k):=by
  intro k o H;rw [<-hs1] at H
  unfold upS at H;rw [List.lookup_append] at H
  cases hl1:(So.map fun p=>(m p.1,some (p.2.ren m))).lookup k with
  | some x=>
   rw [hl1] at H;simp only [Option.some_or] at H
   obtain ⟨l1,l2,hl,_⟩:=List.lookup_eq_some_iff.1 hl1;have a7:(k,x) ∈ So.map fun p=>(m p.1,some (p.2.ren m)):=by rw [hl];simp
   obtain ⟨p,g,he⟩:=List.mem_map.1 a7
   injection he with e1 e2
   subst e2;cases H
   exact .inl ⟨p,g,e1,rfl⟩
  | none=>
   rw [hl1] at H;simp only [Option.none_or] at H
   have d7:∀ p ∈ So,m p.1≠k:=by
    intro p g Z;rw [List.lookup_eq_none_iff] at hl1
    have:=hl1 _ (List.mem_map_of_mem g)
    simp at this
    exact this Z.symm
   cases hl2:(Si.map fun p=>(m p.1,(none:Option Obj))).lookup k with
   | some x=>
    rw [hl2] at H;obtain ⟨l1,l2,hl,_⟩:=List.lookup_eq_some_iff.1 hl2
    have a7:(k,x) ∈ Si.map fun p=>(m p.1,(none:Option Obj)):=by rw [hl];simp
    obtain ⟨p,g,he⟩:=List.mem_map.1 a7
    injection he with e1 e2
    subst e2;cases H
   | none=>
    rw [hl2] at H;refine .inr ⟨H,d7,fun p g Z=>?_⟩
    rw [List.lookup_eq_none_iff] at hl2;have:=hl2 _ (List.mem_map_of_mem g)
    simp at this
    exact this Z.symm
 have a0:∀ i o,ls Si i=some o->∀ b,b ∈ Y5 (η (m i))->Own s0 η b:=by
  intro i o c b d2;obtain ⟨o1,J,_⟩:=hsi _ (U4 c)
  exact ⟨m i,o1,J,d2⟩
 have T:∀ k o i F b,s0 k=some o->ls Si i=some F->b ∈ Y5 (η k)->b ∈ Y5 (η (m i))->k=m i:=by
  intro k o i F b H c d9 a6;obtain ⟨o1,J,_⟩:=hsi _ (U4 c)
  exact h.ds k (m i) b (by rw [H];simp) (by rw [J];simp) d9 a6
 have a8:∀ i F b,ls Si i=some F->F.ro=false->b ∈ Y5 (η (m i))->C.M b\/C.w0.heap.size<=b:=by
  intro i F b c a1 d2;obtain ⟨o1,J,h4⟩:=hsi _ (U4 c)
  rcases h.ow _ o1 b J d2 with ⟨N,_⟩|N
  ·have:o1.ro=F.ro:=by rw [<-h4.2.1,Obj.ro_ren]
   rw [this,a1] at N;cases N
  ·exact N
 have f3:∀ b,XS C s1 η1 b->(b<w.heap.size->XS C s0 η b)/\XS (J4 Si w (XS C s0 η) fun i=>η (m i)) (ls So) η' b:=by
  intro b V;rcases V with ⟨V,hD⟩|⟨k,o,H,D⟩
  ·refine ⟨fun _=>.inl ⟨V,hD⟩,.inl ⟨.inl ⟨V,hD⟩,fun K=>?_⟩⟩
   obtain ⟨i,o,c,A⟩:=K;obtain ⟨o1,J,_⟩:=hsi _ (U4 c)
   have b2:=h.ok.lt b V;rcases h.ow _ o1 b J A with ⟨_,N⟩|N|N
   ·exact hD N
   ·exact hD (h.ok.md b N)
   ·omega
  ·rcases B k o H with ⟨p,g,rfl,rfl⟩|⟨K,Q,a2⟩
   ·rw [O p g] at D
    refine ⟨fun b2=>?_,.inr ⟨p.1,p.2,E _ _ g,D⟩⟩;rcases hb.ow p.1 p.2 b (E _ _ g) D with ⟨_,⟨i,F,c,A⟩⟩|⟨i,F,c,_,A⟩|b0
    ·exact .inr (a0 i F c b A)
    ·exact .inr (a0 i F c b A)
    ·have:w.heap.size<=b:=b0
     omega
   ·rw [I k Q] at D
    have b5:Own s0 η b:=⟨k,o,K,D⟩;refine ⟨fun _=>.inr b5,.inl ⟨.inr b5,fun V=>?_⟩⟩
    obtain ⟨i,F,c,A⟩:=V;exact a2 _ (U4 c) (T k o i F b K c D A).symm
 have d3:Q7b w w' (XS C s0 η) (XS C s1 η1):=by
  intro b b2 hX;refine ⟨hb.stp.block b b2 fun hM=>?_,fun V=>hX ((f3 b V).1 b2)⟩
  obtain ⟨i,F,c,_,A⟩:=hM;exact hX (.inr (a0 i F c b A))
 have e5:Q7b w' w' (XS (J4 Si w (XS C s0 η) fun i=>η (m i)) (ls So) η') (XS C s1 η1):=fun b _ hX=>⟨rfl,fun V=>hX (f3 b V).2⟩
 have d1:∀ p ∈ So,R (m p.1)\/m p.1 ∈ news:=by
  intro p g;rcases L p g with J|J
  ·obtain ⟨o,K⟩:=G _ J
   obtain ⟨o1,N,_⟩:=hsi _ K;exact .inl (h.sr _ o1 N).1
  ·exact .inr J
 have U:∀ i,(So.map (·.1)).contains i=true->∃ p ∈ So,p.1=i:=by
  intro i c;have g7 : i ∈ So.map (·.1):=by simpa using c
  obtain ⟨p,g,e⟩:=List.mem_map.1 g7;exact ⟨p,g,e⟩
 have b8:∀ p ∈ So,ORep w' (XS C s1 η1) η1 C (η1 (m p.1)) (p.2.ren m):=by
  intro p g;have J:=hb.objs p.1 p.2 (E _ _ g)
  have N:=J.mono (η':=fun i=>η1 (m i)) e5 (fun i c=>by
   obtain ⟨q,S,rfl⟩:=U i (List.all_eq_true.1 (List.all_eq_true.1 c5 p g) i c);exact O q S) (fun _ _=>rfl)
  rw [O p g];exact (N.toRen).ctx (by
   have:=List.all_eq_true.1 c8 p g
   cases hp2:p.2 with
   | box ro cs=>
    rw [hp2] at this;simp only [Obj.ren,Obj.noSem,List.all_map]
    rw [List.all_eq_true];intro x V
    have:=List.all_eq_true.1 this x V
    cases x <;> first|rfl|cases this
   | arr es n f=>rfl
   | ext p=>rfl
   | exr refs p=>rfl)
 refine ⟨η1,h.ok,by rw [Y1g];exact h.df,by rw [Y3Z];exact h.sz,fun t=>?_,fun t i c=>?_,fun k o H=>?_,fun k o H=>?_,fun i j b c hj W Y=>?_,fun k o b H D=>?_,?_,fun i u c=>?_⟩
 ·rw [Y1f a d v t (by rw [h.sz];exact hd)]
  unfold Z0f;have e8:ARep w' (XS C s1 η1) η1 C v (r.ren m):=by
   have N:=hb.res.mono (η':=fun i=>η1 (m i)) e5 (fun i c=>by
    obtain ⟨q,S,rfl⟩:=U i (List.all_eq_true.1 c4 i c);exact O q S)
   exact (N.ctx c6).toRen
  cases d with
  | none=>exact (h.ev t).mono d3 fun i c=>eR i (h.er t i c)
  | some d=>
   simp only [Option.some.injEq]
   by_cases htd:t=d
   ·subst htd;simp only [if_true];exact e8
   ·rw [if_neg (fun Z=>htd Z.symm),if_neg htd]
    exact (h.ev t).mono d3 fun i c=>eR i (h.er t i c)
 ·unfold Z0f at c
  have b7:i ∈ (e0 t).refs->R i\/i ∈ news:=fun Z=>.inl (h.er t i Z)
  have e4:i ∈ (r.ren m).refs->R i\/i ∈ news:=by
   intro Z;obtain ⟨j,hj,rfl⟩:=AVal.ren_refs r i Z
   obtain ⟨q,S,rfl⟩:=U j (List.all_eq_true.1 c4 j hj);exact d1 q S
  cases d with
  | none=>exact b7 c
  | some d=>
   simp only at c
   by_cases htd:t=d
   ·rw [if_pos htd] at c;exact e4 c
   ·rw [if_neg htd] at c;exact b7 c
 ·rcases B k o H with ⟨p,g,rfl,rfl⟩|⟨K,Q,a2⟩
  ·exact b8 p g
  ·rw [I k Q]
   refine (h.st k o K).mono d3 (fun j hj=>eR j ((h.sr k o K).2 j hj)) fun b D=>?_
   refine hb.stp.block b ((h.st k o K).lt D) fun hM=>?_
   obtain ⟨i,F,c,_,A⟩:=hM;exact a2 _ (U4 c) (T k o i F b K c D A).symm
 ·rcases B k o H with ⟨p,g,rfl,rfl⟩|⟨K,Q,a2⟩
  ·refine ⟨d1 p g,fun j hj=>?_⟩
   obtain ⟨i,c,rfl⟩:=Obj.ren_refs p.2 j hj;obtain ⟨q,S,rfl⟩:=U i (List.all_eq_true.1 (List.all_eq_true.1 c5 p g) i c)
   exact d1 q S
  ·exact ⟨.inl (h.sr k o K).1,fun j hj=>.inl ((h.sr k o K).2 j hj)⟩
 ·obtain ⟨F,g4⟩:=Option.ne_none_iff_exists'.1 c
  obtain ⟨oj,h5⟩:=Option.ne_none_iff_exists'.1 hj;have a5:∀ p ∈ So,∀ k o,s0 k=some o->(∀ p ∈ Si,m p.1≠k)->∀ b,b ∈ Y5 (η' p.1)->b ∈ Y5 (η k)->False:=by
   intro p g k o K hn b d9 a6;rcases hb.ow p.1 p.2 b (E _ _ g) d9 with ⟨_,⟨i,F,c,A⟩⟩|⟨i,F,c,_,A⟩|b0
   ·exact hn _ (U4 c) (T k o i F b K c a6 A).symm
   ·exact hn _ (U4 c) (T k o i F b K c a6 A).symm
   ·have J:w.heap.size<=b:=b0
    have N:=(h.st k o K).lt a6;omega
  rcases B i F g4 with ⟨p,g,rfl,rfl⟩|⟨K,Q,a2⟩ <;> rcases B j oj h5 with ⟨q,S,rfl,rfl⟩|⟨e9,b4,f5⟩
  ·rw [O p g] at W;rw [O q S] at Y
   rw [hb.ds p.1 q.1 b (by rw [E _ _ g];simp) (by rw [E _ _ S];simp) W Y]
  ·rw [O p g] at W;rw [I _ b4] at Y
   exact (a5 p g _ _ e9 f5 b W Y).elim
  ·rw [O q S] at Y;rw [I _ Q] at W
   exact (a5 q S _ _ K a2 b Y W).elim
  ·rw [I _ Q] at W;rw [I _ b4] at Y
   exact h.ds i j b (by rw [K];simp) (by rw [e9];simp) W Y
 ·rcases B k o H with ⟨p,g,rfl,rfl⟩|⟨K,Q,a2⟩
  ·rw [O p g] at D
   rw [Obj.ro_ren];rcases hb.ow p.1 p.2 b (E _ _ g) D with ⟨a1,_⟩|⟨i,F,c,a1,A⟩|b0
   ·
    have f1:p.1 ∈ Si.map (·.1):=by
     have:=List.all_eq_true.1 h3 p g
     simpa [a1] using this
    have h9:=List.all_eq_true.1 c9 p g;have f2 : (Si.map (·.1)).contains p.1=true:=by simpa using f1
    simp only [f2,Bool.not_true,Bool.false_or,List.any_eq_true] at h9;obtain ⟨q,S,d0⟩:=h9
    simp only [Bool.and_eq_true,beq_iff_eq] at d0;obtain ⟨o1,g1,g2⟩:=hsi q S
    rw [d0.1] at g1;rw [b6 _ f1] at D
    have f4:o1.ro=p.2.ro:=by rw [<-g2.2.1,Obj.ro_ren,d0.2]
    rw [<-f4];exact h.ow _ o1 b g1 D
   ·exact .inr (a8 i F b c a1 A)
   ·exact .inr (.inr (Nat.le_trans h.fr.size b0))
  ·rw [I k Q] at D
   exact h.ow k o b K D
 ·refine h.fr.trans (hb.stp.mono fun b _ hM=>?_)
  obtain ⟨i,F,c,a1,A⟩:=hM;exact a8 i F b c a1 A
 ·have:=h.pn i u c
  exact ⟨(eR i this.2).trans this.1,.inl this.2⟩
end
end
section
def CV.closed (x:CV):Bool:=x.refs.isEmpty&&x.noSem
def AVal.closed (x:AVal):Bool:=x.refs.isEmpty&&x.noSem
section
variable {w:World} {X:Nat->Prop} {η η' : Nat->Value} {C C' : Ctx}
theorem ARep.free {v:Value} {x:AVal} (h:ARep w X η C v x) (hx:x.closed=true):ARep w X η' C' v x:=by
 simp only [AVal.closed,Bool.and_eq_true,List.isEmpty_iff] at hx;exact (h.mono (fun b _ c=>⟨rfl,c⟩) (fun i a=>by rw [hx.1] at a;cases a)).ctx hx.2
theorem G9.free {vs:Array Value} {cs:List CV} (h:G9 w X η C vs cs) (hx:cs.all CV.closed=true):G9 w X η' C' vs cs:=by
 refine ⟨h.1,fun j a=>?_⟩;have:=List.all_eq_true.1 hx _ (Q0I (d:=.d .any) a)
 simp only [CV.closed,Bool.and_eq_true,List.isEmpty_iff] at this;exact ((h.2 j a).mono (fun b _ f=>⟨rfl,f⟩) (fun i c=>by rw [this.1] at c;cases c)).ctx this.2
end
def J5 (P:Program) (F:List AVal->AVal->Prop) (w0:World) (D X:Nat->Prop) (v:Value):Prop:=
 ∃ f caps,v=.func (.func f) #[] caps/\(∀ args w,(callFunc f args).run P w=.ok (.enter f args) w) /\
  ∀ (w1:World) (X1:Nat->Prop) (vs:Array Value) (args:List AVal) (r:AVal),F args r->w0.heap.size<=w1.heap.size->(∀ b,b<w0.heap.size->¬ D b->w1.heap[b]?=w0.heap[b]?)->(∀ b,X1 b->b<w1.heap.size) ->
   (∀ b,b<w0.heap.size->¬ D b->(X1 b↔X b))->vs.size=args.length->(∀ j,j<args.length->∀ η C,ARep w1 X1 η C (vs.getD j undef) (args.getD j .any)) ->
   Calls P f (vs++caps) w1 fun e w'=>∃ v',e=.returned v' /\ Stp (fun _=>False) w1 w' /\ ∀ η C,ARep w' X1 η C v' r
def Z4t (P:Program) (F:List AVal->AVal->Prop):AVal:=.v (.c (.sem (J5 P F)))
section
variable {P:Program} {C:Ctx} {nt:Nat} {ops:Array Oper} {e:Env} {s:Sto}
theorem Z5R {o:Oper} {fx:Operand} {xs:Array Operand} {tys:Array TypeId} (hop:o.op=.call { callee:=.value fx,args:=xs,argTypes:=tys }) {a:Act} {w:World} {f:Nat} {caps:Array Value} (hf:a.eval fx=.func (.func f) #[] caps)
  (hcall:∀ args w,(callFunc f args).run P w=.ok (.enter f args) w):(execOp a.eval o).run P w=.ok (.enter f (xs.map a.eval++caps)) w:=by
 simp [execOp,hop,resolve,Deferred.ofValue,hf,invoke,hcall]
theorem Q5w {o:Oper} (hdo:Q1E nt o=true):∀ x,o.dst=some x->x<nt:=by
 intro x a;simp only [Q1E,a,Bool.and_eq_true,decide_eq_true_eq] at hdo
 exact hdo.1
theorem Z8o {w:World} {X:Nat->Prop} {η:Nat->Value} {v:Value} {f:Nat} {ids:List Nat} (h:ARep w X η C v (.v (.c (.clo f ids)))):v=.func (.func f) #[] (ids.map η).toArray:=by
 cases h with|v _ _ h=>cases h with|c _ _ h=>cases h with|clo _ _ vs h=>rw [h]
theorem Y7M {f:Nat} (hcall:∀ args w,(callFunc f args).run P w=.ok (.enter f args) w) {o:Oper} {fx:Operand} {xs:Array Operand} {tys:Array TypeId} (hop:o.op=.call { callee:=.value fx,args:=xs,argTypes:=tys })
  (hfx:aev e fx=.v (.c (.clo f []))) (hrf:Q5I (Q0h o++V4 ops o) fx=true) {args:List AVal} {Si:List (Nat×Obj)} {r:AVal} {So:List (Nat×Obj)} (hspec:Q7 P f args Si r So) (hlen:xs.size=args.length) (m:Nat->Nat) (extra:List Nat)
  (hargs:∀ j,j<args.length->y6 C nt e s Si m (Q0h o++V4 ops o) (Z1O e o++(Si.map (fun p=>m p.1)++extra)) (xs.toList.getD j (.const undef)) (args.getD j .any))
  (hsi:∀ p ∈ Si,∃ o1,s (m p.1)=some o1/\OLe o1 (p.2.ren m)) (hchk:Q6L m r Si So=true) (hdo:Q1E nt o=true) (hg:Q8o ops e o=some true):StT P C nt ops o (Y3y ops o e m extra r Si So) e s:=by
 intro R η e0 F a w l k L h K Q hK;have W:=Q5A (e:=e) h (fun t ht=>l t (List.mem_append.2 (.inr ht))) hg
 rw [if_pos W];have D:=(W2 h fx).1
 rw [J2 l hrf,hfx] at D;have z:=Z8o D
 have O:=Z5R (w:=w) hop z hcall;have d:∀ p ∈ Si,∃ o1,F (m p.1)=some o1/\OLe o1 (p.2.ren m):=by
  intro p S;rw [k (m p.1) (List.mem_append.2 (.inr (List.mem_append.2 (.inl (List.mem_map.2 ⟨p,S,rfl⟩)))))]
  exact hsi p S
 simp only [Q6L,Bool.and_eq_true] at hchk;have q:=hchk
 obtain ⟨⟨⟨⟨⟨⟨⟨⟨⟨c1,c2⟩,Z⟩,c4⟩,c5⟩,c6⟩,c7⟩,c8⟩,c9⟩,a5⟩:=hchk;have y:∀ b,XS C F η b->b<w.heap.size:=by
  rintro b (⟨hx,_⟩|hx)
  ·exact Nat.lt_of_lt_of_le (h.ok.lt b hx) h.fr.size
  ·exact h.lt hx
 have E:∀ i x,ls Si i=some x -> x.noSem=true:=fun i x g=>List.all_eq_true.1 c7 _ (U4 g)
 have J:=hspec w (XS C F η) (fun i=>η (m i)) (xs.map a.eval++(([]:List Nat).map η).toArray) y
  (fun b ⟨i,x,g,hib⟩=>by obtain ⟨o1,A,_⟩:=d _ (U4 g);exact .inr ⟨m i,o1,A,hib⟩)
  (fun i x g=>by
   obtain ⟨o1,A,M⟩:=d _ (U4 g);exact (ORep.unren (M.1 _ _ _ _ _ (h.st _ o1 A))).ctx (E i x g))
  (fun i j b g u N I=>by
   obtain ⟨oi,g⟩:=Option.ne_none_iff_exists'.1 g;obtain ⟨oj,u⟩:=Option.ne_none_iff_exists'.1 u
   obtain ⟨o1,A,_⟩:=d _ (U4 g);obtain ⟨o2,h2,_⟩:=d _ (U4 u)
   have B:m i=m j:=h.ds _ _ b (by rw [A];simp) (by rw [h2];simp) N I;have T:=Q4y Z
   rw [List.nodup_append] at T;exact Y5w (ρ:=m) T.2.1 (by rw [g];simp) (by rw [u];simp) B)
  (by simp [hlen])
  (fun j u=>by
   have G : j<xs.size:=by omega
   have e1:(xs.map a.eval++(([]:List Nat).map η).toArray).getD j undef=a.eval (xs.toList.getD j (.const undef)):=by
    simp [List.getD_eq_getElem?_getD,G]
   rw [e1];exact hargs j u R η e0 F a w l k h)
 unfold Oper.wp;rw [O]
 show Calls P f _ w _;refine J.mono fun en Y V=>?_
 obtain ⟨v,η',rfl,hb⟩:=V;have n:Q6L m r Si So=true:=by simp only [Q6L,Bool.and_eq_true];exact q
 obtain ⟨U,H⟩:=h.call (Q5w hdo) n d L hb;exact hK U _ Y H
def Z4F (ops:Array Oper) (o:Oper) (e:Env) (r:AVal):Eff where
 rd:=Q0h o++V4 ops o
 ids:=Z1O e o
 v:=r
 l:=[]
 news:=[]
theorem Y3K {F:List AVal->AVal->Prop} {o:Oper} {fx:Operand} {xs:Array Operand} {tys:Array TypeId} (hop:o.op=.call { callee:=.value fx,args:=xs,argTypes:=tys }) (hfx:aev e fx=Z4t P F) {args:List AVal} {r:AVal} (hF:F args r) (hlen:xs.size=args.length)
  (hrd' : Q5I (Q0h o++V4 ops o) fx=true/\∀ x ∈ xs.toList,Q5I (Q0h o++V4 ops o) x=true)
  (hargs:∀ j,j<args.length->ALe (aev e (xs.toList.getD j (.const undef))) (args.getD j .any)/\(args.getD j .any).closed=true) (hr:r.closed=true) (hdo:Q1E nt o=true) (hg:Q8o ops e o=some true):StT P C nt ops o (Z4F ops o e r) e s:=by
 intro R η e0 q a w m a0 a9 g K Q hK;have hw:=Q5A (e:=e) g (fun t ht=>m t (List.mem_append.2 (.inr ht))) hg
 rw [if_pos hw];have p:=(W2 g fx).1
 rw [J2 m hrd'.1,hfx] at p;have G:J5 P F C.w0 C.D C.X (a.eval fx):=by
  generalize a.eval fx=u at p
  cases p with|v _ _ h=>cases h with|c _ _ h=>cases h with|sem _ _ h _=>exact h
 obtain ⟨f,a1,N,n,S⟩:=G;have V:=Z5R (w:=w) hop N n
 have B:∀ b,XS C q η b->b<w.heap.size:=by
  rintro b (⟨d,_⟩|d)
  ·exact Nat.lt_of_lt_of_le (g.ok.lt b d) g.fr.size
  ·exact g.lt d
 have T:=S w (XS C q η) (xs.map a.eval) args r hF g.fr.size (fun b J A=>g.fr.block b J fun hM=>A (g.ok.md b hM)) B
  (fun b J A=>⟨fun d=>by
   rcases d with ⟨d,_⟩|⟨i,o',U,L⟩
   ·exact d
   ·rcases g.ow i o' b U L with ⟨_,I⟩|I|I
    ·exact absurd I A
    ·exact absurd (g.ok.md b I) A
    ·omega,fun d=>.inl ⟨d,A⟩⟩) (by simp [hlen])
  (fun j z η2 C2=>by
   have y : j<xs.size:=by omega
   have e1:(xs.map a.eval).getD j undef=a.eval (xs.toList.getD j (.const undef)):=by simp [List.getD_eq_getElem?_getD,y]
   rw [e1];obtain ⟨g1,g2⟩:=hargs j z
   have d:=(W2 g (xs.toList.getD j (.const undef))).1;rw [J2 m (hrd'.2 _ (Q0I (by simpa using y)))] at d
   exact (g1.1 _ _ _ _ _ d).free g2)
 unfold Oper.wp;rw [V]
 show Calls P f _ w _;refine T.mono fun en Z hh=>?_
 obtain ⟨v,rfl,E,H⟩:=hh;have Y:SR.sto { v:=r } o.dst q=q:=by funext i;simp [SR.sto]
 have W:SR.eta { v:=r } o.dst v η=η:=by funext i;simp [SR.eta]
 have M:SR.rng { v:=r } o.dst R=R:=by funext i;simp [SR.rng]
 have:=g.step o.dst (Q5w hdo) { v:=r } v Z (fun _=>False) E (fun b J=>J.elim) (fun o dd O=>by cases O) (fun k o O=>by cases O)
  (fun _=>by rw [Y,W];refine ⟨H _ _,fun j z=>?_⟩;simp only [AVal.closed,Bool.and_eq_true,List.isEmpty_iff] at hr;simp only at z;rw [hr.1] at z;cases z)
 rw [Y,W,M] at this;refine hK η _ Z ?_
 have hu:upS (Z4F ops o e r).l q=q:=by funext i;rfl
 rw [hu];exact this.wider fun i U=>.inl U
theorem y6.sem {F:List AVal->AVal->Prop} {Si:List (Nat×Obj)} {m:Nat->Nat} {rd ids:List Nat} {x:Operand} (hx:Q5I rd x=true) (hv:aev e x=Z4t P F) (hsi:∀ p ∈ Si,∃ o1,s (m p.1)=some o1) (hin:∀ p ∈ Si,m p.1 ∈ ids):y6 C nt e s Si m rd ids x (Z4t P F):=by
 intro R η e0 Z a w N A k;have t:=(W2 k x).1
 rw [J2 N hx,hv] at t;have J:J5 P F C.w0 C.D C.X (a.eval x)/\(a.eval x).oneCell'=true:=by
  generalize a.eval x=u at t
  cases t with|v _ _ h=>cases h with|c _ _ h=>cases h with|sem _ _ h d=>exact ⟨h,d⟩
 obtain ⟨⟨f,B,O,q,S⟩,I⟩:=J;refine .v _ _ (.c _ _ (.sem _ _ ⟨f,B,O,q,?_⟩ I))
 intro V X1 W z r hF U G Q T M l;have K : w.heap.size<=V.heap.size:=U
 have H:∀ b,Own (ls Si) (fun i=>η (m i)) b->Own Z η b:=by
  rintro b ⟨i,L,y,g⟩;obtain ⟨o1,d⟩:=hsi _ (U4 y)
  exact ⟨m i,o1,by rw [A _ (hin _ (U4 y))];exact d,g⟩
 have E:∀ b,b<C.w0.heap.size->¬ C.D b->¬ Own (ls Si) (fun i=>η (m i)) b:=by
  intro b o j ho;obtain ⟨i,L,y,g⟩:=H b ho
  rcases k.ow i L b y g with ⟨_,d⟩|d|d
  ·exact j d
  ·exact j (k.ok.md b d)
  ·omega
 refine S V X1 W z r hF (Nat.le_trans k.fr.size K) (fun b o j=>?_) Q (fun b o j=>?_) M l
 ·have n:b<w.heap.size:=Nat.lt_of_lt_of_le o k.fr.size
  exact (G b n (E b o j)).trans (k.fr.block b o fun Y=>j (k.ok.md b Y))
 ·have n:b<w.heap.size:=Nat.lt_of_lt_of_le o k.fr.size
  rw [T b n (E b o j)];constructor
  ·rintro (⟨hx,_⟩|⟨i,L,y,g⟩)
   ·exact hx
   ·rcases k.ow i L b y g with ⟨_,d⟩|d|d
    ·exact absurd d j
    ·exact absurd (k.ok.md b d) j
    ·omega
  ·exact fun hx=>.inl ⟨hx,j⟩
def Q9U (cs:List (List CV)):List (Nat×Obj):=cs.zipIdx.map fun p=>(p.2,.box true p.1)
def Z7s (cs:List (List CV)):List AVal:=(List.range cs.length).map fun k=>.v (.c (.ptr k 0))
theorem Y6F (cs:List (List CV)) (k:Nat):ls (Q9U cs) k=(cs[k]?).map (Obj.box true):=by
 have a:∀ (l:List (List CV)) (n k:Nat),((l.zipIdx n).map fun p=>(p.2,Obj.box true p.1)).lookup k=if k<n then none else (l[k-n]?).map (Obj.box true):=by
  intro l
  induction l with
  | nil=>intro n k;simp
  | cons x l ih=>
   intro n k;simp only [List.zipIdx_cons,List.map_cons,List.lookup_cons]
   by_cases hk:k=n
   ·subst hk;simp
   ·have:(k==n)=false:=by simpa using hk
    simp only [this];rw [ih (n+1) k]
    by_cases h1:k<n
    ·rw [if_pos (by omega),if_pos h1]
    ·rw [if_neg (by omega),if_neg h1]
     have:k-n=(k-(n+1))+1:=by omega
     rw [this];simp
 have:=a cs 0 k
 simpa [ls,Q9U] using this
theorem y6.clo {f:Nat} (hcall:∀ args w,(callFunc f args).run P w=.ok (.enter f args) w) {F:List AVal->AVal->Prop} {cs:List (List CV)} (hspec:∀ args r,F args r->Q7 P f (args++Z7s cs) (Q9U cs) r (Q9U cs)) (hres:∀ args r,F args r->r.closed=true)
  {Si:List (Nat×Obj)} {m:Nat->Nat} {rd ids:List Nat} {x:Operand} (hx:Q5I rd x=true) {cids:List Nat} (hv:aev e x=.v (.c (.clo f cids))) (hlen:cids.length=cs.length) (hnd:Q3m cids=true) (hbox:∀ k,k<cs.length->∃ ro,s (cids.getD k 0)=some (.box ro (cs.getD k [])))
  (hcl:cs.all (fun c=>c.all CV.closed)=true) (hsi:∀ p ∈ Si,∃ o1,s (m p.1)=some o1) (hin:∀ p ∈ Si,m p.1 ∈ ids) (hcin:∀ i ∈ cids,i ∈ ids) (hapart:∀ p ∈ Si,m p.1 ∉ cids):y6 C nt e s Si m rd ids x (Z4t P F):=by
 intro R η e0 U a w b6 B W;have a2:=(W2 W x).1
 rw [J2 b6 hx,hv] at a2;have Y:=Z8o a2
 refine .v _ _ (.c _ _ (.sem _ _ ⟨f,_,Y,hcall,?_⟩ (by rw [Y];rfl)));intro w1 T I args r hF c4 K c0 a3 b1 L
 have c7 : w.heap.size<=w1.heap.size:=c4;have z:∀ k,k<cs.length->cids.getD k 0 ∈ cids:=fun k t=>Q0I (by omega)
 have l:∀ k,k<cs.length->∃ ro,U (cids.getD k 0)=some (.box ro (cs.getD k [])):=by
  intro k t;obtain ⟨ro,d⟩:=hbox k t
  exact ⟨ro,by rw [B _ (hcin _ (z k t))];exact d⟩
 have y:∀ k,k<cs.length->∃ b N S,η (cids.getD k 0)=.pointer (some ⟨b,0,none⟩)/\w.heap[b]?=some (.cells N S (0,0))/\G9 w (XS C U η) η C N (cs.getD k []):=by
  intro k t;obtain ⟨ro,d⟩:=l k t
  have:=W.st _ _ d
  generalize η (cids.getD k 0)=u at this
  cases this with
  | box b _ N S _ G hcs=>exact ⟨b,N,S,rfl,G,hcs⟩
 have E:∀ k,k<cs.length->∀ b,b ∈ Y5 (η (cids.getD k 0))->¬ Own (ls Si) (fun i=>η (m i)) b:=by
  rintro k t b G ⟨i,A,g,n⟩;obtain ⟨ro,d⟩:=l k t
  obtain ⟨o1,H⟩:=hsi _ (U4 g);have a5 : U (m i)=some o1:=by rw [B _ (hin _ (U4 g))];exact H
  have:=W.ds _ _ b (by rw [d];simp) (by rw [a5];simp) G n
  exact hapart _ (U4 g) (this ▸ z k t)
 have b5:∀ b,Own (ls Si) (fun i=>η (m i)) b->XS C U η b:=by
  rintro b ⟨i,A,g,n⟩;obtain ⟨o1,H⟩:=hsi _ (U4 g)
  exact .inr ⟨m i,o1,by rw [B _ (hin _ (U4 g))];exact H,n⟩
 have t:Q7b w w1 (XS C U η) T:=by
  intro b G hX;have a1:¬ Own (ls Si) (fun i=>η (m i)) b:=fun V=>hX (b5 b V)
  exact ⟨K b G a1,fun hx=>hX ((a3 b G a1).1 hx)⟩
 have q:∀ k o,ls (Q9U cs) k=some o->k<cs.length/\o=.box true (cs.getD k []):=by
  intro k o t;rw [Y6F] at t
  rcases Nat.lt_or_ge k cs.length with d|d
  ·rw [List.getElem?_eq_getElem d] at t
   cases t
   exact ⟨d,by rw [List.getD_eq_getElem?_getD,List.getElem?_eq_getElem d];rfl⟩
  ·rw [List.getElem?_eq_none d] at t;cases t
 have D:∀ b,Own (ls (Q9U cs)) (fun k=>η (cids.getD k 0)) b->T b:=by
  rintro b ⟨k,A,M,O⟩;obtain ⟨h,_⟩:=q k A M
  obtain ⟨ro,d⟩:=l k h;have b0:b<w.heap.size:=(W.st _ _ d).lt O
  exact (a3 b b0 (E k h b O)).2 (.inr ⟨_,_,d,O⟩)
 have a8:=hspec args r hF w1 T (fun k=>η (cids.getD k 0)) (I++(cids.map η).toArray) c0 D
  (fun k o M=>by
   obtain ⟨h,rfl⟩:=q k o M;obtain ⟨b,N,S,d,H,h3⟩:=y k h
   have b7:=E k h b (by rw [d];simp [Y5]);show ORep w1 T _ _ (η (cids.getD k 0)) _
   rw [d];have c2:(cs.getD k []).all CV.closed=true:=List.all_eq_true.1 hcl _ (Q0I h)
   exact .box b true N S _ ((K b (K8 H) b7).trans H) ((h3.mono (η':=η) t (fun _ _=>rfl)).free c2))
  (fun i j b g Q a9 b9=>by
   obtain ⟨oi,g⟩:=Option.ne_none_iff_exists'.1 g;obtain ⟨oj,Q⟩:=Option.ne_none_iff_exists'.1 Q
   obtain ⟨b3,_⟩:=q i oi g;obtain ⟨b8,_⟩:=q j oj Q
   obtain ⟨r1,d⟩:=l i b3;obtain ⟨r2,H⟩:=l j b8
   have Z:=W.ds _ _ b (by rw [d];simp) (by rw [H];simp) a9 b9;have hn:=Q4y hnd
   have a7:i<cids.length:=by omega
   have a6:j<cids.length:=by omega
   rw [List.getD_eq_getElem?_getD,List.getD_eq_getElem?_getD,List.getElem?_eq_getElem a7,List.getElem?_eq_getElem a6] at Z;exact (List.getElem_inj hn).1 (by simpa using Z))
  (by simp [b1,Z7s,hlen])
  (fun j Q=>by
   rw [List.length_append] at Q
   by_cases hja:j<args.length
   ·have e1:(I++(cids.map η).toArray).getD j undef=I.getD j undef:=by
     have:j<I.size:=by omega
     simp [Array.getD_eq_getD_getElem?,Array.getElem?_append,this]
    have e2:(args++Z7s cs).getD j .any=args.getD j .any:=by simp [List.getD_eq_getElem?_getD,List.getElem?_append,hja]
    rw [e1,e2];exact L j hja _ _
   ·have h:j-args.length<cs.length:=by simp [Z7s] at Q;omega
    obtain ⟨b,N,S,d,H,h3⟩:=y _ h;have e1:(I++(cids.map η).toArray).getD j undef=η (cids.getD (j-args.length) 0):=by
     have g1:¬ j<I.size:=by omega
     have g2:j-I.size<cids.length:=by omega
     have g3:j-args.length<cids.length:=by omega
     have:j-I.size=j-args.length:=by omega
     simp [Array.getD_eq_getD_getElem?,Array.getElem?_append,g1,List.getD_eq_getElem?_getD,this,g3]
    have e2:(args++Z7s cs).getD j .any=.v (.c (.ptr (j-args.length) 0)):=by
     simp [List.getD_eq_getElem?_getD,List.getElem?_append,hja,Z7s,h]
    rw [e1,e2,d];exact .v _ _ (.c _ _ (.ptr b _ 0 d)))
 refine a8.mono fun en w' hh=>?_
 obtain ⟨v,η',rfl,G⟩:=hh;refine ⟨v,rfl,G.stp.mono fun b _ hM=>?_,fun η2 C2=>?_⟩
 ·obtain ⟨i,A,g,b2,_⟩:=hM
  obtain ⟨_,rfl⟩:=q i A g;cases b2
 ·have hX:∀ b,XS (J4 (Q9U cs) w1 T fun k=>η (cids.getD k 0)) (ls (Q9U cs)) η' b↔T b:=by
   have J:∀ i A,ls (Q9U cs) i=some A -> η' i=η (cids.getD i 0):=by
    intro i A g;refine G.pn i _ ?_
    unfold ls at g;simp [J4,g]
   intro b;constructor
   ·rintro (⟨hx,_⟩|⟨i,A,g,n⟩)
    ·exact hx
    ·rw [J i A g] at n
     exact D b ⟨i,A,g,n⟩
   ·intro hx
    rcases Classical.em (Own (ls (Q9U cs)) (fun k=>η (cids.getD k 0)) b) with V|V
    ·obtain ⟨i,A,g,n⟩:=V
     exact .inr ⟨i,A,g,by rw [J i A g];exact n⟩
    ·exact .inl ⟨hx,V⟩
  exact (G.res.mono (η':=η') (fun b _ hx=>⟨rfl,fun b4=>hx ((hX b).2 b4)⟩) (fun _ _=>rfl)).free (hres args r hF)
end
end
section
class Emb (α:Type) where
 cells:α->List DVal
 es:Nat
 d:α
 len:∀ x,(cells x).length=es
section
variable {α:Type} [Emb α]
def LF (l:List α) (i:Nat):List DVal:=Emb.cells (l.getD i Emb.d)
def DL (l:List α):DVal:=.lst l.length (LF l)
def AL (l:List α):AVal:=.v (.c (.d (DL l)))
def AO (l:List α):Obj:=.arr (Emb.es α) l.length (LF l)
structure Is (n:Nat) (f:Nat->List DVal) (l:List α):Prop where
 len_eq:n=l.length
 at_eq:∀ i,i<n->f i=LF l i
theorem Is.refl (l:List α):Is l.length (LF l) l:=⟨rfl,fun _ _=>rfl⟩
theorem Is.nil {f:Nat->List DVal}:Is 0 f ([]:List α):=⟨rfl,fun i a=>by omega⟩
theorem Is.app {n k:Nat} {f g:Nat->List DVal} {l m:List α} (h:Is n f l) (h' : Is k g m):Is (n+k) (Q5y n f g) (l++m):=by
 obtain ⟨d,b⟩:=h;obtain ⟨a,c⟩:=h'
 subst d a;refine ⟨by simp,fun i j=>?_⟩
 unfold Q5y LF
 by_cases hil:i<l.length
 ·rw [if_pos hil,b i hil,LF,List.getD_eq_getElem?_getD,List.getD_eq_getElem?_getD,List.getElem?_append_left hil]
 ·rw [if_neg hil,c _ (by omega),LF,List.getD_eq_getElem?_getD,List.getD_eq_getElem?_getD,List.getElem?_append_right (by omega)]
theorem Y7j {β γ:Type} {l:List β} {m:List γ} {δ:Type} {f:β->δ} {g:γ->δ} (h:l.map f=m.map g) (i:Nat):(l[i]?).map f=(m[i]?).map g:=by
 rw [<-List.getElem?_map, <-List.getElem?_map,h]
theorem Is.lit {k:Nat} {g:Nat->List DVal} (ys:List α) (h:(List.range k).map g=ys.map Emb.cells):Is k g ys:=by
 have b:k=ys.length:=by simpa using congrArg List.length h
 refine ⟨b,fun i a=>?_⟩;have:=Y7j h i
 rw [List.getElem?_range a,List.getElem?_eq_getElem (by omega)] at this;simp only [Option.map_some,Option.some.injEq] at this
 rw [this,LF,List.getD_eq_getElem?_getD,List.getElem?_eq_getElem (by omega)];rfl
theorem Is.set {n i:Nat} {f:Nat->List DVal} {l:List α} {off:Nat} {ds:List DVal} (h:Is n f l) (hi:i<n) (y:α) (hy:Q4E (f i) off ds=Emb.cells y) :
  Is n (fun j=>if j=i then Q4E (f i) off ds else f j) (l.set i y):=by
 obtain ⟨b,c⟩:=h;refine ⟨by simpa using b,fun j a=>?_⟩
 unfold LF;rw [List.getD_eq_getElem?_getD]
 by_cases hji:j=i
 ·subst hji
  rw [if_pos rfl,hy,List.getElem?_set_self (by omega)];rfl
 ·rw [if_neg hji,List.getElem?_set_ne (fun h=>hji h.symm),c j a,LF,List.getD_eq_getElem?_getD]
theorem Is.take {n:Nat} {f:Nat->List DVal} {l:List α} (h:Is n f l) {k:Int} (hk:k<=n):Is k.toNat f (l.take k.toNat):=by
 obtain ⟨c,a⟩:=h;refine ⟨by simp;omega,fun j b=>?_⟩
 rw [a j (by omega),LF,LF,List.getD_eq_getElem?_getD,List.getD_eq_getElem?_getD,List.getElem?_take,if_pos b]
theorem Is.len {n:Nat} {f:Nat->List DVal} {l:List α} (h:Is n f l):∀ j,j<n->(f j).length=Emb.es α:=fun j a=>by rw [h.at_eq j a];exact Emb.len _
theorem DRep.is {w:World} {X:Nat->Prop} {v:Value} {n:Nat} {f:Nat->List DVal} {l:List α} (h:Is n f l) (hr:DRep w X v (.lst n f)):DRep w X v (DL l):=by
 obtain ⟨g,k⟩:=h;unfold DL
 cases hr with
 | nil a cap _=>
  have:l.length=0:=g.symm
  rw [this];exact .nil a cap _
 | lst b off n cap c e fz _ es g1 g2 g3 g4 g5 g6=>
  rw [<-g];exact .lst b off n cap c e fz _ es g1 g2 g3 g4 (fun i d=>by rw [<-k i d];exact g5 i d) fun i j d m=>by rw [<-k i d];exact g6 i j d m
theorem OLe.is {n:Nat} {f:Nat->List DVal} {l:List α} (h:Is n f l):OLe (.arr (Emb.es α) n f) (AO l):=by
 refine ⟨fun w X η C v m=>?_,rfl,fun i a=>by cases a⟩;obtain ⟨g,d⟩:=h
 unfold AO
 cases m with
 | nil ad es _=>
  have:l.length=0:=g.symm
  rw [this];exact .nil ad _ _
 | arr b n cap es c e _ g1 g2 g3 g4 g5 g6 g7=>
  rw [<-g];exact .arr b n cap _ c e _ g1 g2 g3 g4 g5 (fun i a=>by rw [<-d i a];exact g6 i a) fun i j a k=>by rw [<-d i a];exact g7 i j a k
theorem Z6t (l:List α) (lo hi:Option Int) (h:(sl l.length (LF l) lo hi).2):Is (sl l.length (LF l) lo hi).1.1 (sl l.length (LF l) lo hi).1.2
  (match lo,hi with|none,none=>l|some a,none=>l.drop a.toNat|none,some b=>l.take b.toNat|some a,some b=>(l.take b.toNat).drop a.toNat):=by
 cases lo with
 | none=>cases hi with
  | none=>exact .refl l
  | some b=>exact (Is.refl l).take h.2
 | some a=>cases hi with
  | none=>
   refine ⟨by simp [sl],fun i hi=>?_⟩;simp only [sl,LF,List.getD_eq_getElem?_getD,List.getElem?_drop]
  | some b=>
   simp only [sl] at h;refine ⟨by simp only [sl,List.length_drop,List.length_take];omega,fun i hi=>?_⟩
   simp only [sl] at hi;simp only [sl,LF,List.getD_eq_getElem?_getD,List.getElem?_drop,List.getElem?_take]
   rw [if_pos (by omega)]
end
def CLe (x y:CV):Prop:=(∀ w X η C v,CRep w X η C v x->CRep w X η C v y)/\∀ i ∈ y.refs,i ∈ x.refs
theorem CLe.refl (x:CV):CLe x x:=⟨fun _ _ _ _ _ h=>h,fun _ h=>h⟩
theorem CLe.lst {α:Type} [Emb α] {n:Nat} {f:Nat->List DVal} {l:List α} (h:Is n f l):CLe (.d (.lst n f)) (.d (DL l)):=
 ⟨fun w X η C v a=>by cases a with|d _ _ a=>exact .d _ _ (a.is h),fun i b=>by cases b⟩
theorem CLe.fl {α:Type} [Emb α] {n:Nat} {f:Nat->List DVal} {l:List α} (h:Is n f l):CLe (.fl n f) (.d (DL l)):=
 ⟨fun w X η C v a=>by cases a with|fl _ _ _ a=>exact .d _ _ (a.is h),fun i b=>by cases b⟩
theorem CLe.fls {α:Type} [Emb α] {n:Nat} {f:Nat->List DVal} {l:List α} (h:Is n f l):CLe (.fl n f) (.fl l.length (LF l)):=
 ⟨fun w X η C v a=>by
  cases a with
  | fl _ _ _ a=>
   have:=a.is h
   unfold DL at this;have c:=h.len_eq
   subst c;exact .fl _ _ _ this,fun i b=>by cases b⟩
def Y4L:List CV->List CV->Prop
 | [],[]=>True
 | x::xs,y::ys=>CLe x y/\Y4L xs ys
 | _,_=>False
theorem Y4L.spec {xs ys:List CV} (h:Y4L xs ys):xs.length=ys.length/\(∀ j,CLe (xs.getD j (.d .any)) (ys.getD j (.d .any)))/\∀ i ∈ ys.flatMap CV.refs,i ∈ xs.flatMap CV.refs:=by
 induction xs generalizing ys with
 | nil=>cases ys with
  | nil=>exact ⟨rfl,fun j=>CLe.refl _,fun i a=>a⟩
  | cons y ys=>exact h.elim
 | cons x xs ih=>cases ys with
  | nil=>exact h.elim
  | cons y ys=>
   obtain ⟨b,k⟩:=h;obtain ⟨c,g,f⟩:=ih k
   refine ⟨by simp [c],fun j=>?_,fun i a=>?_⟩
   ·cases j with
    | zero=>exact b
    | succ j=>exact g j
   ·simp only [List.flatMap_cons,List.mem_append] at a ⊢
    rcases a with a|a
    ·exact .inl (b.2 i a)
    ·exact .inr (f i a)
theorem Y4L.rep {xs ys:List CV} (h:Y4L xs ys) {w:World} {X:Nat->Prop} {η:Nat->Value} {C:Ctx} {vs:Array Value} (hv:G9 w X η C vs xs):G9 w X η C vs ys:=by
 obtain ⟨a,b,_⟩:=h.spec;exact ⟨hv.1.trans a,fun j c=>(b j).1 _ _ _ _ _ (hv.2 j (by omega))⟩
def TLe (x y:TV):Prop:=(∀ w X η C v,TRep w X η C v x->TRep w X η C v y)/\∀ i ∈ y.refs,i ∈ x.refs
theorem TLe.c {x y:CV} (h:CLe x y):TLe (.c x) (.c y):=⟨fun w X η C v a=>by cases a with|c _ _ a=>exact .c _ _ (h.1 _ _ _ _ _ a),h.2⟩
theorem TLe.g {xs ys:List CV} (h:Y4L xs ys):TLe (.g xs) (.g ys):=⟨fun w X η C v a=>by cases a with|g _ _ a=>exact .g _ _ (h.rep a),h.spec.2.2⟩
theorem ALe.v {x y:TV} (h:TLe x y):ALe (.v x) (.v y):=⟨fun w X η C v a=>by cases a with|v _ _ a=>exact .v _ _ (h.1 _ _ _ _ _ a),h.2⟩
theorem ALe.c {x y:CV} (h:CLe x y):ALe (.v (.c x)) (.v (.c y)):=.v (.c h)
theorem ALe.g {xs ys:List CV} (h:Y4L xs ys):ALe (.v (.g xs)) (.v (.g ys)):=.v (.g h)
theorem OLe.box {ro:Bool} {xs ys:List CV} (h:Y4L xs ys):OLe (.box ro xs) (.box ro ys):=
 ⟨fun w X η C v a=>by cases a with|box b _ c e _ h1 h2=>exact .box b ro c e _ h1 (h.rep h2),rfl,h.spec.2.2⟩
theorem ALe.lst {α:Type} [Emb α] {n:Nat} {f:Nat->List DVal} {l:List α} (h:Is n f l):ALe (.v (.c (.d (.lst n f)))) (AL l):=.c (.lst h)
theorem ALe.bool {b c:Bool} (h:b=c):ALe (vb b) (vb c):=.of_eq (congrArg vb h)
def FE:List (Nat×AVal)->List (Nat×AVal)->Prop
 | [],[]=>True
 | (t,x)::E,(u,y)::E'=>t=u/\ALe x y/\FE E E'
 | _,_=>False
def FSl:List (Nat×Obj)->List (Nat×Obj)->Prop
 | [],[]=>True
 | (t,x)::E,(u,y)::E'=>t=u/\OLe x y/\FSl E E'
 | _,_=>False
theorem FE.lk {E E' : List (Nat×AVal)} (h:FE E E') (t:Nat):ALe (lk E t) (lk E' t):=by
 induction E generalizing E' with
 | nil=>cases E' with
  | nil=>exact ALe.refl _
  | cons p r=>exact h.elim
 | cons p r ih=>cases E' with
  | nil=>exact h.elim
  | cons q s=>
   obtain ⟨a,c,b⟩:=h;have:=ih b
   unfold Ab.lk at this ⊢;obtain ⟨u,x⟩:=p
   obtain ⟨d,y⟩:=q;simp only at a
   subst a;rw [List.lookup_cons,List.lookup_cons]
   cases htu:t==u with
   | true=>exact c
   | false=>exact this
theorem FSl.ls {S S' : List (Nat×Obj)} (h:FSl S S') (i:Nat) (o' : Obj) (hi:ls S' i=some o'):∃ o,ls S i=some o/\OLe o o':=by
 induction S generalizing S' with
 | nil=>cases S' with
  | nil=>cases hi
  | cons p r=>exact h.elim
 | cons p r ih=>cases S' with
  | nil=>exact h.elim
  | cons q s=>
   obtain ⟨a,c,b⟩:=h;have:=ih b
   unfold Ab.ls at this hi ⊢;obtain ⟨u,x⟩:=p
   obtain ⟨d,y⟩:=q;simp only at a
   subst a;rw [List.lookup_cons] at hi ⊢
   cases htu:i==u with
   | true=>rw [htu] at hi;cases hi;exact ⟨x,rfl,c⟩
   | false=>rw [htu] at hi;exact this hi
section
variable {P:Program} {C:Ctx} {nt:Nat} {L:Lay} {pins:List Nat} {K:Act->World->Prop} {E:List (Nat×AVal)} {S:List (Nat×Obj)} {Q:Exit->Act->World->Prop}
theorem Q7r (E' : List (Nat×AVal)) (S' : List (Nat×Obj)) (hE:FE E E') (hS:FSl S S') (h:Kn C nt E' S' K):Kn C nt E S K:=by
 intro R η a w c;refine h R (fun i=>η i) a w (c.conv (fun i=>i) (fun t=>by rw [AVal.ren_id];exact hE.lk t) (fun i x b=>?_) (fun i j b f d=>d) (fun u i b=>c.er u i ((hE.lk u).2 i b)) (fun i x b=>?_) (fun i b=>?_))
 ·rw [Obj.ren_id];exact hS.ls i x b
 ·obtain ⟨o,k,g⟩:=hS.ls i x b
  have:=c.sr i o k
  exact ⟨this.1,fun j f=>this.2 j (g.2.2 j f)⟩
 ·obtain ⟨v,l⟩:=Option.ne_none_iff_exists'.1 b
  exact ⟨rfl,(c.pn i v l).2⟩
theorem Fr.pinsB (Fm:Fr P L C pins) {ρ:List (Nat×Nat)} (h:pins.all (fun i=>W9 ρ i==i)=true):pinsB C (W9 ρ):=fun i a=>by
 have:=List.all_eq_true.1 h i (Fm.pin i a)
 simpa using this
theorem Kn.re (Fm:Fr P L C pins) (ρ:List (Nat×Nat)) (E' : List (Nat×AVal)) (S' : List (Nat×Obj)) (hp:pins.all (fun i=>W9 ρ i==i)=true) (hE:E'.map (fun p=>lk E p.1)=E'.map (fun p=>p.2.ren (W9 ρ)))
  (hS:S'.map (fun p=>ls S (W9 ρ p.1))=S'.map (fun p=>some (p.2.ren (W9 ρ)))) (hinj:Q3m (S'.map fun p=>W9 ρ p.1)=true) (h:Kn C nt E' S' K):Kn C nt E S K:=
 W1M ρ (Fm.pinsB hp) hE hS hinj h
def CV.frz (k n:Nat) (f:Nat->List DVal):CV->CV
 | .own i=>if i=k then .d (.lst n f) else .own i
 | .ap i=>if i=k then .d (.lst n f) else .ap i
 | x=>x
def TV.frz (k n:Nat) (f:Nat->List DVal):TV->TV
 | .c x=>.c (x.frz k n f)
 | .g xs=>.g (xs.map (CV.frz k n f))
def AVal.frz (k n:Nat) (f:Nat->List DVal):AVal->AVal
 | .any=>.any
 | .v x=>.v (x.frz k n f)
 | .t xs=>.t (xs.map (TV.frz k n f))
def Obj.frz (k n:Nat) (f:Nat->List DVal):Obj->Obj
 | .box ro cs=>.box ro (cs.map (CV.frz k n f))
 | o=>o
end
section
variable {w:World} {X X' : Nat->Prop} {η:Nat->Value} {C:Ctx} {k n:Nat} {f:Nat->List DVal}
theorem CRep.frz {v:Value} {x:CV} (h:CRep w X η C v x) (hX:∀ b,¬ X b->¬ X' b) (hk:DRep w X' (η k) (.lst n f)):CRep w X' η C v (x.frz k n f):=by
 have a:∀ b,b<w.heap.size->¬ X b->w.heap[b]?=w.heap[b]? /\ ¬ X' b:=fun b _ o=>⟨rfl,hX b o⟩
 cases h with
 | d _ _ h=>exact .d _ _ (h.mono a)
 | fl _ _ _ h=>exact .fl _ _ _ (h.mono a)
 | own _ i h h1=>
  simp only [CV.frz];split
  ·rename_i m;subst m;rw [h];exact .d _ _ hk
  ·exact .own _ _ h h1
 | ptr _ _ _ h=>exact .ptr _ _ _ h
 | pte _ _ _ _ _ _ _ h=>exact .pte _ _ _ _ _ _ _ h
 | sub b N cap _ es lo n h h1 h2=>exact .sub b N cap _ es lo n h h1 h2
 | subN ad ad' N _ es h=>exact .subN ad ad' N _ es h
 | elm b off c e fz cs h1 h2 h3 h4=>exact .elm b off c e fz cs (hX _ h1) h2 h3 fun j g=>(h4 j g).mono a
 | clo _ _ _ h=>exact .clo _ _ _ h
 | sem _ _ h h1=>exact .sem _ _ h h1
 | ap v i h h1=>
  simp only [CV.frz];split
  ·rename_i m
   subst m;rcases h with h|h|⟨l,h⟩
   ·rw [<-h];exact .d _ _ hk
   ·rw [h] at hk;cases hk
   ·rw [h] at hk;cases hk
  ·exact .ap _ _ h h1
 | bnd f vs cs h1 h2=>exact .bnd f vs cs h1 fun j g=>(h2 j g).mono a
 | cp _ id j vs h h1 h2=>exact .cp _ id j vs h h1 h2
theorem G9.frz {vs:Array Value} {cs:List CV} (h:G9 w X η C vs cs) (hX:∀ b,¬ X b->¬ X' b) (hk:DRep w X' (η k) (.lst n f)):G9 w X' η C vs (cs.map (CV.frz k n f)):=by
 refine ⟨by simpa using h.1,fun j c=>?_⟩;have a : j<cs.length:=by simpa using c
 have:=(h.2 j a).frz hX hk
 rw [List.getD_eq_getElem?_getD,List.getElem?_map,List.getElem?_eq_getElem a];rw [List.getD_eq_getElem?_getD,List.getElem?_eq_getElem a] at this
 exact this
theorem TRep.frz {v:Value} {x:TV} (h:TRep w X η C v x) (hX:∀ b,¬ X b->¬ X' b) (hk:DRep w X' (η k) (.lst n f)):TRep w X' η C v (x.frz k n f):=by
 cases h with
 | c _ _ h=>exact .c _ _ (h.frz hX hk)
 | g _ _ h=>exact .g _ _ (h.frz hX hk)
theorem ARep.frz {v:Value} {x:AVal} (h:ARep w X η C v x) (hX:∀ b,¬ X b->¬ X' b) (hk:DRep w X' (η k) (.lst n f)):ARep w X' η C v (x.frz k n f):=by
 cases h with
 | any=>exact .any v
 | v _ _ h=>exact .v _ _ (h.frz hX hk)
 | t us xs h1 h2=>
  refine .t us _ (by simpa using h1) fun j c=>?_
  have a : j<xs.length:=by simpa using c
  have:=(h2 j a).frz hX hk
  rw [List.getD_eq_getElem?_getD,List.getElem?_map,List.getElem?_eq_getElem a];rw [List.getD_eq_getElem?_getD,List.getElem?_eq_getElem a] at this
  exact this
theorem ORep.frz {v:Value} {o:Obj} (h:ORep w X η C v o) (hX:∀ b,¬ X b->¬ X' b) (hk:DRep w X' (η k) (.lst n f)):ORep w X' η C v (o.frz k n f):=by
 cases h with
 | box b ro c e cs h1 h2=>exact .box b ro c e _ h1 (h2.frz hX hk)
 | nil ad es f=>exact .nil ad es f
 | arr b n cap es c e f h1 h2 h3 h4 h5 h6 h7=>exact .arr b n cap es c e f h1 h2 h3 h4 h5 h6 fun i j g d=>(h7 i j g d).mono fun b _ a=>⟨rfl,hX b a⟩
 | ext _ p h1 h2 h3=>exact .ext _ p (h2 w w X X' (fun b _ a=>⟨rfl,hX b a⟩) (fun _ _=>rfl) h1) h2 h3
 | exr _ refs p h1 h2 h3=>exact .exr _ refs p (h2 w w X X' (fun b _ a=>⟨rfl,hX b a⟩) (fun _ _=>rfl) h1) h2 h3
theorem Q4s {α β:Type} {fr:α->List Nat} {gr:β->List Nat} {g:α->β} {l:List α} (h:∀ x,∀ j ∈ gr (g x),j ∈ fr x):∀ j ∈ (l.map g).flatMap gr,j ∈ l.flatMap fr:=by
 intro j a;obtain ⟨y,b,a⟩:=List.mem_flatMap.1 a
 obtain ⟨x,c,rfl⟩:=List.mem_map.1 b;exact List.mem_flatMap.2 ⟨x,c,h x j a⟩
theorem CV.frz_refs (x:CV):∀ j ∈ (x.frz k n f).refs,j ∈ x.refs:=by
 cases x <;> simp only [CV.frz] <;> try exact fun j a=>a
 all_goals
  split
  ·intro j a;cases a
  ·exact fun j a=>a
theorem TV.frz_refs (x:TV):∀ j ∈ (x.frz k n f).refs,j ∈ x.refs:=by
 cases x with
 | c x=>exact CV.frz_refs x
 | g xs=>exact Q4s CV.frz_refs
theorem AVal.frz_refs (x:AVal):∀ j ∈ (x.frz k n f).refs,j ∈ x.refs:=by
 cases x with
 | any=>exact fun j a=>a
 | v x=>exact TV.frz_refs x
 | t xs=>exact Q4s TV.frz_refs
theorem Obj.frz_refs (o:Obj):∀ j ∈ (o.frz k n f).refs,j ∈ o.refs:=by
 cases o with
 | box ro cs=>exact Q4s CV.frz_refs
 | arr es n f=>exact fun j a=>a
 | ext p=>exact fun j a=>a
 | exr refs p=>exact fun j a=>a
end
end
section
section
variable {P:Program} {C:Ctx} {nt:Nat} {L:Lay} {pins:List Nat} {K:Act->World->Prop} {E:List (Nat×AVal)} {S:List (Nat×Obj)} {Q:Exit->Act->World->Prop}
theorem Y3r {g:AVal->AVal} (hg:g .any=.any) (E:List (Nat×AVal)) (t:Nat):lk (E.map fun p=>(p.1,g p.2)) t=g (lk E t):=by
 unfold lk
 induction E with
 | nil=>exact hg.symm
 | cons p r ih=>
  rw [List.map_cons,List.lookup_cons,List.lookup_cons]
  cases htp:t==p.1 with
  | true=>rfl
  | false=>exact ih
theorem Z3v {g:Obj->Obj} (S:List (Nat×Obj)) (i:Nat):ls (S.map fun p=>(p.1,g p.2)) i=(ls S i).map g:=by
 unfold ls
 induction S with
 | nil=>rfl
 | cons p r ih=>
  rw [List.map_cons,List.lookup_cons,List.lookup_cons]
  cases htp:i==p.1 with
  | true=>rfl
  | false=>exact ih
theorem Kn.frz {k es n:Nat} {f:Nat->List DVal} (E' : List (Nat×AVal)) (S' : List (Nat×Obj)) (hE:E.map (fun p=>(p.1,p.2.frz k n f))=E') (hS:S.map (fun p=>(p.1,p.2.frz k n f))=S') (hk:(S.map (·.1)).contains k=false)
  (h:Kn C nt E' S' K):Kn C nt E ((k,.arr es n f)::S) K:=by
 subst hE hS;intro R η a w m
 have z:ls ((k,.arr es n f)::S) k=some (.arr es n f):=by unfold ls;rw [List.lookup_cons];simp
 have I:ls S k=none:=by
  cases ho:ls S k with
  | none=>rfl
  | some o=>
   have:k ∈ S.map (·.1):=List.mem_map.2 ⟨_,U4 ho,rfl⟩
   rw [List.contains_iff_mem.2 this] at hk;cases hk
 have l:∀ i o,ls S i=some o->ls ((k,.arr es n f)::S) i=some o/\i≠k:=by
  intro i o d;have r:i≠k:=by intro h;rw [h,I] at d;cases d
  refine ⟨?_,r⟩;unfold ls;rw [List.lookup_cons]
  have:(i==k)=false:=by simpa using r
  rw [this];exact d
 have y:∀ b,Own (ls (S.map fun p=>(p.1,p.2.frz k n f))) η b->Own (ls S) η b:=by
  rintro b ⟨i,N,d,q⟩;rw [Z3v] at d
  cases ho:ls S i with
  | none=>rw [ho] at d;cases d
  | some o=>exact ⟨i,o,ho,q⟩
 have H:∀ b,¬ XS C (ls ((k,.arr es n f)::S)) η b->¬ XS C (ls (S.map fun p=>(p.1,p.2.frz k n f))) η b:=by
  intro b x G;rcases G with v|v
  ·exact x (.inl v)
  ·obtain ⟨i,o,d,q⟩:=y b v
   exact x (.inr ⟨i,o,(l i o d).1,q⟩)
 have T:∀ b,b<w.heap.size->¬ XS C (ls ((k,.arr es n f)::S)) η b->w.heap[b]?=w.heap[b]? /\ ¬ XS C (ls (S.map fun p=>(p.1,p.2.frz k n f))) η b:=fun b _ x=>⟨rfl,H b x⟩
 have D:∀ b,b ∈ Y5 (η k)->¬ XS C (ls (S.map fun p=>(p.1,p.2.frz k n f))) η b:=by
  intro b x v;rcases v with ⟨v,V⟩|v
  ·rcases m.ow k _ b z x with ⟨A,_⟩|U|W
   ·cases A
   ·exact V (m.ok.md b U)
   ·have:=m.ok.lt b v;omega
  ·obtain ⟨i,o,d,q⟩:=y b v
   obtain ⟨M,J⟩:=l i o d;exact J (m.ds i k b (by rw [M];simp) (by rw [z];simp) q x)
 have F:DRep w (XS C (ls (S.map fun p=>(p.1,p.2.frz k n f))) η) (η k) (.lst n f):=by
  have:=m.st k _ z
  generalize hu:η k=u at this D
  cases this with
  | nil ad es f=>exact .nil ad 0 f
  | arr b n cap es c e f M J h3 h4 h5 h6 h7=>
   have x:¬ XS C (ls (S.map fun p=>(p.1,p.2.frz k n f))) η b:=D b (by simp [Y5];omega);refine .lst b 0 n cap c e _ f es x M h3 (by rw [J,Nat.zero_add];exact Nat.mul_le_mul_right _ h3) h6 fun i j d B=>?_
   rw [Nat.zero_add];exact (h7 i j d B).mono T
 refine h R η a w ⟨m.ok,m.df,m.sz,fun t=>?_,fun t i d=>?_,fun i N d=>?_,fun i N d=>?_,fun i j b d B=>?_,fun i N b d=>?_,m.fr,m.pn⟩
 ·rw [Y3r (g:=AVal.frz k n f) rfl]
  exact (m.ev t).frz H F
 ·rw [Y3r (g:=AVal.frz k n f) rfl] at d
  exact m.er t i (AVal.frz_refs _ i d)
 ·rw [Z3v] at d
  cases ho:ls S i with
  | none=>rw [ho] at d;cases d
  | some o=>
   rw [ho] at d;cases d
   exact (m.st i o (l i o ho).1).frz H F
 ·rw [Z3v] at d
  cases ho:ls S i with
  | none=>rw [ho] at d;cases d
  | some o=>
   rw [ho] at d;cases d
   have:=m.sr i o (l i o ho).1
   exact ⟨this.1,fun j B=>this.2 j (Obj.frz_refs o j B)⟩
 ·have r:∀ i,ls (S.map fun p=>(p.1,p.2.frz k n f)) i≠none->ls ((k,.arr es n f)::S) i≠none:=by
   intro i d O;apply d
   rw [Z3v]
   cases ho:ls S i with
   | none=>rfl
   | some o=>rw [(l i o ho).1] at O;cases O
  exact m.ds i j b (r i d) (r j B)
 ·rw [Z3v] at d
  cases ho:ls S i with
  | none=>rw [ho] at d;cases d
  | some o=>
   rw [ho] at d;cases d
   have A:(o.frz k n f).ro=o.ro:=by cases o <;> rfl
   rw [A];exact m.ow i o b (l i o ho).1
def gd {R:Type} (p:Prop) [Decidable p] (x:Option R):Option R:=if p then x else none
theorem Y6q {R:Type} {p:Prop} [Decidable p] {x:Option R} {r:R} (h:gd p x=some r):p/\x=some r:=by
 unfold gd at h;split at h
 ·exact ⟨‹_›,h⟩
 ·cases h
theorem W0w {α R:Type} {x:Option α} {f:α->Option R} {r:R} (h:x.bind f=some r):∃ z,x=some z/\f z=some r:=by
 cases x with
 | none=>cases h
 | some z=>exact ⟨z,rfl,h⟩
def br {R:Type} (b:Bool) (x y:Option R):Option R:=match b with|true=>x|false=>y
theorem W1Y {R:Type} {b:Bool} {x y:Option R} {r:R} (h:br b x y=some r) (hb:b=true):x=some r:=by subst hb;exact h
theorem W1Z {R:Type} {b:Bool} {x y:Option R} {r:R} (h:br b x y=some r) (hb:b=false):y=some r:=by subst hb;exact h
def Z6 {σ R:Type} (body:(σ->Option R)->σ->Option R):Nat->σ->Option R
 | 0,_=>none
 | n+1,z=>body (Z6 body n) z
theorem Y6P {σ R:Type} {r:R} {x y:Code} (f:σ->Option R) (E' : σ->List (Nat×AVal)) (S' : σ->List (Nat×Obj)) (hy:∀ z,f z=some r->AW P C nt y (E' z) (S' z) Q)
  (hx:∀ J:Act->World->Prop,(∀ z,f z=some r->Kn C nt (E' z) (S' z) J)->AW P C nt x E S (Exit.then J Q)):AW P C nt (.seq x y) E S Q:=
 AW.seq (hx _ fun z a=>hy z a)
theorem Y9w {σ R:Type} {r:R} {c:Code} {body:(σ->Option R)->σ->Option R} (E' : σ->List (Nat×AVal)) (S' : σ->List (Nat×Obj))
  (round:∀ (again:σ->Option R) (z:σ) (J:Act->World->Prop),(∀ z',again z'=some r->Kn C nt (E' z') (S' z') J)->body again z=some r->AW P C nt c (E' z) (S' z) (Exit.then J Q))
  {n:Nat} {z0:σ} (h:Z6 body n z0=some r):AW P C nt (.loop c) (E' z0) (S' z0) Q:=by
 refine AW.loop (σ:=Nat×σ) (fun p=>Z6 body p.1 p.2=some r) (fun p=>p.1) (fun p=>E' p.2) (fun p=>S' p.2) (fun p b=>?_) (n,z0) h;obtain ⟨m,z⟩:=p
 cases m with
 | zero=>cases b
 | succ m=>
  refine round (Z6 body m) z _ (fun z' a=>?_) b;exact W1O (I:=fun p:Nat×σ=>Z6 body p.1 p.2=some r/\p.1<m+1) (E':=fun p=>E' p.2) (S':=fun p=>S' p.2) (m,z') ⟨a,Nat.lt_succ_self m⟩
def W6 (L:Lay) (ops:Array Oper):List Oper->List Dir->Env->Sto->Nat->Env
 | o::os,d::ds,e,s,k+1=>W6 L ops os ds (Z0f o.dst (Z2w L ops o d e s).v e) (upS (Z2w L ops o d e s).l s) k
 | _,_,e,_,_=>e
def Q2o (L:Lay) (ops:Array Oper):List Oper->List Dir->Env->Sto->Nat->Sto
 | o::os,d::ds,e,s,k+1=>Q2o L ops os ds (Z0f o.dst (Z2w L ops o d e s).v e) (upS (Z2w L ops o d e s).l s) k
 | _,_,_,s,_=>s
def Y6:List Oper->Nat->Oper
 | [],_=>default
 | o::_,0=>o
 | _::os,k+1=>Y6 os k
def Q2f:List Dir->Nat->Array Oper->Oper->Env->Eff
 | .k f::_,0=>f
 | _::ds,k+1=>Q2f ds k
 | _,_=>fun _ _ _=>default
def KAt (P:Program) (C:Ctx) (nt:Nat) (L:Lay) (ops:Array Oper) (ds:List Dir) (e:Env) (s:Sto) (k:Nat):Prop:=
 StT P C nt ops (Y6 ops.toList k) (Q2f ds k ops (Y6 ops.toList k) (W6 L ops ops.toList ds e s k)) (W6 L ops ops.toList ds e s k) (Q2o L ops ops.toList ds e s k)
theorem W0A (Fm:Fr P L C pins) {id:Nat} {ops:Array Oper} {draw:Bool} (ds:List Dir) (ρ:List (Nat×Nat)) (c:(Nat->Prop)->Prop) (E' : List (Nat×AVal)) (S' : List (Nat×Obj)) (hc:c (KAt P C nt L ops ds (lk E) (ls S)))
  (hchk:Z6l L pins nt ops draw ds E S ρ S'=true) (hC:Q7q P C nt L ops ops.toList ds (lk E) (ls S)=c (KAt P C nt L ops ds (lk E) (ls S)))
  (he0:E'.map (fun p=>Z2m ops.toList (Q1m L ops ops.toList ds (lk E) (ls S)) (lk E) p.1)=E'.map (fun p=>p.2.ren (W9 ρ)))
  (hs0:S'.map (fun p=>Z2l (Q1m L ops ops.toList ds (lk E) (ls S)) (ls S) (W9 ρ p.1))=S'.map (fun p=>some (p.2.ren (W9 ρ))))
  (k:Kn C nt E' S' (Q .normal)):AW P C nt (.region id ops draw) E S Q:=AW.region Fm ds ρ hchk (hC ▸ hc) he0 hs0 k
end
end
section
def Z9b (o:Oper):Bool:=match o.op with | .call { callee:=.value _,.. }=>true|_=>false
def callX (o:Oper):Operand:=match o.op with | .call { callee:=.value fx,.. }=>fx|_=>.const undef
def callXs (o:Oper):Array Operand:=match o.op with | .call { callee:=.value _,args,.. }=>args|_=> #[]
theorem Z5M {o:Oper} (h:Z9b o=true):∃ tys,o.op=.call { callee:=.value (callX o),args:=callXs o,argTypes:=tys }:=by
 unfold Z9b at h;split at h
 ·rename_i b c tys a
  exact ⟨tys,by simp only [callX,callXs,a]⟩
 ·cases h
def cE (m:List (Nat×Nat)) (extra:List Nat) (r:AVal) (Si So:List (Nat×Obj)):Array Oper->Oper->Env->Eff:=fun ops o e=>Y3y ops o e (W9 m) extra r Si So
def sE (r:AVal):Array Oper->Oper->Env->Eff:=fun ops o e=>Z4F ops o e r
def Z5D (C:Ctx) (nt:Nat) (e:Env) (s:Sto) (Si:List (Nat×Obj)) (m:Nat->Nat) (rd ids:List Nat):List Operand->List AVal->Prop
 | [],[]=>True
 | x::xs,y::ys=>y6 C nt e s Si m rd ids x y/\Z5D C nt e s Si m rd ids xs ys
 | _,_=>False
theorem Z5D.spec {C:Ctx} {nt:Nat} {e:Env} {s:Sto} {Si:List (Nat×Obj)} {m:Nat->Nat} {rd ids:List Nat} {xs:List Operand} {ys:List AVal} (h:Z5D C nt e s Si m rd ids xs ys) :
  xs.length=ys.length/\∀ j,j<ys.length->y6 C nt e s Si m rd ids (xs.getD j (.const undef)) (ys.getD j .any):=by
 induction xs generalizing ys with
 | nil=>cases ys with
  | nil=>exact ⟨rfl,fun j a=>by simp at a⟩
  | cons y ys=>exact h.elim
 | cons x xs ih=>cases ys with
  | nil=>exact h.elim
  | cons y ys=>
   obtain ⟨g,d⟩:=h;obtain ⟨b,c⟩:=ih d
   refine ⟨by simp [b],fun j a=>?_⟩
   cases j with
   | zero=>exact g
   | succ j=>exact c j (by simpa using a)
theorem Z5D.plains {C:Ctx} {nt:Nat} {e:Env} {s:Sto} {Si:List (Nat×Obj)} {m:Nat->Nat} {rd ids:List Nat}:∀ {xs:List Operand} {ys:List AVal},xs.all (Q5I rd)=true->ys.all AVal.noSem=true->xs.map (aev e)=ys.map (AVal.ren m)->Z5D C nt e s Si m rd ids xs ys
 | [],[],_,_,_=>trivial
 | [],_::_,_,_,h=>by cases h
 | _::_,[],_,_,h=>by cases h
 | x::xs,y::ys,h1,h2,h3=>by
  simp only [List.all_cons,Bool.and_eq_true] at h1 h2;simp only [List.map_cons,List.cons.injEq] at h3
  exact ⟨y6.plain h1.1 (ALe.of_eq h3.1) h2.1,Z5D.plains h1.2 h2.2 h3.2⟩
def Y3s (f:Nat):AVal->Bool
 | .v (.c (.clo g []))=>g==f
 | _=>false
theorem Y2G {f:Nat} {x:AVal} (h:Y3s f x=true):x=.v (.c (.clo f [])):=by
 unfold Y3s at h;split at h
 ·rename_i g;simp at h;rw [h]
 ·cases h
def callB (ops:Array Oper) (nt:Nat) (e:Env) (o:Oper) (f:Nat) (m:List (Nat×Nat)) (r:AVal) (Si So:List (Nat×Obj)):Bool:=
 Z9b o&&Y3s f (aev e (callX o))&&Q5I (Q0h o++V4 ops o) (callX o)&&Q6L (W9 m) r Si So&&Q1E nt o&&(Q8o ops e o==some true)
section
variable {P:Program} {C:Ctx} {nt:Nat} {L:Lay} {ops:Array Oper} {ds:List Dir} {e:Env} {s:Sto}
theorem Y2S {k:Nat} {f:Nat} {args:List AVal} {Si:List (Nat×Obj)} {r:AVal} {So:List (Nat×Obj)} (hspec:Q7 P f args Si r So) (hcall:∀ args w,(callFunc f args).run P w=.ok (.enter f args) w) (m:List (Nat×Nat)) (extra:List Nat)
  (hk:Q2f ds k=cE m extra r Si So) (hb:callB ops nt (W6 L ops ops.toList ds e s k) (Y6 ops.toList k) f m r Si So=true)
  (hsi:Si.map (fun p=>Q2o L ops ops.toList ds e s k (W9 m p.1))=Si.map (fun p=>some (p.2.ren (W9 m))))
  (hargs:Z5D C nt (W6 L ops ops.toList ds e s k) (Q2o L ops ops.toList ds e s k) Si (W9 m) (Q0h (Y6 ops.toList k)++V4 ops (Y6 ops.toList k)) (Z1O (W6 L ops ops.toList ds e s k) (Y6 ops.toList k)++(Si.map (fun p=>W9 m p.1)++extra))
   (callXs (Y6 ops.toList k)).toList args):KAt P C nt L ops ds e s k:=by
 unfold KAt;rw [hk]
 simp only [callB,Bool.and_eq_true] at hb;obtain ⟨⟨⟨⟨⟨c,t⟩,u⟩,d⟩,l⟩,b⟩:=hb
 obtain ⟨i,a⟩:=Z5M c;obtain ⟨o,q⟩:=hargs.spec
 exact Y7M hcall a (Y2G t) u hspec (by simpa using o) (W9 m) extra (fun j g=>q j g) (fun p h=>⟨_,Q1O hsi p h,OLe.refl _⟩) d l (by simpa using b)
theorem KAt.call {k:Nat} {f:Nat} {args:List AVal} {Si:List (Nat×Obj)} {r:AVal} {So:List (Nat×Obj)} (hspec:Q7 P f args Si r So) (hcall:∀ args w,(callFunc f args).run P w=.ok (.enter f args) w) (m:List (Nat×Nat))
  (hk:Q2f ds k=cE m [] r Si So) (hb:callB ops nt (W6 L ops ops.toList ds e s k) (Y6 ops.toList k) f m r Si So=true)
  (hsi:Si.map (fun p=>Q2o L ops ops.toList ds e s k (W9 m p.1))=Si.map (fun p=>some (p.2.ren (W9 m))))
  (hrd:((callXs (Y6 ops.toList k)).toList.all (Q5I (Q0h (Y6 ops.toList k)++V4 ops (Y6 ops.toList k)))&&args.all AVal.noSem)=true)
  (hargs:(callXs (Y6 ops.toList k)).toList.map (aev (W6 L ops ops.toList ds e s k))=args.map (AVal.ren (W9 m))):KAt P C nt L ops ds e s k:=by
 rw [Bool.and_eq_true] at hrd;exact Y2S hspec hcall m [] hk hb hsi (Z5D.plains hrd.1 hrd.2 hargs)
def W1x (ops:Array Oper) (nt:Nat) (e:Env) (o:Oper) (args:List AVal) (r:AVal):Bool:=
 Z9b o&&Q5I (Q0h o++V4 ops o) (callX o)&&(callXs o).toList.all (Q5I (Q0h o++V4 ops o))&&args.all AVal.closed&&r.closed&&Q1E nt o&&(Q8o ops e o==some true)
theorem KAt.sem {k:Nat} {F:List AVal->AVal->Prop} {args:List AVal} {r:AVal} (hF:F args r) (hk:Q2f ds k=sE r) (hb:W1x ops nt (W6 L ops ops.toList ds e s k) (Y6 ops.toList k) args r=true)
  (hfx:aev (W6 L ops ops.toList ds e s k) (callX (Y6 ops.toList k))=Z4t P F)
  (hargs:(callXs (Y6 ops.toList k)).toList.map (aev (W6 L ops ops.toList ds e s k))=args):KAt P C nt L ops ds e s k:=by
 unfold KAt;rw [hk]
 simp only [W1x,Bool.and_eq_true] at hb;obtain ⟨⟨⟨⟨⟨⟨i,t⟩,u⟩,l⟩,p⟩,g⟩,h⟩:=hb
 obtain ⟨o,b⟩:=Z5M i;have d:(callXs (Y6 ops.toList k)).size=args.length:=by rw [<-hargs];simp
 refine Y3K b hfx hF d ⟨t,fun x q=>List.all_eq_true.1 u x q⟩ (fun j c=>?_) p g (by simpa using h);have a : j<(callXs (Y6 ops.toList k)).toList.length:=by simpa [d] using c
 have m:aev (W6 L ops ops.toList ds e s k) ((callXs (Y6 ops.toList k)).toList.getD j (.const undef))=args.getD j .any:=by
  rw [<-hargs];simp only [List.getD_eq_getElem?_getD,List.getElem?_map,List.getElem?_eq_getElem a,Option.map_some,Option.getD_some]
 exact ⟨ALe.of_eq m,List.all_eq_true.1 l _ (Q0I c)⟩
end
end
instance (n:Int):Decidable (I64 n):=inferInstanceAs (Decidable (_/\_))
def gl {α:Type} [Emb α] (l:List α) (i:Nat):α:=l.getD i Emb.d
def Z0r (es:Nat) (ds:List DVal) (i:Nat):List DVal:=(ds.drop (i*es)).take es
theorem Y4 {i:Int} {n:Nat} (h:0<=i/\i<(n:Int)):i.toNat<n:=by omega
theorem FE.refl:∀ E:List (Nat×AVal),FE E E
 | []=>trivial
 | (_,_)::E=>⟨rfl,ALe.refl _,FE.refl E⟩
theorem FSl.refl:∀ S:List (Nat×Obj),FSl S S
 | []=>trivial
 | (_,_)::S=>⟨rfl,OLe.refl _,FSl.refl S⟩
instance:Emb Int:=⟨fun x=>[.int .i64 x],1,0,fun _=>rfl⟩
instance:Emb Bool:=⟨fun x=>[.bool x],1,false,fun _=>rfl⟩
instance:Emb ByteArray:=⟨fun x=>[.str x],1,ByteArray.empty,fun _=>rfl⟩
instance {α:Type} [Emb α]:Emb (List α):=⟨fun x=>[DL x],1,[],fun _=>rfl⟩
section
section
variable {P:Program} {C:Ctx} {nt:Nat} {L:Lay} {ops:Array Oper} {ds:List Dir} {e:Env} {s:Sto}
theorem Z0V {o:Oper} {r:AVal} (hr:r.refs=[]) (hdo:Q1E nt o=true) (hg:Q8o ops e o=some true)
  (hex:∀ (R:Nat->Prop) (η:Nat->Value) (e0:Env) (s0:Sto) (a:Act) (w:World),(∀ t ∈ Q0h o++V4 ops o,e0 t=e t)->Conc C nt R η e0 s0 a w->∃ v,(execOp a.eval o).run P w=.ok (.value v) w/\ARep w (XS C s0 η) η C v r) :
  StT P C nt ops o (Z4F ops o e r) e s:=by
 intro R η e0 s0 a w c h y d K Q A;have p:=Q5A (e:=e) d (fun t z=>c t (List.mem_append.2 (.inr z))) hg
 rw [if_pos p];obtain ⟨v,q,b⟩:=hex R η e0 s0 a w c d
 unfold Oper.wp;rw [q]
 show K (a.put o.dst v) w;refine A η _ w ?_
 have:=d.val o.dst (Q5w hdo) r v fun _=>⟨b,fun j g=>by rw [hr] at g;cases g⟩
 have x:upS (Z4F ops o e r).l s0=s0:=by funext i;rfl
 rw [x];have m:Z0f o.dst (Z4F ops o e r).v e0=SR.env { v:=r } o.dst e0:=rfl
 rw [m];exact this.wider fun i u=>.inl u
def eqK (d:TypeDesc) (x y:CV):Option Bool:=
 match d,x,y with
 | .int _,.d (.int k a),.d (.int k' b)=>if k=k' then some (a==b) else none
 | .bool,.d (.bool a),.d (.bool b)=>some (a==b)
 | _,_,_=>none
def W0o (P:Program) (xs ys:List CV):List Field->Option Bool
 | []=>some true
 | f::fs=>if f.name= "_" then none else match P.underlying f.type,xs[f.offset]?,ys[f.offset]?,W0o P xs ys fs with
  | some d,some x,some y,some c=>match eqK d x y with
   | some b=>some (b&&c)
   | none=>none
  | _,_,_,_=>none
theorem W1o {w w1:World} {X:Nat->Prop} {η:Nat->Value} {d:TypeDesc} {x y:CV} {b:Bool} (h:eqK d x y=some b) {u v:Value} (hu:CRep w X η C u x) (hv:CRep w X η C v y) {t:TypeId} (ht:P.underlying t=some d) (n:Nat) :
  (isAgg t).run P w1=.ok false w1/\(Op.equalIn (n+1) t u v).run P w1=.ok b w1:=by
 unfold eqK at h;split at h
 ·split at h
  ·cases h
   rename_i a
   subst a
   cases hu with|d _ _ hu=>cases hu with|int=>
   cases hv with|d _ _ hv=>cases hv with|int=>
   exact ⟨by simp [isAgg,run_underlying ht],run_equalIn_int _ _ _ _ _ _ _ ht⟩
  ·cases h
 ·cases h
  cases hu with|d _ _ hu=>cases hu with|bool=>
  cases hv with|d _ _ hv=>cases hv with|bool=>
  exact ⟨by simp [isAgg,run_underlying ht],run_equalIn_bool' _ _ _ _ _ ht⟩
 ·cases h
theorem Y4y {w:World} {X:Nat->Prop} {η:Nat->Value} {vs:Array Value} {xs:List CV} (h:G9 w X η C vs xs) {j:Nat} {x:CV} (hx:xs[j]?=some x):∃ v,vs[j]?=some v/\CRep w X η C v x:=by
 have b:j<xs.length:=(List.getElem?_eq_some_iff.1 hx).1;have a : j<vs.size:=by rw [h.1];exact b
 refine ⟨vs[j],Array.getElem?_eq_getElem a,?_⟩;have:=h.2 j b
 rw [List.getD_eq_getElem?_getD,hx] at this;simpa [Array.getD_eq_getD_getElem?,Array.getElem?_eq_getElem a] using this
theorem Y6B {w:World} {X:Nat->Prop} {η:Nat->Value} {xs ys:List CV} {us vs:Array Value} (hu:G9 w X η C us xs) (hv:G9 w X η C vs ys) (n:Nat) (w1:World):∀ (fs:List Field) (b:Bool),W0o P xs ys fs=some b->(Op.eqFields (n+1) us vs fs).run P w1=.ok b w1
 | [],b,h=>by cases h;simp [Op.eqFields]
 | f::fs,b,h=>by
  simp only [W0o] at h;split at h
  ·cases h
  ·rename_i g
   split at h
   ·rename_i d x y c q t F A
    split at h
    ·rename_i B i
     cases h
     obtain ⟨u,o,m⟩:=Y4y hu t;obtain ⟨v,j,l⟩:=Y4y hv F
     obtain ⟨p,z⟩:=W1o (P:=P) (w1:=w1) i m l q n;have r:=Y6B hu hv n w1 fs c A
     have G:(part f.type us f.offset).run P w1=.ok u w1:=by simp [part,p,o]
     have D:(part f.type vs f.offset).run P w1=.ok v w1:=by simp [part,p,j]
     have a : f.name ≠ "_":=g;simp only [Op.eqFields,a,ne_eq,not_false_eq_true,if_true,Sem.run_bind,G,D,z,Result.andThen_ok]
     cases B with
     | true=>simpa using r
     | false=>simp
    ·cases h
   ·cases h
def eqX (o:Oper):Operand:=match o.op with | .binOp _ _ x _ _=>x|_=>.const undef
def eqY (o:Oper):Operand:=match o.op with | .binOp _ _ _ y _=>y|_=>.const undef
def Y6A (o:Oper) (t:TypeId):Option Bool:=match o.op with
 | .binOp op t' _ _ _=>if t=t' then match op with
  | .eql=>some true
  | .neq=>some false
  | _=>none else none
 | _=>none
theorem Y4s {o:Oper} {t:TypeId} {q:Bool} (h:Y6A o t=some q):∃ t',o.op=.binOp (if q then .eql else .neq) t (eqX o) (eqY o) t':=by
 unfold Y6A at h;split at h
 ·rename_i op d x y b a
  split at h
  ·rename_i c
   subst c;split at h
   ·cases h;exact ⟨b,by simp only [eqX,eqY,a];rfl⟩
   ·cases h;exact ⟨b,by simp only [eqX,eqY,a];rfl⟩
   ·cases h
  ·cases h
 ·cases h
structure EqT (P:Program) (t:TypeId):Prop where
 und:P.underlying t=some (.struct (P.fieldsOf t))
 held:P.stoodInHeld t=false
 guard:P.eqGuardType P.depth t=false
def eqB (ops:Array Oper) (nt:Nat) (e:Env) (o:Oper):Bool:=Q5I (Q0h o++V4 ops o) (eqX o)&&Q5I (Q0h o++V4 ops o) (eqY o)&&Q1E nt o&&(Q8o ops e o==some true)
theorem Y5V {k:Nat} {t:TypeId} (ht:EqT P t) (q:Bool) {xs ys:List CV} {b:Bool} (hk:Q2f ds k=sE (vb (if q then b else !b))) (hop:Y6A (Y6 ops.toList k) t=some q) (hb:eqB ops nt (W6 L ops ops.toList ds e s k) (Y6 ops.toList k)=true)
  (hx:aev (W6 L ops ops.toList ds e s k) (eqX (Y6 ops.toList k))=.v (.g xs)) (hy:aev (W6 L ops ops.toList ds e s k) (eqY (Y6 ops.toList k))=.v (.g ys)) (hfl:W0o P xs ys (P.fieldsOf t).toList=some b):KAt P C nt L ops ds e s k:=by
 unfold KAt;rw [hk]
 simp only [eqB,Bool.and_eq_true] at hb;obtain ⟨⟨⟨p,x⟩,y⟩,r⟩:=hb
 obtain ⟨D,h⟩:=Y4s hop;refine Z0V rfl y (by simpa using r) fun R η B A a w l m=>⟨.bool (if q then b else !b),?_,.v _ _ (.c _ _ (.d _ _ (.bool _)))⟩
 have j:=(W2 m (eqX (Y6 ops.toList k))).1;rw [J2 l p,hx] at j
 have i:=(W2 m (eqY (Y6 ops.toList k))).1;rw [J2 l x,hy] at i
 generalize hu:a.eval (eqX (Y6 ops.toList k))=u at j;generalize hv:a.eval (eqY (Y6 ops.toList k))=v at i
 cases j with|v _ _ j=>cases j with|g us _ j=>
 cases i with|v _ _ i=>cases i with|g vs _ i=>
 have z:=Y6B (P:=P) j i 9998 w _ b hfl;have o:(Op.equalIn 10000 t (.agg us) (.agg vs)).run P w=.ok b w:=by
  rw [run_equalIn_agg w 9999 t us vs ht.und ht.held];exact z
 cases q with
 | true=>simp only [execOp,h,if_true,Sem.run_bind,hu,hv,run_eqGuard_agg w _ _ _ _ _ _ ht.guard,Result.andThen_ok,run_eql_struct,o,Sem.run_pure]
 | false=>simp only [execOp,h,Bool.false_eq_true,if_false,Sem.run_bind,hu,hv,run_eqGuard_agg w _ _ _ _ _ _ ht.guard,Result.andThen_ok,run_neq_struct,o,Sem.run_pure]
end
end
section
def nbP (n:Nat):World->(Nat->Prop)->(Nat->Prop)->Value->Prop:=fun _ _ _ v=>∃ b,v=.bool b/\(b=true->n=0)
def nb (n:Nat):AVal:=.v (.c (.sem (nbP n)))
def DVal.flat:DVal->Bool
 | .int _ _=>true
 | .bool _=>true
 | .str _=>true
 | _=>false
def CV.flat:CV->Bool
 | .d x=>x.flat
 | _=>false
def TV.flat:TV->Bool
 | .c x=>x.flat
 | .g xs=>xs.all CV.flat
def AVal.flat:AVal->Bool
 | .any=>true
 | .v x=>x.flat
 | .t xs=>xs.all TV.flat
section
variable {w w' : World} {X X' : Nat->Prop} {η η' : Nat->Value} {C C' : Ctx}
theorem CRep.flat {v:Value} {x:CV} (h:CRep w X η C v x) (hx:x.flat=true):CRep w' X' η' C' v x:=by
 cases h with
 | d _ _ h=>cases h with
  | int=>exact .d _ _ (.int _ _)
  | bool=>exact .d _ _ (.bool _)
  | str=>exact .d _ _ (.str _)
  | any=>cases hx
  | nil=>cases hx
  | lst=>cases hx
  | mp=>cases hx
 | _=>cases hx
theorem TRep.flat {v:Value} {x:TV} (h:TRep w X η C v x) (hx:x.flat=true):TRep w' X' η' C' v x:=by
 cases h with
 | c _ _ h=>exact .c _ _ (h.flat hx)
 | g _ _ h=>exact .g _ _ ⟨h.1,fun j a=>(h.2 j a).flat (List.all_eq_true.1 hx _ (Q0I a))⟩
theorem ARep.flat {v:Value} {x:AVal} (h:ARep w X η C v x) (hx:x.flat=true):ARep w' X' η' C' v x:=by
 cases h with
 | any=>exact .any v
 | v _ _ h=>exact .v _ _ (h.flat hx)
 | t us xs h1 h2=>exact .t us xs h1 fun j a=>(h2 j a).flat (List.all_eq_true.1 hx _ (Q0I a))
theorem CV.flat_refs {x:CV} (hx:x.flat=true):x.refs=[]:=by cases x <;> first|rfl|cases hx
theorem TV.flat_refs {x:TV} (hx:x.flat=true):x.refs=[]:=by
 cases x with
 | c x=>exact CV.flat_refs hx
 | g xs=>exact List.flatMap_eq_nil_iff.2 fun y a=>CV.flat_refs (List.all_eq_true.1 hx y a)
theorem AVal.flat_refs {x:AVal} (hx:x.flat=true):x.refs=[]:=by
 cases x with
 | any=>rfl
 | v x=>exact TV.flat_refs hx
 | t xs=>exact List.flatMap_eq_nil_iff.2 fun y a=>TV.flat_refs (List.all_eq_true.1 hx y a)
end
section
variable {P:Program} {C:Ctx} {nt:Nat} {L:Lay} {ops:Array Oper} {ds:List Dir} {e:Env} {s:Sto} {E:List (Nat×AVal)} {S:List (Nat×Obj)} {Q:Exit->Act->World->Prop}
theorem Y1R {t n:Nat} {x y:Code} (hb:lk E t=nb n) (ht:n=0->AW P C nt x E S Q) (hf:AW P C nt y E S Q):AW P C nt (.cond (.tmp t) x y) E S Q:=by
 intro R η a w g;have d:=g.ev t
 rw [hb] at d;have:∃ b,a.eval (.tmp t)=.bool b/\(b=true->n=0):=by
  change ∃ b,a.tmps.getD t undef=.bool b/\(b=true->n=0);generalize a.tmps.getD t undef=u at d
  cases d with|v _ _ h=>cases h with|c _ _ h=>cases h with|sem _ _ h _=>exact h
 obtain ⟨b,i,j⟩:=this
 cases b with
 | true=>exact wp_cond_true i (ht (j rfl) R η a w g)
 | false=>exact wp_cond_false i (hf R η a w g)
def W1d:AVal->Option Nat
 | .v (.c (.d (.lst n _)))=>some n
 | .v (.c (.fl n _))=>some n
 | _=>none
theorem Y9U {w:World} {X:Nat->Prop} {η:Nat->Value} {v:Value} {x:AVal} {n:Nat} (h:W1d x=some n) (hv:ARep w X η C v x):∃ ad cap,v=.slice ad n cap/\(ad=none->n=0):=by
 unfold W1d at h;split at h
 ·cases h
  cases hv with|v _ _ hv=>cases hv with|c _ _ hv=>cases hv with|d _ _ hv=>cases hv with
   | nil a cap f=>exact ⟨a,cap,rfl,fun _=>rfl⟩
   | lst b off n cap c e fz f es=>exact ⟨_,_,rfl,fun h=>by cases h⟩
 ·cases h
  cases hv with|v _ _ hv=>cases hv with|c _ _ hv=>cases hv with|fl a n f hv=>cases hv with
   | nil a cap f=>exact ⟨_,_,rfl,fun _=>rfl⟩
   | lst b off n cap c e fz f es=>exact ⟨_,_,rfl,fun h=>by cases h⟩
 ·cases h
def Y5u (x:Operand):Bool:=match x with | .const (.slice none 0 0)=>true|_=>false
theorem Y7m {x:Operand} (h:Y5u x=true):x=.const (.slice none 0 0):=by
 unfold Y5u at h;split at h
 ·rfl
 ·cases h
theorem Z9Q {t el:TypeId} (ht:P.underlying t=some (.slice el)) (d:Nat) (ad:Option Addr) (n cap:Nat) (w:World):(Op.equalIn (d+1) t (.slice ad n cap) (.slice none 0 0)).run P w=.ok ad.isNone w:=by
 cases ad <;> simp only [Op.equalIn,Sem.run_bind,run_underlying ht,Result.andThen_ok,Sem.run_pure] <;> rfl
theorem Y3V {t el:TypeId} (ht:P.underlying t=some (.slice el)) (ad:Option Addr) (n cap:Nat) (w:World):(binOp .eql t (.slice ad n cap) (.slice none 0 0)).run P w=.ok (.bool ad.isNone) w:=by
 have h:binOp .eql t (.slice ad n cap) (.slice none 0 0)=(do pure (.bool (<-Op.equalIn Op.maxDepth t (.slice ad n cap) (.slice none 0 0)))):=rfl;have b:=Z9Q ht 9999 ad n cap w
 rw [h,Sem.run_bind];have a:(Op.equalIn Op.maxDepth t (.slice ad n cap) (.slice none 0 0)).run P w=.ok ad.isNone w:=b
 rw [a];rfl
theorem KAt.nil {k:Nat} {t el:TypeId} (ht:P.underlying t=some (.slice el)) {n:Nat} (hk:Q2f ds k=sE (nb n)) (hop:Y6A (Y6 ops.toList k) t=some true) (hb:eqB ops nt (W6 L ops ops.toList ds e s k) (Y6 ops.toList k)=true)
  (hx:W1d (aev (W6 L ops ops.toList ds e s k) (eqX (Y6 ops.toList k)))=some n) (hy:Y5u (eqY (Y6 ops.toList k))=true):KAt P C nt L ops ds e s k:=by
 unfold KAt;rw [hk]
 simp only [eqB,Bool.and_eq_true] at hb;obtain ⟨⟨⟨r,A⟩,q⟩,l⟩:=hb
 obtain ⟨z,b⟩:=Y4s hop;simp only [if_true] at b
 refine Z0V rfl q (by simpa using l) fun R η B y a w h p=>?_
 have j:=(W2 p (eqX (Y6 ops.toList k))).1;rw [J2 h r] at j
 obtain ⟨i,g,o,d⟩:=Y9U hx j;refine ⟨.bool i.isNone,?_,.v _ _ (.c _ _ (.sem _ _ ⟨_,rfl,fun m=>d (by simpa using m)⟩ rfl))⟩
 have u:a.eval (eqY (Y6 ops.toList k))=.slice none 0 0:=by rw [Y7m hy];rfl
 have x:(eqGuard .eql t (eqX (Y6 ops.toList k)) (eqY (Y6 ops.toList k)) (.slice i n g) (.slice none 0 0)).run P w=.ok () w:=rfl;simp only [execOp,b,Sem.run_bind,u,o,x,Result.andThen_ok,Y3V ht,Sem.run_pure]
def Z8w (P:Program) (e:Env) (s:Sto) (bor:List Nat) (rd:List Nat) (x:Operand) (y:AVal):Prop:=
 Q5I rd x=true/\((ALe (aev e x) y/\y.closed=true)\/(∃ k es n f,k ∈ bor/\aev e x=.v (.c (.own k))/\s k=some (.arr es n f)/\y=.v (.c (.d (.lst n f))))\/∃ F,aev e x=Z4t P F/\y=Z4t P F)
theorem Y6T {f:Nat} (hcall:∀ args w,(callFunc f args).run P w=.ok (.enter f args) w) {o:Oper} {fx:Operand} {xs:Array Operand} {tys:Array TypeId} (hop:o.op=.call { callee:=.value fx,args:=xs,argTypes:=tys })
  (hfx:aev e fx=.v (.c (.clo f []))) (hrf:Q5I (Q0h o++V4 ops o) fx=true) {args:List AVal} {r:AVal} (hspec:Q7 P f args [] r []) (hlen:xs.size=args.length) (bor:List Nat)
  (hargs:∀ j,j<args.length->Z8w P e s bor (Q0h o++V4 ops o) (xs.toList.getD j (.const undef)) (args.getD j .any)) (hids:∀ k ∈ bor,k ∈ Z1O e o) (hr:r.flat=true) (hdo:Q1E nt o=true) (hg:Q8o ops e o=some true):StT P C nt ops o (Z4F ops o e r) e s:=by
 intro R η e0 B a w O a8 d4 x K Q hK;have hw:=Q5A (e:=e) x (fun t ht=>O t (List.mem_append.2 (.inr ht))) hg
 rw [if_pos hw];have a6:=(W2 x fx).1
 rw [J2 O hrf,hfx] at a6;have b7:=Z5R (w:=w) hop (Z8o a6) hcall
 have a0:∀ b,XS C B η b->b<w.heap.size:=by
  rintro b (⟨m,_⟩|m)
  ·exact Nat.lt_of_lt_of_le (x.ok.lt b m) x.fr.size
  ·exact x.lt m
 let X1:Nat->Prop:=fun b=>XS C B η b/\∀ k ∈ bor,s k≠none->b ∉ Y5 (η k)
 have b3:Q7b w w (XS C B η) X1:=fun b _ q=>⟨rfl,fun m=>q m.1⟩
 have b5:=hspec w X1 η (xs.map a.eval++(([]:List Nat).map η).toArray) (fun b q=>a0 b q.1) (fun b ⟨i,y,p,_⟩=>by cases p) (fun i y p=>by cases p) (fun i j b p=>absurd rfl p) (by simp [hlen]) (fun j J=>by
  have b1 : j<xs.size:=by omega
  have e1:(xs.map a.eval++(([]:List Nat).map η).toArray).getD j undef=a.eval (xs.toList.getD j (.const undef)):=by simp [List.getD_eq_getElem?_getD,b1]
  rw [e1];obtain ⟨g0,g⟩:=hargs j J
  have m:=(W2 x (xs.toList.getD j (.const undef))).1;rw [J2 O g0] at m
  rcases g with ⟨V,W⟩|⟨k,es,n,fl,V,W,g3,g4⟩|⟨F,V,W⟩
  ·exact ((V.1 _ _ _ _ _ m).mono (η':=η) b3 (fun _ _=>rfl)).free W
  ·rw [W] at m
   rw [g4];have hv:a.eval (xs.toList.getD j (.const undef))=η k:=by
    generalize a.eval (xs.toList.getD j (.const undef))=u at m
    cases m with|v _ _ m=>cases m with|c _ _ m=>cases m with|own _ _ h _=>exact h
   rw [hv];have T:B k=some (.arr es n fl):=by rw [a8 k (hids k V)];exact g3
   have U:=x.st k _ T;have Z:∀ b,b ∈ Y5 (η k)->¬ X1 b:=fun b q m=>m.2 k V (by rw [g3];simp) q
   refine .v _ _ (.c _ _ (.d _ _ ?_));generalize η k=u at U Z
   cases U with
   | nil ad es _=>exact .nil ad 0 fl
   | arr b n cap es c e _ G h2 h3 h4 h5 h6 h7=>
    refine .lst b 0 n cap c e _ fl es (Z b (by simp [Y5];omega)) G h3 (by rw [h2,Nat.zero_add];exact Nat.mul_le_mul_right _ h3) h6 fun i j p J=>?_
    rw [Nat.zero_add];exact (h7 i j p J).mono fun b q hX=>⟨rfl,fun m=>hX m.1⟩
  ·rw [V] at m
   rw [W];have a7:J5 P F C.w0 C.D C.X (a.eval (xs.toList.getD j (.const undef)))/\(a.eval (xs.toList.getD j (.const undef))).oneCell'=true:=by
    generalize a.eval (xs.toList.getD j (.const undef))=u at m
    cases m with|v _ _ h=>cases h with|c _ _ h=>cases h with|sem _ _ h G=>exact ⟨h,G⟩
   obtain ⟨⟨ff,a3,c1,z,b4⟩,a5⟩:=a7;refine .v _ _ (.c _ _ (.sem _ _ ⟨ff,a3,c1,z,?_⟩ a5))
   intro w1 X2 vs I r2 hF c3 a4 b6 c2 b9 A;have a9 : w.heap.size<=w1.heap.size:=c3
   have a2:∀ b,¬ (J4 ([]:List (Nat×Obj)) w X1 η).D b:=by rintro b ⟨i,y,p,_⟩;cases p
   refine b4 w1 X2 vs I r2 hF (Nat.le_trans x.fr.size a9) (fun b q Y=>?_) b6 (fun b q Y=>?_) b9 A
   ·have N:b<w.heap.size:=Nat.lt_of_lt_of_le q x.fr.size
    exact (a4 b N (a2 b)).trans (x.fr.block b q fun hM=>Y (x.ok.md b hM))
   ·have N:b<w.heap.size:=Nat.lt_of_lt_of_le q x.fr.size
    rw [c2 b N (a2 b)];have H:∀ i y,B i=some y -> b ∉ Y5 (η i):=by
     intro i y p M;rcases x.ow i y b p M with ⟨_,G⟩|G|G
     ·exact Y G
     ·exact Y (x.ok.md b G)
     ·omega
    constructor
    ·rintro ⟨⟨m,_⟩|⟨i,y,p,M⟩,_⟩
     ·exact m
     ·exact absurd M (H i y p)
    ·refine fun m=>⟨.inl ⟨m,Y⟩,fun k hk T=>?_⟩
     obtain ⟨y,b8⟩:=Option.ne_none_iff_exists'.1 T;exact H k y (by rw [a8 k (hids k hk)];exact b8))
 unfold Oper.wp;rw [b7]
 show Calls P f _ w _;refine b5.mono fun en w' hh=>?_
 obtain ⟨v,η',rfl,q⟩:=hh;have a1:Stp (fun _=>False) w w':=q.stp.mono fun b _ hM=>by obtain ⟨i,y,p,_⟩:=hM;cases p
 have hs:SR.sto { v:=r } o.dst B=B:=by funext i;simp [SR.sto]
 have he:SR.eta { v:=r } o.dst v η=η:=by funext i;simp [SR.eta]
 have c0:SR.rng { v:=r } o.dst R=R:=by funext i;simp [SR.rng]
 have:=x.step o.dst (Q5w hdo) { v:=r } v w' (fun _=>False) a1 (fun b q=>q.elim) (fun o dd U=>by cases U) (fun k o U=>by cases U)
  (fun _=>by rw [hs,he];refine ⟨q.res.flat hr,fun j J=>?_⟩;simp only at J;rw [AVal.flat_refs hr] at J;cases J)
 rw [hs,he,c0] at this;refine hK η _ w' ?_
 have hu:upS (Z4F ops o e r).l B=B:=by funext i;rfl
 rw [hu];exact this.wider fun i p=>.inl p
def Y4M (P:Program) (e:Env) (s:Sto) (bor:List Nat) (rd:List Nat):List Operand->List AVal->Prop
 | [],[]=>True
 | x::xs,y::ys=>Z8w P e s bor rd x y/\Y4M P e s bor rd xs ys
 | _,_=>False
theorem Y4M.spec {bor:List Nat} {rd:List Nat} {xs:List Operand} {ys:List AVal} (h:Y4M P e s bor rd xs ys):xs.length=ys.length/\∀ j,j<ys.length->Z8w P e s bor rd (xs.getD j (.const undef)) (ys.getD j .any):=by
 induction xs generalizing ys with
 | nil=>cases ys with
  | nil=>exact ⟨rfl,fun j a=>by simp at a⟩
  | cons y ys=>exact h.elim
 | cons x xs ih=>cases ys with
  | nil=>exact h.elim
  | cons y ys=>
   obtain ⟨g,d⟩:=h;obtain ⟨b,c⟩:=ih d
   refine ⟨by simp [b],fun j a=>?_⟩
   cases j with
   | zero=>exact g
   | succ j=>exact c j (by simpa using a)
theorem Z8w.own {bor:List Nat} {rd:List Nat} {x:Operand} (k:Nat) {es n:Nat} {f:Nat->List DVal} (h0:Q5I rd x=true) (h1:bor.contains k=true) (h2:aev e x=.v (.c (.own k))) (h3:s k=some (.arr es n f)):Z8w P e s bor rd x (.v (.c (.d (.lst n f)))):=
 ⟨h0,.inr (.inl ⟨k,es,n,f,by simpa using h1,h2,h3,rfl⟩)⟩
theorem Z8w.sem {bor:List Nat} {rd:List Nat} {x:Operand} {F:List AVal->AVal->Prop} (h0:Q5I rd x=true) (h1:aev e x=Z4t P F):Z8w P e s bor rd x (Z4t P F):=⟨h0,.inr (.inr ⟨F,h1,rfl⟩)⟩
def callBB (ops:Array Oper) (nt:Nat) (e:Env) (o:Oper) (f:Nat) (r:AVal) (bor:List Nat):Bool:=
 Z9b o&&Y3s f (aev e (callX o))&&Q5I (Q0h o++V4 ops o) (callX o)&&r.flat&&bor.all (fun k=>(Z1O e o).contains k)&&Q1E nt o&&(Q8o ops e o==some true)
theorem KAt.callB {k:Nat} {f:Nat} {args:List AVal} {r:AVal} (hspec:Q7 P f args [] r []) (hcall:∀ args w,(callFunc f args).run P w=.ok (.enter f args) w) (bor:List Nat)
  (hk:Q2f ds k=sE r) (hb:callBB ops nt (W6 L ops ops.toList ds e s k) (Y6 ops.toList k) f r bor=true)
  (hargs:Y4M P (W6 L ops ops.toList ds e s k) (Q2o L ops ops.toList ds e s k) bor (Q0h (Y6 ops.toList k)++V4 ops (Y6 ops.toList k)) (callXs (Y6 ops.toList k)).toList args):KAt P C nt L ops ds e s k:=by
 unfold KAt;rw [hk]
 simp only [callBB,Bool.and_eq_true] at hb;obtain ⟨⟨⟨⟨⟨⟨d,p⟩,q⟩,g⟩,l⟩,b⟩,c⟩:=hb
 obtain ⟨i,a⟩:=Z5M d;obtain ⟨m,o⟩:=hargs.spec
 exact Y6T hcall a (Y2G p) q hspec (by simpa using m) bor (fun j h=>o j h) (fun k hk=>by simpa using List.all_eq_true.1 l k hk) g b (by simpa using c)
end
end
section
section
variable {P:Program} {C:Ctx} {nt:Nat} {L:Lay} {ops:Array Oper} {ds:List Dir} {e:Env} {s:Sto}
theorem Y7C {k:Nat} {f:Nat} {args:List AVal} {Si:List (Nat×Obj)} {r:AVal} {So:List (Nat×Obj)} (hspec:Q7 P f args Si r So) (hcall:∀ args w,(callFunc f args).run P w=.ok (.enter f args) w) (m:List (Nat×Nat)) (extra:List Nat) (xs:List Operand)
  (hk:Q2f ds k=cE m extra r Si So) (hb:Go.Ab.callB ops nt (W6 L ops ops.toList ds e s k) (Y6 ops.toList k) f m r Si So=true)
  (hsi:Si.map (fun p=>Q2o L ops ops.toList ds e s k (W9 m p.1))=Si.map (fun p=>some (p.2.ren (W9 m)))) (hxs:(Go.Ab.callXs (Y6 ops.toList k)).toList=xs)
  (hargs:Z5D C nt (W6 L ops ops.toList ds e s k) (Q2o L ops ops.toList ds e s k) Si (W9 m) (Q0h (Y6 ops.toList k)++V4 ops (Y6 ops.toList k)) (Z1O (W6 L ops ops.toList ds e s k) (Y6 ops.toList k)++(Si.map (fun p=>W9 m p.1)++extra)) xs args):KAt P C nt L ops ds e s k:=
 Y2S hspec hcall m extra hk hb hsi (hxs ▸ hargs)
theorem Z3J {k:Nat} {f:Nat} {args:List AVal} {r:AVal} (hspec:Q7 P f args [] r []) (hcall:∀ args w,(callFunc f args).run P w=.ok (.enter f args) w) (bor:List Nat) (xs:List Operand)
  (hk:Q2f ds k=sE r) (hb:Go.Ab.callBB ops nt (W6 L ops ops.toList ds e s k) (Y6 ops.toList k) f r bor=true) (hxs:(Go.Ab.callXs (Y6 ops.toList k)).toList=xs)
  (hargs:Y4M P (W6 L ops ops.toList ds e s k) (Q2o L ops ops.toList ds e s k) bor (Q0h (Y6 ops.toList k)++V4 ops (Y6 ops.toList k)) xs args):KAt P C nt L ops ds e s k:=
 KAt.callB hspec hcall bor hk hb (hxs ▸ hargs)
def siB (s:Sto) (Si:List (Nat×Obj)) (m:Nat->Nat) (ids cids:List Nat):Bool:=Si.all fun p=>(s (m p.1)).isSome&&ids.contains (m p.1) && !cids.contains (m p.1)
theorem Z4E {Si:List (Nat×Obj)} {m:Nat->Nat} {ids cids:List Nat} (h:siB s Si m ids cids=true):(∀ p ∈ Si,∃ o1,s (m p.1)=some o1)/\(∀ p ∈ Si,m p.1 ∈ ids)/\∀ p ∈ Si,m p.1 ∉ cids:=by
 refine ⟨fun p a=>?_,fun p a=>?_,fun p a=>?_⟩ <;> (have:=List.all_eq_true.1 h p a;simp only [Bool.and_eq_true,Bool.not_eq_true'] at this)
 ·exact Option.isSome_iff_exists.1 this.1.1
 ·simpa using this.1.2
 ·simpa using this.2
theorem y6.semX {F:List AVal->AVal->Prop} {Si:List (Nat×Obj)} {m:Nat->Nat} {rd ids:List Nat} {x:Operand} (hx:Q5I rd x=true) (hv:aev e x=Z4t P F) (hsi:siB s Si m ids []=true):y6 C nt e s Si m rd ids x (Z4t P F):=
 y6.sem hx hv (Z4E hsi).1 (Z4E hsi).2.1
def Y8Z (s:Sto):List Nat->List (List CV)->Prop
 | [],[]=>True
 | i::is,c::cs=>(∃ ro,s i=some (.box ro c))/\Y8Z s is cs
 | _,_=>False
theorem Y6H {is:List Nat} {cs:List (List CV)} (h:Y8Z s is cs):is.length=cs.length/\∀ k,k<cs.length->∃ ro,s (is.getD k 0)=some (.box ro (cs.getD k [])):=by
 induction is generalizing cs with
 | nil=>cases cs with
  | nil=>exact ⟨rfl,fun k a=>by simp at a⟩
  | cons c cs=>exact h.elim
 | cons i is ih=>cases cs with
  | nil=>exact h.elim
  | cons c cs=>
   obtain ⟨j,g⟩:=h;obtain ⟨b,d⟩:=ih g
   refine ⟨by simp [b],fun k a=>?_⟩
   cases k with
   | zero=>exact j
   | succ k=>exact d k (by simpa using a)
theorem y6.cloX {f:Nat} (hcall:∀ args w,(callFunc f args).run P w=.ok (.enter f args) w) {F:List AVal->AVal->Prop} (cs:List (List CV)) (hspec:∀ args r,F args r->Q7 P f (args++Z7s cs) (Q9U cs) r (Q9U cs)) (hres:∀ args r,F args r->r.closed=true)
  {Si:List (Nat×Obj)} {m:Nat->Nat} {rd ids:List Nat} {x:Operand} (hx:Q5I rd x=true) (cids:List Nat) (hv:aev e x=.v (.c (.clo f cids))) (hnd:(Q3m cids&&cs.all (fun c=>c.all CV.closed)&&cids.all (fun i=>ids.contains i))=true) (hbox:Y8Z s cids cs)
  (hsi:siB s Si m ids cids=true):y6 C nt e s Si m rd ids x (Z4t P F):=by
 simp only [Bool.and_eq_true] at hnd;obtain ⟨d,a⟩:=Y6H hbox
 exact y6.clo hcall hspec hres hx hv d hnd.1.1 a hnd.1.2 (Z4E hsi).1 (Z4E hsi).2.1 (fun i b=>by simpa using List.all_eq_true.1 hnd.2 i b) (Z4E hsi).2.2
end
noncomputable def gdc {R:Type} (p:Prop) (x:Option R):Option R:= @gd R p (Classical.propDecidable p) x
theorem Y4n {R:Type} {p:Prop} {x:Option R} {r:R} (h:gdc p x=some r):p/\x=some r:= @Y6q R p (Classical.propDecidable p) x r h
noncomputable def brN {R:Type} (n:Nat) (x y:Option R):Option R:=match n with
 | 0=>gdc (x=y) x
 | _+1=>y
theorem W0O {R:Type} {n:Nat} {x y:Option R} {r:R} (h:brN n x y=some r) (hn:n=0):x=some r:=by subst hn;exact (Y4n h).2
theorem W0P {R:Type} {n:Nat} {x y:Option R} {r:R} (h:brN n x y=some r):y=some r:=by
 cases n with
 | zero=>obtain ⟨b,a⟩:=Y4n h;exact b ▸ a
 | succ n=>exact h
end
section
def asV (s:Sto) (es:Nat):AVal->Option (Nat×Nat×Nat)
 | .v (.c (.own id))=>match s id with
  | some (.arr es' N _)=>if es=es' then some (id,0,N) else none
  | _=>none
 | .v (.c (.sub id es' lo n))=>if es=es' then some (id,lo,n) else none
 | _=>none
section
variable {P:Program} {L:Lay} {C:Ctx} {nt:Nat} {R:Nat->Prop} {η:Nat->Value} {e:Env} {s:Sto} {a:Act} {w:World}
inductive VOk (w:World) (X:Nat->Prop) (η:Nat->Value) (id es N:Nat) (f:Nat->List DVal) (lo n:Nat):Value->Prop
 | some (b cap:Nat) (c:Array Value) (e' : TypeId):η id=.slice (some ⟨b,0,none⟩) N cap->w.heap[b]?=some (.cells c e' (0,0))->c.size=cap*es->N<=cap->cap<=maxLen ->
   (∀ i,i<N->(f i).length=es)->(∀ i j,i<N->j<es->DRep w X (c.getD (i*es+j) undef) ((f i).getD j .any))->lo+n<=N->lo<cap ->
   VOk w X η id es N f lo n (.slice (some ⟨b,lo*es,none⟩) n (cap-lo))
 | nil (ad ad' : Option Addr):η id=.slice ad N N->lo=N->n=0->VOk w X η id es N f lo n (.slice ad' 0 0)
theorem Y0h (h:Conc C nt R η e s a w) {x:Operand} {es id lo n N:Nat} {f:Nat->List DVal} (hx:asV s es (aev e x)=some (id,lo,n)) (hs:s id=some (.arr es N f)) :
  VOk w (XS C s η) η id es N f lo n (a.eval x):=by
 have g:=(W2 h x).1;have d:=h.st id _ hs
 unfold asV at hx;split at hx
 ·rename_i m l
  split at hx
  ·rename_i o p t i
   split at hx
   ·cases hx
    rw [hs] at i;cases i
    rw [l] at g;rw [Q6I g]
    generalize hu:η id=u at d
    cases d with
    | nil ad=>exact .nil ad ad hu rfl rfl
    | arr b _ cap _ c e' _ h1 h2 h3 h4 h5 h6 h7=>
     have:=VOk.some (w:=w) (X:=XS C s η) (η:=η) (id:=id) (f:=f) (lo:=0) b cap c e' hu h1 h2 h3 h4 h6 h7 (Nat.le_of_eq (Nat.zero_add _)) h5
     simpa using this
   ·cases hx
  ·cases hx
 ·rename_i m o q r l
  split at hx
  ·rename_i j
   cases hx
   subst j;rw [l] at g
   generalize a.eval x=v at g
   cases g with|v _ _ g=>cases g with|c _ _ g=>cases g with
    | sub b p cap _ _ _ _ hη h1 h2=>
     rw [hη] at d
     cases d with
     | nil=>omega
     | arr _ _ _ _ c e' _ g1 g2 g3 g4 g5 g6 g7=>exact .some b cap c e' hη g1 g2 g3 g4 g6 g7 h1 h2
    | subN ad ad' p _ _ hη=>
     rw [hη] at d
     cases d with
     | nil=>exact .nil _ _ hη rfl rfl
     | arr _ _ _ _ c e' _ g1 g2 g3 g4 g5 g6 g7=>exact .nil _ _ hη rfl rfl
  ·cases hx
 ·cases hx
theorem VOk.slice {X:Nat->Prop} {v:Value} {id es N lo n:Nat} {f:Nat->List DVal} (h:VOk w X η id es N f lo n v):∃ ad cap,v=.slice ad n cap/\(n<=cap)/\lo+n<=N:=by
 cases h with
 | some b cap c e' h1 h2 h3 h4 h5 h6 h7 h8 h9=>exact ⟨_,_,rfl,by omega,h8⟩
 | nil ad ad' h1 h2 h3=>exact ⟨_,_,by rw [h3],by omega,by omega⟩
theorem VOk.part {X X' : Nat->Prop} {ad:Option Addr} {id es N lo n cap:Nat} {f:Nat->List DVal} (h:VOk w X η id es N f lo n (.slice ad n cap)) {l u:Nat} (hlu:l<=u) (hu:lo+u<=N) :
  ARep w X' η C (.slice (if cap=l then ad else ad.map (·.add (l*es))) (u-l) (cap-l)) (.v (.c (.sub id es (lo+l) (u-l)))):=by
 generalize hv:Value.slice ad n cap=v at h
 cases h with
 | some b cap' c e' h1 h2 h3 h4 h5 h6 h7 h8 h9=>
  cases hv
  by_cases hc:cap' - lo=l
  ·have d:u-l=0:=by omega
   have g:cap' - lo-l=0:=by omega
   have i:lo+l=N:=by omega
   have j:cap'=N:=by omega
   rw [d,g,i];subst j
   exact .v _ _ (.c _ _ (.subN _ _ _ _ _ h1))
  ·rw [if_neg hc]
   simp only [Option.map_some,add_lit];have d:lo*es+l*es=(lo+l)*es:=by rw [Nat.add_mul]
   have g:cap' - lo-l=cap' - (lo+l):=by omega
   rw [d,g];exact .v _ _ (.c _ _ (.sub b N cap' id es (lo+l) (u-l) h1 (by omega) (by omega)))
 | nil ad0 ad' h1 h2 h3=>
  cases hv
  have d:u-l=0:=by omega
  have g:lo+l=N:=by omega
  rw [d,g,Nat.zero_sub];exact .v _ _ (.c _ _ (.subN ad0 _ N id es h1))
theorem Z9M (h:Conc C nt R η e s a w) {lo hi:Option Operand} {l u:Option Int} (hl:oI e lo=some l) (hu:oI e hi=some u) (n cap:Nat) (hc:0<=l.getD 0/\l.getD 0<=u.getD n/\u.getD n<=cap) :
  (Instr.sliceBounds true n cap (lo.map a.eval) (hi.map a.eval) none).run P w=.ok ((l.getD 0).toNat,(u.getD n).toNat,cap) w:=by
 rcases Y6i h hl with ⟨h1,h2⟩|⟨k,m,h1,h2⟩ <;> rcases Y6i h hu with ⟨h3,h4⟩|⟨k',m',h3,h4⟩ <;> subst h2 <;> subst h4 <;> simp only [Option.getD_some,Option.getD_none] at hc
 ·subst h1;subst h3
  simp [Instr.sliceBounds]
 ·subst h1
  simp [Instr.sliceBounds,h3,Q4p m' cap _ ⟨hc.2.1,by omega⟩]
 ·subst h3
  have b:=Q4p (P:=P) (w:=w) m n .sliceB ⟨hc.1,by omega⟩ k;simp [Instr.sliceBounds,h1,b]
 ·have b:=Q4p (P:=P) (w:=w) m m'.toNat .sliceB ⟨hc.1,by omega⟩ k
  simp [Instr.sliceBounds,h1,h3,Q4p m' cap _ ⟨by omega,by omega⟩,b]
theorem Y4U (hL:LOk P L) (h:Conc C nt R η e s a w) {o:Oper} (hd:∀ x,o.dst=some x->x<nt) {t:TypeId} {x:Operand} {lo hi:Option Operand} (hop:o.op=.slice t x lo hi none)
  {ti:TI} (ht:L t=some ti) {el:Nat} (hk:ti.kind=.slice el) {te:TI} (hte:L el=some te) {l u:Option Int} (hl:oI e lo=some l) (hu:oI e hi=some u)
  {id lo0 n N:Nat} {f:Nat->List DVal} (hx:asV s te.size (aev e x)=some (id,lo0,n)) (hs:s id=some (.arr te.size N f)) (hc:0<=l.getD 0/\l.getD 0<=u.getD n/\(lo0:Int)+u.getD n<=N) :
  Snd P C nt R η e s a w o { v:=.v (.c (.sub id te.size (lo0+(l.getD 0).toNat) ((u.getD n).toNat-(l.getD 0).toNat))) }:=by
 obtain ⟨i,dd,z,r⟩:=hL t ti ht;obtain ⟨H,G,M,q⟩:=hL el te hte
 have g:=r.kind;rw [hk] at g
 simp only [KOk] at g;have d:=Y0h h hx hs
 obtain ⟨D,m,y,J,I⟩:=d.slice;have p:(u.getD n)<=m:=by
  rw [y] at d;generalize hv:Value.slice D n m=v at d
  cases d with
  | some b cap' c e' h1 h2 h3 h4 h5 h6 h7 h8 h9=>cases hv;omega
  | nil ad0 ad' h1 h2 h3=>cases hv;omega
 rw [y] at d;have B:=Z9M (P:=P) h hl hu n m ⟨hc.1,hc.2.1,p⟩
 have F:∀ j ∈ (AVal.v (.c (.sub id te.size (lo0+(l.getD 0).toNat) ((u.getD n).toNat-(l.getD 0).toNat)))).refs,R j:=by
  intro j A;simp [AVal.refs,TV.refs,CV.refs] at A
  rw [A];exact (h.sr id _ hs).1
 refine K9 h hd ?_ (d.part (l:=(l.getD 0).toNat) (u:=(u.getD n).toNat) (by omega) (by omega)) F;simp only [execOp,hop,Sem.run_bind,Instr.sliceAt,run_underlying r.und,Result.andThen_ok,g,Instr.slice,y,Option.map_none,B,K7 q,Sem.run_pure]
theorem Y7Q (hL:LOk P L) (h:Conc C nt R η e s a w) {o:Oper} (hd:∀ x,o.dst=some x->x<nt) {t:TypeId} {x:Operand} (hop:o.op=.call { callee:=.builtin .len,args:= #[x],argTypes:= #[t] })
  {ti:TI} (ht:L t=some ti) {el:Nat} (hk:ti.kind=.slice el) {es id lo n N:Nat} {f:Nat->List DVal} (hx:asV s es (aev e x)=some (id,lo,n)) (hs:s id=some (.arr es N f)):Snd P C nt R η e s a w o { v:=vi n }:=by
 obtain ⟨i,dd,z,c⟩:=hL t ti ht;have b:=c.kind
 rw [hk] at b;simp only [KOk] at b
 obtain ⟨j,d,g,_⟩:=(Y0h h hx hs).slice;refine K9 h hd (v:=.int .i64 n) ?_ (Q4V _ _ _) (by simp [vi,AVal.refs,TV.refs,CV.refs])
 simp [execOp,hop,resolve,invoke,builtin,Builtin.len_,run_underlying c.und,b,g,goInt]
theorem Y4V (hL:LOk P L) (h:Conc C nt R η e s a w) {o:Oper} (hd:∀ x,o.dst=some x->x<nt) {t:TypeId} {x i:Operand} (hop:o.op=.indexAddr t x i) {ti:TI} (ht:L t=some ti) {el:Nat} (hk:ti.kind=.slice el)
  {te:TI} (hte:L el=some te) {m:Int} (hi:asI (aev e i)=some m) {id lo n N:Nat} {f:Nat->List DVal} (hx:asV s te.size (aev e x)=some (id,lo,n)) (hs:s id=some (.arr te.size N f)) (hc:0<=m/\m<n) :
  Snd P C nt R η e s a w o { v:=.v (.c (.pte id te.size (lo+m.toNat) 0)) }:=by
 obtain ⟨A,y,D,l⟩:=hL t ti ht;obtain ⟨z,B,F,g⟩:=hL el te hte
 have d:=l.kind;rw [hk] at d
 simp only [KOk] at d;subst d
 obtain ⟨k,u⟩:=Z9u h hi;have p:=Y0h h hx hs
 generalize ev:a.eval x=v at p
 cases p with
 | some b cap c e' h1 h2 h3 h4 h5 h6 h7 h8 h9=>
  refine K9 h hd (v:=.pointer (some ⟨b,(lo+m.toNat)*te.size+0,none⟩)) ?_ (.v _ _ (.c _ _ (.pte b N cap _ _ _ _ h1))) (fun j q=>by simp [AVal.refs,TV.refs,CV.refs] at q;rw [q];exact (h.sr id _ hs).1);have r:lo*te.size+m.toNat*te.size=(lo+m.toNat)*te.size:=by rw [Nat.add_mul]
  simp [execOp,hop,Instr.indexAt,u,ev,asIntOf,run_underlying l.und,hc,K7 g,add_lit,r]
 | nil ad0 ad' h1 h2 h3=>omega
theorem Y3O (h:Conc C nt R η e s a w) {o:Oper} (hd:∀ x,o.dst=some x->x<nt) {id:Nat} {ob ob' : Obj} (hs:s id=some ob) (hro:ob.ro=false) (hro' : ob'.ro=false) (hrf:∀ j ∈ ob'.refs,R j)
  {w' : World} {v:Value} {x:AVal} (hstp:Stp (fun b=>b ∈ Y5 (η id)) w w') (hrun:(execOp a.eval o).run P w=.ok (.value v) w')
  (hob:∀ X',Q7b w w' (XS C s η) X' -> ORep w' X' η C (η id) ob') (hv:∀ X',ARep w' X' η C v x) (hx:∀ j ∈ x.refs,R j):Snd P C nt R η e s a w o { v:=x,upd:=some (id,ob') }:=by
 have m:=Q5J (C:=C) (s:=s) (η:=η) { v:=x,upd:=some (id,ob') } o.dst v (fun b=>b ∈ Y5 (η id)) hstp (fun b g=>⟨id,ob,hs,g⟩) (fun _ _ d=>by cases d)
  (fun k o d=>by cases d;rw [hs];simp)
 have c:SR.eta { v:=x,upd:=some (id,ob') } o.dst v η=η:=by funext i;simp [SR.eta]
 refine ⟨v,w',.inl hrun,?_⟩;refine h.step o.dst hd _ _ _ (fun b=>b ∈ Y5 (η id)) hstp ?_ (fun _ _ d=>by cases d) ?_ (fun _=>⟨?_,fun j p=>.inl (hx j p)⟩)
 ·intro b g
  refine ⟨⟨id,.inr ⟨ob',rfl⟩,by rw [hs];simp,g⟩,?_⟩;rcases h.ow id ob _ hs g with ⟨l,_⟩|l
  ·rw [hro] at l;cases l
  ·exact l
 ·intro k q d
  cases d
  refine ⟨⟨ob,hs,hro⟩,hro',by simp,hrf,?_⟩;rw [c]
  rw [c] at m;exact hob _ m
 ·rw [c];exact hv _
theorem Y9S {X' : Nat->Prop} {id es N cap b lo k:Nat} {f g:Nat->List DVal} {c:Array Value} {e' : TypeId} {news:List Value} (hX:Q7b w (w.setRow b (c.toList.take (lo*es)++news++c.toList.drop (lo*es+news.length)).toArray) (XS C s η) X')
  (h1:η id=.slice (some ⟨b,0,none⟩) N cap) (h2:w.heap[b]?=some (.cells c e' (0,0))) (h3:c.size=cap*es) (h4:N<=cap) (h5:cap<=maxLen) (h50:0<cap)
  (h6:∀ i,i<N->(f i).length=es) (h7:∀ i j,i<N->j<es->DRep w (XS C s η) (c.getD (i*es+j) undef) ((f i).getD j .any))
  (hk:lo+k<=N) (hn:news.length=k*es) (g1:∀ i,i<k->(g i).length=es) (g2:∀ i j,i<k->j<es->DRep w (XS C s η) (news.getD (i*es+j) undef) ((g i).getD j .any)) :
  ORep (w.setRow b (c.toList.take (lo*es)++news++c.toList.drop (lo*es+news.length)).toArray) X' η C (η id) (.arr es N fun i=>if lo<=i/\i<lo+k then g (i-lo) else f i):=by
 have h:lo*es+news.length<=c.size:=by rw [hn,h3, <-Nat.add_mul];exact Nat.mul_le_mul_right _ (by omega)
 obtain ⟨z,y⟩:=Z0J c (lo*es) news h;rw [h1]
 refine .arr b N cap es _ e' _ (setRow_heap w b c _ e' _ h2) (by rw [z];exact h3) h4 h5 h50 (fun i o=>?_) (fun i j o r=>?_)
 ·by_cases hc:lo<=i/\i<lo+k
  ·simp only [hc,and_self,if_true];exact g1 _ (by omega)
  ·simp only [hc,if_false];exact h6 i o
 ·rw [y]
  have d:∀ {p q:Nat},p<q->p*es+es<=q*es:=fun {p q} hpq=>by
   have:(p+1)*es<=q*es:=Nat.mul_le_mul_right _ hpq
   rwa [Nat.add_mul,Nat.one_mul] at this
  by_cases hc:lo<=i/\i<lo+k
  ·have A:lo*es<=i*es:=Nat.mul_le_mul_right _ hc.1
   have v:=d hc.2;rw [Nat.add_mul] at v
   rw [if_pos ⟨by omega,by omega⟩];simp only [hc,and_self,if_true]
   have u:i*es+j-lo*es=(i-lo)*es+j:=by rw [Nat.sub_mul];omega
   rw [u];exact (g2 (i-lo) j (by omega) r).mono fun x m hn=>hX x m hn
  ·rw [if_neg]
   ·simp only [hc,if_false];exact (h7 i j o r).mono fun x m hn=>hX x m hn
   ·rintro ⟨B,D⟩
    rcases Nat.lt_or_ge i lo with l|t
    ·have:=d l;omega
    ·have:(lo+k)*es<=i*es:=Nat.mul_le_mul_right _ (by omega)
     rw [Nat.add_mul] at this;omega
theorem Y3S {id N cap b:Nat} (h1:η id=.slice (some ⟨b,0,none⟩) N cap) (h:0<cap) (cs:Array Value):Stp (fun x=>x ∈ Y5 (η id)) w (w.setRow b cs):=
 (Z3t w b cs).mono fun x _ c=>by have e:x=b:=c;rw [h1,e];simp [Y5];omega
theorem Y8D {k lo:Nat} {f g:Nat->List DVal} (h:k=0):(fun i=>if lo<=i/\i<lo+k then g (i-lo) else f i)=f:=by
 funext i;rw [if_neg (by omega)]
def DLe (x y:DVal):Prop:=∀ w X v,DRep w X v x->DRep w X v y
theorem DLe.refl (x:DVal):DLe x x:=fun _ _ _ h=>h
theorem DLe.nil (f g:Nat->List DVal):DLe (.lst 0 f) (.lst 0 g):=fun w X v h=>by
 cases h with
 | nil a cap=>exact .nil a cap g
 | lst b off n cap c e fz f es=>exact .nil _ cap g
def Y9q:List DVal->List DVal->Prop
 | [],[]=>True
 | x::xs,y::ys=>DLe x y/\Y9q xs ys
 | _,_=>False
theorem Y9q.spec {xs ys:List DVal} (h:Y9q xs ys):xs.length=ys.length/\∀ j,DLe (xs.getD j .any) (ys.getD j .any):=by
 induction xs generalizing ys with
 | nil=>cases ys with
  | nil=>exact ⟨rfl,fun j=>DLe.refl _⟩
  | cons y ys=>exact h.elim
 | cons x xs ih=>cases ys with
  | nil=>exact h.elim
  | cons y ys=>
   obtain ⟨g,d⟩:=h;obtain ⟨b,c⟩:=ih d
   refine ⟨by simp [b],fun j=>?_⟩
   cases j with
   | zero=>exact g
   | succ j=>exact c j
theorem Y4W (hL:LOk P L) (h:Conc C nt R η e s a w) {o:Oper} (hd:∀ x,o.dst=some x->x<nt) {t:TypeId} {x:Operand} (hop:o.op=.call { callee:=.builtin .clear,args:= #[x],argTypes:= #[t] })
  {ti:TI} (ht:L t=some ti) {el:Nat} (hk:ti.kind=.slice el) {te:TI} (hte:L el=some te) (h0:0<te.size) (hzl:te.zero.length=te.size) {zd0 zd:List DVal} (hz:Y0B te.zero=some zd0) (hle:Y9q zd0 zd)
  {id lo n N:Nat} {f:Nat->List DVal} (hx:asV s te.size (aev e x)=some (id,lo,n)) (hs:s id=some (.arr te.size N f)) :
  Snd P C nt R η e s a w o { v:=.any,upd:=some (id,.arr te.size N fun i=>if lo<=i/\i<lo+n then (fun _=>zd) (i-lo) else f i) }:=by
 obtain ⟨i,dd,z,F⟩:=hL t ti ht;obtain ⟨i2,d2,d,m⟩:=hL el te hte
 have B:=F.kind;rw [hk] at B
 simp only [KOk] at B;subst B
 have W:=Y0h h hx hs;have a1:=h.st id _ hs
 have M:∀ j ∈ (AVal.any).refs,R j:=fun j G=>by cases G
 have I:∀ v,a.eval x=v->(∃ ad y,v=.slice ad 0 y)->n=0->Snd P C nt R η e s a w o { v:=.any,upd:=some (id,.arr te.size N fun i=>if lo<=i/\i<lo+n then (fun _=>zd) (i-lo) else f i) }:=by
  rintro v Y ⟨ad,y,rfl⟩ T;have p:(execOp a.eval o).run P w=.ok (.value (.tuple #[])) w:=by
   cases ad <;> simp [execOp,hop,resolve,invoke,builtin,Builtin.clear_,run_underlying F.und,Y]
  refine Y3O h hd hs rfl rfl (by simp [Obj.refs]) (Stp.refl _ _) p (fun X' Z=>?_) (fun X'=>.any _) M;have U:ORep w X' η C (η id) (.arr te.size N f):=a1.mono Z (fun j G=>rfl) fun b hb=>rfl
  rw [<-Y8D (k:=n) (lo:=lo) (f:=f) (g:=fun _=>zd) T] at U;exact U
 generalize Y:a.eval x=v at W
 cases W with
 | some b y c e' h1 h2 h3 h4 h5 h6 h7 h8 h9=>
  by_cases T:n=0
  ·exact I _ Y ⟨some ⟨b,lo*te.size,none⟩,y-lo,by rw [T]⟩ T
  ·have l:d.cells.size=te.size:=by rw [(m.zrep w (XS C s η) η C).1,hzl]
   obtain ⟨D,V⟩:=Z6S (m.zrep w (XS C s η) η C) hz;have J:(Builtin.zeroCells d.cells n).toList.length=n*te.size:=by simp [Builtin.zeroCells,l]
   have O:∀ u ∈ (Builtin.zeroCells d.cells n).toList,u.oneCell'=true:=by
    intro u hu;simp only [Builtin.zeroCells,Array.toList_map,List.mem_map] at hu
    obtain ⟨q,hq,rfl⟩:=hu;have r:q % d.cells.size<d.cells.size:=Nat.mod_lt _ (by rw [l];exact h0)
    have:=(V (q % d.cells.size) (by rw [D];exact r)).one
    simpa [r] using this
   have H:lo*te.size+0+(Builtin.zeroCells d.cells n).toList.length<=c.size:=by rw [J,h3,Nat.add_zero, <-Nat.add_mul];exact Nat.mul_le_mul_right _ (by omega)
   have A:=run_storeCells_at P b (lo*te.size) e' (Builtin.zeroCells d.cells n).toList 0 c w h2 H O;simp only [Nat.add_zero] at A
   have p:(execOp a.eval o).run P w=.ok (.value (.tuple #[])) (w.setRow b (c.toList.take (lo*te.size)++(Builtin.zeroCells d.cells n).toList++c.toList.drop (lo*te.size+(Builtin.zeroCells d.cells n).toList.length)).toArray):=by
    simp [execOp,hop,resolve,invoke,builtin,Builtin.clear_,run_underlying F.und,Y,Q9n m,A,T]
   refine Y3O h hd hs rfl rfl (by simp [Obj.refs]) (Y3S h1 (by omega) _) p (fun X' Z=>?_) (fun X'=>.any _) M;refine Y9S Z h1 h2 h3 h4 h5 (by omega) h6 h7 h8 J (fun i _=>by rw [<-hle.spec.1,D,l]) fun i j hi G=>?_
   have r:i*te.size+j<n*te.size:=by
    have:(i+1)*te.size<=n*te.size:=Nat.mul_le_mul_right _ hi
    rw [Nat.add_mul,Nat.one_mul] at this;omega
   have hm:(i*te.size+j) % te.size=j:=by rw [Nat.add_comm,Nat.add_mul_mod_self_right,Nat.mod_eq_of_lt G]
   have hg:(Builtin.zeroCells d.cells n).toList.getD (i*te.size+j) undef=d.cells.getD j undef:=by
    have:=Z2h (n*d.cells.size) (fun i=>d.cells[i % d.cells.size]!) (i*te.size+j) (by rw [l];exact r)
    have e1:(Builtin.zeroCells d.cells n).toList.getD (i*te.size+j) undef=(Builtin.zeroCells d.cells n).getD (i*te.size+j) undef:=by simp [List.getD_eq_getElem?_getD,Array.getD_eq_getD_getElem?]
    rw [e1];unfold Builtin.zeroCells
    rw [this,l,hm];have:j<d.cells.size:=by rw [l];exact G
    simp [this]
   rw [hg];exact hle.spec.2 j _ _ _ (V j (by rw [D,l];exact G))
 | nil ad0 ad' h1 h2 h3=>exact I _ Y ⟨_,_,rfl⟩ h3
end
end
section
section
variable {P:Program} {C:Ctx} {nt:Nat} {L:Lay} {ops:Array Oper} {ds:List Dir} {e:Env} {s:Sto}
def rE (r:SR):Array Oper->Oper->Env->Eff:=fun ops o e=>Y1z ops o e r r.v
theorem Z0G {o:Oper} (hdo:Q1E nt o=true) {r:SR} (hg:Q8o ops e o=some true)
  (hsnd:∀ (R:Nat->Prop) (η:Nat->Value) (e0:Env) (s0:Sto) (a:Act) (w:World),(∀ x ∈ o.op.operands.toList,aev e0 x=aev e x)->(∀ x ∈ o.op.operands.toList,∀ i ∈ (aev e x).refs,s0 i=s i)->(∀ d,o.dst=some d->r.new≠none->¬ R d) ->
   Conc C nt R η e0 s0 a w->Snd P C nt R η e0 s0 a w o r):StT P C nt ops o (Y1z ops o e r r.v) e s:=by
 intro R η e0 s0 a w p m z b K Q J;have c:∀ x ∈ o.op.operands.toList,aev e0 x=aev e x:=by
  intro x c
  cases x with
  | tmp t=>exact p t (List.mem_append.2 (.inl (List.mem_filterMap.2 ⟨_,c,rfl⟩)))
  | const v=>rfl
  | global g=>rfl
  | func f=>rfl
 have q:∀ x ∈ o.op.operands.toList,∀ i ∈ (aev e x).refs,s0 i=s i:=fun x c i F=>m i (List.mem_flatMap.2 ⟨x,c,F⟩)
 have D:=Q5A (e:=e) b (fun t H=>p t (List.mem_append.2 (.inr H))) hg;rw [if_pos D]
 have M:=hsnd R η e0 s0 a w c q (fun d B G=>z d (by
  obtain ⟨N,u⟩:=Option.ne_none_iff_exists'.1 G;simp [Y1z,SR.nw,u,B])) b
 refine M.wp fun η' I w' A=>J η' I w' ?_
 have y:=A.wider (Y4Q r o.dst R);have h:upS (Y1z ops o e r r.v).l s0=r.sto o.dst s0:=Y4P r o.dst s0
 rw [h];have j:Z0f o.dst (Y1z ops o e r r.v).v e0=r.env o.dst e0:=rfl
 rw [j];exact y
theorem Z5T {s0:Sto} {es:Nat} {x:AVal} (h:∀ i ∈ x.refs,s0 i=s i):asV s0 es x=asV s es x:=by
 unfold asV;split
 ·rw [h _ (by simp [AVal.refs,TV.refs,CV.refs])]
 ·rfl
 ·rfl
theorem Y0s {es:Nat} {x:AVal} {id lo n:Nat} (h:asV s es x=some (id,lo,n)):id ∈ x.refs:=by
 unfold asV at h;split at h
 ·split at h
  ·split at h
   ·cases h;simp [AVal.refs,TV.refs,CV.refs]
   ·cases h
  ·cases h
 ·split at h
  ·cases h;simp [AVal.refs,TV.refs,CV.refs]
  ·cases h
 ·cases h
def slT (L:Lay) (t:TypeId) (te:TI):Prop:=∃ ti el,L t=some ti/\ti.kind=.slice el/\L el=some te
variable {k:Nat}
theorem Q7c (hL:LOk P L) {te:TI} {t:TypeId} (hT:slT L t te) {x:Operand} {lo hi:Option Operand} {l u:Option Int} {id lo0 n N:Nat} {f:Nat->List DVal} {r:AVal}
  (hk:Q2f ds k=rE { v:=r }) (hop:(Y6 ops.toList k).op=.slice t x lo hi none)
  (hdo:(Q1E nt (Y6 ops.toList k)&&(Q8o ops (W6 L ops ops.toList ds e s k) (Y6 ops.toList k)==some true))=true)
  (hl:oI (W6 L ops ops.toList ds e s k) lo=some l) (hu:oI (W6 L ops ops.toList ds e s k) hi=some u)
  (hx:asV (Q2o L ops ops.toList ds e s k) te.size (aev (W6 L ops ops.toList ds e s k) x)=some (id,lo0,n)) (hs:Q2o L ops ops.toList ds e s k id=some (.arr te.size N f))
  (hc:0<=l.getD 0/\l.getD 0<=u.getD n/\(lo0:Int)+u.getD n<=N) (hr:r=.v (.c (.sub id te.size (lo0+(l.getD 0).toNat) ((u.getD n).toNat-(l.getD 0).toNat)))):KAt P C nt L ops ds e s k:=by
 unfold KAt;rw [hk]
 simp only [Bool.and_eq_true,beq_iff_eq] at hdo;obtain ⟨J,I,H,m,z⟩:=hT
 refine Z0G hdo.1 hdo.2 fun R η A F a w j g _ q=>?_
 have b:∀ y,(y=x\/lo=some y\/hi=some y)->y ∈ (Y6 ops.toList k).op.operands.toList:=by
  intro y i;rw [hop]
  rcases i with h|h|h
  ·subst h;simp [Op.operands]
  ·subst h;simp [Op.operands,optional]
  ·subst h;simp [Op.operands,optional]
 have B:asV F te.size (aev A x)=some (id,lo0,n):=by
  rw [j x (b x (.inl rfl)),Z5T (g x (b x (.inl rfl)))];exact hx
 have p:F id=some (.arr te.size N f):=by rw [g x (b x (.inl rfl)) id (Y0s hx)];exact hs
 have D:oI A lo=some l:=by rw [Z8a fun y i=>j y (b y (.inr (.inl i)))];exact hl
 have o:oI A hi=some u:=by rw [Z8a fun y i=>j y (b y (.inr (.inr i)))];exact hu
 rw [hr];exact Y4U hL q (fun d G=>Q5w hdo.1 d G) hop H m z D o B p hc
theorem Y4I (hL:LOk P L) {te:TI} {t:TypeId} (hT:slT L t te) {x:Operand} {es id lo0 n N:Nat} {f:Nat->List DVal}
  (hk:Q2f ds k=rE { v:=vi n }) (hop:(Y6 ops.toList k).op=.call { callee:=.builtin .len,args:= #[x],argTypes:= #[t] })
  (hdo:(Q1E nt (Y6 ops.toList k)&&(Q8o ops (W6 L ops ops.toList ds e s k) (Y6 ops.toList k)==some true))=true)
  (hx:asV (Q2o L ops ops.toList ds e s k) es (aev (W6 L ops ops.toList ds e s k) x)=some (id,lo0,n)) (hs:Q2o L ops ops.toList ds e s k id=some (.arr es N f)):KAt P C nt L ops ds e s k:=by
 unfold KAt;rw [hk]
 simp only [Bool.and_eq_true,beq_iff_eq] at hdo;obtain ⟨y,u,p,g,q⟩:=hT
 refine Z0G hdo.1 hdo.2 fun R η r l a w o b _ i=>?_
 have c:x ∈ (Y6 ops.toList k).op.operands.toList:=by rw [hop];simp [Op.operands,Call.operands]
 have j:asV l es (aev r x)=some (id,lo0,n):=by
  rw [o x c,Z5T (b x c)];exact hx
 have h:l id=some (.arr es N f):=by rw [b x c id (Y0s hx)];exact hs
 exact Y7Q hL i (fun d m=>Q5w hdo.1 d m) hop p g j h
theorem Z7v (hL:LOk P L) {te:TI} {t:TypeId} (hT:slT L t te) {x i:Operand} {m:Int} {id lo0 n N:Nat} {f:Nat->List DVal} {r:AVal}
  (hk:Q2f ds k=rE { v:=r }) (hop:(Y6 ops.toList k).op=.indexAddr t x i)
  (hdo:(Q1E nt (Y6 ops.toList k)&&(Q8o ops (W6 L ops ops.toList ds e s k) (Y6 ops.toList k)==some true))=true)
  (hi:asI (aev (W6 L ops ops.toList ds e s k) i)=some m)
  (hx:asV (Q2o L ops ops.toList ds e s k) te.size (aev (W6 L ops ops.toList ds e s k) x)=some (id,lo0,n)) (hs:Q2o L ops ops.toList ds e s k id=some (.arr te.size N f))
  (hc:0<=m/\m<n) (hr:r=.v (.c (.pte id te.size (lo0+m.toNat) 0))):KAt P C nt L ops ds e s k:=by
 unfold KAt;rw [hk]
 simp only [Bool.and_eq_true,beq_iff_eq] at hdo;obtain ⟨F,D,A,h,p⟩:=hT
 refine Z0G hdo.1 hdo.2 fun R η B u a w y b _ l=>?_
 have g:x ∈ (Y6 ops.toList k).op.operands.toList:=by rw [hop];simp [Op.operands]
 have o:i ∈ (Y6 ops.toList k).op.operands.toList:=by rw [hop];simp [Op.operands]
 have q:asV u te.size (aev B x)=some (id,lo0,n):=by
  rw [y x g,Z5T (b x g)];exact hx
 have j:u id=some (.arr te.size N f):=by rw [b x g id (Y0s hx)];exact hs
 rw [<-y i o] at hi;rw [hr]
 exact Y4V hL l (fun d z=>Q5w hdo.1 d z) hop A h p hi q j hc
theorem Z7w (hL:LOk P L) {te:TI} {t:TypeId} (hT:slT L t te) {x:Operand} {id lo0 n N:Nat} {f g:Nat->List DVal} (zd0 zd:List DVal) (hle:Y9q zd0 zd)
  (hk:Q2f ds k=rE { v:=.any,upd:=some (id,.arr te.size N g) }) (hop:(Y6 ops.toList k).op=.call { callee:=.builtin .clear,args:= #[x],argTypes:= #[t] })
  (hdo:(Q1E nt (Y6 ops.toList k)&&(Q8o ops (W6 L ops ops.toList ds e s k) (Y6 ops.toList k)==some true))=true) (h0:0<te.size) (hzl:te.zero.length=te.size) (hz:Y0B te.zero=some zd0)
  (hx:asV (Q2o L ops ops.toList ds e s k) te.size (aev (W6 L ops ops.toList ds e s k) x)=some (id,lo0,n)) (hs:Q2o L ops ops.toList ds e s k id=some (.arr te.size N f))
  (hg:g=fun i=>if lo0<=i/\i<lo0+n then (fun _=>zd) (i-lo0) else f i):KAt P C nt L ops ds e s k:=by
 unfold KAt;rw [hk,hg]
 simp only [Bool.and_eq_true,beq_iff_eq] at hdo;obtain ⟨A,z,u,h,m⟩:=hT
 refine Z0G hdo.1 hdo.2 fun R η y p a w r b _ l=>?_
 have c:x ∈ (Y6 ops.toList k).op.operands.toList:=by rw [hop];simp [Op.operands,Call.operands]
 have o:asV p te.size (aev y x)=some (id,lo0,n):=by
  rw [r x c,Z5T (b x c)];exact hx
 have j:p id=some (.arr te.size N f):=by rw [b x c id (Y0s hx)];exact hs
 exact Y4W hL l (fun d q=>Q5w hdo.1 d q) hop u h m h0 hzl hz hle o j
end
end
section
section
variable {P:Program} {C:Ctx} {nt:Nat} {L:Lay} {pins:List Nat} {K:Act->World->Prop}
theorem U5 (k:Nat) (o:Obj) (S:List (Nat×Obj)) (i:Nat):ls ((k,o)::S) i=if i=k then some o else ls S i:=by
 unfold ls;rw [List.lookup_cons]
 by_cases h:i=k
 ·subst h;simp
 ·have:(i==k)=false:=by simpa using h
  rw [this,if_neg h]
theorem Z8d (k:Nat) (o:AVal) (E:List (Nat×AVal)) (i:Nat):lk ((k,o)::E) i=if i=k then o else lk E i:=by
 unfold lk;rw [List.lookup_cons]
 by_cases h:i=k
 ·subst h;simp
 ·have:(i==k)=false:=by simpa using h
  rw [this,if_neg h]
end
end
end
end Go.Ab
