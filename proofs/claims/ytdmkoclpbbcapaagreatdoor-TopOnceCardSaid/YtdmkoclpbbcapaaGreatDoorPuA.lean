/- The code that the statement reaches as plain programs, and what they compute. -/
import Derived.Test.YtdmkoclpbbcapaaGreatDoorAl
set_option linter.unusedVariables false
set_option linter.unusedSimpArgs false
namespace Go.Ab
noncomputable section
section
structure Rn (α:Type) where
 lo:Int
 hi:Int
 v:α
def Rn.R{α:Type}(a b:Rn α):Prop:=a.hi<=b.lo/\(a.hi=b.lo->a.v≠b.v)
structure Runs {α:Type} (l:List (Rn α)):Prop where
 pos:∀r∈l,r.lo<r.hi
 ch:l.Pairwise Rn.R
def K5{α:Type}(d:α):List (Rn α)->Int->α
 |[],_=>d
 |r::l,t=>if r.lo<=t/\t<r.hi then r.v else K5 d l t
section
variable {α:Type} {d:α}
theorem PQ{l:List (Rn α)}{t:Int}(h:∀r∈l,¬(r.lo<=t/\t<r.hi)):K5 d l t=d:=by
 induction l with
 |nil=>rfl
 |cons r l ih=>
  rw[K5,Qa1 (h r (by simp)),ih λq hq=>h q (by simp[hq])]
theorem xM{l m:List (Rn α)}{t:Int}:K5 d (l++m) t=if ∃r∈l,r.lo<=t/\t<r.hi then K5 d l t else K5 d m t:=by
 induction l with
 |nil=>simp
 |cons r l ih=>
  rw[Ql3,K5,K5]
  by_cases h:r.lo<=t/\t<r.hi
  .rw [Qa2 h,Qa2 ⟨r,by simp,h⟩,Qa2 h]
  .rw [Qa1 h,ih,Qa1 h]
   have e:(∃q∈r::l,q.lo<=t/\t<q.hi)↔∃q∈l,q.lo<=t/\t<q.hi:=by
    constructor
    .rintro ⟨q,hq,hh⟩
     rcases Qf0.1 hq with rfl|hq
     .exact absurd hh h
     .exact ⟨q,hq,hh⟩
    .rintro ⟨q,hq,hh⟩;exact⟨q,by simp[hq],hh⟩
   simp only[e]
theorem Runs.tail{a:Rn α}{l:List (Rn α)}(h:Runs (a::l)):Runs l:=⟨λr hr=>h.pos r (by simp[hr]),(Qd2.1 h.ch).2⟩
theorem Runs.head{a:Rn α}{l:List (Rn α)}(h:Runs (a::l)):∀r∈l,a.R r:=(Qd2.1 h.ch).1
theorem Runs.nil:Runs ([]:List (Rn α)):=⟨λr hr=>by simp at hr,.nil⟩
theorem Q3M{a:Rn α}(hd:a.v≠d):∀{l:List (Rn α)},(∀r∈l,a.R r)->K5 d l a.hi≠a.v:=by
 intro l
 induction l with
 |nil=>intro _ h;exact hd h.symm
 |cons r l ih=>
  intro h;rw[K5]
  split
  .rename_i hr
   obtain⟨h1,h2⟩:=h r (by simp);exact λe=>h2 (by omega) e.symm
  .exact ih λq hq=>h q (by simp[hq])
theorem Runs.unique{l:List (Rn α)}:∀{m:List (Rn α)},Runs l->Runs m->(∀r∈l,r.v≠d)->(∀r∈m,r.v≠d)->(∀t,K5 d l t=K5 d m t)->l=m:=by
 have before:∀{a:Rn α} {l:List (Rn α)},Runs (a::l)->∀t,t<a.hi->K5 d l t=d:=λ{a l} h t ht=>PQ λr hr=>by have:=(h.head r hr).1;omega
 have before' : ∀{a:Rn α} {l:List (Rn α)},Runs (a::l)->∀t,t<a.lo->K5 d (a::l) t=d:=λ{a l} h t ht=>by
  rw[K5,Qa1 (by omega)];exact before h t (by have:=h.pos a (by simp);omega)
 have first:∀{a:Rn α} {l:List (Rn α)},Runs (a::l)->K5 d (a::l) a.lo=a.v:=λ{a l} h=>by
  have:=h.pos a (by simp)
  rw[K5,Qa2 ⟨by omega,this⟩]
 induction l with
 |nil=>
  intro m hl hm dl dm h
  cases m with
  |nil=>rfl
  |cons b m=>
   have:=h b.lo
   rw[first hm]at this;exact absurd this.symm (dm b (by simp))
 |cons a l ih=>
  intro m hl hm dl dm h
  cases m with
  |nil=>
   have:=h a.lo
   rw[first hl]at this;exact absurd this (dl a (by simp))
  |cons b m=>
   have ha:=dl a (by simp);have hb:=dm b (by simp)
   have e1:a.lo=b.lo:=by
    rcases Int.lt_trichotomy a.lo b.lo with hlt|he|hlt
    .have:=h a.lo
     rw[first hl,before' hm _ hlt]at this;exact absurd this ha
    .exact he
    .have:=h b.lo
     rw[first hm,before' hl _ hlt]at this;exact absurd this.symm hb
   have e2:a.v=b.v:=by
    have:=h a.lo
    rw[first hl,e1,first hm]at this;exact this
   have pa:=hl.pos a (by simp);have pb:=hm.pos b (by simp)
   have e3:a.hi=b.hi:=by
    rcases Int.lt_trichotomy a.hi b.hi with hlt|he|hlt
    .have:=h a.hi
     rw[K5,Qa1 (by omega),K5,Qa2 ⟨by omega,hlt⟩, <-e2]at this;exact absurd this (Q3M ha hl.head)
    .exact he
    .have:=h b.hi
     rw[K5,Qa2 ⟨by omega,hlt⟩,K5,Qa1 (by omega),e2]at this;exact absurd this.symm (Q3M hb hm.head)
   have e:a=b:=by cases a;cases b;simp_all
   subst e;congr 1
   refine ih hl.tail hm.tail (λr hr=>dl r (by simp[hr])) (λr hr=>dm r (by simp[hr])) λt=>?_
   by_cases ht:t<a.hi
   .rw [before hl t ht,before hm t ht]
   .have:=h t
    rw[K5,Qa1 (by omega),K5,Qa1 (by omega)]at this;exact this
theorem Runs.filter{l:List (Rn α)}(h:Runs l)(p:Rn α->Bool):Runs (l.filter p):=⟨λr hr=>h.pos r (Qf9.1 hr).1,h.ch.filter p⟩
theorem Runs.atR_filter{l:List (Rn α)}(h:Runs l)(p:Rn α->Bool)(hp:∀r∈l,p r=false->r.v=d)(t:Int):K5 d (l.filter p) t=K5 d l t:=by
 induction l with
 |nil=>rfl
 |cons a l ih=>
  have ih:=ih h.tail λr hr=>hp r (by simp[hr])
  rw[Qo4];split
  .rw [K5,K5,ih]
  .rename_i hpa
   rw[ih,K5];split
   .rename_i ht
    rw[hp a (by simp) (by simpa using hpa)];exact PQ λr hr=>by have:=(h.head r hr).1;omega
   .rfl
structure Bst (d:α) (f:Int->α) (acc:List (Rn α)) (c:Int):Prop where
 runs:Runs acc
 le:∀r∈acc,r.hi<=c
 val:∀t,t<c->K5 d acc t=f t
theorem Bst.out{f:Int->α}{acc:List (Rn α)}{c:Int}(h:Bst d f acc c)(t:Int)(ht:c<=t):K5 d acc t=d:=PQ λr hr=>by have:=h.le r hr;omega
theorem Bst.start{f:Int->α}{c:Int}(h:∀t,t<c->f t=d):Bst d f [] c:=⟨.nil,λr hr=>by simp at hr,λt ht=>(h t ht).symm⟩
theorem Bst.skip{f:Int->α}{acc:List (Rn α)}{c c1:Int}(h:Bst d f acc c)(hc:c<=c1)(hf:∀t,c<=t->t<c1->f t=d):Bst d f acc c1:=
 ⟨h.runs,λr hr=>by have:=h.le r hr;omega,λt ht=>by
  by_cases h1:t<c
  .exact h.val t h1
  .rw [h.out t (by omega),hf t (by omega) ht]⟩
theorem Bst.add{f:Int->α}{acc:List (Rn α)}{c c1:Int}(h:Bst d f acc c)(hc:c<c1)(hf:∀ t,c<=t->t<c1->f t=f c)(hl:∀ a,acc.getLast?=some a->a.hi=c->a.v≠f c):
  Bst d f (acc++[⟨c,c1,f c⟩]) c1:=by
 refine⟨⟨λr hr=>?_,?_⟩,λr hr=>?_,λt ht=>?_⟩
 .rcases Qa9.1 hr with hr|hr
  .exact h.runs.pos r hr
  .rw [Qb0.1 hr];exact hc
 .refine Qd5.2 ⟨h.runs.ch,Qe6 _ _,λa ha b hb=>?_⟩
  rw[Qb0.1 hb];refine⟨h.le a ha,λhe=>?_⟩
  refine hl a ?_ he;obtain⟨s,e,rfl⟩:=Ql8 ha
  cases e with
  |nil=>simp
  |cons q e=>
   have h1:=h.runs.ch;rw[Qd5]at h1
   have h2:=(Qd2.1 h1.2.1).1 q (by simp);have h3:=h.runs.pos q (by simp)
   have h4:=h.le q (by simp);have h5:=h2.1
   have he' : a.hi=c:=he;omega
 .rcases Qa9.1 hr with hr|hr
  .have:=h.le r hr;omega
  .rw [Qb0.1 hr];exact Qn3 _
 .rw [xM]
  by_cases h1:t<c
  .split
   .exact h.val t h1
   .rename_i hn
    have e:=h.val t h1;rw[PQ λr hr hh=>hn ⟨r,hr,hh⟩]at e
    rw[K5,Qa1 (by simp only;omega),K5,e]
  .rw [Qa1,K5,Qa2 ⟨by simp only;omega,ht⟩,hf t (by omega) ht]
   rintro⟨r,hr,hh⟩;have:=h.le r hr;omega
theorem Bst.grow{f:Int->α}{s:List (Rn α)}{a:Rn α}{c c1:Int}(h:Bst d f (s++[a]) c)(ha:a.hi=c)(hc:c<c1)(hf:∀ t,c<=t->t<c1->f t=a.v):
  Bst d f (s++[⟨a.lo,c1,a.v⟩]) c1:=by
 have hp:=h.runs.pos a (by simp);obtain⟨q1,_,q3⟩:=Qd5.1 h.runs.ch
 refine⟨⟨λr hr=>?_,?_⟩,λr hr=>?_,λt ht=>?_⟩
 .rcases Qa9.1 hr with hr|hr
  .exact h.runs.pos r (by simp[hr])
  .rw [Qb0.1 hr];simp only;omega
 .refine Qd5.2 ⟨q1,Qe6 _ _,λb hb e he=>?_⟩
  rw[Qb0.1 he];exact q3 b hb a (by simp)
 .rcases Qa9.1 hr with hr|hr
  .have:=h.le r (by simp[hr]);omega
  .rw [Qb0.1 hr];exact Qn3 _
 .by_cases h1:t<c
  .have:=h.val t h1
   rw[xM]at this⊢;split
   .rename_i hh;rwa [Qa2 hh]at this
   .rename_i hh
    rw[Qa1 hh]at this;rw[<-this,K5,K5]
    have:(a.lo<=t/\t<c1)↔(a.lo<=t/\t<a.hi):=by omega
    simp only[this,K5]
  .rw [xM,Qa1,K5,Qa2 ⟨by simp only;omega,ht⟩,hf t (by omega) ht]
   rintro⟨r,hr,hh⟩;have:=h.le r (by simp[hr]);omega
end
structure Span where
 L_:Int
 R_:Int
 deriving DecidableEq
def Span.rn(s:Span):Rn Bool:=⟨s.L_,s.R_,true⟩
def Span.has(s:Span)(x:Int):Bool:=decide (s.L_<=x)&&decide (x<s.R_)
def J8(l:List Span)(x:Int):Bool:=l.any λs=>s.has x
structure SpOk (l:List Span):Prop where
 pos:∀s∈l,s.L_<s.R_
 ch:l.Pairwise λa b=>a.R_<b.L_
theorem DZ(l:List Span)(x:Int):J8 l x=K5 false (l.map Span.rn) x:=by
 induction l with
 |nil=>rfl
 |cons s l ih=>
  rw[Qf7,K5, <-ih];simp only[J8,Ql0,Span.has,Span.rn]
  by_cases h:s.L_<=x/\x<s.R_
  .simp [h.1,h.2]
  .by_cases h1:s.L_<=x
   .have:¬x<s.R_:=λh2=>h ⟨h1,h2⟩
    simp[this]
   .simp [h1]
theorem SpOk.runs{l:List Span}(h:SpOk l):Runs (l.map Span.rn):=by
 refine⟨λr hr=>?_,?_⟩
 .obtain ⟨s,hs,rfl⟩:=Qc5.1 hr
  exact h.pos s hs
 .rw [Qi4]
  exact h.ch.imp λ{a b} hab=>⟨by show a.R_<=b.L_;omega,λe=>by have e' : a.R_=b.L_:=e;omega⟩
theorem SpOk.of_runs{l:List Span}(h:Runs (l.map Span.rn)):SpOk l:=by
 refine⟨λs hs=>h.pos s.rn (Qc5.2 ⟨s,hs,rfl⟩),?_⟩;have:=h.ch
 rw[Qi4]at this;refine this.imp λ{a b} hab=>?_
 have h1:a.R_<=b.L_:=hab.1;rcases Int.lt_or_lt_of_ne (λe:a.R_=b.L_=>hab.2 e rfl)with h2|h2
 .exact h2
 .omega
theorem Z6h{a b:Span}(h:a.rn=b.rn):a=b:=by
 cases a;cases b;simp only[Span.rn,Rn.mk.injEq]at h;simp[h.1,h.2.1]
theorem SpOk.unique{l m:List Span}(hl:SpOk l)(hm:SpOk m)(h:∀x,J8 l x=J8 m x):l=m:=by
 have:=Runs.unique (d:=false) hl.runs hm.runs (λr hr=>by obtain⟨s,_,rfl⟩:=Qc5.1 hr;simp[Span.rn]) (λr hr=>by obtain⟨s,_,rfl⟩:=Qc5.1 hr;simp[Span.rn])
  λt=>by rw[<-DZ, <-DZ,h]
 exact(List.map_inj_right λa b e=>Z6h e).1 this
structure Rect where
 L_:Int
 w_:Int
 R_:Int
 H_:Int
 deriving DecidableEq
def Rect.has(r:Rect)(x y:Int):Bool:=decide (r.L_<=x)&&decide (x<r.R_)&&decide (r.w_<=y)&&decide (y<r.H_)
def Q2(l:List Rect)(x y:Int):Bool:=l.any λr=>r.has x y
structure Bands (l:List (Rn (List Span))):Prop where
 runs:Runs l
 sp:∀b∈l,SpOk b.v
 ne:∀b∈l,b.v≠[]
def z9(b:Rn (List Span)):List Rect:=b.v.map λs=>⟨s.L_,b.lo,s.R_,b.hi⟩
def flat(l:List (Rn (List Span))):List Rect:=l.flatMap z9
theorem Jk(l m:List Rect)(x y:Int):Q2 (l++m) x y=(Q2 l x y||Q2 m x y):=by simp[Q2]
theorem Z2C(b:Rn (List Span))(x y:Int):Q2 (z9 b) x y=((decide (b.lo<=y)&&decide (y<b.hi))&&J8 b.v x):=by
 unfold Q2 z9 J8;rw[Qu5]
 induction b.v with
 |nil=>simp
 |cons s l ih=>
  rw[Ql0,Ql0,ih];simp only[Function.comp,Rect.has,Span.has]
  cases decide (b.lo<=y)<;>cases decide (y<b.hi)<;>simp
theorem Runs.inR_flat{l:List (Rn (List Span))}(h:Runs l)(x y:Int):Q2 (flat l) x y=J8 (K5 [] l y) x:=by
 induction l with
 |nil=>rfl
 |cons b l ih=>
  have e:flat (b::l)=z9 b++flat l:=rfl;rw[e,Jk,Z2C,ih h.tail,K5]
  by_cases hy:b.lo<=y/\y<b.hi
  .rw [Qa2 hy,PQ λr hr=>by have:=(h.head r hr).1;omega]
   simp[hy.1,hy.2,J8]
  .rw [Qa1 hy]
   have:(decide (b.lo<=y)&&decide (y<b.hi))=false:=by simpa using hy
   simp[this]
theorem SpOk.at{l:List (Rn (List Span))}(h:∀b∈l,SpOk b.v)(y:Int):SpOk (K5 [] l y):=by
 induction l with
 |nil=>exact⟨λs hs=>by simp[K5]at hs,.nil⟩
 |cons b l ih=>
  rw[K5];split
  .exact h b (by simp)
  .exact ih λb hb=>h b (by simp[hb])
theorem Bands.unique{l m:List (Rn (List Span))}(hl:Bands l)(hm:Bands m)(h:∀x y,J8 (K5 [] l y) x=J8 (K5 [] m y) x):l=m:=
 Runs.unique (d:=[]) hl.runs hm.runs hl.ne hm.ne λy=>SpOk.unique (SpOk.at hl.sp y) (SpOk.at hm.sp y) λx=>h x y
def Fin(S:Int->Int->Bool):Prop:=∃l,Bands l/\∀x y,J8 (K5 [] l y) x=S x y
open Classical in
noncomputable def cn(S:Int->Int->Bool):List Rect:=if h:Fin S then flat h.choose else[]
theorem PI{S:Int->Int->Bool}{l:List (Rn (List Span))}(hl:Bands l)(h:∀x y,J8 (K5 [] l y) x=S x y):cn S=flat l:=by
 have hf:Fin S:=⟨l,hl,h⟩;unfold cn
 rw[Qu4 hf];have:=hf.choose_spec
 rw[this.1.unique hl λx y=>(this.2 x y).trans (h x y).symm]
theorem QN{S:Int->Int->Bool}(h:Fin S)(x y:Int):Q2 (cn S) x y=S x y:=by
 obtain⟨l,hl,hS⟩:=h;rw[PI hl hS,hl.runs.inR_flat,hS]
theorem xA{S:Int->Int->Bool}(h:Fin S):∃l,Bands l/\cn S=flat l/\∀x y,J8 (K5 [] l y) x=S x y:=by
 obtain⟨l,hl,hS⟩:=h;exact⟨l,hl,PI hl hS,hS⟩
def Yn(l:List Rect):Prop:=∃b,Bands b/\l=flat b
theorem Yn.eq_cn{l:List Rect}(h:Yn l):l=cn (Q2 l):=by
 obtain⟨b,hb,rfl⟩:=h;exact(PI hb λx y=>(hb.runs.inR_flat x y).symm).symm
theorem UN{S:Int->Int->Bool}(h:Fin S):Yn (cn S):=by
 obtain⟨l,hl,e,_⟩:=xA h;exact⟨l,hl,e⟩
end
end
end Go.Ab
