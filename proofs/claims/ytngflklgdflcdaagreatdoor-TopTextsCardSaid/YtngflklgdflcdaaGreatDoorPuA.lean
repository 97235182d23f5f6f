/- The code that the statement reaches as plain programs, and what they compute. -/
import Derived.Test.YtngflklgdflcdaaGreatDoorAl
set_option linter.all false
noncomputable section
namespace Go.Ab
variable {c1 t:Int}{S:Int->Int->Bool}
structure Rn (α:Type) where
 lo:Int
 hi:Int
 v:α
def Rn.R{α:Type}(a b:Rn α):Prop:=a.hi<=b.lo/\(a.hi=b.lo->a.v≠b.v)
structure dJ {α:Type} (l:List (Rn α)):Prop where
 pos:∀r∈l,r.lo<r.hi
 ch:l.Pairwise Rn.R
def G9{α:Type}(d:α):List (Rn α)->Int->α
 |[],_=>d
 |r::l,t=>if r.lo<=t/\t<r.hi then r.v else G9 d l t
section
variable {α:Type}{d:α}
theorem Rg{l:List (Rn α)}(h:∀r∈l,¬(r.lo<=t/\t<r.hi)):G9 d l t=d:=by
 induction l with
 |nil=>rfl
 |cons r l ih=>
  rw[G9,an (h r (by simp)),ih λq hq=>h q (by simp[hq])]
theorem gD{l m:List (Rn α)}:G9 d (l++m) t=if ∃r∈l,r.lo<=t/\t<r.hi then G9 d l t else G9 d m t:=by
 induction l with
 |nil=>simp
 |cons r l ih=>
  rw[iC,G9,G9]
  by_cases h:r.lo<=t/\t<r.hi
  .rw [av h,av ⟨r,by simp,h⟩,av h]
  .rw [an h,ih,an h]
   have e:(∃q∈r::l,q.lo<=t/\t<q.hi)↔∃q∈l,q.lo<=t/\t<q.hi:=by
    constructor
    .rintro ⟨q,hq,hh⟩
     rcases dY.1 hq with rfl|hq
     .exact absurd hh h
     .exact ⟨q,hq,hh⟩
    .rintro ⟨q,hq,hh⟩;exact⟨q,by simp[hq],hh⟩
   simp only[e]
theorem dJ.tail{a:Rn α}{l:List (Rn α)}(h:dJ (a::l)):dJ l:=⟨λr hr=>h.pos r (by simp[hr]),(fu.1 h.ch).2⟩
theorem dJ.head{a:Rn α}{l:List (Rn α)}(h:dJ (a::l)):∀r∈l,a.R r:=(fu.1 h.ch).1
theorem dJ.nil:dJ ([]:List (Rn α)):=⟨λr hr=>by simp at hr,.nil⟩
theorem wV{a:Rn α}(hd:a.v≠d):∀{l:List (Rn α)},(∀r∈l,a.R r)->G9 d l a.hi≠a.v:=by
 intro l
 induction l with
 |nil=>intro _ h;exact hd h.symm
 |cons r l ih=>
  intro h;rw[G9]
  split
  .rename_i hr
   obtain⟨h1,h2⟩:=h r (by simp);exact λe=>h2 (by omega) e.symm
  .exact ih λq hq=>h q (by simp[hq])
theorem dJ.unique{l:List (Rn α)}:∀{m:List (Rn α)},dJ l->dJ m->(∀r∈l,r.v≠d)->(∀r∈m,r.v≠d)->(∀t,G9 d l t=G9 d m t)->l=m:=by
 have before:∀{a:Rn α} {l:List (Rn α)},dJ (a::l)->∀t,t<a.hi->G9 d l t=d:=λ{a l} h t ht=>Rg λr hr=>by have:=(h.head r hr).1;omega
 have before' : ∀{a:Rn α} {l:List (Rn α)},dJ (a::l)->∀t,t<a.lo->G9 d (a::l) t=d:=λ{a l} h t ht=>by
  rw[G9,an (by omega)];exact before h t (by have:=h.pos a (by simp);omega)
 have first:∀{a:Rn α} {l:List (Rn α)},dJ (a::l)->G9 d (a::l) a.lo=a.v:=λ{a l} h=>by
  have:=h.pos a (by simp)
  rw[G9,av ⟨by omega,this⟩]
 induction l with
 |nil=>
  intro m hl hm dl dm h
  cases m with
  |nil=>rfl
  |cons b m=>
   have:=h b.lo
   rw[first hm]at this;exact absurd this.symm (dm b (by simp))
 |cons a l ih=>
  intro m hl hm dl dm h
  cases m with
  |nil=>
   have:=h a.lo
   rw[first hl]at this;exact absurd this (dl a (by simp))
  |cons b m=>
   have ha:=dl a (by simp);have hb:=dm b (by simp)
   have e1:a.lo=b.lo:=by
    rcases Int.lt_trichotomy a.lo b.lo with hlt|he|hlt
    .have:=h a.lo
     rw[first hl,before' hm _ hlt]at this;exact absurd this ha
    .exact he
    .have:=h b.lo
     rw[first hm,before' hl _ hlt]at this;exact absurd this.symm hb
   have e2:a.v=b.v:=by
    have:=h a.lo
    rw[first hl,e1,first hm]at this;exact this
   have pa:=hl.pos a (by simp);have pb:=hm.pos b (by simp)
   have e3:a.hi=b.hi:=by
    rcases Int.lt_trichotomy a.hi b.hi with hlt|he|hlt
    .have:=h a.hi
     rw[G9,an (by omega),G9,av ⟨by omega,hlt⟩, <-e2]at this;exact absurd this (wV ha hl.head)
    .exact he
    .have:=h b.hi
     rw[G9,av ⟨by omega,hlt⟩,G9,an (by omega),e2]at this;exact absurd this.symm (wV hb hm.head)
   have e:a=b:=by cases a;cases b;simp_all
   subst e;congr 1
   refine ih hl.tail hm.tail (λr hr=>dl r (by simp[hr])) (λr hr=>dm r (by simp[hr])) λt=>?_
   by_cases ht:t<a.hi
   .rw [before hl t ht,before hm t ht]
   .have:=h t
    rw[G9,an (by omega),G9,an (by omega)]at this;exact this
theorem dJ.filter{l:List (Rn α)}(h:dJ l)(p:Rn α->Bool):dJ (l.filter p):=⟨λr hr=>h.pos r (fD.1 hr).1,h.ch.filter p⟩
theorem dJ.atR_filter{l:List (Rn α)}(h:dJ l)(p:Rn α->Bool)(hp:∀r∈l,p r=false->r.v=d)(t:Int):G9 d (l.filter p) t=G9 d l t:=by
 induction l with
 |nil=>rfl
 |cons a l ih=>
  have ih:=ih h.tail λr hr=>hp r (by simp[hr])
  rw[iX];split
  .rw [G9,G9,ih]
  .rename_i hpa
   rw[ih,G9];split
   .rename_i ht
    rw[hp a (by simp) (by simpa using hpa)];exact Rg λr hr=>by have:=(h.head r hr).1;omega
   .rfl
structure fK (d:α) (f:Int->α) (acc:List (Rn α)) (c:Int):Prop where
 runs:dJ acc
 le:∀r∈acc,r.hi<=c
 val:∀t,t<c->G9 d acc t=f t
theorem fK.out{f:Int->α}{acc:List (Rn α)}{c:Int}(h:fK d f acc c)(t:Int)(ht:c<=t):G9 d acc t=d:=Rg λr hr=>by have:=h.le r hr;omega
theorem fK.start{f:Int->α}{c:Int}(h:∀t,t<c->f t=d):fK d f [] c:=⟨.nil,λr hr=>by simp at hr,λt ht=>(h t ht).symm⟩
theorem fK.skip{f:Int->α}{acc:List (Rn α)}{c:Int}(h:fK d f acc c)(hc:c<=c1)(hf:∀t,c<=t->t<c1->f t=d):fK d f acc c1:=
 ⟨h.runs,λr hr=>by have:=h.le r hr;omega,λt ht=>by
  by_cases h1:t<c
  .exact h.val t h1
  .rw [h.out t (by omega),hf t (by omega) ht]⟩
theorem fK.add{f:Int->α}{acc:List (Rn α)}{c c1:Int}(h:fK d f acc c)(hc:c<c1)(hf:∀ t,c<=t->t<c1->f t=f c)(hl:∀ a,acc.getLast?=some a->a.hi=c->a.v≠f c):
  fK d f (acc++[⟨c,c1,f c⟩]) c1:=by
 refine⟨⟨λr hr=>?_,?_⟩,λr hr=>?_,λt ht=>?_⟩
 .rcases dv.1 hr with hr|hr
  .exact h.runs.pos r hr
  .rw [dI.1 hr];exact hc
 .refine il.2 ⟨h.runs.ch,iF _ _,λa ha b hb=>?_⟩
  rw[dI.1 hb];refine⟨h.le a ha,λhe=>?_⟩
  refine hl a ?_ he;obtain⟨s,e,rfl⟩:=lR ha
  cases e with
  |nil=>simp
  |cons q e=>
   have h1:=h.runs.ch;rw[il]at h1
   have h2:=(fu.1 h1.2.1).1 q (by simp);have h3:=h.runs.pos q (by simp)
   have h4:=h.le q (by simp);have h5:=h2.1
   have he' : a.hi=c:=he;omega
 .rcases dv.1 hr with hr|hr
  .have:=h.le r hr;omega
  .rw [dI.1 hr];exact Int.le_refl _
 .rw [gD]
  by_cases h1:t<c
  .split
   .exact h.val t h1
   .rename_i hn
    have e:=h.val t h1;rw[Rg λr hr hh=>hn ⟨r,hr,hh⟩]at e
    rw[G9,an (by simp only;omega),G9,e]
  .rw [an,G9,av ⟨by simp only;omega,ht⟩,hf t (by omega) ht]
   rintro⟨r,hr,hh⟩;have:=h.le r hr;omega
theorem fK.grow{f:Int->α}{s:List (Rn α)}{a:Rn α}{c:Int}(h:fK d f (s++[a]) c)(ha:a.hi=c)(hc:c<c1)(hf:∀ t,c<=t->t<c1->f t=a.v):
  fK d f (s++[⟨a.lo,c1,a.v⟩]) c1:=by
 have hp:=h.runs.pos a (by simp);obtain⟨q1,_,q3⟩:=il.1 h.runs.ch
 refine⟨⟨λr hr=>?_,?_⟩,λr hr=>?_,λt ht=>?_⟩
 .rcases dv.1 hr with hr|hr
  .exact h.runs.pos r (by simp[hr])
  .rw [dI.1 hr];simp only;omega
 .refine il.2 ⟨q1,iF _ _,λb hb e he=>?_⟩
  rw[dI.1 he];exact q3 b hb a (by simp)
 .rcases dv.1 hr with hr|hr
  .have:=h.le r (by simp[hr]);omega
  .rw [dI.1 hr];exact Int.le_refl _
 .by_cases h1:t<c
  .have:=h.val t h1
   rw[gD]at this⊢;split
   .rename_i hh;rwa [av hh]at this
   .rename_i hh
    rw[an hh]at this;rw[<-this,G9,G9]
    have:(a.lo<=t/\t<c1)↔(a.lo<=t/\t<a.hi):=by omega
    simp only[this,G9]
  .rw [gD,an,G9,av ⟨by simp only;omega,ht⟩,hf t (by omega) ht]
   rintro⟨r,hr,hh⟩;have:=h.le r (by simp[hr]);omega
end
structure aq where
 L_:Int
 R_:Int
 deriving DecidableEq
abbrev ψ:=List aq
variable {m:List (Rn ψ)}
def aq.rn(s:aq):Rn Bool:=⟨s.L_,s.R_,true⟩
def aq.has(s:aq)(x:Int):Bool:=decide (s.L_<=x)&&decide (x<s.R_)
def K8(l:ψ)(x:Int):Bool:=l.any λs=>s.has x
structure dL (l:ψ):Prop where
 pos:∀s∈l,s.L_<s.R_
 ch:l.Pairwise λa b=>a.R_<b.L_
theorem Mp(l:ψ)(x:Int):K8 l x=G9 false (l.map aq.rn) x:=by
 induction l with
 |nil=>rfl
 |cons s l ih=>
  rw[eP,G9, <-ih];simp only[K8,lh,aq.has,aq.rn]
  by_cases h:s.L_<=x/\x<s.R_
  .simp [h.1,h.2]
  .by_cases h1:s.L_<=x
   .have:¬x<s.R_:=λh2=>h ⟨h1,h2⟩
    simp[this]
   .simp [h1]
theorem dL.runs{l:ψ}(h:dL l):dJ (l.map aq.rn):=by
 refine⟨λr hr=>?_,?_⟩
 .obtain ⟨s,hs,rfl⟩:=eF.1 hr
  exact h.pos s hs
 .rw [mj]
  exact h.ch.imp λ{a b} hab=>⟨by show a.R_<=b.L_;omega,λe=>by have e' : a.R_=b.L_:=e;omega⟩
theorem dL.of_runs{l:ψ}(h:dJ (l.map aq.rn)):dL l:=by
 refine⟨λs hs=>h.pos s.rn (eF.2 ⟨s,hs,rfl⟩),?_⟩;have:=h.ch
 rw[mj]at this;refine this.imp λ{a b} hab=>?_
 have h1:a.R_<=b.L_:=hab.1;rcases Int.lt_or_lt_of_ne (λe:a.R_=b.L_=>hab.2 e rfl)with h2|h2
 .exact h2
 .omega
theorem Z9d{a b:aq}(h:a.rn=b.rn):a=b:=by
 cases a;cases b;simp only[aq.rn,Rn.mk.injEq]at h;simp[h.1,h.2.1]
theorem dL.unique{l m:ψ}(hl:dL l)(hm:dL m)(h:∀x,K8 l x=K8 m x):l=m:=by
 have:=dJ.unique (d:=false) hl.runs hm.runs (λr hr=>by obtain⟨s,_,rfl⟩:=eF.1 hr;simp[aq.rn]) (λr hr=>by obtain⟨s,_,rfl⟩:=eF.1 hr;simp[aq.rn])
  λt=>by rw[<-Mp, <-Mp,h]
 exact(List.map_inj_right λa b e=>Z9d e).1 this
structure aa where
 L_:Int
 w_:Int
 R_:Int
 H_:Int
 deriving DecidableEq
abbrev ζ:=List aa
abbrev Θ:=Option ζ
def aa.has(r:aa)(x y:Int):Bool:=decide (r.L_<=x)&&decide (x<r.R_)&&decide (r.w_<=y)&&decide (y<r.H_)
def Q8(l:ζ)(x y:Int):Bool:=l.any λr=>r.has x y
structure fw (l:List (Rn ψ)):Prop where
 runs:dJ l
 sp:∀b∈l,dL b.v
 ne:∀b∈l,b.v≠[]
def Qg(b:Rn ψ):ζ:=b.v.map λs=>⟨s.L_,b.lo,s.R_,b.hi⟩
def flat(l:List (Rn ψ)):ζ:=l.flatMap Qg
theorem FN(l m:ζ)(x y:Int):Q8 (l++m) x y=(Q8 l x y||Q8 m x y):=by simp[Q8]
theorem Z5u(b:Rn ψ)(x y:Int):Q8 (Qg b) x y=((decide (b.lo<=y)&&decide (y<b.hi))&&K8 b.v x):=by
 unfold Q8 Qg K8;rw[mU]
 induction b.v with
 |nil=>simp
 |cons s l ih=>
  rw[lh,lh,ih];simp only[Function.comp,aa.has,aq.has]
  cases decide (b.lo<=y)<;>cases decide (y<b.hi)<;>simp
theorem dJ.inR_flat{l:List (Rn ψ)}(h:dJ l)(x y:Int):Q8 (flat l) x y=K8 (G9 [] l y) x:=by
 induction l with
 |nil=>rfl
 |cons b l ih=>
  have e:flat (b::l)=Qg b++flat l:=rfl;rw[e,FN,Z5u,ih h.tail,G9]
  by_cases hy:b.lo<=y/\y<b.hi
  .rw [av hy,Rg λr hr=>by have:=(h.head r hr).1;omega]
   simp[hy.1,hy.2,K8]
  .rw [an hy]
   have:(decide (b.lo<=y)&&decide (y<b.hi))=false:=by simpa using hy
   simp[this]
theorem dL.at{l:List (Rn ψ)}(h:∀b∈l,dL b.v)(y:Int):dL (G9 [] l y):=by
 induction l with
 |nil=>exact⟨λs hs=>by simp[G9]at hs,.nil⟩
 |cons b l ih=>
  rw[G9];split
  .exact h b (by simp)
  .exact ih λb hb=>h b (by simp[hb])
theorem fw.unique{l:List (Rn ψ)}(hl:fw l)(hm:fw m)(h:∀x y,K8 (G9 [] l y) x=K8 (G9 [] m y) x):l=m:=
 dJ.unique (d:=[]) hl.runs hm.runs hl.ne hm.ne λy=>dL.unique (dL.at hl.sp y) (dL.at hm.sp y) λx=>h x y
def Fin(S:Int->Int->Bool):Prop:=∃l,fw l/\∀x y,K8 (G9 [] l y) x=S x y
open Classical in
def cn(S:Int->Int->Bool):ζ:=if h:Fin S then flat h.choose else[]
theorem BG{l:List (Rn ψ)}(hl:fw l)(h:∀x y,K8 (G9 [] l y) x=S x y):cn S=flat l:=by
 have hf:Fin S:=⟨l,hl,h⟩;unfold cn
 rw[lf hf];have:=hf.choose_spec
 rw[this.1.unique hl λx y=>(this.2 x y).trans (h x y).symm]
theorem YE(h:Fin S)(x y:Int):Q8 (cn S) x y=S x y:=by
 obtain⟨l,hl,hS⟩:=h;rw[BG hl hS,hl.runs.inR_flat,hS]
theorem NL(h:Fin S):∃l,fw l/\cn S=flat l/\∀x y,K8 (G9 [] l y) x=S x y:=by
 obtain⟨l,hl,hS⟩:=h;exact⟨l,hl,BG hl hS,hS⟩
def Wb(l:ζ):Prop:=∃b,fw b/\l=flat b
theorem Wb.eq_cn{l:ζ}(h:Wb l):l=cn (Q8 l):=by
 obtain⟨b,hb,rfl⟩:=h;exact(BG hb λx y=>(hb.runs.inR_flat x y).symm).symm
theorem Gb(h:Fin S):Wb (cn S):=by
 obtain⟨l,hl,e,_⟩:=NL h;exact⟨l,hl,e⟩
