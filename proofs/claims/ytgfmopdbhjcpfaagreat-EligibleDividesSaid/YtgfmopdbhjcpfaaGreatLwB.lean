/- What the plain programs compute, up to the law itself. -/
import Derived.Test.YtgfmopdbhjcpfaaGreatLwA
import Derived.Test.YtgfmopdbhjcpfaaGreatPuB
set_option linter.unusedVariables false
set_option linter.unusedSimpArgs false
set_option maxRecDepth 20000
namespace Go.Ab
noncomputable section
section
def Z5l(r:Rg_):Int:=
 if r.y_<0\/100<r.y_ then 18 else if r.c_<0\/40<=r.c_ then 13 else if r.g_.t_.length=0\/Q2H r.g_.t_=false then 7 else 0
theorem Q9b(r:Rg_):Z5l r=0↔0<=r.y_/\r.y_<=100/\0<=r.c_/\r.c_<40/\r.g_.t_.length≠0/\Val r.g_.t_:=by
 unfold Z5l;rw [<-Q0M]
 by_cases h1:r.y_<0\/100<r.y_
 .rw [if_pos h1];simp;omega
 .rw [if_neg h1]
  by_cases h2:r.c_<0\/40<=r.c_
  .rw [if_pos h2];simp;omega
  .rw [if_neg h2]
   by_cases a:r.g_.t_.length=0\/Q2H r.g_.t_=false
   .rw [if_pos a]
    constructor
    .intro h;cases h
    .rintro ⟨_,_,_,_,c,b⟩
     rcases a with a|a
     .exact absurd a c
     .rw [b] at a;cases a
   .rw [if_neg a]
    refine ⟨fun _=>?_,fun _=>rfl⟩;have c:r.g_.t_.length≠0:=fun h=>a (.inl h)
    have b:Q2H r.g_.t_=true:=by
     cases hv:Q2H r.g_.t_ with
     | true=>rfl
     | false=>exact absurd (.inr hv) a
    exact ⟨by omega,by omega,by omega,by omega,c,b⟩
theorem Z9E{F:Nat}(hF:BIG<=F)(r:Rg_):Q8r F r=some (Z5l r):=by
 unfold Q8r Z5l;rw [Q7x (Q2V F r)]
 unfold Q2V;refine Q6 (fun h=>by rw [if_pos (by simpa using h)]) (fun h=>?_)
 rw [if_neg (by simpa using h),Q7x (Q2U F r)];unfold Q2U
 refine Q6 (fun h=>by rw [if_pos (by simpa using h)]) (fun h=>?_);rw [if_neg (by simpa using h)]
 refine Q6 (fun h=>?_) (fun h=>?_)
 .have h:r.g_.t_.length=0:=by simpa using h
  rw [if_pos (.inl h)];rfl
 .have h:r.g_.t_.length≠0:=by simpa using h
  refine Q2 (Q0g hF _) ?_;unfold Q5f
  refine Q6 (fun a=>?_) (fun a=>?_)
  .rw [if_pos (.inr (by simpa using a))]
  .rw [if_neg (by rintro (h3|h3);exact h h3;rw [h3] at a;cases a)]
def ltR(f g:Rg_):Bool:=decide (f.y_<g.y_)||(decide (f.y_=g.y_)&&decide (f.c_<g.c_))
theorem Q8m(f g:Rg_):ltR f g=true↔f.y_<g.y_\/(f.y_=g.y_/\f.c_<g.c_):=by unfold ltR;simp
theorem Y0v{f g h:Rg_}(h1:ltR f g=true)(h2:ltR g h=true):ltR f h=true:=by
 rw [Q8m] at *;omega
theorem Z8I{F:Nat}(hF:BIG<=F)(f g:Rg_):∃ c,Q6Z F f g=some c/\(c<0↔ltR f g=true)/\(0<c↔ltR g f=true):=by
 refine ⟨if (if f.y_<g.y_ then (-1:Int) else if g.y_<f.y_ then 1 else 0)≠0 then (if f.y_<g.y_ then (-1:Int) else if g.y_<f.y_ then 1 else 0) else (if f.c_<g.c_ then (-1:Int) else if g.c_<f.c_ then 1 else 0),?_,?_⟩
 .unfold Q6Z
  exact Q2 (Q7n _ _ _) (Q2 (Q7n _ _ _) (Q2 (Y7x F hF _ _) rfl))
 .rw [Q8m,Q8m]
  by_cases h1:f.y_<g.y_
  .simp [h1];omega
  .by_cases h2:g.y_<f.y_
   .simp [h1,h2];omega
   .by_cases h3:f.c_<g.c_
    .simp [h1,h2,h3];omega
    .by_cases h4:g.c_<f.c_
     .simp [h1,h2,h3,h4];omega
     .simp [h1,h2,h3,h4]
def hGo:Option Rg_->List Rg_->Int
 | _,[]=>0
 | p,f::l=>if Z5l f≠0 then Z5l f else if p.any (fun g=> !ltR g f) then 3 else hGo (some f) l
def NX(l:List Rg_):Prop:=l.Pairwise fun f g=>f.y_=g.y_->Q3F f.g_ g.g_=false
open Classical in
def Q9q(l:List Rg_):Int:=if 200<l.length then 1 else if hGo none l≠0 then hGo none l else if NX l then 0 else 11
def Z5g(l:List Rg_)(i:Nat):Option Rg_:=if i=0 then none else some (gl l (i-1))
theorem Y2Q(l:List Rg_)(i:Nat):Z5g l (i+1)=some (gl l i):=by simp [Z5g]
theorem W2M{l:List Rg_}:NX l↔∀ j,j<l.length->∀ i,i<j->(gl l i).y_=(gl l j).y_->Q3F (gl l i).g_ (gl l j).g_=false:=by
 unfold NX;rw [List.pairwise_iff_getElem]
 constructor
 .intro h j a i d b
  rw [K8 a,K8 (by omega)] at *;exact h i j (by omega) a d b
 .intro h i j d a c b
  have:=h j a i c
  rw [K8 a,K8 (by omega)] at this;exact this b
theorem Y5T{F:Nat}(hF:BIG<=F){l:List Rg_}(hl:l.length<=200){y:Int}(h0:NX l->y=0)(h1:¬ NX l->y=11):Q5s F l=some y:=by
 have t:=hF;unfold BIG at hF
 unfold Q5s;refine Y8 (fun z:Int=>∃ i:Nat,z=i/\i<=l.length/\∀ j,j<i->∀ a,a<j->(gl l a).y_=(gl l j).y_->Q3F (gl l a).g_ (gl l j).g_=false) (fun z=>l.length-z.toNat) (fun s z r B=>?_) ⟨0,rfl,by omega,fun j p=>absurd p (Nat.not_lt_zero j)⟩ (by simp;omega)
 obtain ⟨i,rfl,C,x⟩:=r;unfold Z6a
 refine Q6 (fun h=>?_) (fun h=>?_)
 .have h:i<l.length:=by simpa using h
  refine Z3 (k:=?_);refine Z3 (k:=?_)
  refine Y8 (fun z:Int=>∃ j:Nat,z=j/\j<=i/\∀ a,a<j->(gl l a).y_=(gl l i).y_->Q3F (gl l a).g_ (gl l i).g_=false) (fun z=>i-z.toNat) (fun d z r u=>?_) ⟨0,rfl,by omega,fun j p=>absurd p (Nat.not_lt_zero j)⟩ (by simp;omega);obtain ⟨j,rfl,p,v⟩:=r
  unfold Z5Z;simp only [Int.toNat_natCast]
  have o:(l.take i).length=i:=by rw [List.length_take];omega
  simp only [o];refine Q6 (fun f=>?_) (fun f=>?_)
  .have f:j<i:=by simpa using f
   have e:gl (l.take i) j=gl l j:=by simp [gl,List.getD_eq_getElem?_getD,f]
   rw [e];refine Z3 (k:=?_)
   have w:∀ b:Bool,b=(decide ((gl l j).y_=(gl l i).y_)&&Q3F (gl l j).g_ (gl l i).g_)->Q5r F j d b=some y:=by
    intro b g;unfold Q5r
    refine Q6 (fun c=>?_) (fun c=>?_)
    .rw [c,eq_comm,Bool.and_eq_true,decide_eq_true_eq] at g
     rw [h1 fun A=>by rw [W2M.1 A i h j f g.1] at g;cases g.2]
    .rw [c] at g
     refine Z3 (k:=?_);refine u _ ⟨j+1,by omega,f,fun a q n=>?_⟩ (by omega)
     rcases Nat.lt_or_ge a j with m|m
     .exact v a m n
     .have:a=j:=by omega
      subst this;rw [decide_eq_true n,Bool.true_and] at g
      exact g.symm
   refine Q6 (fun c=>?_) (fun c=>?_)
   .refine Q2 (Z2h t _ _) (w _ ?_)
    have c:(gl l j).y_=(gl l i).y_:=by simpa using c
    rw [decide_eq_true c,Bool.true_and]
   .refine w _ ?_
    have c:¬ (gl l j).y_=(gl l i).y_:=by simpa using c
    rw [decide_eq_false c,Bool.false_and]
  .have f:j=i:=by
    have:¬ j<i:=by simpa using f
    omega
   subst f;unfold Z1Z
   refine Z3 (k:=?_);refine B _ ⟨j+1,by omega,h,fun b g a q n=>?_⟩ (by omega)
   rcases Nat.lt_or_ge b j with m|m
   .exact x b m a q n
   .have:b=j:=by omega
    subst this;exact v a q n
 .have h:i=l.length:=by
   have:¬ i<l.length:=by simpa using h
   omega
  subst h;rw [h0 (W2M.2 x)];rfl
theorem Y2D{F:Nat}(hF:BIG<=F)(l:List Rg_):Z2M F l=some (Q9q l):=by
 have v:=hF;unfold BIG at hF
 unfold Z2M;refine Q6 (fun h=>?_) (fun h=>?_)
 .have h:200<l.length:=by simp at h;omega
  rw [Q9q,if_pos h]
 .have h:¬ 200<l.length:=by simp at h;omega
  have u:hGo none l=0->Q5s F l=some (Q9q l):=fun m=>by
   refine Y5T v (by omega) (fun x=>?_) (fun x=>?_)
   .rw [Q9q,if_neg h,if_neg (by simp [m]),if_pos x]
   .rw [Q9q,if_neg h,if_neg (by simp [m]),if_neg x]
  have t:hGo none l≠0->Q9q l=hGo none l:=fun m=>by rw [Q9q,if_neg h,if_pos m]
  refine Y8 (fun z:Int=>∃ i:Nat,z=i/\i<=l.length/\hGo none l=hGo (Z5g l i) (l.drop i)) (fun z=>l.length-z.toNat) (fun a z A C=>?_) ⟨0,rfl,by omega,rfl⟩ (by simp;omega);obtain ⟨i,rfl,D,j⟩:=A
  unfold Z6b;refine Q6 (fun q=>?_) (fun q=>?_)
  .have q:i<l.length:=by simpa using q
   rw [Q1P q,hGo] at j;refine Z3 (k:=?_)
   simp only [Int.toNat_natCast];have p:∀ c:Int,Z5l (gl l i)=c->c≠0->Q9q l=c:=fun c o n=>by
    rw [if_pos (by rw [o];exact n),o] at j;rw [t (by rw [j];exact n),j]
   have d:Z5l (gl l i)=0->∀ b:Bool,b=(Z5g l i).any (fun g=> !ltR g (gl l i))->Q2m F i a b=some (Q9q l):=by
    intro o b s;rw [if_neg (by simp [o])] at j
    unfold Q2m;refine Q6 (fun n=>?_) (fun n=>?_)
    .rw [if_pos (s ▸ n)] at j
     rw [t (by rw [j];decide),j]
    .rw [if_neg (by rw [<-s,n];simp)] at j
     refine Z3 (k:=?_);refine C _ ⟨i+1,by omega,q,?_⟩ (by omega)
     rw [j,Y2Q]
   rw [Q7x (Q5v F l i a)];unfold Q5v
   refine Q6 (fun o=>?_) (fun o=>?_)
   .rw [p 18 (by unfold Z5l;rw [if_pos (by simpa using o)]) (by decide)]
   .rw [Q7x (Q5u F l i a)]
    unfold Q5u;refine Q6 (fun n=>?_) (fun n=>?_)
    .rw [p 13 (by unfold Z5l;rw [if_neg (by simpa using o),if_pos (by simpa using n)]) (by decide)]
    .refine Q2 (K3 v _) ?_
     rw [Q7x (Q5t F l i a)];unfold Q5t
     refine Q6 (fun e=>?_) (fun e=>?_)
     .have e:(gl l i).g_.t_.length=0\/Q2H (gl l i).g_.t_=false:=by
       rw [Bool.or_eq_true] at e;rcases e with f|f
       .exact .inr (by simpa using f)
       .exact .inl (by simpa using f)
      rw [p 7 (by unfold Z5l;rw [if_neg (by simpa using o),if_neg (by simpa using n),if_pos e]) (by decide)]
     .have e:¬ ((gl l i).g_.t_.length=0\/Q2H (gl l i).g_.t_=false):=by
       rw [Bool.or_eq_false_iff] at e;simp only [Int.toNat_natCast] at e
       rintro (f|f)
       .rw [f] at e;simp at e
       .rw [f] at e;simp at e
      have f:Z5l (gl l i)=0:=by unfold Z5l;rw [if_neg (by simpa using o),if_neg (by simpa using n),if_neg e]
      refine Q6 (fun m=>?_) (fun m=>?_)
      .have m:0<i:=by simpa using m
       refine Z3 (k:=?_);refine Z3 (k:=?_)
       have B:((i:Int)-1).toNat=i-1:=by omega
       rw [B];have y:(Z5g l i).any (fun g=> !ltR g (gl l i))=!ltR (gl l (i-1)) (gl l i):=by simp [Z5g,show i≠0 from by omega]
       refine Q6 (fun r=>?_) (fun r=>?_)
       .refine d f _ ?_
        have r:(gl l i).y_<(gl l (i-1)).y_:=by simpa using r
        rw [y,eq_comm,Bool.not_eq_true', <-Bool.not_eq_true,Q8m];omega
       .have r:¬ (gl l i).y_<(gl l (i-1)).y_:=by simpa using r
        refine Z3 (k:=?_);refine Z3 (k:=?_)
        refine Q6 (fun w=>?_) (fun w=>?_)
        .have w:(gl l i).y_=(gl l (i-1)).y_:=by simpa using w
         refine Z3 (k:=?_);refine Z3 (k:=?_)
         refine d f _ ?_;rw [y,Bool.eq_iff_iff,Bool.not_eq_true', <-Bool.not_eq_true,Q8m,decide_eq_true_eq]
         simp only [Int.toNat_natCast];omega
        .have w:¬ (gl l i).y_=(gl l (i-1)).y_:=by simpa using w
         refine d f _ ?_;rw [y,eq_comm,Bool.not_eq_false',Q8m];omega
      .have m:i=0:=by simp at m;omega
       exact d f _ (by simp [Z5g,m])
  .have q:¬ i<l.length:=by simpa using q
   rw [List.drop_of_length_le (by omega)] at j;exact u j
end
theorem Z1M{F:Nat}(hF:BIG<=F){l:List Rg_}{q:Rg_->Option Bool}(p:Rg_->Bool)(hl:l.length<=1000000000)(hq:∀ r ∈ l,q r=some (p r)):Q1A F l q=some (Z1v p l):=by
 unfold BIG at hF;unfold Q1A
 refine Y8 (fun z:Int=>∃ i:Nat,z=i/\i<=l.length/\∀ j,j<i->p (gl l j)=false) (fun z=>l.length-z.toNat) (fun c z m g=>?_) ⟨0,rfl,by omega,fun j f=>by omega⟩ (by simp;omega);obtain ⟨i,rfl,n,d⟩:=m
 unfold Q5o;refine Q6 (fun h=>?_) (fun h=>?_)
 .have h:i<l.length:=by simpa using h
  refine Z3 (k:=?_);refine Q2 (hq _ (V7 h)) ?_
  simp only [Int.toNat_natCast];refine Q6 (fun a=>?_) (fun a=>?_)
  .have b:l.any p=true:=List.any_eq_true.2 ⟨_,V7 h,a⟩
   rw [Z1v,if_pos b,Z4G h d a]
  .refine Z3 (k:=?_)
   refine g _ ⟨i+1,by omega,h,fun j f=>?_⟩ (by omega);rcases Nat.lt_or_ge j i with e|e
   .exact d j e
   .have:j=i:=by omega
    subst this;exact a
 .have h:¬ i<l.length:=by simpa using h
  have:i=l.length:=by omega
  subst this;have b:=Q6H d
  rw [Z1v,b];rfl
theorem Y6g{α:Type}(p:α->Bool)(l:List α):0<=Z1v p l↔l.any p=true:=by
 unfold Z1v;split
 .rename_i h;simp [h]
 .rename_i h;simp [h]
theorem Q9U{F:Nat}(hF:BIG<=F){l:List Rg_}{q:Rg_->Option Bool}(p:Rg_->Bool)(hl:l.length<=1000000000)(hq:∀ r ∈ l,q r=some (p r)):Q0N F l q=some (l.any p):=by
 unfold Q0N;refine Q2 (Z1M hF p hl hq) ?_
 congr 1
 rw [Bool.eq_iff_iff, <-Y6g,decide_eq_true_iff]
structure GrpOf (gs:List (Int×List Rg_)) (l:List Rg_):Prop where
 nd:(gs.map (·.1)).Nodup
 row:∀ e ∈ gs,e.2=l.filter fun f=>decide (f.y_=e.1)
 key:∀ f ∈ l,∃ e ∈ gs,e.1=f.y_
theorem GrpOf.nil:GrpOf [] []:=⟨by simp,fun e a=>by simp at a,fun f b=>by simp at b⟩
theorem GrpOf.gRow{gs:List (Int×List Rg_)}{l:List Rg_}(h:GrpOf gs l)(y:Int):gRow y gs=l.filter fun f=>decide (f.y_=y):=by
 unfold Go.Ab.gRow;rcases Q7y y gs with ⟨j,q,d,k⟩|⟨i,b⟩
 .rw [d]
  simp only
  rw [h.row q (List.mem_of_getElem? d),k]
 .rw [i,List.getElem?_eq_none (Nat.le_refl _)]
  simp only
  symm
  rw [List.filter_eq_nil_iff];intro f m a
  obtain ⟨e,g,c⟩:=h.key f m;exact b e g (by rw [c];exact of_decide_eq_true a)
theorem GrpOf.app{gs:List (Int×List Rg_)}{l:List Rg_}(h:GrpOf gs l)(f:Rg_):GrpOf (gApp f.y_ [f] gs) (l++[f]):=by
 obtain ⟨q,t,B,v,w⟩:=Z9G (y:=f.y_) (m:=[f]) (gs:=gs);have n:=Y4x (y:=f.y_) (m:=[f]) h.nd
 have u:(gApp f.y_ [f] gs)[Q0S f.y_ gs]?=some q:=by rw [v,Z9v w,if_pos rfl]
 have d:∀ e ∈ gApp f.y_ [f] gs,e=q\/(e ∈ gs/\e.1≠f.y_):=by
  intro e k;obtain ⟨j,b⟩:=List.getElem?_of_mem k
  by_cases a:j=Q0S f.y_ gs
  .rw [a,u] at b;cases b;exact .inl rfl
  .right
   have c:=b;rw [v,Z9v w,if_neg a] at c
   refine ⟨List.mem_of_getElem? c,fun s=>a ?_⟩;exact Y0t n b u (by rw [s,t])
 refine ⟨n,fun e k=>?_,fun g r=>?_⟩
 .rcases d e k with rfl|⟨C,D⟩
  .rw [B,h.gRow,List.filter_append,t];simp
  .rw [h.row e C,List.filter_append]
   have:([f].filter fun g=>decide (g.y_=e.1))=[]:=by simp;exact fun A=>D A.symm
   rw [this,List.append_nil]
 .rcases List.mem_append.1 r with r|r
  .obtain ⟨e,k,p⟩:=h.key g r
   by_cases s:e.1=f.y_
   .exact ⟨q,List.mem_of_getElem? u,by rw [t, <-p,s]⟩
   .obtain ⟨j,b⟩:=List.getElem?_of_mem k
    have a:j≠Q0S f.y_ gs:=by
     rintro rfl;rcases Q7y f.y_ gs with ⟨_,E,o,x⟩|⟨z,_⟩
     .rw [b] at o;cases o;exact s x
     .rw [z,List.getElem?_eq_none (Nat.le_refl _)] at b;cases b
    refine ⟨e,List.mem_of_getElem? (i:=j) ?_,p⟩;rw [v,Z9v w,if_neg a];exact b
  .have:g=f:=by simpa using r
   subst this;exact ⟨q,List.mem_of_getElem? u,t⟩
theorem W0t(y:Int)(m:List Rg_)(gs:List (Int×List Rg_)):(gApp y m gs).length<=gs.length+1:=by
 obtain ⟨q,_,_,h,a⟩:=Z9G (y:=y) (m:=m) (gs:=gs);rw [h,Z6p a]
 split <;> omega
theorem Y0C{F:Nat}(hF:BIG<=F){l:List Rg_}(hl:l.length<=200):∃ gs,Z3s F l=some gs/\GrpOf gs l/\gs.length<=l.length:=by
 unfold BIG at hF;have c:∀ (n i:Nat) (gs:List (Int×List Rg_)),i<=l.length->l.length-i<n->GrpOf gs (l.take i)->gs.length<=i->∃ r,Z2 (fun again (z:Int×(List (Int×(List Rg_))))=>Q2a F l again z.1 z.2) n ((i:Int),gs)=some r/\GrpOf r l/\r.length<=l.length:=by
  intro n
  induction n with
  | zero=>intro i gs _ h;omega
  | succ n ih=>
   intro i gs g m a d
   by_cases h:i<l.length
   .obtain ⟨r,e,b⟩:=ih (i+1) (gApp (gl l i).y_ [gl l i] gs) h (by omega) (by rw [Q0c h];exact a.app _) (by have:=W0t (gl l i).y_ [gl l i] gs;omega)
    refine ⟨r,?_,b⟩;show Q2a F l _ (i:Int) gs=_
    unfold Q2a;simp only [Int.toNat_natCast]
    refine Z4 (by simpa using h) ?_;refine Z3 (k:=?_)
    refine Q7 ?_ ?_
    .rw [a.gRow]
     have:=List.length_filter_le (fun f:Rg_=>decide (f.y_=(gl l i).y_)) (l.take i)
     have j:(l.take i).length<=200:=by rw [List.length_take];omega
     simp only [LIM,List.length_cons,List.length_nil];omega
    .refine Z3 (k:=?_)
     exact e
   .have:i=l.length:=by omega
    subst this;refine ⟨gs,?_,by rw [List.take_length] at a;exact a,d⟩
    show Q2a F l _ _ gs=_;unfold Q2a
    exact Q5 (by simp) rfl
 exact c F 0 [] (Nat.zero_le _) (by omega) (by rw [List.take_zero];exact GrpOf.nil) (Nat.zero_le _)
def Y3Z(e:Int×List Rg_):Prop:=¬ e.2.Pairwise fun f g=>Q3F f.g_ g.g_=false
theorem Y8u{gs:List (Int×List Rg_)}{l:List Rg_}(h:GrpOf gs l):NX l↔∀ e ∈ gs,¬ Y3Z e:=by
 unfold NX Y3Z;constructor
 .intro c e b o
  refine o ?_;rw [h.row e b,List.pairwise_filter]
  exact c.imp fun {f g} hh h1 h2=>hh (by simp at h1 h2;omega)
 .intro c
  rw [List.pairwise_iff_getElem];intro i j k m d n
  obtain ⟨e,b,a⟩:=h.key l[i] (List.getElem_mem _);have:=Classical.not_not.1 (c e b)
  rw [h.row e b,List.pairwise_filter,List.pairwise_iff_getElem] at this;exact this i j k m d (by simp [a]) (by simp [a,n])
theorem Y8v{e:Int×List Rg_}:¬ Y3Z e↔∀ j,j<e.2.length->∀ i,i<j->Q3F (gl e.2 i).g_ (gl e.2 j).g_=false:=by
 unfold Y3Z;rw [Classical.not_not,List.pairwise_iff_getElem]
 constructor
 .intro h j a i c
  rw [K8 a,K8 (by omega)];exact h i j (by omega) a c
 .intro h i j c a b
  have:=h j a i b
  rw [K8 a,K8 (by omega)] at this;exact this
theorem Z7B{F:Nat}(hF:BIG<=F){e:Int×List Rg_}(hl:e.2.length<=200){rest:List (Int×List Rg_)}{ag:List (Int×List Rg_)->Option Int}{y:Int}(hb:Y3Z e->y=11)(hg:¬ Y3Z e->ag rest=some y):
  Z2 (fun again (z:Int)=>Q9m F e rest ag again z) F (0:Int)=some y:=by
 have b:=hF;unfold BIG at hF
 refine Y8 (fun z:Int=>∃ i:Nat,z=i/\i<=e.2.length/\∀ j,j<i->∀ a,a<j->Q3F (gl e.2 a).g_ (gl e.2 j).g_=false) (fun z=>e.2.length-z.toNat) (fun again z p t=>?_) ⟨0,rfl,by omega,fun j m=>absurd m (Nat.not_lt_zero j)⟩ (by simp;omega);obtain ⟨i,rfl,v,o⟩:=p
 unfold Q9m;simp only [Int.toNat_natCast]
 refine Q6 (fun h=>?_) (fun h=>?_)
 .have h:i<e.2.length:=by simpa using h
  refine Z3 (k:=?_);refine Z3 (k:=?_)
  refine Q2 (Q9U b (fun f=>Q3F f.g_ (gl e.2 i).g_) (by rw [List.length_take];omega) (fun r _=>by unfold Z0H;exact Q2 (Y1w b _ _) rfl)) ?_;refine Q6 (fun g=>?_) (fun g=>?_)
  .rw [hb fun s=>?_]
   .obtain ⟨f,q,l⟩:=List.any_eq_true.1 g
    obtain ⟨a,c,rfl⟩:=List.getElem_of_mem q;have d:a<i:=by rw [List.length_take] at c;omega
    have:=Y8v.1 (Classical.not_not.2 s) i h a d
    rw [List.getElem_take] at l;rw [K8 (show a<e.2.length by omega)] at this
    rw [this] at l;cases l
  .refine Z3 (k:=?_)
   refine t _ ⟨i+1,by omega,h,fun j m a c=>?_⟩ (by omega);rcases Nat.lt_or_ge j i with n|n
   .exact o j n a c
   .have:j=i:=by omega
    subst this;have u:=List.any_eq_false.1 g (gl e.2 a) (by
     rw [K8 (show a<e.2.length by omega)];have:e.2[a]=(e.2.take j)[a]'(by rw [List.length_take];omega):=by rw [List.getElem_take]
     rw [this];exact List.getElem_mem _)
    simpa using u
 .have h:i=e.2.length:=by
   have:¬ i<e.2.length:=by simpa using h
   omega
  subst h;exact hg (Y8v.2 o)
theorem Z9z{α:Type}{l:List α}{i:Nat}(hi:i<l.length)(p:α->Prop):(∀ e ∈ l,p e)↔p l[i]/\∀ e ∈ l.eraseIdx i,p e:=by
 constructor
 .exact fun h=>⟨h _ (List.getElem_mem _),fun e a=>h e (List.mem_of_mem_eraseIdx a)⟩
 .rintro ⟨d,c⟩ e a
  obtain ⟨j,b,rfl⟩:=List.getElem_of_mem a
  by_cases hij:j=i
  .subst hij;exact d
  .exact c _ (List.mem_eraseIdx_iff_getElem.2 ⟨j,b,hij,rfl⟩)
theorem Z7C{F:Nat}(hF:BIG<=F):∀ (n:Nat) (gs:List (Int×List Rg_)) (y:Int),gs.length<n->(∀ e ∈ gs,e.2.length<=200)->((∀ e ∈ gs,¬ Y3Z e)->y=0)->((¬ ∀ e ∈ gs,¬ Y3Z e)->y=11) ->
  Z2 (fun again (z:(List (Int×(List Rg_))))=>Q6d F again z) n gs=some y:=by
 intro n
 induction n with
 | zero=>intro gs y h;omega
 | succ n ih=>
  intro gs y o b k m;show Q6d F _ gs=_
  unfold Q6d
  cases gs with
  | nil=>
   rw [Y8S,k (fun e c=>by simp at c)];rfl
  | cons g l=>
   refine Y7h (by simp) fun i d=>?_
   refine Z7B hF (b _ (List.getElem_mem _)) (fun j=>m fun a=>a _ (List.getElem_mem _) j) (fun j=>?_);refine ih _ y (by rw [List.length_eraseIdx];rw [if_pos d];simp at o ⊢;omega) (fun e c=>b e (List.mem_of_mem_eraseIdx c)) (fun a=>k ?_) (fun f=>m fun a=>f ?_)
   .exact (Z9z d (fun e=>¬ Y3Z e)).2 ⟨j,a⟩
   .exact ((Z9z d (fun e=>¬ Y3Z e)).1 a).2
theorem Y0E{F:Nat}(hF:BIG<=F)(l:List Rg_):Q9F F l=some (Q9q l):=by
 have m:=hF;unfold BIG at hF
 unfold Q9F;refine Q6 (fun h=>?_) (fun h=>?_)
 .have h:200<l.length:=by simp at h;omega
  rw [Q9q,if_pos h]
 .have h:¬ 200<l.length:=by simp at h;omega
  have t:hGo none l=0->Q6c F l=some (Q9q l):=fun d=>by
   unfold Q6c;obtain ⟨y,v,x,E⟩:=Y0C m (l:=l) (by omega)
   refine Q2 v ?_;have j:y.length<F:=by omega
   refine Z7C m F y _ j (fun e a=>?_) (fun u=>?_) (fun u=>?_)
   .rw [x.row e a]
    have:=List.length_filter_le (fun f:Rg_=>decide (f.y_=e.1)) l
    omega
   .rw [Q9q,if_neg h,if_neg (by simp [d]),if_pos ((Y8u x).2 u)]
   .rw [Q9q,if_neg h,if_neg (by simp [d]),if_neg fun H=>u ((Y8u x).1 H)]
  have s:hGo none l≠0->Q9q l=hGo none l:=fun d=>by rw [Q9q,if_neg h,if_pos d]
  refine Y8 (fun z:Int=>∃ i:Nat,z=i/\i<=l.length/\hGo none l=hGo (Z5g l i) (l.drop i)) (fun z=>l.length-z.toNat) (fun p z A G=>?_) ⟨0,rfl,by omega,rfl⟩ (by simp;omega);obtain ⟨i,rfl,I,a⟩:=A
  unfold Z3S;refine Q6 (fun q=>?_) (fun q=>?_)
  .have q:i<l.length:=by simpa using q
   rw [Q1P q,hGo] at a;refine Z3 (k:=?_)
   simp only [Int.toNat_natCast];refine Q2 (Z9E m _) ?_
   refine Q6 (fun o=>?_) (fun o=>?_)
   .have o:Z5l (gl l i)≠0:=by simpa using o
    rw [if_pos o] at a;rw [s (by rw [a];exact o),a]
   .have o:Z5l (gl l i)=0:=by simpa using o
    rw [if_neg (by simp [o])] at a;have n:∀ b:Bool,b=(Z5g l i).any (fun g=> !ltR g (gl l i))->Q3J F i p b=some (Q9q l):=by
     intro b r;unfold Q3J
     refine Q6 (fun w=>?_) (fun w=>?_)
     .rw [if_pos (r ▸ w)] at a
      rw [s (by rw [a];decide),a]
     .rw [if_neg (by rw [<-r,w];simp)] at a
      refine Z3 (k:=?_);refine G _ ⟨i+1,by omega,q,?_⟩ (by omega)
      rw [a,Y2Q]
    refine Q6 (fun d=>?_) (fun d=>?_)
    .have d:0<i:=by simpa using d
     refine Z3 (k:=?_);refine Z3 (k:=?_)
     have v:((i:Int)-1).toNat=i-1:=by omega
     rw [v];obtain ⟨c,B,D,J⟩:=Z8I m (gl l (i-1)) (gl l i)
     refine Q2 B (n _ ?_);have C:(Z5g l i).any (fun g=> !ltR g (gl l i))=!ltR (gl l (i-1)) (gl l i):=by simp [Z5g,show i≠0 from by omega]
     rw [C,Bool.eq_iff_iff,Bool.not_eq_true', <-Bool.not_eq_true, <-D,decide_eq_true_eq];omega
    .have d:i=0:=by simp at d;omega
     exact n _ (by simp [Z5g,d])
  .have q:¬ i<l.length:=by simpa using q
   rw [List.drop_of_length_le (by omega)] at a;exact t a
structure HL (l:List Rg_):Prop where
 len:l.length<=200
 one:∀ f ∈ l,Z5l f=0
 asc:l.Pairwise fun f g=>ltR f g=true
 nx:NX l
theorem Y3b:∀ (l:List Rg_) (p:Option Rg_),hGo p l=0↔(∀ f ∈ l,Z5l f=0)/\l.Pairwise (fun f g=>ltR f g=true)/\∀ n,p=some n->∀ f ∈ l,ltR n f=true
 | [],p=>by simp [hGo]
 | f::l,p=>by
  have k:=Y3b l (some f);unfold hGo
  by_cases h1:Z5l f=0
  .rw [if_neg (by simp [h1])]
   by_cases e:p.any (fun g=> !ltR g f)=true
   .rw [if_pos e]
    constructor
    .intro h;cases h
    .rintro ⟨_,_,h⟩
     cases p with
     | none=>simp at e
     | some n=>
      have e:ltR n f=false:=by simpa using e
      rw [h n rfl f (by simp)] at e;cases e
   .rw [if_neg e,k]
    constructor
    .rintro ⟨a,b,c⟩
     refine ⟨fun g d=>?_,List.pairwise_cons.2 ⟨fun g d=>c _ rfl g d,b⟩,fun n i g d=>?_⟩
     .rcases List.mem_cons.1 d with rfl|d
      .exact h1
      .exact a g d
     .subst i
      have e:ltR n f=true:=by simpa using e
      rcases List.mem_cons.1 d with rfl|d
      .exact e
      .exact Y0v e (c _ rfl g d)
    .rintro ⟨a,b,c⟩
     obtain ⟨m,j⟩:=List.pairwise_cons.1 b;exact ⟨fun g d=>a g (by simp [d]),j,fun n i g d=>by cases i;exact m g d⟩
  .rw [if_pos h1]
   constructor
   .intro h;exact absurd h h1
   .rintro ⟨a,_,_⟩;exact absurd (a f (by simp)) h1
theorem Z4a(l:List Rg_):Q9q l=0↔HL l:=by
 unfold Q9q
 by_cases h:200<l.length
 .rw [if_pos h]
  exact ⟨fun h=>(by cases h),fun c=>by have:=c.len;omega⟩
 .rw [if_neg h]
  by_cases h2:hGo none l=0
  .rw [if_neg (by simp [h2])]
   obtain ⟨a,b,_⟩:=(Y3b l none).1 h2
   by_cases h3:NX l
   .rw [if_pos h3];exact ⟨fun _=>⟨by omega,a,b,h3⟩,fun _=>rfl⟩
   .rw [if_neg h3];exact ⟨fun h=>(by cases h),fun c=>absurd c.nx h3⟩
  .rw [if_pos h2]
   exact ⟨fun h=>absurd h h2,fun c=>absurd ((Y3b l none).2 ⟨c.one,c.asc,fun n d=>by cases d⟩) h2⟩
section
variable {F:Nat} {L:List A2_} {d:Int}
end
section
variable {F n:Nat} {L:List A2_} {d:Int}
theorem W0x{Q:List Rect}(ha:Q.Pairwise Apt)(hp:∀ r ∈ Q,Q1j r=true){Q' : List Rect}(he:inR Q'=inR Q)(hv:Val (cn (inR Q'))):area (cn (inR Q'))=area Q:=by
 rw [hv.area,Y5s ha hp];congr 1
 funext x y
 rw [J5 (V3 _),he]
theorem Y9P{R p:List Rect}(ha:R.Pairwise Apt)(hp:p ∈ Q7w R):p.Pairwise Apt:=by
 have h:=((Q7i R).pairwise_iff fun {a b} h=>Y3x h).2 ha;rw [List.pairwise_flatten] at h
 exact h.1 p hp
end
section
variable {F:Nat} {L:List A2_} {d:Int}
theorem Z6E{l:List Rect}(hc:Q0f l)(hl:l.length<=120){a:List Rect}(ha:∀ r ∈ a,Q1j r=true)(hs:∀ x y,inR l x y=true->inR a x y=true):Val l:=by
 have e:Box (16384:Int) l:=hc.box fun x y h=>by
  obtain ⟨r,c,b⟩:=(J8 _ _ _).1 (hs x y h);have:=(Q0b r).1 (ha r c)
  rw [J0] at b;omega
 exact ⟨hl,e.prop (by omega),hc⟩
theorem Y4f{a:List Rect}(ha:Val a)(hl:(Q1K L d a).length<=120):Val (Q1K L d a):=Z6E (Q0f.cn (Y1S _ _)) hl ha.2.1 fun x y h=>by
 unfold Q1K at h;rw [J5 (Y1S _ _),Bool.and_eq_true] at h
 exact h.2
theorem Y3H(hF:BIG<=F)(hL:LF6 L)(d1:0<=d)(d2:d<=36864){a:Re_}(ha:Val a.t_){m:Int}(m1:0<=m)(m2:m<=268435456)(hK:(cn (inR (W4 L d (zp 1)))).length<=120)(hRl:(Q1K L d a.t_).length<=120):Q3u F L d m a=some (lim (cn (inR (Z1I L d m a.t_)))):=by
 have c:=hF;unfold BIG at hF
 have B:Val (Q1K L d a.t_)/\True:=⟨Y4f ha hRl,trivial⟩;have t:=B.1.1
 have N:=ha.1;have I:=Q0f.cn (V3 (W4 L d (zp 1)))
 unfold Q3u;refine Q2 (Q2Y c hL.vl d1 d2 ha m1 m2) ?_
 refine Q5 rfl ?_;refine Q2 (Z5u c hL d 1) ?_
 have s:lim (cn (inR (W4 L d (zp 1))))=(⟨cn (inR (W4 L d (zp 1)))⟩,0):=by unfold lim;rw [if_neg (by omega)]
 rw [s];refine Q5 rfl ?_
 refine Q2 (Q1W c (by omega) (fun r f=>(I.pos f).1) (fun r f=>(ha.2.2.pos f).1) (k:=fun u v=>u&&v) rfl (fun u v=>by cases u <;> cases v <;> rfl)) ?_;have e:(cn fun x y=>inR (cn (inR (W4 L d (zp 1)))) x y&&inR a.t_ x y)=Q1K L d a.t_:=by
  unfold Q1K;congr 1
  funext x y
  rw [J5 (V3 _)]
 rw [e];refine Q5 (by rw [decide_eq_false_iff_not];omega) ?_
 have U:=(Q7i (Q1K L d a.t_)).length_eq;refine Y8 (fun z:List Rect×List Rect=>∃ (k:Nat) (Q:List (List Rect)),Q++Q7j k z.1=Q7w (Q1K L d a.t_)/\z.1.length<=k/\z.1.length<=120/\z.2=(Q.filter fun p=>decide (m<area p)).flatten/\∀ r ∈ z.1,r ∈ Q1K L d a.t_) (fun z=>z.1.length) (fun i z T H=>?_) ⟨_,[],rfl,Nat.le_refl _,t,rfl,fun _ h=>h⟩ (by simp only;omega)
 obtain ⟨l,R⟩:=z;obtain ⟨k,Q,j,D,G,rfl,w⟩:=T
 simp only at j D G w H ⊢;have K:Q.flatten.length<=120:=by
  have:=congrArg (fun q=>(List.flatten q).length) j
  simp only [List.flatten_append,List.length_append] at this;omega
 have S:=Z0I (p:=fun p=>decide (m<area p)) Q;unfold Z0W
 cases l with
 | nil=>
  refine Q5 (by simp) ?_;unfold Z0V
  have M:Q7j k []=[]:=by cases k <;> rfl
  rw [M,List.append_nil] at j;subst j
  refine Q2 (Q3y c (by omega) fun r f=>?_) ?_
  .have:=(Q0b r).1 (B.1.2.1 r (Y0g f))
   omega
  .rfl
 | cons b l=>
  refine Z4 (by simp) ?_;refine Q2 (Z4T c (by simp) (by omega) (fun r f=>Y1N (B.1.2.1 r (w r f)))) ?_
  cases k with
  | zero=>simp at D
  | succ k=>
  simp only [Q7j] at j;have A:=Z7f b l
  have C:=A.perm.length_eq;simp only [List.length_append,List.length_cons,List.length_nil] at C D G
  have J:∀ r ∈ (Q4M (b::l)).1,r ∈ Q1K L d a.t_:=fun r f=>w r (A.perm.mem_iff.1 (List.mem_append.2 (.inl f)))
  have O:1<=(Q4M (b::l)).1.length:=by
   have:=A.lens.1
   exact List.length_pos_iff.2 this
  refine Q2 (Z5Q c (by omega) fun r f=>B.1.2.1 r (J r f)) ?_;have g:∀ o,o=(((Q++[(Q4M (b::l)).1])).filter fun p=>decide (m<area p)).flatten->i ((Q4M (b::l)).2,o)=some (lim (cn (inR (Z1I L d m a.t_)))):=fun o P=>by
   refine H _ ⟨k,Q++[(Q4M (b::l)).1],by rw [<-j,List.append_assoc];rfl,by simp only;omega,by simp only;omega,P,fun r f=>w r (A.perm.mem_iff.1 (List.mem_append.2 (.inr f)))⟩ (by simp only [List.length_cons];omega)
  refine Q6 (fun E=>?_) (fun E=>?_)
  .refine Q7 (by simp only [LIM];omega) ?_
   refine g _ ?_;rw [List.filter_append,List.filter_cons,E];simp
  .refine g _ ?_
   rw [List.filter_append,List.filter_cons,E];simp
theorem Y6m:∀ (Q:List (List Rect)) (k:Nat),(∀ q ∈ Q,q.length<=k)->Q.flatten.length<=Q.length*k
 | [],_,_=>by simp
 | q::Q,k,h=>by
  have b:=Y6m Q k fun p a=>h p (by simp [a])
  have c:=h q (by simp);rw [List.flatten_cons,List.length_append,List.length_cons,Nat.add_mul]
  omega
noncomputable def W1P(R:List Rect)(p:List Int)(m:Int):List Rect:=((Q3Q R p).filter fun q=>decide (m<area (cn (inR q)))).flatten
theorem W1O{R:List Rect}(hR:Val R){p:List Int}(hl:Lab R p)(hs:Y9l R p)(m:Int):inR (W1P R p m)=inR (((Q7w R).filter fun q=>decide (m<area q)).flatten):=by
 have f:∀ r ∈ R,Pos r:=fun r i=>hR.2.2.pos i
 have k:=Y9d hR.2.2.apt f;have j:=W2g hR.2.2.apt f hl hs
 have g:∀ q ∈ Q3Q R p,∀ b ∈ Q7w R,inR q=inR b -> area (cn (inR q))=area b:=fun q c b a e=>by
  have l:Val (cn (inR q)):=by
   refine Z6E (Q0f.cn (V3 q)) ?_ (fun r i=>hR.2.1 r i) fun x y h=>?_
   .rw [e];exact Y8P hR b a
   .rw [J5 (V3 q)] at h
    exact (j.un x y).2 ⟨q,c,h⟩
  exact W0x (Y9P hR.2.2.apt a) (fun r i=>hR.2.1 r (Z3L a i)) e l
 funext x y
 unfold W1P;rw [Bool.eq_iff_iff,Z6A,Z6A,List.any_eq_true,List.any_eq_true]
 constructor
 .rintro ⟨q,c,h⟩
  rw [List.mem_filter,decide_eq_true_eq] at c;obtain ⟨b,a,e⟩:=j.uniq k c.1
  refine ⟨b,List.mem_filter.2 ⟨a,?_⟩,by rw [<-e];exact h⟩;rw [decide_eq_true_eq, <-g q c.1 b a e];exact c.2
 .rintro ⟨b,a,h⟩
  rw [List.mem_filter,decide_eq_true_eq] at a;obtain ⟨q,c,e⟩:=k.uniq j a.1
  refine ⟨q,List.mem_filter.2 ⟨c,?_⟩,by rw [<-e];exact h⟩;rw [decide_eq_true_eq,g q c b a.1 e.symm];exact a.2
theorem Y0o(hF:BIG<=F){R:List Rect}(hR:Val R)(m:Int):Q3d F m R false=some (lim (cn (inR (((Q7w R).filter fun q=>decide (m<area q)).flatten)))):=by
 have s:=hF;unfold BIG at hF
 have A:=hR.1;obtain ⟨p,I,N,K⟩:=Y2K s (a:=⟨R⟩) hR
 have Q:=Y9K (R:=R) (p:=p);rw [<-W1O hR I N m]
 unfold Q3d;refine Q5 rfl ?_
 refine Q2 K ?_;have b:∀ q ∈ Q3Q R p,(∀ r ∈ q,r ∈ R)/\q.length<=120:=fun q c=>by
  unfold Q3Q at c;obtain ⟨i,hi,rfl⟩:=List.mem_map.1 c
  refine ⟨fun r l=>?_,Nat.le_trans W1I A⟩;obtain ⟨k,U,_,rfl⟩:=Z1u.1 l
  exact V7 U
 have u:∀ q ∈ Q3Q R p,Val (cn (inR q)):=fun q c=>by
  have:=Z8O hR.2.2 (b q c).1
  have V:=(b q c).2;refine Z6E (Q0f.cn (V3 q)) (by omega) hR.2.1 fun x y h=>?_
  rw [J5 (V3 q)] at h;obtain ⟨r,l,J⟩:=(J8 _ _ _).1 h
  exact Q6Y ((b q c).1 r l) J
 let X:Nat->List Rect:=fun i=>(((Q3Q R p).take i).filter fun q=>decide (m<area (cn (inR q)))).flatten
 have w:∀ i,(cn (inR (X i))).length<=14400:=fun i=>by
  have E:∀ q ∈ ((Q3Q R p).take i).filter (fun q=>decide (m<area (cn (inR q)))),q ∈ Q3Q R p:=fun q c=>List.mem_of_mem_take (List.mem_filter.1 c).1
  have T:=Y6m _ 120 fun q c=>(b q (E q c)).2
  have S:(((Q3Q R p).take i).filter (fun q=>decide (m<area (cn (inR q))))).length<=120:=by
   have G:=List.length_filter_le (fun q=>decide (m<area (cn (inR q)))) ((Q3Q R p).take i);rw [List.length_take] at G
   omega
  have Y:=Z8O (p:=X i) hR.2.2 fun r l=>by
   obtain ⟨q,c,l⟩:=List.mem_flatten.1 l;exact (b q (E q c)).1 r l
  have g5:=Nat.mul_le_mul_right 120 S;show _<=_
  have g6:(X i).length<=(((Q3Q R p).take i).filter (fun q=>decide (m<area (cn (inR q))))).length*120:=T;omega
 refine Y8 (fun z:List Rect×Int=>∃ i:Nat,z=(cn (inR (X i)),(i:Int))/\i<=(Q3Q R p).length) (fun z=>(Q3Q R p).length-z.2.toNat) (fun j z P D=>?_) ⟨0,?_,Nat.zero_le _⟩ (by simp;omega)
 .obtain ⟨i,rfl,H⟩:=P
  simp only at D ⊢;unfold Z7V
  dsimp only
  refine Q6 (fun h=>?_) (fun h=>?_)
  .have h:i<(Q3Q R p).length:=by simpa using h
   have B:gl ((Q3Q R p).map Z3D) i=Z3D ((Q3Q R p)[i]):=by
    rw [K8 (by rw [List.length_map];exact h),List.getElem_map]
   have v:(Q3Q R p)[i] ∈ Q3Q R p:=List.getElem_mem h;have C:=u _ v
   have t:X (i+1)=X i++(if m<area (cn (inR ((Q3Q R p)[i]))) then (Q3Q R p)[i] else []):=by
    show (((Q3Q R p).take (i+1)).filter _).flatten=_;rw [List.take_succ_eq_append_getElem h,List.filter_append,List.flatten_append,List.filter_cons]
    congr 1
    split
    .rename_i g;rw [if_pos (by simpa using g)];simp
    .rename_i g;rw [if_neg (by simpa using g)];rfl
   have f:∀ o,o=cn (inR (X (i+1)))->Q6y F (i:Int) j o=some (lim (cn (inR (W1P R p m)))):=fun o O=>by
    unfold Q6y;refine Z3 (k:=?_)
    exact D _ ⟨i+1,by rw [O];simp,h⟩ (by simp only;omega)
   refine Q7 (by simp only [List.length_map];omega) ?_;simp only [Int.toNat_natCast,B]
   refine Q2 (Q3e s (a:=Z3D ((Q3Q R p)[i])) C) ?_;have e:area (Z3D ((Q3Q R p)[i])).t_=area (cn (inR ((Q3Q R p)[i]))):=rfl
   rw [e];refine Q6 (fun g=>?_) (fun g=>?_)
   .rw [decide_eq_true_eq] at g
    have Z:=w i;have W:(Z3D ((Q3Q R p)[i])).t_.length<=120:=C.1
    refine Q2 (Q1L s (by omega)) ?_;refine f _ ?_
    rw [t,if_pos g];congr 1
    funext x y
    rw [Q0F,J5 (V3 _)];show (inR (X i) x y||inR (cn (inR ((Q3Q R p)[i]))) x y)=_
    rw [J5 (V3 _)]
   .rw [decide_eq_false_iff_not] at g
    refine f _ ?_;rw [t,if_neg g,List.append_nil]
  .have h:¬ i<(Q3Q R p).length:=by simpa using h
   have e:X i=W1P R p m:=by
    show (((Q3Q R p).take i).filter _).flatten=_;rw [List.take_of_length_le (by omega)];rfl
   rw [e];unfold Z3i
   exact Q2 (Q8i _) rfl
 .have M:X 0=[]:=rfl
  rw [M,(Z4L (V3 [])).2 fun x y=>rfl];rfl
end
section
variable {F:Nat} {L:List A2_} {d:Int}
theorem Y6u{m:Int}{a:Re_}(h:chz L d m a=0):bgn L d=0/\Val a.t_/\0<=m/\m<=268435456:=by
 unfold chz at h
 by_cases h1:bgn L d=0
 .rw [if_neg (by simp [h1])] at h
  cases hv:Q2H a.t_ with
  | false=>rw [if_pos hv] at h;cases h
  | true=>
   rw [if_neg (by simp [hv])] at h;refine ⟨h1,(Q0M _).1 hv,?_⟩
   split at h
   .cases h
   .omega
 .rw [if_pos h1] at h;exact absurd h h1
theorem W0f{l:List Rect}(hc:Q0f l){a:List Rect}(ha:∀ r ∈ a,Q1j r=true)(hs:∀ x y,inR l x y=true->inR a x y=true):∀ r ∈ (lim l).1.t_,Q1j r=true:=by
 unfold lim;split
 .exact fun r b=>(List.not_mem_nil b).elim
 .exact Z7k hc ha hs
theorem Y4r{l:List Rect}(h:Q0f l):Q0f (lim l).1.t_:=by
 unfold lim;split
 .exact Z1A
 .exact h
theorem Y2G(hF:BIG<=F)(m:Int)(a:Re_)(h:chz L d m a≠0):Q5w F L d m a=some (⟨[]⟩,chz L d m a):=by
 unfold Q5w;refine Q2 (Q3A hF L d) ?_
 unfold chz at h ⊢
 by_cases h1:bgn L d=0
 .rw [if_neg (by simp [h1])] at h ⊢
  rw [h1];refine Q5 rfl ?_
  refine Q2 (K3 hF a) ?_
  cases hv:Q2H a.t_ with
  | false=>rfl
  | true=>
   rw [if_neg (by simp [hv])] at h ⊢;refine Q5 rfl ?_
   by_cases h2:m<0
   .rw [if_pos (.inl h2)]
    exact Z4 (by simpa using h2) rfl
   .refine Q5 (by simpa using h2) ?_
    by_cases h3:268435456<m
    .rw [if_pos (.inr h3),decide_eq_true h3];rfl
    .rw [if_neg (by omega)] at h;exact absurd rfl h
 .rw [if_pos h1]
  exact Z4 (by simpa using h1) rfl
theorem Z8v(hF:BIG<=F)(m:Int)(a:Re_)(h:chz L d m a≠0):Q1u F a L d m=some (⟨[]⟩,chz L d m a):=by
 unfold Q1u;refine Q2 (Q3A hF L d) ?_
 unfold chz at h ⊢
 by_cases h1:bgn L d=0
 .rw [if_neg (by simp [h1])] at h ⊢
  rw [h1];refine Q5 rfl ?_
  refine Q2 (K3 hF a) ?_
  cases hv:Q2H a.t_ with
  | false=>rfl
  | true=>
   rw [if_neg (by simp [hv])] at h ⊢;refine Q5 rfl ?_
   by_cases h2:m<0
   .rw [if_pos (.inl h2)]
    exact Z4 (by simpa using h2) rfl
   .refine Q5 (by simpa using h2) ?_
    by_cases h3:268435456<m
    .rw [if_pos (.inr h3),decide_eq_true h3];rfl
    .rw [if_neg (by omega)] at h;exact absurd rfl h
 .rw [if_pos h1]
  exact Z4 (by simpa using h1) rfl
theorem W1D(hF:BIG<=F)(hL:VL L->LF6 L)(d m:Int)(a:Re_):∃ v,Q3u F L d m a=some v/\Q5w F L d m a=some v/\v.1.t_.length<=120/\Q0f v.1.t_/\∀ r ∈ v.1.t_,Q1j r=true:=by
 by_cases h:chz L d m a=0
 .obtain ⟨s,j,w,C⟩:=Y6u h
  obtain ⟨l,q,A⟩:=Y3t s;have i:=hL l
  have I:=j.1;have H:(cn (inR (W4 L d (zp 1)))).length<=180000:=by
   have J:=i.all d (zp 1);have B:=Z9M (W4 L d (zp 1))
   have o:2*(W4 L d (zp 1)).length*(W4 L d (zp 1)).length<=(2*300)*300:=Nat.mul_le_mul (by omega) (by omega);omega
  have t:(cn fun x y=>Q0j (inR (cn (inR (W4 L d (zp 1)))) x y) (inR a.t_ x y) 2)=Q1K L d a.t_:=by
   unfold Q1K;congr 1
   funext x y
   rw [J5 (V3 _)];rfl
  have f:∀ v,br (decide ((120:Int)<((List.length (cn (inR (W4 L d (zp 1)))):Nat):Int))) (Q3d F m (Q1K L d a.t_) true) (Q3d F m (Q1K L d a.t_) (decide ((120:Int)<((List.length (Q1K L d a.t_):Nat):Int))))=some v->Q5w F L d m a=some v:=fun v p=>by
   unfold Q5w;refine Q2 (Q3A hF L d) ?_
   rw [s];refine Q5 rfl ?_
   refine Q2 (K3 hF a) ?_;rw [Q1x j]
   refine Q5 rfl ?_;refine Q5 (by rw [decide_eq_false_iff_not];omega) ?_
   rw [show decide ((268435456:Int)<m)=false by rw [decide_eq_false_iff_not];omega];unfold Q9C
   refine Q5 rfl ?_;refine Q2 (Z2O hF i 8 11 d) ?_
   rw [<-W1r];refine Q2 (Q0E hF (by omega) (by omega) (Z7k (Q0f.cn (V3 _)) (LF6.prop l d (zp 1)) fun x y h=>by rwa [J5 (V3 _)] at h) j.2.1) ?_
   rw [t];exact p
  have c:∀ v,(br ((lim (cn (inR (W4 L d (zp 1))))).2 != (0:Int)) (some ((⟨[]⟩:Re_),(lim (cn (inR (W4 L d (zp 1))))).2)) ((V8 F (lim (cn (inR (W4 L d (zp 1))))).1.t_ a.t_ (fun E D=>Z5v F E D)).bind fun e=>
    br (decide (120<(e.length:Int))) (some ((⟨[]⟩:Re_),(1:Int))) (Z2 (fun again (z:(List Rect)×(List Rect))=>Z0W F m again z.1 z.2) F (e,([]:List Rect)))))=some v->Q3u F L d m a=some v:=fun v p=>by
   unfold Q3u;refine Q2 (Q2Y hF l q A j w C) ?_
   refine Q5 rfl ?_;exact Q2 (Z5u hF i d 1) p
  by_cases hK:(cn (inR (W4 L d (zp 1)))).length<=120
  .by_cases hR:(Q1K L d a.t_).length<=120
   .refine ⟨_,Y3H hF i q A j w C hK hR,f _ ?_,Y5g _,Y4r (Q0f.cn (V3 _)),?_⟩
    rotate_left
    .exact W0f (Q0f.cn (V3 _)) j.2.1 fun x y h=>by
      rw [J5 (V3 _)] at h;obtain ⟨r,g,B⟩:=(J8 _ _ _).1 h
      have o:=Q6Y (Y0g g) B;unfold Q1K at o
      rw [J5 (Y1S _ _),Bool.and_eq_true] at o;exact o.2
    refine Q5 (by rw [decide_eq_false_iff_not];omega) ?_;rw [show decide ((120:Int)<((List.length (Q1K L d a.t_):Nat):Int))=false by rw [decide_eq_false_iff_not];omega]
    exact Y0o hF (Y4f j hR) m
   .refine ⟨(⟨[]⟩,1),c _ ?_,f _ ?_,by simp,Z1A,fun r g=>(List.not_mem_nil g).elim⟩
    .have b:lim (cn (inR (W4 L d (zp 1))))=(⟨cn (inR (W4 L d (zp 1)))⟩,0):=by unfold lim;rw [if_neg (by omega)]
     rw [b];refine Q5 rfl ?_
     refine Q2 (Q1W hF (by omega) (fun r g=>((Q0f.cn (V3 _)).pos g).1) (fun r g=>(j.2.2.pos g).1) (k:=fun u v=>u&&v) rfl (fun u v=>by cases u <;> cases v <;> rfl)) ?_;refine Z4 ?_ rfl
     rw [decide_eq_true_eq];have G:(cn fun x y=>inR (cn (inR (W4 L d (zp 1)))) x y&&inR a.t_ x y)=Q1K L d a.t_:=t
     show (120:Int)<(((cn fun x y=>inR (cn (inR (W4 L d (zp 1)))) x y&&inR a.t_ x y).length:Nat):Int);rw [G];omega
    .refine Q5 (by rw [decide_eq_false_iff_not];omega) ?_
     rw [show decide ((120:Int)<((List.length (Q1K L d a.t_):Nat):Int))=true by rw [decide_eq_true_eq];omega];rfl
  .refine ⟨(⟨[]⟩,1),c _ ?_,f _ ?_,by simp,Z1A,fun r g=>(List.not_mem_nil g).elim⟩
   .have b:lim (cn (inR (W4 L d (zp 1))))=(⟨[]⟩,1):=by unfold lim;rw [if_pos (by omega)]
    rw [b];exact Z4 rfl rfl
   .exact Z4 (by rw [decide_eq_true_eq];omega) rfl
 .refine ⟨(⟨[]⟩,chz L d m a),?_,Y2G hF m a h,by simp,Z1A,fun r g=>(List.not_mem_nil g).elim⟩
  unfold Q3u;refine Q2 (Z1C hF L d m a) ?_
  exact Z4 (by simpa using h) rfl
theorem Y6p(hF:BIG<=F)(hL:VL L->LF6 L)(d m:Int)(a:Re_):∃ v,Q1k F a L d m=some v/\Q1u F a L d m=some v/\v.1.t_.length<=120:=by
 by_cases h:chz L d m a=0
 .obtain ⟨D,t,K,V⟩:=Y6u h
  obtain ⟨C,P,S⟩:=Y3t D;have O:=t.1
  obtain ⟨b,N,R,W,T⟩:=W1Z hF hL d;have w:Q0f b.1.t_:=by rw [T D];exact Y4r (Q0f.cn (V3 _))
  obtain ⟨i,E,G,X,M,I⟩:=W1D hF hL d m a;have B:∀ v,(br (b.2 != (0:Int)) (some ((⟨[]⟩:Re_),b.2)) ((Q3u F L d m a).bind fun e=>
    br (e.2 != (0:Int)) (some ((⟨[]⟩:Re_),e.2)) ((Q2f F ([b.1.t_,e.1.t_]:List (List Rect))).bind fun j=>
    (V8 F a.t_ j (fun J Q=>Z0j F J Q)).bind fun l=>
    (Q2i F l).bind fun g=>
    some (g.1,g.2))))=some v->Q1k F a L d m=some v:=fun v z=>by
   unfold Q1k;refine Q2 (Q2Y hF C P S t K V) ?_
   refine Q5 rfl ?_;exact Q2 N z
  have q:∀ v,(br (b.2 != (0:Int)) (some ((⟨[]⟩:Re_),b.2)) ((Q5w F L d m a).bind fun c=>
    br (c.2 != (0:Int)) (some ((⟨[]⟩:Re_),c.2)) ((V2 F a.t_ b.1.t_ (3:Int)).bind fun o=>
    (V2 F o c.1.t_ (3:Int)).bind fun p=>
    (Q3V F p).bind fun f=>
    some (f.1,f.2))))=some v->Q1u F a L d m=some v:=fun v z=>by
   unfold Q1u;refine Q2 (Q3A hF L d) ?_
   rw [D];refine Q5 rfl ?_
   refine Q2 (K3 hF a) ?_;rw [Q1x t]
   refine Q5 rfl ?_;refine Q5 (by rw [decide_eq_false_iff_not];omega) ?_
   rw [show decide ((268435456:Int)<m)=false by rw [decide_eq_false_iff_not];omega];unfold Q4W
   refine Q5 rfl ?_;exact Q2 R z
  by_cases e1:b.2=0
  .by_cases e2:i.2=0
   .have s:(cn fun x y=>Q0j (inR (cn fun x y=>Q0j (inR a.t_ x y) (inR b.1.t_ x y) 3) x y) (inR i.1.t_ x y) 3)=cn fun x y=>inR a.t_ x y && !inR (b.1.t_++i.1.t_) x y:=by
     congr 1
     funext x y
     rw [J5 (Q3K _ _ _),Q0F];show ((inR a.t_ x y && !inR b.1.t_ x y) && !inR i.1.t_ x y)=_
     cases inR a.t_ x y <;> cases inR b.1.t_ x y <;> cases inR i.1.t_ x y <;> rfl
    refine ⟨lim (cn fun x y=>inR a.t_ x y && !inR (b.1.t_++i.1.t_) x y),B _ ?_,q _ ?_,Y5g _⟩
    .refine Q5 (by rw [e1];rfl) ?_
     refine Q2 E ?_;refine Q5 (by rw [e2];rfl) ?_
     refine Q2 (Q3X hF (by omega) (by omega)) ?_;refine Q2 (Q1W hF (by simp only [List.length_append];omega) (fun r q=>(t.2.2.pos q).1) (fun r q=>?_) (k:=fun u v=>u && !v) rfl (fun u v=>by cases u <;> cases v <;> rfl)) ?_
     .rcases List.mem_append.1 q with h|h
      .exact (w.pos h).1
      .exact (M.pos h).1
     .exact Q2 (Q7M F _) rfl
    .refine Q5 (by rw [e1];rfl) ?_
     refine Q2 G ?_;refine Q5 (by rw [e2];rfl) ?_
     refine Q2 (Q1L hF (by omega)) ?_;have U:=W0G a.t_ b.1.t_ 3
     have H:(2*a.t_.length+2*b.1.t_.length)*(a.t_.length+b.1.t_.length)<=480*240:=Nat.mul_le_mul (by omega) (by omega);have A:∀ r ∈ i.1.t_,Q1j r=true:=I
     refine Q2 (Q0E hF (by omega) (by omega) (Z7k (Q0f.cn (Q3K _ _ _)) t.2.1 fun x y h=>?_) A) ?_
     .rw [J5 (Q3K _ _ _)] at h
      simp only [Q0j] at h;simp at h
      exact h.1
     rw [s];exact Q2 (Q8i _) rfl
   .refine ⟨(⟨[]⟩,i.2),B _ ?_,q _ ?_,by simp⟩
    .exact Q5 (by rw [e1];rfl) (Q2 E (Z4 (by simpa using e2) rfl))
    .exact Q5 (by rw [e1];rfl) (Q2 G (Z4 (by simpa using e2) rfl))
  .refine ⟨(⟨[]⟩,b.2),B _ ?_,q _ ?_,by simp⟩
   .exact Z4 (by simpa using e1) rfl
   .exact Z4 (by simpa using e1) rfl
 .refine ⟨(⟨[]⟩,chz L d m a),?_,Z8v hF m a h,by simp⟩
  unfold Q1k;refine Q2 (Z1C hF L d m a) ?_
  exact Z4 (by simpa using h) rfl
end
def Q3S(y c:Int)(f:Rg_):Bool:=decide (f.y_=y)&&decide (f.c_=c)
def Z6J(y:Int)(a:List Rect)(f:Rg_):Rg_:=if f.y_=y then ⟨f.y_,f.c_,⟨cn fun u v=>inR f.g_.t_ u v && !inR a u v⟩⟩ else f
def Q2h(l:List Rg_)(y c:Int)(a:List Rect):List Rg_:=(l.filter fun f=> !Q3S y c f).map (Z6J y a)
def vA(l:List Rg_)(y c:Int)(a:List Rect):List Rect:=match l.find? (Q3S y c) with|some f=>cn fun u v=>inR f.g_.t_ u v||inR a u v|none=>a
def neR(f:Rg_):Bool:= !decide (f.g_.t_.length=0)
def Z9Y(l:List Rg_):Bool:=decide (200<l.length)||l.any fun f=>decide (120<f.g_.t_.length)
def Z6M(l:List Rg_)(r:Rg_):Nat:=l.countP fun f=>ltR f r
def Y9b(l:List Rg_)(r:Rg_):List Rg_:=l.take (Z6M l r)++[r]++l.drop (Z6M l r)
def Z6O(l:List Rg_)(y c:Int)(a:List Rect):List Rg_:=
 if (vA l y c a).length=0 then (Q2h l y c a).filter neR else Y9b ((Q2h l y c a).filter neR) ⟨y,c,⟨vA l y c a⟩⟩
def addH(l:List Rg_)(y c:Int)(a:Re_):List Rg_×Int:=
 if Q9q l≠0 then ([],Q9q l) else if y<0\/100<y then ([],18) else if c<0\/40<=c then ([],13) else if Q2H a.t_=false then ([],7)
 else if Z9Y (Z6O l y c a.t_)=true then ([],1) else (Z6O l y c a.t_,0)
theorem Y6Y(l:List Rg_)(x:Rg_)(y c:Int)(a:List Rect):Q2h (l++[x]) y c a=Q2h l y c a++(if Q3S y c x=true then [] else [Z6J y a x]):=by
 unfold Q2h;rw [List.filter_append,List.map_append]
 congr 1
 cases h:Q3S y c x with
 | true=>simp [h]
 | false=>simp [h]
theorem W1w(l:List Rg_)(x:Rg_)(y c:Int)(a:List Rect)(h:Q3S y c x=true->∀ f ∈ l,Q3S y c f=false):vA (l++[x]) y c a=if Q3S y c x=true then cn (fun u v=>inR x.g_.t_ u v||inR a u v) else vA l y c a:=by
 unfold vA;rw [List.find?_append]
 cases hx:Q3S y c x with
 | true=>
  have:l.find? (Q3S y c)=none:=List.find?_eq_none.2 fun f b=>by rw [h hx f b];simp
  rw [this];simp [hx]
 | false=>simp [hx]
theorem Y9u(l:List Rg_)(y c:Int)(a:List Rect)(h:∀ f ∈ l,Q3S y c f=false):vA l y c a=a:=by
 unfold vA;have:l.find? (Q3S y c)=none:=List.find?_eq_none.2 fun f b=>by rw [h f b];simp
 rw [this]
theorem Y0X{l:List Rg_}(h:l.Pairwise fun f g=>ltR f g=true){i:Nat}(hi:i<l.length){y c:Int}(hs:Q3S y c (gl l i)=true):∀ f ∈ l.take i,Q3S y c f=false:=by
 intro f e;obtain ⟨j,b,rfl⟩:=List.getElem_of_mem e
 have a:j<i:=by rw [List.length_take] at b;omega
 rw [List.getElem_take];have:=List.pairwise_iff_getElem.1 h j i (by omega) hi a
 rw [Q8m] at this;rw [K8 hi] at hs
 unfold Q3S at hs ⊢;rw [Bool.and_eq_true,decide_eq_true_eq,decide_eq_true_eq] at hs
 rw [<-Bool.not_eq_true,Bool.and_eq_true,decide_eq_true_eq,decide_eq_true_eq];omega
theorem HL.val{l:List Rg_}(h:HL l){f:Rg_}(hf:f ∈ l):Val f.g_.t_:=((Q9b f).1 (h.one f hf)).2.2.2.2.2
theorem Y2F{F:Nat}(hF:BIG<=F){l:List Rg_}(h:HL l){y c:Int}{a:Re_}(ha:Val a.t_){r:List Rg_×Int}(hk:Q7V F y c (vA l y c a.t_) ((Q2h l y c a.t_).filter neR)=some r):
  Z2 (fun again (z:(List Rect)×Int×(List Rg_))=>Z4t F l y c a again z.1 z.2.1 z.2.2) F (a.t_,(0:Int),([]:List Rg_))=some r:=by
 have s:=hF;unfold BIG at hF
 have E:=h.len;refine Y8 (fun z:(List Rect)×Int×(List Rg_)=>∃ i:Nat,z=(vA (l.take i) y c a.t_,(i:Int),(Q2h (l.take i) y c a.t_).filter neR)/\i<=l.length) (fun z=>l.length-z.2.1.toNat) (fun again z K H=>?_) ⟨0,by rw [List.take_zero];rfl,by omega⟩ (by simp only;omega)
 obtain ⟨i,rfl,O⟩:=K;simp only at H ⊢
 unfold Z4t;simp only [Int.toNat_natCast]
 refine Q6 (fun j=>?_) (fun j=>?_)
 .have j:i<l.length:=by simpa using j
  have t:=h.val (V7 j);have N:((Q2h (l.take i) y c a.t_).filter neR).length<=200:=by
   have C:=List.length_filter_le neR (Q2h (l.take i) y c a.t_);unfold Q2h at C ⊢
   rw [List.length_map] at C;have:=List.length_filter_le (fun f=> !Q3S y c f) (l.take i)
   have e:(l.take i).length<=l.length:=by rw [List.length_take];omega
   omega
  have g:∀ (v:List Rect) (p:List Rg_),v=vA (l.take (i+1)) y c a.t_->p=(Q2h (l.take (i+1)) y c a.t_).filter neR->Q5R F i again v p=some r:=by
   rintro v p rfl rfl;unfold Q5R
   refine Z3 (k:=?_);exact H _ ⟨i+1,rfl,j⟩ (by simp only;omega)
  have A:=W1w (l.take i) (gl l i) y c a.t_ (Y0X h.asc j);have x:=Y6Y (l.take i) (gl l i) y c a.t_
  rw [<-Q0c j] at A x;have B:∀ w:List Rect,Q3S y c (gl l i)=false->(⟨(gl l i).y_,(gl l i).c_,⟨w⟩⟩:Rg_)=Z6J y a.t_ (gl l i)->Q7W F l (vA (l.take i) y c a.t_) i ((Q2h (l.take i) y c a.t_).filter neR) again w=some r:=by
   intro w m M;unfold Q7W
   simp only [Int.toNat_natCast];have G:(Q2h (l.take (i+1)) y c a.t_).filter neR=(Q2h (l.take i) y c a.t_).filter neR++[(⟨(gl l i).y_,(gl l i).c_,⟨w⟩⟩:Rg_)].filter neR:=by
    rw [x,if_neg (by rw [m];simp),List.filter_append,M]
   have I:vA (l.take i) y c a.t_=vA (l.take (i+1)) y c a.t_:=by rw [A,if_neg (by rw [m];simp)]
   refine Q6 (fun o=>?_) (fun o=>?_)
   .have o:w.length≠0:=by simp at o;omega
    refine Z3 (k:=?_);refine g _ _ I ?_
    rw [G];congr 1
    simp [neR,o]
   .have o:w.length=0:=by simp at o;simp [o]
    refine g _ _ I ?_;rw [G]
    simp [neR,o]
  refine Z3 (k:=?_);have J:∀ b:Bool,b=Q3S y c (gl l i)->Q7X F l y a (vA (l.take i) y c a.t_) i ((Q2h (l.take i) y c a.t_).filter neR) again b=some r:=by
   intro b D;unfold Q7X
   simp only [Int.toNat_natCast];refine Q6 (fun e=>?_) (fun e=>?_)
   .have m:Q3S y c (gl l i)=true:=by rw [<-D,e]
    rw [Y9u _ y c a.t_ (Y0X h.asc j m)];refine Q2 (Q0E s (by have:=ha.1;omega) (by have:=t.1;omega) ha.2.1 t.2.1) (g _ _ ?_ ?_)
    .rw [A,if_pos m]
     congr 1
     funext u v
     simp [Q0j,Bool.or_comm]
    .rw [x,if_pos m,List.append_nil]
   .have m:Q3S y c (gl l i)=false:=by rw [<-D,e]
    refine Q6 (fun q=>?_) (fun q=>?_)
    .have q:(gl l i).y_=y:=by simpa using q
     refine Q2 (Q0E s (by have:=t.1;omega) (by have:=ha.1;omega) t.2.1 ha.2.1) (B _ m ?_);unfold Z6J;rw [if_pos q]
     simp [Q0j]
    .have q:¬ (gl l i).y_=y:=by simpa using q
     refine B _ m ?_;unfold Z6J;rw [if_neg q]
  refine Q6 (fun e=>?_) (fun e=>?_)
  .have e:(gl l i).y_=y:=by simpa using e
   refine J _ ?_;unfold Q3S
   rw [decide_eq_true e,Bool.true_and];rfl
  .have e:¬ (gl l i).y_=y:=by simpa using e
   refine J _ ?_;unfold Q3S
   rw [decide_eq_false e,Bool.false_and]
 .have j:i=l.length:=by
   have:¬ i<l.length:=by simpa using j
   omega
  subst j;rw [List.take_length]
  exact hk
def Y3T(f:Rg_):Int×Int:=(f.y_,f.c_)
theorem Z9A{f g:Rg_}:lt2 (Y3T f) (Y3T g)↔ltR f g=true:=by rw [Q8m];unfold lt2 Y3T;exact Iff.rfl
theorem Y4B{l:List Rg_}(h:l.Pairwise fun f g=>ltR f g=true)(r:Rg_):Z6M l r<=l.length/\(∀ j,j<Z6M l r->ltR (gl l j) r=true)/\∀ j,Z6M l r<=j->j<l.length->ltR (gl l j) r=false:=by
 induction l with
 | nil=>exact ⟨Nat.le_refl _,fun j i=>by simp [Z6M] at i,fun j _ i=>by simp at i⟩
 | cons f l ih=>
  obtain ⟨s,q⟩:=List.pairwise_cons.1 h;obtain ⟨a,b,c⟩:=ih q
  cases hf:ltR f r with
  | true=>
   have e:Z6M (f::l) r=Z6M l r+1:=by simp [Z6M,hf]
   rw [e];refine ⟨by simp;exact a,fun j i=>?_,fun j i m=>?_⟩
   .cases j with
    | zero=>exact hf
    | succ j=>exact b j (by omega)
   .cases j with
    | zero=>omega
    | succ j=>exact c j (by omega) (by simpa using m)
  | false=>
   have k:∀ g ∈ l,ltR g r=false:=fun g o=>by
    rw [<-Bool.not_eq_true];intro p
    rw [Y0v (s g o) p] at hf;cases hf
   have e:Z6M (f::l) r=0:=by
    unfold Z6M;rw [List.countP_eq_zero]
    intro g o;rcases List.mem_cons.1 o with rfl|o
    .rw [hf];simp
    .rw [k g o];simp
   rw [e];refine ⟨Nat.zero_le _,fun j i=>absurd i (Nat.not_lt_zero j),fun j _ m=>?_⟩
   cases j with
   | zero=>exact hf
   | succ j=>
    have i:j<l.length:=by simpa using m
    exact k _ (V7 i)
theorem Y9a(l:List Rg_)(r:Rg_):(Y9b l r).Perm (l++[r]):=by
 unfold Y9b;have a:(l.take (Z6M l r)++[r]++l.drop (Z6M l r)).Perm (l.take (Z6M l r)++(l.drop (Z6M l r)++[r])):=by
  rw [List.append_assoc];exact List.Perm.append_left _ List.perm_append_comm
 rw [<-List.append_assoc,List.take_append_drop] at a;exact a
theorem W0k{l:List Rg_}(h:l.Pairwise fun f g=>ltR f g=true){r:Rg_}(hr:∀ f ∈ l,Y3T f≠Y3T r):(Y9b l r).Pairwise fun f g=>ltR f g=true:=by
 obtain ⟨a,b,c⟩:=Y4B h r;unfold Y9b
 generalize Z6M l r=k at *;have s:∀ f ∈ l.take k,ltR f r=true:=fun f e=>by
  obtain ⟨j,o,rfl⟩:=List.getElem_of_mem e;have i:j<k:=by rw [List.length_take] at o;omega
  have:=b j i
  rw [K8 (show j<l.length by omega)] at this;rw [List.getElem_take];exact this
 have t:∀ f ∈ l.drop k,ltR r f=true:=fun f e=>by
  obtain ⟨j,o,rfl⟩:=List.getElem_of_mem e;have i:k+j<l.length:=by rw [List.length_drop] at o;omega
  have p:=c (k+j) (by omega) i;rw [K8 i] at p
  rw [List.getElem_drop];have u:=hr _ (List.getElem_mem i)
  rcases W1S u with q|q
  .rw [Z9A.1 q] at p;cases p
  .exact Z9A.1 q
 rw [List.pairwise_append,List.pairwise_append];refine ⟨⟨h.sublist (List.take_sublist _ _),List.pairwise_singleton _ _,fun f e g m=>?_⟩,h.sublist (List.drop_sublist _ _),fun f e g m=>?_⟩
 .rw [List.mem_singleton] at m;subst m;exact s f e
 .rcases List.mem_append.1 e with e|e
  .exact Y0v (s f e) (t g m)
  .rw [List.mem_singleton] at e;subst e;exact t g m
theorem Z3Y(y:Int)(a:List Rect)(f:Rg_):Y3T (Z6J y a f)=Y3T f:=by unfold Z6J;split <;> rfl
theorem W0a(y:Int)(a:List Rect)(f g:Rg_):ltR (Z6J y a f) (Z6J y a g)=ltR f g:=by
 rw [Bool.eq_iff_iff, <-Z9A, <-Z9A,Z3Y,Z3Y]
theorem Y2w{l:List Rg_}(h:l.Pairwise fun f g=>ltR f g=true)(y c:Int)(a:List Rect):((Q2h l y c a).filter neR).Pairwise fun f g=>ltR f g=true:=by
 refine List.Pairwise.filter _ ?_;unfold Q2h
 rw [List.pairwise_map];refine List.Pairwise.imp (fun {f g} hh=>?_) (List.Pairwise.filter _ h)
 rw [W0a];exact hh
theorem Y9I{l:List Rg_}{y c:Int}{a v:List Rect}:∀ f ∈ (Q2h l y c a).filter neR,Y3T f≠Y3T ⟨y,c,⟨v⟩⟩:=by
 intro f e h;have e:=(List.mem_filter.1 e).1
 unfold Q2h at e;obtain ⟨g,j,rfl⟩:=List.mem_map.1 e
 have b:=(List.mem_filter.1 j).2;rw [Z3Y] at h
 unfold Y3T at h;have k:g.y_=y:=congrArg Prod.fst h
 have i:g.c_=c:=congrArg Prod.snd h;unfold Q3S at b
 simp [k,i] at b
theorem W1e{l:List Rg_}(h:l.Pairwise fun f g=>ltR f g=true)(y c:Int)(a:List Rect):(Z6O l y c a).Pairwise fun f g=>ltR f g=true:=by
 unfold Z6O;split
 .exact Y2w h y c a
 .exact W0k (Y2w h y c a) Y9I
theorem Y0V(l:List Rg_)(y c:Int)(a:List Rect):((Q2h l y c a++[(⟨y,c,⟨vA l y c a⟩⟩:Rg_)]).filter neR).Perm (Z6O l y c a):=by
 rw [List.filter_append];unfold Z6O
 split
 .rename_i h
  have:[(⟨y,c,⟨vA l y c a⟩⟩:Rg_)].filter neR=[]:=by simp [neR,h]
  rw [this,List.append_nil]
 .rename_i h
  have:[(⟨y,c,⟨vA l y c a⟩⟩:Rg_)].filter neR=[⟨y,c,⟨vA l y c a⟩⟩]:=by simp [neR,h]
  rw [this];exact (Y9a _ _).symm
theorem Y4m(l:List Rg_)(y c:Int)(a:List Rect):(Q2h l y c a).length<=l.length:=by
 unfold Q2h;rw [List.length_map]
 exact List.length_filter_le _ _
theorem Z3F{F:Nat}(hF:BIG<=F){L:List Rg_}(hl:L.length<=201):Q6x F L=some (if Z9Y L=true then ([],1) else (L,0)):=by
 unfold BIG at hF;unfold Q6x
 refine Q6 (fun h=>?_) (fun h=>?_)
 .have h:200<L.length:=by have:=of_decide_eq_true h;omega
  rw [if_pos (by unfold Z9Y;rw [decide_eq_true h,Bool.true_or])]
 .have h:¬ 200<L.length:=by have:=of_decide_eq_false h;omega
  refine Y8 (fun z:Int=>∃ i:Nat,z=i/\i<=L.length/\∀ j,j<i->¬ 120<(gl L j).g_.t_.length) (fun z=>L.length-z.toNat) (fun e z o m=>?_) ⟨0,rfl,by omega,fun j c=>absurd c (Nat.not_lt_zero j)⟩ (by simp;omega);obtain ⟨i,rfl,q,l⟩:=o
  unfold Z7U;simp only [Int.toNat_natCast]
  refine Q6 (fun a=>?_) (fun a=>?_)
  .have a:i<L.length:=by simpa using a
   refine Z3 (k:=?_);refine Q6 (fun b=>?_) (fun b=>?_)
   .have b:120<(gl L i).g_.t_.length:=by have:=of_decide_eq_true b;omega
    rw [if_pos];unfold Z9Y
    rw [Bool.or_eq_true];exact .inr (List.any_eq_true.2 ⟨_,V7 a,decide_eq_true b⟩)
   .have b:¬ 120<(gl L i).g_.t_.length:=by have:=of_decide_eq_false b;omega
    refine Z3 (k:=?_);refine m _ ⟨i+1,by omega,a,fun j c=>?_⟩ (by omega)
    rcases Nat.lt_or_ge j i with g|g
    .exact l j g
    .have:j=i:=by omega
     subst this;exact b
  .have a:i=L.length:=by
    have:¬ i<L.length:=by simpa using a
    omega
   subst a;rw [if_neg]
   .rfl
   .unfold Z9Y
    rw [decide_eq_false h,Bool.false_or,Q6H (p:=fun f:Rg_=>decide (120<f.g_.t_.length)) fun j c=>decide_eq_false (l j c)];simp
theorem Y1y{F:Nat}(hF:BIG<=F){l:List Rg_}(h:HL l){y c:Int}{a:List Rect}:
  Q7V F y c (vA l y c a) ((Q2h l y c a).filter neR)=some (if Z9Y (Z6O l y c a)=true then ([],1) else (Z6O l y c a,0)):=by
 have s:=hF;unfold BIG at hF
 have w:=h.len;have A:((Q2h l y c a).filter neR).length<=200:=by
  have m:=Y4m l y c a;have f:=List.length_filter_le neR (Q2h l y c a)
  omega
 have r:=Y2w h.asc y c a;unfold Q7V Z6O
 generalize (Q2h l y c a).filter neR=R at *;generalize vA l y c a=v at *
 refine Q6 (fun m=>?_) (fun m=>?_)
 .have m:v.length≠0:=by have:=of_decide_eq_true m;omega
  rw [if_neg m];obtain ⟨k1,k2,C⟩:=Y4B r ⟨y,c,⟨v⟩⟩
  unfold Y9b;generalize Z6M R ⟨y,c,⟨v⟩⟩=k at *
  refine Y8 (fun z:Int=>∃ i:Nat,z=i/\i<=k) (fun z=>R.length-z.toNat) (fun p z x B=>?_) ⟨0,rfl,by omega⟩ (by simp;omega);obtain ⟨i,rfl,D⟩:=x
  have t:i=k->Z1o F y c v R (i:Int)=some (if Z9Y (R.take k++[(⟨y,c,⟨v⟩⟩:Rg_)]++R.drop k)=true then ([],1) else (R.take k++[⟨y,c,⟨v⟩⟩]++R.drop k,0)):=by
   rintro rfl;unfold Z1o
   simp only [Int.toNat_natCast];refine Q7 (by omega) (Q7 (by omega) (Q7 (by simp only [LIM];omega) (Q7 (by simp only [LIM,List.length_cons,List.length_nil];omega) (Q7 (by omega) (Q7 (by omega) (Q7 (by simp only [LIM,List.length_cons,List.length_nil];omega) ?_))))))
   have e:((([]:List Rg_)++((R.drop 0).take i))++([(⟨y,c,(⟨v⟩:Re_)⟩:Rg_)]:List Rg_))++((R.drop (0+i)).take (R.length-i))=R.take i++[⟨y,c,⟨v⟩⟩]++R.drop i:=by
    rw [List.nil_append,List.drop_zero,Nat.zero_add,List.take_of_length_le (l:=R.drop i) (by rw [List.length_drop];omega)]
   rw [e];refine Z3F s ?_
   simp only [List.length_append,List.length_take,List.length_drop,List.length_cons,List.length_nil];omega
  have g:∀ b:Bool,(b=true↔i<R.length/\ltR (gl R i) ⟨y,c,⟨v⟩⟩=true)->Q4d F y c v R i p b=some (if Z9Y (R.take k++[(⟨y,c,⟨v⟩⟩:Rg_)]++R.drop k)=true then ([],1) else (R.take k++[⟨y,c,⟨v⟩⟩]++R.drop k,0)):=by
   intro b u;unfold Q4d
   refine Q6 (fun f=>?_) (fun f=>?_)
   .obtain ⟨q,o⟩:=u.1 f
    have j:i<k:=by
     rcases Nat.lt_or_ge i k with j|j
     .exact j
     .rw [C i j q] at o;cases o
    refine Z3 (k:=?_);exact B _ ⟨i+1,by omega,j⟩ (by omega)
   .refine t ?_
    rcases Nat.lt_or_ge i k with j|j
    .have:=u.2 ⟨by omega,k2 i j⟩
     rw [f] at this;cases this
    .omega
  unfold Z9p;simp only [Int.toNat_natCast]
  refine Q6 (fun f=>?_) (fun f=>?_)
  .have f:i<R.length:=by simpa using f
   refine Z3 (k:=?_);refine Q6 (fun q=>?_) (fun q=>?_)
   .refine g _ ?_
    have q:=of_decide_eq_true q;rw [Q8m];simp;omega
   .have q:=of_decide_eq_false q
    refine Z3 (k:=?_);refine Q6 (fun o=>?_) (fun o=>?_)
    .have o:(gl R i).y_=y:=by simpa using o
     refine Z3 (k:=?_);refine g _ ?_
     rw [Q8m,decide_eq_true_eq];simp only;omega
    .have o:¬ (gl R i).y_=y:=by simpa using o
     refine g _ ?_;rw [Q8m];simp;omega
  .have f:¬ i<R.length:=by simpa using f
   refine g _ ?_;simp;omega
 .have m:v.length=0:=by have:=of_decide_eq_false m;omega
  rw [if_pos m];exact Z3F s (by omega)
theorem Y4U{F:Nat}(hF:BIG<=F)(l:List Rg_)(y c:Int)(a:Re_):Z7a F l y c a=some (addH l y c a):=by
 unfold Z7a addH;refine Q2 (Y2D hF l) ?_
 refine Q6 (fun h=>?_) (fun h=>?_)
 .rw [if_pos (by simpa using h)]
 .have h:Q9q l=0:=by simpa using h
  rw [if_neg (by simp [h]),Q7x (Q7Z F l y c a)];unfold Q7Z
  refine Q6 (fun f=>by rw [if_pos (by simpa using f)]) (fun f=>?_);rw [if_neg (by simpa using f),Q7x (Q7Y F l y c a)]
  unfold Q7Y;refine Q6 (fun e=>by rw [if_pos (by simpa using e)]) (fun e=>?_)
  rw [if_neg (by simpa using e)];refine Q2 (K3 hF _) ?_
  refine Q6 (fun b=>by rw [if_pos (by simpa using b)]) (fun b=>?_);have b:Q2H a.t_=true:=by simpa using b
  rw [if_neg (by rw [b];simp)];exact Y2F hF ((Z4a l).1 h) ((Q0M _).1 b) (Y1y hF ((Z4a l).1 h))
theorem Y4q{a b:Re_}(h:∀ x y,inR a.t_ x y=true->inR b.t_ x y=true->False):Q3F a b=false:=by
 by_cases ha:Val a.t_
 .by_cases hb:Val b.t_
  .exact Y2V ha hb h
  .unfold Q3F
   have:Q2H b.t_=false:=by rw [<-Bool.not_eq_true,Q0M];exact hb
   rw [this];simp
 .unfold Q3F
  have:Q2H a.t_=false:=by rw [<-Bool.not_eq_true,Q0M];exact ha
  rw [this];rfl
theorem Z6r{a b:Re_}(ha:Val a.t_)(hb:Val b.t_)(h:Q3F a b=false):∀ x y,inR a.t_ x y=true->inR b.t_ x y=true->False:=by
 intro x y e c;unfold Q3F at h
 rw [Q1x ha,Q1x hb,Bool.true_and,Bool.true_and] at h;have:=(Y5a ha.2.1 hb.2.1).2 ⟨x,y,e,c⟩
 rw [this] at h;cases h
theorem W1X(a b:List Rect)(x y:Int):inR (a++b) x y=(inR a x y||inR b x y):=by
 rw [Bool.eq_iff_iff,Bool.or_eq_true,J8,J8,J8];constructor
 .rintro ⟨r,c,h⟩
  rcases List.mem_append.1 c with c|c
  .exact .inl ⟨r,c,h⟩
  .exact .inr ⟨r,c,h⟩
 .rintro (⟨r,c,h⟩|⟨r,c,h⟩)
  .exact ⟨r,List.mem_append_left _ c,h⟩
  .exact ⟨r,List.mem_append_right _ c,h⟩
theorem Y3o(f:Rg_)(y:Int)(a:List Rect){u v:Int}(h:inR (Z6J y a f).g_.t_ u v=true):inR f.g_.t_ u v=true/\(f.y_=y->inR a u v=false):=by
 unfold Z6J at h;split at h
 .rename_i b
  simp only at h;rw [J5 (Z9H _ _),Bool.and_eq_true,Bool.not_eq_true'] at h
  exact ⟨h.1,fun _=>h.2⟩
 .rename_i b
  exact ⟨h,fun c=>absurd c b⟩
theorem W2A{l:List Rg_}{y c:Int}{a:List Rect}{u v:Int}:inR (vA l y c a) u v=true↔inR a u v=true\/∃ f,l.find? (Q3S y c)=some f/\inR f.g_.t_ u v=true:=by
 unfold vA;split
 .rename_i f b
  have:=Q3K f.g_.t_ a 1
  simp only [Q0j,if_true] at this;rw [J5 this,Bool.or_eq_true]
  constructor
  .rintro (h|h)
   .exact .inr ⟨f,b,h⟩
   .exact .inl h
  .rintro (h|⟨g,hg,h⟩)
   .exact .inr h
   .rw [b] at hg;cases hg;exact .inl h
 .rename_i b
  constructor
  .exact fun h=>.inl h
  .rintro (h|⟨g,hg,h⟩)
   .exact h
   .rw [b] at hg;cases hg
theorem Y3A{l:List Rg_}{y c:Int}{a:List Rect}{f:Rg_}:f ∈ Z6O l y c a↔(f ∈ Q2h l y c a\/f=⟨y,c,⟨vA l y c a⟩⟩)/\f.g_.t_.length≠0:=by
 rw [<-(Y0V l y c a).mem_iff,List.mem_filter,List.mem_append,List.mem_singleton];unfold neR
 simp
theorem Y4l(y c:Int)(f:Rg_):Q3S y c f=true↔f.y_=y/\f.c_=c:=by unfold Q3S;simp
theorem Z9f{l:List Rg_}{y c:Int}{a:List Rect}{f:Rg_}:f ∈ Q2h l y c a↔∃ g ∈ l,Q3S y c g=false/\f=Z6J y a g:=by
 unfold Q2h;rw [List.mem_map]
 constructor
 .rintro ⟨g,b,rfl⟩
  have:=List.mem_filter.1 b
  exact ⟨g,this.1,by simpa using this.2,rfl⟩
 .rintro ⟨g,b,e,rfl⟩
  exact ⟨g,List.mem_filter.2 ⟨b,by simpa using e⟩,rfl⟩
theorem Y6I{l:List Rg_}(h:Z9Y l=false):l.length<=200/\∀ f ∈ l,f.g_.t_.length<=120:=by
 unfold Z9Y at h;rw [Bool.or_eq_false_iff] at h
 refine ⟨by have:=of_decide_eq_false h.1;omega,fun f a=>?_⟩;have:=List.any_eq_false.1 h.2 f a
 simp at this;exact this
theorem HL.apart{l:List Rg_}(h:HL l){f g:Rg_}(hf:f ∈ l)(hg:g ∈ l)(hy:f.y_=g.y_)(hc:f.c_≠g.c_):∀ x y,inR f.g_.t_ x y=true->inR g.g_.t_ x y=true->False:=by
 obtain ⟨i,b,rfl⟩:=List.getElem_of_mem hf;obtain ⟨j,c,rfl⟩:=List.getElem_of_mem hg
 have e:=List.pairwise_iff_getElem.1 h.nx;rcases Nat.lt_trichotomy i j with a|a|a
 .exact Z6r (h.val hf) (h.val hg) (e i j b c a hy)
 .subst a;exact absurd rfl hc
 .exact fun x y m k=>Z6r (h.val hg) (h.val hf) (e j i c b a hy.symm) x y k m
theorem HL.add{l:List Rg_}(h:HL l){y c:Int}(hy:0<=y/\y<=100)(hc:0<=c/\c<40){a:List Rect}(ha:Val a)(ht:Z9Y (Z6O l y c a)=false):HL (Z6O l y c a):=by
 obtain ⟨W,t2⟩:=Y6I ht;have O:∀ g ∈ l,∀ x K,inR (Z6J y a g).g_.t_ x K=true->inR g.g_.t_ x K=true:=fun g _ x K q=>(Y3o g y a q).1
 refine ⟨W,fun f s=>?_,W1e h.asc y c a,?_⟩
 .have b:=t2 f s
  obtain ⟨s,o⟩:=Y3A.1 s;rcases s with s|rfl
  .obtain ⟨g,t,H,rfl⟩:=Z9f.1 s
   obtain ⟨Y,X,R,U,g5,Z⟩:=(Q9b g).1 (h.one g t);unfold Z6J at o b ⊢
   split at o <;> rename_i A
   .rw [if_pos A] at b ⊢
    rw [Q9b];simp only at b o ⊢
    exact ⟨Y,X,R,U,o,Z6E (Q0f.cn (Z9H _ _)) b Z.2.1 fun u v q=>by rw [J5 (Z9H _ _),Bool.and_eq_true] at q;exact q.1⟩
   .rw [if_neg A];exact h.one g t
  .rw [Q9b]
   simp only at b o ⊢;refine ⟨hy.1,hy.2,hc.1,hc.2,o,?_⟩
   unfold vA at b o ⊢;split at o <;> rename_i M
   .rename_i g
    rw [M] at b;simp only at b
    have p:=Q3K g.g_.t_ a 1;simp only [Q0j,if_true] at p
    refine Z6E (Q0f.cn p) b (a:=g.g_.t_++a) (fun r z=>?_) fun u v q=>?_
    .rcases List.mem_append.1 z with z|z
     .exact (h.val (List.mem_of_find?_eq_some M)).2.1 r z
     .exact ha.2.1 r z
    .rw [J5 p] at q
     rw [W1X];exact q
   .exact ha
 .unfold NX
  have B:∀ {f g:Rg_},(f.y_=g.y_->Q3F f.g_ g.g_=false)->(g.y_=f.y_->Q3F g.g_ f.g_=false):=fun {f g} q m=>by rw [Y7k];exact q m.symm
  refine ((Y0V l y c a).pairwise_iff B).1 (List.Pairwise.filter _ ?_);rw [List.pairwise_append]
  refine ⟨?_,List.pairwise_singleton _ _,fun f s g t m=>?_⟩
  .unfold Q2h
   rw [List.pairwise_map,List.pairwise_filter];have S:=List.pairwise_iff_getElem.1 h.nx
   rw [List.pairwise_iff_getElem];intro i j P N G _ _ m
   have e:∀ f:Rg_,(Z6J y a f).y_=f.y_:=fun f=>congrArg Prod.fst (Z3Y y a f)
   rw [e,e] at m;have:=Z6r (h.val (List.getElem_mem P)) (h.val (List.getElem_mem N)) (S i j P N G m)
   exact Y4q fun u v E I=>this u v (Y3o _ y a E).1 (Y3o _ y a I).1
  .rw [List.mem_singleton] at t
   subst t;obtain ⟨g,t,H,rfl⟩:=Z9f.1 s
   have e:(Z6J y a g).y_=g.y_:=congrArg Prod.fst (Z3Y y a g);rw [e] at m
   simp only at m;refine Y4q fun u v E I=>?_
   obtain ⟨T,V⟩:=Y3o _ y a E;rcases W2A.1 I with C|⟨k,Q,C⟩
   .rw [V m] at C;cases C
   .have D:=List.mem_of_find?_eq_some Q
    have w:=(Y4l y c k).1 (List.find?_some Q);refine h.apart t D (by rw [m,w.1]) (fun J=>?_) u v T C
    rw [<-Bool.not_eq_true,Y4l] at H;exact H ⟨m,by rw [J,w.2]⟩
theorem HL.nil:HL []:=⟨by simp,fun f a=>by simp at a,.nil,.nil⟩
def Z5m(n:Int):Bool:=decide (97<=n)&&decide (n<=122)
def Y3W(n:Int):Bool:=decide (48<=n)&&decide (n<=57)
def Q2S(s:ByteArray):Bool:=decide (1<=s.size)&&decide (s.size<=12)&&decide (∀ i,i<s.size->(Z5m (sAt s (i:Nat))||(!decide (i=0)&&Y3W (sAt s (i:Nat))))=true)
theorem Z2Y{F:Nat}{s:ByteArray}(hs:s.size<F)(hs2:s.size<=4294967296):Z1E F s=some (Q2S s):=by
 unfold Z1E;refine Y8 (fun z:Int=>∃ i:Nat,z=i/\i<=s.size/\∀ j,j<i->(Z5m (sAt s (j:Nat))||(!decide (j=0)&&Y3W (sAt s (j:Nat))))=true) (fun z=>s.size-z.toNat) (fun c z u v=>?_) ⟨0,rfl,by omega,fun j r=>absurd r (Nat.not_lt_zero j)⟩ (by simp;omega)
 obtain ⟨i,rfl,w,t⟩:=u;unfold Z7I
 refine Q6 (fun h=>?_) (fun h=>?_)
 .have h:i<s.size:=by simpa using h
  refine Z3 (k:=?_);have q:∀ b:Bool,b=!(Z5m (sAt s (i:Nat))||(!decide (i=0)&&Y3W (sAt s (i:Nat))))->Q4t F i c b=some (Q2S s):=by
   intro b m;unfold Q4t
   refine Q6 (fun a=>?_) (fun a=>?_)
   .rw [a,eq_comm,Bool.not_eq_true'] at m
    congr 1
    symm
    unfold Q2S;rw [Bool.and_eq_false_iff]
    right
    rw [decide_eq_false_iff_not];intro o
    rw [o i h] at m;cases m
   .rw [a,eq_comm,Bool.not_eq_false'] at m
    refine Z3 (k:=?_);refine v _ ⟨i+1,by omega,h,fun j r=>?_⟩ (by omega)
    rcases Nat.lt_or_ge j i with f|f
    .exact t j f
    .have:j=i:=by omega
     subst this;exact m
  have k2:∀ g p:Bool,g=Z5m (sAt s (i:Nat))->p=Y3W (sAt s (i:Nat))->Q6n F i g c p=some (Q2S s):=by
   intro g p a f;unfold Q6n
   rw [a,f];refine Q6 (fun e=>?_) (fun e=>?_)
   .have e:Z5m (sAt s (i:Nat))=false:=by simpa using e
    refine Q6 (fun l=>?_) (fun l=>?_)
    .have l:i=0:=by simpa using l
     refine q _ ?_;rw [e,l];rfl
    .have l:i≠0:=by simpa using l
     refine q _ ?_;rw [e,decide_eq_false l];simp
   .have e:Z5m (sAt s (i:Nat))=true:=by simpa using e
    refine q _ ?_;rw [e];rfl
  have k1:∀ g:Bool,g=Z5m (sAt s (i:Nat))->Q6o F s i c g=some (Q2S s):=by
   intro g a;unfold Q6o
   refine Z3 (k:=?_);refine Q6 (fun f=>?_) (fun f=>?_)
   .refine Z3 (k:=?_)
    refine k2 _ _ a ?_;unfold Y3W;rw [f,Bool.true_and]
   .refine k2 _ _ a ?_
    unfold Y3W;rw [f,Bool.false_and]
  refine Q6 (fun a=>?_) (fun a=>?_)
  .refine Z3 (k:=?_)
   refine k1 _ ?_;unfold Z5m;rw [a,Bool.true_and]
  .refine k1 _ ?_
   unfold Z5m;rw [a,Bool.false_and]
 .have h:i=s.size:=by
   have:¬ i<s.size:=by simpa using h
   omega
  subst h;unfold Z2Z
  refine Q6 (fun a=>?_) (fun a=>?_)
  .unfold Q6m
   congr 1
   unfold Q2S;have a:1<=s.size:=by have:=of_decide_eq_true a;omega
   rw [decide_eq_true a,decide_eq_true t,Bool.true_and,Bool.and_true,Bool.eq_iff_iff,decide_eq_true_eq,decide_eq_true_eq];omega
  .unfold Q6m
   congr 1
   unfold Q2S;have a:¬ 1<=s.size:=by have:=of_decide_eq_false a;omega
   rw [decide_eq_false a];rfl
def Q8x:List ByteArray:=[(ByteArray.mk #[98,97,114,108,101,121]),(ByteArray.mk #[99,108,111,118,101,114]),(ByteArray.mk #[103,114,97,115,115]),(ByteArray.mk #[109,97,105,122,101]),(ByteArray.mk #[111,97,116,115]),(ByteArray.mk #[114,121,101]),(ByteArray.mk #[118,101,116,99,104]),(ByteArray.mk #[119,104,101,97,116])]
theorem Y3q:∀ i,i<8->Q2S (gl Q8x i)=true/\(gl Q8x i).size<=12:=by decide +kernel
theorem Y9g:∀ i,i<8->0<i->(sLt (gl Q8x i) (gl Q8x (i-1))||sEq (gl Q8x i) (gl Q8x (i-1)))=false:=by decide +kernel
structure CropT (l:List Crop):Prop where
 len:3<=l.length/\l.length<=8
 one:∀ i,i<l.length->(gl l i).n_=gl Q8x i/\0<=(gl l i).f_/\(gl l i).f_<=2/\0<=(gl l i).m_/\(gl l i).m_<=31
theorem Y3Y{F:Nat}(hF:BIG<=F){l:List Crop}(h:CropT l):Q9p F l=some 0:=by
 have m:=hF;unfold BIG at hF
 obtain ⟨v,q⟩:=h.len;unfold Q9p
 refine Q5 (decide_eq_false (by omega)) ?_;refine Y7q l.length (fun a i e g=>?_) (fun a=>?_) (by omega)
 .obtain ⟨c,r,p,s,t⟩:=h.one i e
  unfold Q4D;simp only [Int.toNat_natCast]
  refine Z4 (by simpa using e) ?_;refine Z3 (k:=?_)
  obtain ⟨o,u⟩:=Y3q i (by omega);refine Q2 (Z2Y (by rw [c];omega) (by rw [c];omega)) ?_
  rw [c,o];refine Q5 rfl (Q5 (decide_eq_false (by omega)) ?_)
  unfold Q3n;simp only [Int.toNat_natCast]
  refine Q5 (decide_eq_false (by omega)) (Q5 (decide_eq_false (by omega)) ?_);unfold Q3m
  simp only [Int.toNat_natCast];have f:Q3l F i a false=some 0:=by
   unfold Q3l;refine Q5 rfl ?_
   refine Z3 (k:=?_);exact g
  refine Q5 (decide_eq_false (by omega)) (Q6 (fun b=>?_) (fun b=>f));have b:0<i:=by simpa using b
  refine Z3 (k:=?_);refine Z3 (k:=?_)
  have j:((i:Int)-1).toNat=i-1:=by omega
  rw [j,c,(h.one (i-1) (by omega)).1,Y9g i (by omega) b];exact f
 .unfold Q4D
  exact Q5 (by simp) rfl
theorem Z8F{F:Nat}(hF:BIG<=F){t:Tape}(ht:TOk t):∃ t' l,Q4s F t=some (t',l)/\TOk t' /\ CropT l:=by
 unfold BIG at hF;obtain ⟨m,n,J,y,S,P⟩:=U5 (F:=F) ht (lo:=3) (hi:=8) (by omega) (by omega) (by omega)
 have h:(Q8x.take n.toNat).length=n.toNat:=by rw [List.length_take];simp [Q8x];omega
 have s:∀ (k f i:Nat) (t:Tape) (c:List Crop),i+k=n.toNat->k<f->TOk t->c.length=i->(∀ j,j<i->(gl c j).n_=gl Q8x j/\0<=(gl c j).f_/\(gl c j).f_<=2/\0<=(gl c j).m_/\(gl c j).m_<=31) ->
   ∃ t' l,Z2 (fun again (z:Int×(List Int)×Int×(List Crop))=>Q1i F (m,n) again z.1 z.2.1 z.2.2.1 z.2.2.2) f ((i:Int),t.l_,t.at_,c)=some (t',l)/\TOk t' /\ CropT l:=by
  intro k
  induction k with
  | zero=>
   intro f i t c v A ht r g
   cases f with
   | zero=>omega
   | succ f=>
    refine ⟨⟨t.l_,t.at_⟩,c,?_,ht,⟨by omega,fun j q=>g j (by omega)⟩⟩;show Q1i F (m,n) _ (i:Int) t.l_ t.at_ c=_
    unfold Q1i;refine Q5 ?_ rfl
    show decide ((i:Int)<(((Q8x.take n.toNat).length:Nat):Int))=false;rw [h];exact decide_eq_false (by omega)
  | succ k ih=>
   intro f i t c v A ht r g
   cases f with
   | zero=>omega
   | succ f=>
    obtain ⟨O,a,G,I,H,Q⟩:=Z6 (F:=F) ht (n:=3) (by omega) (by omega);obtain ⟨C,b,E,B,R,N⟩:=Z6 (F:=F) I (n:=8) (by omega) (by omega)
    have K:∀ j,j<8->0<=gl ([0,0,0,2,20,8,1,31]:List Int) j/\gl ([0,0,0,2,20,8,1,31]:List Int) j<=31:=by decide
    have w:gl (Q8x.take n.toNat) i=gl Q8x i:=by simp [gl,List.getD_eq_getElem?_getD,show i<n.toNat from by omega]
    obtain ⟨t',l,o,p,u⟩:=ih f (i+1) C (c++[⟨gl (Q8x.take n.toNat) i,a,gl ([0,0,0,2,20,8,1,31]:List Int) b.toNat⟩]) (by omega) (by omega) B (by simp [r]) (fun j q=>by
     rcases Nat.lt_or_ge j i with x|x
     .have e:gl (c++[(⟨gl (Q8x.take n.toNat) i,a,gl ([0,0,0,2,20,8,1,31]:List Int) b.toNat⟩:Crop)]) j=gl c j:=by simp [gl,List.getD_eq_getElem?_getD,List.getElem?_append_left (show j<c.length by omega)]
      rw [e];exact g j x
     .have:j=c.length:=by omega
      subst this;have e:gl (c++[(⟨gl (Q8x.take n.toNat) i,a,gl ([0,0,0,2,20,8,1,31]:List Int) b.toNat⟩:Crop)]) c.length=⟨gl (Q8x.take n.toNat) i,a,gl ([0,0,0,2,20,8,1,31]:List Int) b.toNat⟩:=by simp [gl,List.getD_eq_getElem?_getD]
      rw [e];obtain ⟨D,M⟩:=K b.toNat (by omega)
      refine ⟨by simp only;rw [w,r],H,by simp only;omega,D,M⟩)
    refine ⟨t',l,?_,p,u⟩;show Q1i F (m,n) _ (i:Int) t.l_ t.at_ c=_
    unfold Q1i;refine Z4 ?_ (Q7 ?_ (Q2 G (Q2 E (Q7 ?_ (Q7 ?_ (Q7 (Z7 (by omega) (by omega)) ?_))))))
    .show decide ((i:Int)<(((Q8x.take n.toNat).length:Nat):Int))=true
     rw [h];exact decide_eq_true (by omega)
    .show 0<=(i:Int)/\(i:Int)<(((Q8x.take n.toNat).length:Nat):Int)
     rw [h];omega
    .simp only [List.length_cons,List.length_nil];omega
    .simp only [LIM,List.length_cons,List.length_nil];omega
    .exact o
 obtain ⟨t',l,o,p,u⟩:=s n.toNat F 0 m [] (by omega) (by omega) y rfl (fun j q=>absurd q (Nat.not_lt_zero j));refine ⟨t',l,?_,p,u⟩
 unfold Q4s;refine Q2 J (Q7 ?_ o)
 simp only [List.length_cons,List.length_nil];omega
structure HisT (K:Int) (l:List Rg_):Prop where
 hl:HL l
 box:∀ f ∈ l,Box 9 f.g_.t_
 crop:∀ f ∈ l,f.c_<K
theorem HisT.nil(K:Int):HisT K []:=⟨HL.nil,fun f a=>by simp at a,fun f a=>by simp at a⟩
theorem Y7B{n:Int}{l:List Rect}(hb:Box n l){u v:Int}(h:inR l u v=true):0<=u/\u<n/\0<=v/\v<n:=by
 obtain ⟨r,b,a⟩:=(J8 _ _ _).1 h;have:=hb r b
 rw [J0] at a;omega
theorem HisT.add{K:Int}{l:List Rg_}(h:HisT K l){y c:Int}(hy:0<=y/\y<=100)(hc:0<=c/\c<40)(hk:c<K){a:List Rect}(ha:Val a)(hb:Box 9 a)(ht:Z9Y (Z6O l y c a)=false):HisT K (Z6O l y c a):=by
 have m:=h.hl.add hy hc ha ht;refine ⟨m,fun f b=>?_,fun f b=>?_⟩
 .refine (m.val b).2.2.box fun u v i=>?_
  obtain ⟨b,_⟩:=Y3A.1 b;rcases b with b|rfl
  .obtain ⟨g,j,_,rfl⟩:=Z9f.1 b
   exact Y7B (h.box g j) (Y3o g y a i).1
  .rcases W2A.1 i with k|⟨g,j,k⟩
   .exact Y7B hb k
   .exact Y7B (h.box g (List.mem_of_find?_eq_some j)) k
 .obtain ⟨b,_⟩:=Y3A.1 b
  rcases b with b|rfl
  .obtain ⟨g,j,_,rfl⟩:=Z9f.1 b
   have:=congrArg Prod.snd (Z3Y y a g)
   have e:(Z6J y a g).c_=g.c_:=this;rw [e];exact h.crop g j
  .exact hk
theorem Y8A{l:List Rg_}(h:HL l){y c:Int}(hy:0<=y/\y<=100)(hc:0<=c/\c<40){a:Re_}(ha:Val a.t_):addH l y c a=if Z9Y (Z6O l y c a.t_)=true then ([],1) else (Z6O l y c a.t_,0):=by
 unfold addH;rw [if_neg (by rw [(Z4a _).2 h];simp),if_neg (by omega),if_neg (by omega),if_neg (by rw [Q1x ha];simp)]
theorem HisT.addH{K:Int}{l:List Rg_}(h:HisT K l){y c:Int}(hy:0<=y/\y<=100)(hc:0<=c/\c<40)(hk:c<K){a:Re_}(ha:RegT 9 a):HisT K (addH l y c a).1:=by
 rw [Y8A h.hl hy hc ha.val];split
 .exact HisT.nil K
 .rename_i b
  exact h.add hy hc hk ha.val ha.box (by simpa using b)
def yrs(l:List Rg_)(y:Int)(p:Int->Bool):List Rect:=(l.filter fun f=>decide (f.y_=y)&&p f.c_).flatMap fun f=>f.g_.t_
theorem Y2f(l:List Rg_)(x:Rg_)(y:Int)(p:Int->Bool):yrs (l++[x]) y p=yrs l y p++(if (decide (x.y_=y)&&p x.c_)=true then x.g_.t_ else []):=by
 unfold yrs;rw [List.filter_append,List.flatMap_append]
 congr 1
 cases h:(decide (x.y_=y)&&p x.c_) with
 | true=>simp [h]
 | false=>simp [h]
theorem W1t{l:List Rg_}(h:HL l)(y:Int)(p:Int->Bool):∀ i,i<=l.length->(yrs (l.take i) y p).length<=120*i:=by
 intro i
 induction i with
 | zero=>intro _;rw [List.take_zero];exact Nat.le_refl _
 | succ i ih=>
  intro a;rw [Q0c (show i<l.length by omega),Y2f,List.length_append]
  have:=ih (by omega)
  have b:=(h.val (V7 (show i<l.length by omega))).1;split
  .omega
  .simp only [List.length_nil];omega
theorem Y0D{F:Nat}(hF:BIG<=F){l:List Rg_}(h:HL l)(y:Int){q:Int->Option Bool}(p:Int->Bool)(hq:∀ f ∈ l,q f.c_=some (p f.c_)):Q9E F l y q=some (yrs l y p):=by
 have v:=hF;unfold BIG at hF
 have r:=h.len;unfold Q9E
 refine Y8 (fun z:Int×List Rect=>∃ i:Nat,z=((i:Int),yrs (l.take i) y p)/\i<=l.length) (fun z=>l.length-z.1.toNat) (fun a z t s=>?_) ⟨0,rfl,by omega⟩ (by simp only;omega);obtain ⟨i,rfl,x⟩:=t
 simp only at s ⊢;unfold Z3Q
 simp only [Int.toNat_natCast];refine Q6 (fun g=>?_) (fun g=>?_)
 .have g:i<l.length:=by simpa using g
  refine Z3 (k:=?_);have w:=(h.val (V7 g)).1
  have u:=W1t h y p i (by omega);have e:=Y2f (l.take i) (gl l i) y p
  rw [<-Q0c g] at e;have j:∀ m,m=yrs (l.take (i+1)) y p->Q3H F i a m=some (yrs l y p):=by
   rintro m rfl;unfold Q3H
   refine Z3 (k:=?_);exact s _ ⟨i+1,rfl,g⟩ (by simp only;omega)
  have k1:∀ b:Bool,b=(decide ((gl l i).y_=y)&&p (gl l i).c_)->Q3I F l i (yrs (l.take i) y p) a b=some (yrs l y p):=by
   intro b o;unfold Q3I
   simp only [Int.toNat_natCast];refine Q6 (fun c=>?_) (fun c=>?_)
   .refine Q7 (by simp only [LIM];omega) (j _ ?_)
    rw [e,if_pos (by rw [<-o,c])]
   .refine j _ ?_
    rw [e,if_neg (by rw [<-o,c];simp),List.append_nil]
  refine Q6 (fun c=>?_) (fun c=>?_)
  .have c:(gl l i).y_=y:=by simpa using c
   refine Q2 (hq _ (V7 g)) (k1 _ ?_);rw [decide_eq_true c,Bool.true_and]
  .have c:¬ (gl l i).y_=y:=by simpa using c
   refine k1 _ ?_;rw [decide_eq_false c,Bool.false_and]
 .have g:i=l.length:=by
   have:¬ i<l.length:=by simpa using g
   omega
  subst g;unfold Q9l
  rw [List.take_length]
theorem W1d(l:List Rg_)(y c:Int)(a:List Rect):(Z6O l y c a).length<=l.length+1:=by
 rw [<-(Y0V l y c a).length_eq];have b:=List.length_filter_le neR (Q2h l y c a++[(⟨y,c,⟨vA l y c a⟩⟩:Rg_)])
 have e:=Y4m l y c a;simp only [List.length_append,List.length_cons,List.length_nil] at b
 omega
theorem HisT.addH_len{K:Int}{l:List Rg_}(h:HisT K l){y c:Int}(hy:0<=y/\y<=100)(hc:0<=c/\c<40){a:Re_}(ha:RegT 9 a):(Go.Ab.addH l y c a).1.length<=l.length+1:=by
 rw [Y8A h.hl hy hc ha.val];split
 .simp
 .exact W1d l y c a.t_
theorem Z5r{F:Nat}(hF:BIG<=F){t:Tape}(ht:TOk t){cs:List Crop}(hcs:CropT cs){most:Int}(m1:0<=most)(m2:most<=50):∃ t' l,Q5c F t cs 4 most=some (t',l)/\TOk t' /\ HisT (cs.length:Nat) l/\(l.length:Int)<=most:=by
 have b:=hF;unfold BIG at hF
 obtain ⟨Q,p⟩:=hcs.len;obtain ⟨E,c,J,s,w,r⟩:=Z6 (F:=F) ht (n:=most+1) (by omega) (by omega)
 have i:∀ (k f:Nat) (t:Tape) (l:List Rg_),k<f->k<=60->(l.length:Int)+k<=most->TOk t->HisT (cs.length:Nat) l->∃ t' l',Z2 (fun again (z:List Rg_×Int×List Int×Int)=>Q2T F cs 4 again z.1 z.2.1 z.2.2.1 z.2.2.2) f (l,(k:Int),t.l_,t.at_)=some (t',l')/\TOk t' /\ HisT (cs.length:Nat) l' /\ (l'.length:Int)<=most:=by
  intro k
  induction k with
  | zero=>
   intro f t l v _ m ht g
   cases f with
   | zero=>omega
   | succ f=>exact ⟨⟨t.l_,t.at_⟩,l,rfl,ht,g,by omega⟩
  | succ k ih=>
   intro f t l v q m ht g
   cases f with
   | zero=>omega
   | succ f=>
    obtain ⟨M,y,C,H,O,P⟩:=Z6 (F:=F) ht (n:=5) (by omega) (by omega);obtain ⟨N,c,A,x,w,r⟩:=Z6 (F:=F) H (n:=(cs.length:Nat)) (by omega) (by omega)
    obtain ⟨u,a,G,I,o⟩:=Z0U b x (n:=9) (most:=2) (by omega) (by omega) (by omega) (by omega);have D:=g.addH_len (y:=y) (c:=c) (by omega) (by omega) o
    obtain ⟨K,p,e,h,j⟩:=ih f u (addH l y c a).1 (by omega) (by omega) (by omega) I (g.addH (by omega) (by omega) r o);refine ⟨K,p,?_,h,j⟩
    show Q2T F cs 4 _ l ((k+1:Nat):Int) t.l_ t.at_=_;unfold Q2T
    refine Z4 (by simp) ?_;refine Z3 (k:=?_)
    refine Q2 C (Q2 A (Q2 G (Q2 (Y4U b _ _ _ _) ?_)));refine Z3 (k:=?_)
    have B:((k+1:Nat):Int)-1=(k:Int):=by omega
    rw [B];exact e
 obtain ⟨t',l,e,h,j⟩:=i c.toNat F E [] (by omega) (by omega) (by simp;omega) s (HisT.nil _);refine ⟨t',l,?_,h,j⟩
 unfold Q5c;refine Z3 (k:=?_)
 refine Q2 J ?_;have:(c.toNat:Int)=c:=by omega
 rw [this] at e;exact e
def Y3a(cs:List Crop)(c m:Int):Bool:=decide (0<=c)&&(decide (c<(cs.length:Nat))&&((m != 0)&&(Q5K .i64 (gl cs c.toNat).m_ m==m)))
theorem Z6K(F:Nat)(cs:List Crop)(c m:Int):Z3Z F cs c m=some (Y3a cs c m):=by
 unfold Z3Z Y3a;refine Q6 (fun a=>?_) (fun a=>?_)
 .rw [a,Bool.true_and]
  refine Q6 (fun b=>?_) (fun b=>?_)
  .rw [b,Bool.true_and]
   have a:=of_decide_eq_true a;have b:=of_decide_eq_true b
   refine Q6 (fun e=>?_) (fun e=>?_)
   .rw [e,Bool.true_and];exact Q7 ⟨a,b⟩ rfl
   .rw [e];rfl
  .rw [b];rfl
 .rw [a];rfl
theorem W1u{K:Int}{l:List Rg_}(h:HisT K l)(y:Int)(p:Int->Bool):∀ i,i<=l.length->(yrs (l.take i) y p).length<=45*i:=by
 intro i
 induction i with
 | zero=>intro _;rw [List.take_zero];exact Nat.le_refl _
 | succ i ih=>
  intro b;have a:=V7 (show i<l.length by omega)
  rw [Q0c (show i<l.length by omega),Y2f,List.length_append];have:=ih (by omega)
  have c:=Q0f.half (h.hl.val a).2.2 (n:=9) (h.box _ a);split
  .omega
  .simp only [List.length_nil];omega
structure FewR (l:List Rg_):Prop where
 hl:HL l
 few:∀ y p i,i<l.length->(yrs (l.take i) y p).length<=300
end
end Go.Ab
