/- What the plain programs compute, up to the law itself. -/
import Derived.Test.YtaipicdihcmjkaaGreatLwA
import Derived.Test.YtaipicdihcmjkaaGreatPuB
set_option linter.unusedVariables false
set_option linter.unusedSimpArgs false
set_option maxRecDepth 20000
namespace Go.Ab
noncomputable section
section
def YH(r:Rg_):Int:=
 if r.y_<0\/100<r.y_ then 18 else if r.c_<0\/40<=r.c_ then 13 else if r.g_.t_.length=0\/G9 r.g_.t_=false then 7 else 0
theorem UP(r:Rg_):YH r=0↔0<=r.y_/\r.y_<=100/\0<=r.c_/\r.c_<40/\r.g_.t_.length≠0/\W6 r.g_.t_:=by
 unfold YH;rw [<-Yc]
 by_cases h1:r.y_<0\/100<r.y_
 .rw [if_pos h1];simp;omega
 .rw [if_neg h1]
  by_cases h2:r.c_<0\/40<=r.c_
  .rw [if_pos h2];simp;omega
  .rw [if_neg h2]
   by_cases a:r.g_.t_.length=0\/G9 r.g_.t_=false
   .rw [if_pos a]
    constructor
    .intro h;cases h
    .rintro ⟨_,_,_,_,b,c⟩
     rcases a with a|a
     .exact absurd a b
     .rw [c] at a;cases a
   .rw [if_neg a]
    refine ⟨fun _=>?_,fun _=>rfl⟩;have b:r.g_.t_.length≠0:=fun h=>a (.inl h)
    have c:G9 r.g_.t_=true:=by
     cases hv:G9 r.g_.t_ with
     | true=>rfl
     | false=>exact absurd (.inr hv) a
    exact ⟨by omega,by omega,by omega,by omega,b,c⟩
theorem Z0q{F:Nat}(hF:Q8<=F)(r:Rg_):CJ F r=some (YH r):=by
 unfold CJ YH;rw [Yn (Hz F r)]
 unfold Hz;refine Q6 (fun h=>by rw [if_pos (by simpa using h)]) (fun h=>?_)
 rw [if_neg (by simpa using h),Yn (Hy F r)];unfold Hy
 refine Q6 (fun h=>by rw [if_pos (by simpa using h)]) (fun h=>?_);rw [if_neg (by simpa using h)]
 refine Q6 (fun h=>?_) (fun h=>?_)
 .have h:r.g_.t_.length=0:=by simpa using h
  rw [if_pos (.inl h)];rfl
 .have h:r.g_.t_.length≠0:=by simpa using h
  refine Q4 (Uk hF _) ?_;unfold CI
  refine Q6 (fun a=>?_) (fun a=>?_)
  .rw [if_pos (.inr (by simpa using a))]
  .rw [if_neg (by rintro (h3|h3);exact h h3;rw [h3] at a;cases a)]
def Qn(f g:Rg_):Bool:=decide (f.y_<g.y_)||(decide (f.y_=g.y_)&&decide (f.c_<g.c_))
theorem VZ(f g:Rg_):Qn f g=true↔f.y_<g.y_\/(f.y_=g.y_/\f.c_<g.c_):=by unfold Qn;simp
theorem yw{f g h:Rg_}(h1:Qn f g=true)(h2:Qn g h=true):Qn f h=true:=by
 rw [VZ] at *;omega
theorem Z0s{F:Nat}(hF:Q8<=F)(f g:Rg_):∃ c,CK F f g=some c/\(c<0↔Qn f g=true)/\(0<c↔Qn g f=true):=by
 refine ⟨if (if f.y_<g.y_ then (-1:Int) else if g.y_<f.y_ then 1 else 0)≠0 then (if f.y_<g.y_ then (-1:Int) else if g.y_<f.y_ then 1 else 0) else (if f.c_<g.c_ then (-1:Int) else if g.c_<f.c_ then 1 else 0),?_,?_⟩
 .unfold CK
  exact Q4 (xh _ _ _) (Q4 (xh _ _ _) (Q4 (Z2p F hF _ _) rfl))
 .rw [VZ,VZ]
  by_cases h1:f.y_<g.y_
  .simp [h1];omega
  .by_cases h2:g.y_<f.y_
   .simp [h1,h2];omega
   .by_cases h3:f.c_<g.c_
    .simp [h1,h2,h3];omega
    .by_cases h4:g.c_<f.c_
     .simp [h1,h2,h3,h4];omega
     .simp [h1,h2,h3,h4]
def Yy:Option Rg_->List Rg_->Int
 | _,[]=>0
 | p,f::l=>if YH f≠0 then YH f else if p.any (fun g=> !Qn g f) then 3 else Yy (some f) l
def NX(l:List Rg_):Prop:=l.Pairwise fun f g=>f.y_=g.y_->QV f.g_ g.g_=false
open Classical in
def Zc(l:List Rg_):Int:=if 200<l.length then 1 else if Yy none l≠0 then Yy none l else if NX l then 0 else 11
def Vu(l:List Rg_)(i:Nat):Option Rg_:=if i=0 then none else some (gl l (i-1))
theorem Q0t(l:List Rg_)(i:Nat):Vu l (i+1)=some (gl l i):=by simp [Vu]
theorem Q3A{l:List Rg_}:NX l↔∀ j,j<l.length->∀ i,i<j->(gl l i).y_=(gl l j).y_->QV (gl l i).g_ (gl l j).g_=false:=by
 unfold NX;rw [List.pairwise_iff_getElem]
 constructor
 .intro h j a i d b
  rw [K5 a,K5 (by omega)] at *;exact h i j (by omega) a d b
 .intro h i j d a c b
  have:=h j a i c
  rw [K5 a,K5 (by omega)] at this;exact this b
theorem Q7M{F:Nat}(hF:Q8<=F){l:List Rg_}(hl:l.length<=200){y:Int}(h0:NX l->y=0)(h1:¬ NX l->y=11):Dr F l=some y:=by
 have u:=hF;unfold Q8 at hF
 unfold Dr;refine J4 (fun z:Int=>∃ i:Nat,z=i/\i<=l.length/\∀ j,j<i->∀ a,a<j->(gl l a).y_=(gl l j).y_->QV (gl l a).g_ (gl l j).g_=false) (fun z=>l.length-z.toNat) (fun s z t B=>?_) ⟨0,rfl,by omega,fun j p=>absurd p (Nat.not_lt_zero j)⟩ (by simp;omega)
 obtain ⟨i,rfl,C,v⟩:=t;unfold cX
 refine Q6 (fun g=>?_) (fun g=>?_)
 .have g:i<l.length:=by simpa using g
  refine Z4 (k:=?_);refine Z4 (k:=?_)
  refine J4 (fun z:Int=>∃ j:Nat,z=j/\j<=i/\∀ a,a<j->(gl l a).y_=(gl l i).y_->QV (gl l a).g_ (gl l i).g_=false) (fun z=>i-z.toNat) (fun f z t r=>?_) ⟨0,rfl,by omega,fun j p=>absurd p (Nat.not_lt_zero j)⟩ (by simp;omega);obtain ⟨j,rfl,p,x⟩:=t
  unfold cW;simp only [Int.toNat_natCast]
  have o:(l.take i).length=i:=by rw [List.length_take];omega
  simp only [o];refine Q6 (fun d=>?_) (fun d=>?_)
  .have d:j<i:=by simpa using d
   have e:gl (l.take i) j=gl l j:=by simp [gl,List.getD_eq_getElem?_getD,d]
   rw [e];refine Z4 (k:=?_)
   have w:∀ b:Bool,b=(decide ((gl l j).y_=(gl l i).y_)&&QV (gl l j).g_ (gl l i).g_)->Dq F j f b=some y:=by
    intro b h;unfold Dq
    refine Q6 (fun c=>?_) (fun c=>?_)
    .rw [c,eq_comm,Bool.and_eq_true,decide_eq_true_eq] at h
     rw [h1 fun A=>by rw [Q3A.1 A i g j d h.1] at h;cases h.2]
    .rw [c] at h
     refine Z4 (k:=?_);refine r _ ⟨j+1,by omega,d,fun a q n=>?_⟩ (by omega)
     rcases Nat.lt_or_ge a j with m|m
     .exact x a m n
     .have:a=j:=by omega
      subst this;rw [decide_eq_true n,Bool.true_and] at h
      exact h.symm
   refine Q6 (fun c=>?_) (fun c=>?_)
   .refine Q4 (zS u _ _) (w _ ?_)
    have c:(gl l j).y_=(gl l i).y_:=by simpa using c
    rw [decide_eq_true c,Bool.true_and]
   .refine w _ ?_
    have c:¬ (gl l j).y_=(gl l i).y_:=by simpa using c
    rw [decide_eq_false c,Bool.false_and]
  .have d:j=i:=by
    have:¬ j<i:=by simpa using d
    omega
   subst d;unfold zv
   refine Z4 (k:=?_);refine B _ ⟨j+1,by omega,g,fun b h a q n=>?_⟩ (by omega)
   rcases Nat.lt_or_ge b j with m|m
   .exact v b m a q n
   .have:b=j:=by omega
    subst this;exact x a q n
 .have g:i=l.length:=by
   have:¬ i<l.length:=by simpa using g
   omega
  subst g;rw [h0 (Q3A.2 v)];rfl
theorem cU{F:Nat}(hF:Q8<=F)(l:List Rg_):Dv F l=some (Zc l):=by
 have u:=hF;unfold Q8 at hF
 unfold Dv;refine Q6 (fun h=>?_) (fun h=>?_)
 .have h:200<l.length:=by simp at h;omega
  rw [Zc,if_pos h]
 .have h:¬ 200<l.length:=by simp at h;omega
  have r:Yy none l=0->Dr F l=some (Zc l):=fun m=>by
   refine Q7M u (by omega) (fun x=>?_) (fun x=>?_)
   .rw [Zc,if_neg h,if_neg (by simp [m]),if_pos x]
   .rw [Zc,if_neg h,if_neg (by simp [m]),if_neg x]
  have t:Yy none l≠0->Zc l=Yy none l:=fun m=>by rw [Zc,if_neg h,if_pos m]
  refine J4 (fun z:Int=>∃ i:Nat,z=i/\i<=l.length/\Yy none l=Yy (Vu l i) (l.drop i)) (fun z=>l.length-z.toNat) (fun a z C B=>?_) ⟨0,rfl,by omega,rfl⟩ (by simp;omega);obtain ⟨i,rfl,D,f⟩:=C
  unfold cY;refine Q6 (fun p=>?_) (fun p=>?_)
  .have p:i<l.length:=by simpa using p
   rw [YB p,Yy] at f;refine Z4 (k:=?_)
   simp only [Int.toNat_natCast];have q:∀ c:Int,YH (gl l i)=c->c≠0->Zc l=c:=fun c o n=>by
    rw [if_pos (by rw [o];exact n),o] at f;rw [t (by rw [f];exact n),f]
   have d:YH (gl l i)=0->∀ b:Bool,b=(Vu l i).any (fun g=> !Qn g (gl l i))->Gn F i a b=some (Zc l):=by
    intro o b w;rw [if_neg (by simp [o])] at f
    unfold Gn;refine Q6 (fun n=>?_) (fun n=>?_)
    .rw [if_pos (w ▸ n)] at f
     rw [t (by rw [f];decide),f]
    .rw [if_neg (by rw [<-w,n];simp)] at f
     refine Z4 (k:=?_);refine B _ ⟨i+1,by omega,p,?_⟩ (by omega)
     rw [f,Q0t]
   rw [Yn (Du F l i a)];unfold Du
   refine Q6 (fun o=>?_) (fun o=>?_)
   .rw [q 18 (by unfold YH;rw [if_pos (by simpa using o)]) (by decide)]
   .rw [Yn (Dt F l i a)]
    unfold Dt;refine Q6 (fun n=>?_) (fun n=>?_)
    .rw [q 13 (by unfold YH;rw [if_neg (by simpa using o),if_pos (by simpa using n)]) (by decide)]
    .refine Q4 (Wv u _) ?_
     rw [Yn (Ds F l i a)];unfold Ds
     refine Q6 (fun e=>?_) (fun e=>?_)
     .have e:(gl l i).g_.t_.length=0\/G9 (gl l i).g_.t_=false:=by
       rw [Bool.or_eq_true] at e;rcases e with j|j
       .exact .inr (by simpa using j)
       .exact .inl (by simpa using j)
      rw [q 7 (by unfold YH;rw [if_neg (by simpa using o),if_neg (by simpa using n),if_pos e]) (by decide)]
     .have e:¬ ((gl l i).g_.t_.length=0\/G9 (gl l i).g_.t_=false):=by
       rw [Bool.or_eq_false_iff] at e;simp only [Int.toNat_natCast] at e
       rintro (j|j)
       .rw [j] at e;simp at e
       .rw [j] at e;simp at e
      have j:YH (gl l i)=0:=by unfold YH;rw [if_neg (by simpa using o),if_neg (by simpa using n),if_neg e]
      refine Q6 (fun m=>?_) (fun m=>?_)
      .have m:0<i:=by simpa using m
       refine Z4 (k:=?_);refine Z4 (k:=?_)
       have A:((i:Int)-1).toNat=i-1:=by omega
       rw [A];have y:(Vu l i).any (fun g=> !Qn g (gl l i))=!Qn (gl l (i-1)) (gl l i):=by simp [Vu,show i≠0 from by omega]
       refine Q6 (fun s=>?_) (fun s=>?_)
       .refine d j _ ?_
        have s:(gl l i).y_<(gl l (i-1)).y_:=by simpa using s
        rw [y,eq_comm,Bool.not_eq_true', <-Bool.not_eq_true,VZ];omega
       .have s:¬ (gl l i).y_<(gl l (i-1)).y_:=by simpa using s
        refine Z4 (k:=?_);refine Z4 (k:=?_)
        refine Q6 (fun v=>?_) (fun v=>?_)
        .have v:(gl l i).y_=(gl l (i-1)).y_:=by simpa using v
         refine Z4 (k:=?_);refine Z4 (k:=?_)
         refine d j _ ?_;rw [y,Bool.eq_iff_iff,Bool.not_eq_true', <-Bool.not_eq_true,VZ,decide_eq_true_eq]
         simp only [Int.toNat_natCast];omega
        .have v:¬ (gl l i).y_=(gl l (i-1)).y_:=by simpa using v
         refine d j _ ?_;rw [y,eq_comm,Bool.not_eq_false',VZ];omega
      .have m:i=0:=by simp at m;omega
       exact d j _ (by simp [Vu,m])
  .have p:¬ i<l.length:=by simpa using p
   rw [List.drop_of_length_le (by omega)] at f;exact r f
end
theorem Q5X{F:Nat}(hF:Q8<=F){l:List Rg_}{q:Rg_->Option Bool}(p:Rg_->Bool)(hl:l.length<=1000000000)(hq:∀ r ∈ l,q r=some (p r)):Rp F l q=some (y9 p l):=by
 unfold Q8 at hF;unfold Rp
 refine J4 (fun z:Int=>∃ i:Nat,z=i/\i<=l.length/\∀ j,j<i->p (gl l j)=false) (fun z=>l.length-z.toNat) (fun d z m g=>?_) ⟨0,rfl,by omega,fun j f=>by omega⟩ (by simp;omega);obtain ⟨i,rfl,n,b⟩:=m
 unfold gF;refine Q6 (fun h=>?_) (fun h=>?_)
 .have h:i<l.length:=by simpa using h
  refine Z4 (k:=?_);refine Q4 (hq _ (V4 h)) ?_
  simp only [Int.toNat_natCast];refine Q6 (fun a=>?_) (fun a=>?_)
  .have c:l.any p=true:=List.any_eq_true.2 ⟨_,V4 h,a⟩
   rw [y9,if_pos c,Ps h b a]
  .refine Z4 (k:=?_)
   refine g _ ⟨i+1,by omega,h,fun j f=>?_⟩ (by omega);rcases Nat.lt_or_ge j i with e|e
   .exact b j e
   .have:j=i:=by omega
    subst this;exact a
 .have h:¬ i<l.length:=by simpa using h
  have:i=l.length:=by omega
  subst this;have c:=GU b
  rw [y9,c];rfl
theorem Z0m{α:Type}(p:α->Bool)(l:List α):0<=y9 p l↔l.any p=true:=by
 unfold y9;split
 .rename_i h;simp [h]
 .rename_i h;simp [h]
theorem Q6o{F:Nat}(hF:Q8<=F){l:List Rg_}{q:Rg_->Option Bool}(p:Rg_->Bool)(hl:l.length<=1000000000)(hq:∀ r ∈ l,q r=some (p r)):Ry F l q=some (l.any p):=by
 unfold Ry;refine Q4 (Q5X hF p hl hq) ?_
 congr 1
 rw [Bool.eq_iff_iff, <-Z0m,decide_eq_true_iff]
structure GrpOf (gs:List (Int×List Rg_)) (l:List Rg_):Prop where
 nd:(gs.map (·.1)).Nodup
 row:∀ e ∈ gs,e.2=l.filter fun f=>decide (f.y_=e.1)
 key:∀ f ∈ l,∃ e ∈ gs,e.1=f.y_
theorem GrpOf.nil:GrpOf [] []:=⟨by simp,fun e a=>by simp at a,fun f b=>by simp at b⟩
theorem GrpOf.gRow{gs:List (Int×List Rg_)}{l:List Rg_}(h:GrpOf gs l)(y:Int):gRow y gs=l.filter fun f=>decide (f.y_=y):=by
 unfold Go.Ab.gRow;rcases Kb y gs with ⟨m,q,d,j⟩|⟨k,b⟩
 .rw [d]
  simp only
  rw [h.row q (List.mem_of_getElem? d),j]
 .rw [k,List.getElem?_eq_none (Nat.le_refl _)]
  simp only
  symm
  rw [List.filter_eq_nil_iff];intro f i c
  obtain ⟨e,g,a⟩:=h.key f i;exact b e g (by rw [a];exact of_decide_eq_true c)
theorem GrpOf.app{gs:List (Int×List Rg_)}{l:List Rg_}(h:GrpOf gs l)(f:Rg_):GrpOf (gApp f.y_ [f] gs) (l++[f]):=by
 obtain ⟨q,u,B,w,x⟩:=CR (y:=f.y_) (m:=[f]) (gs:=gs);have d:=Q1G (y:=f.y_) (m:=[f]) h.nd
 have s:(gApp f.y_ [f] gs)[K6 f.y_ gs]?=some q:=by rw [w,Hg x,if_pos rfl]
 have p:∀ e ∈ gApp f.y_ [f] gs,e=q\/(e ∈ gs/\e.1≠f.y_):=by
  intro e c;obtain ⟨j,b⟩:=List.getElem?_of_mem c
  by_cases a:j=K6 f.y_ gs
  .rw [a,s] at b;cases b;exact .inl rfl
  .right
   have n:=b;rw [w,Hg x,if_neg a] at n
   refine ⟨List.mem_of_getElem? n,fun t=>a ?_⟩;exact yn d b s (by rw [t,u])
 refine ⟨d,fun e c=>?_,fun g o=>?_⟩
 .rcases p e c with rfl|⟨A,z⟩
  .rw [B,h.gRow,List.filter_append,u];simp
  .rw [h.row e A,List.filter_append]
   have:([f].filter fun g=>decide (g.y_=e.1))=[]:=by simp;exact fun D=>z D.symm
   rw [this,List.append_nil]
 .rcases List.mem_append.1 o with o|o
  .obtain ⟨e,c,k⟩:=h.key g o
   by_cases t:e.1=f.y_
   .exact ⟨q,List.mem_of_getElem? s,by rw [u, <-k,t]⟩
   .obtain ⟨j,b⟩:=List.getElem?_of_mem c
    have a:j≠K6 f.y_ gs:=by
     rintro rfl;rcases Kb f.y_ gs with ⟨_,E,r,v⟩|⟨C,_⟩
     .rw [b] at r;cases r;exact t v
     .rw [C,List.getElem?_eq_none (Nat.le_refl _)] at b;cases b
    refine ⟨e,List.mem_of_getElem? (i:=j) ?_,k⟩;rw [w,Hg x,if_neg a];exact b
  .have:g=f:=by simpa using o
   subst this;exact ⟨q,List.mem_of_getElem? s,u⟩
theorem Z0T(y:Int)(m:List Rg_)(gs:List (Int×List Rg_)):(gApp y m gs).length<=gs.length+1:=by
 obtain ⟨q,_,_,h,a⟩:=CR (y:=y) (m:=m) (gs:=gs);rw [h,Hf a]
 split <;> omega
theorem Z0o{F:Nat}(hF:Q8<=F){l:List Rg_}(hl:l.length<=200):∃ gs,vh F l=some gs/\GrpOf gs l/\gs.length<=l.length:=by
 unfold Q8 at hF;have c:∀ (n i:Nat) (gs:List (Int×List Rg_)),i<=l.length->l.length-i<n->GrpOf gs (l.take i)->gs.length<=i->∃ r,Z7 (fun again (z:Int×(List (Int×(List Rg_))))=>Pm F l again z.1 z.2) n ((i:Int),gs)=some r/\GrpOf r l/\r.length<=l.length:=by
  intro n
  induction n with
  | zero=>intro i gs _ h;omega
  | succ n ih=>
   intro i gs g m a b
   by_cases h:i<l.length
   .obtain ⟨r,e,d⟩:=ih (i+1) (gApp (gl l i).y_ [gl l i] gs) h (by omega) (by rw [QD h];exact a.app _) (by have:=Z0T (gl l i).y_ [gl l i] gs;omega)
    refine ⟨r,?_,d⟩;show Pm F l _ (i:Int) gs=_
    unfold Pm;simp only [Int.toNat_natCast]
    refine Z9 (by simpa using h) ?_;refine Z4 (k:=?_)
    refine Q7 ?_ ?_
    .rw [a.gRow]
     have:=List.length_filter_le (fun f:Rg_=>decide (f.y_=(gl l i).y_)) (l.take i)
     have j:(l.take i).length<=200:=by rw [List.length_take];omega
     simp only [Y5,List.length_cons,List.length_nil];omega
    .refine Z4 (k:=?_)
     exact e
   .have:i=l.length:=by omega
    subst this;refine ⟨gs,?_,by rw [List.take_length] at a;exact a,b⟩
    show Pm F l _ _ gs=_;unfold Pm
    exact Z3 (by simp) rfl
 exact c F 0 [] (Nat.zero_le _) (by omega) (by rw [List.take_zero];exact GrpOf.nil) (Nat.zero_le _)
def UC(e:Int×List Rg_):Prop:=¬ e.2.Pairwise fun f g=>QV f.g_ g.g_=false
theorem Q3g{gs:List (Int×List Rg_)}{l:List Rg_}(h:GrpOf gs l):NX l↔∀ e ∈ gs,¬ UC e:=by
 unfold NX UC;constructor
 .intro d e b k
  refine k ?_;rw [h.row e b,List.pairwise_filter]
  exact d.imp fun {f g} hh h1 h2=>hh (by simp at h1 h2;omega)
 .intro d
  rw [List.pairwise_iff_getElem];intro i j m n c o
  obtain ⟨e,b,a⟩:=h.key l[i] (List.getElem_mem _);have:=Classical.not_not.1 (d e b)
  rw [h.row e b,List.pairwise_filter,List.pairwise_iff_getElem] at this;exact this i j m n c (by simp [a]) (by simp [a,o])
theorem Q3h{e:Int×List Rg_}:¬ UC e↔∀ j,j<e.2.length->∀ i,i<j->QV (gl e.2 i).g_ (gl e.2 j).g_=false:=by
 unfold UC;rw [Classical.not_not,List.pairwise_iff_getElem]
 constructor
 .intro h j a i c
  rw [K5 a,K5 (by omega)];exact h i j (by omega) a c
 .intro h i j c a b
  have:=h j a i b
  rw [K5 a,K5 (by omega)] at this;exact this
theorem Z0x{F:Nat}(hF:Q8<=F){e:Int×List Rg_}(hl:e.2.length<=200){rest:List (Int×List Rg_)}{ag:List (Int×List Rg_)->Option Int}{y:Int}(hb:UC e->y=11)(hg:¬ UC e->ag rest=some y):
  Z7 (fun again (z:Int)=>vk F e rest ag again z) F (0:Int)=some y:=by
 have b:=hF;unfold Q8 at hF
 refine J4 (fun z:Int=>∃ i:Nat,z=i/\i<=e.2.length/\∀ j,j<i->∀ a,a<j->QV (gl e.2 a).g_ (gl e.2 j).g_=false) (fun z=>e.2.length-z.toNat) (fun again z u t=>?_) ⟨0,rfl,by omega,fun j o=>absurd o (Nat.not_lt_zero j)⟩ (by simp;omega);obtain ⟨i,rfl,v,n⟩:=u
 unfold vk;simp only [Int.toNat_natCast]
 refine Q6 (fun h=>?_) (fun h=>?_)
 .have h:i<e.2.length:=by simpa using h
  refine Z4 (k:=?_);refine Z4 (k:=?_)
  refine Q4 (Q6o b (fun f=>QV f.g_ (gl e.2 i).g_) (by rw [List.length_take];omega) (fun r _=>by unfold vm;exact Q4 (qO b _ _) rfl)) ?_;refine Q6 (fun d=>?_) (fun d=>?_)
  .rw [hb fun q=>?_]
   .obtain ⟨f,p,g⟩:=List.any_eq_true.1 d
    obtain ⟨a,c,rfl⟩:=List.getElem_of_mem p;have l:a<i:=by rw [List.length_take] at c;omega
    have:=Q3h.1 (Classical.not_not.2 q) i h a l
    rw [List.getElem_take] at g;rw [K5 (show a<e.2.length by omega)] at this
    rw [this] at g;cases g
  .refine Z4 (k:=?_)
   refine t _ ⟨i+1,by omega,h,fun j o a c=>?_⟩ (by omega);rcases Nat.lt_or_ge j i with m|m
   .exact n j m a c
   .have:j=i:=by omega
    subst this;have s:=List.any_eq_false.1 d (gl e.2 a) (by
     rw [K5 (show a<e.2.length by omega)];have:e.2[a]=(e.2.take j)[a]'(by rw [List.length_take];omega):=by rw [List.getElem_take]
     rw [this];exact List.getElem_mem _)
    simpa using s
 .have h:i=e.2.length:=by
   have:¬ i<e.2.length:=by simpa using h
   omega
  subst h;exact hg (Q3h.2 n)
theorem Q0J{α:Type}{l:List α}{i:Nat}(hi:i<l.length)(p:α->Prop):(∀ e ∈ l,p e)↔p l[i]/\∀ e ∈ l.eraseIdx i,p e:=by
 constructor
 .exact fun h=>⟨h _ (List.getElem_mem _),fun e a=>h e (List.mem_of_mem_eraseIdx a)⟩
 .rintro ⟨d,c⟩ e a
  obtain ⟨j,b,rfl⟩:=List.getElem_of_mem a
  by_cases hij:j=i
  .subst hij;exact d
  .exact c _ (List.mem_eraseIdx_iff_getElem.2 ⟨j,b,hij,rfl⟩)
theorem Z0y{F:Nat}(hF:Q8<=F):∀ (n:Nat) (gs:List (Int×List Rg_)) (y:Int),gs.length<n->(∀ e ∈ gs,e.2.length<=200)->((∀ e ∈ gs,¬ UC e)->y=0)->((¬ ∀ e ∈ gs,¬ UC e)->y=11) ->
  Z7 (fun again (z:(List (Int×(List Rg_))))=>CN F again z) n gs=some y:=by
 intro n
 induction n with
 | zero=>intro gs y h;omega
 | succ n ih=>
  intro gs y o b k m;show CN F _ gs=_
  unfold CN
  cases gs with
  | nil=>
   rw [Q8T,k (fun e c=>by simp at c)];rfl
  | cons g l=>
   refine Q8S (by simp) fun i d=>?_
   refine Z0x hF (b _ (List.getElem_mem _)) (fun f=>m fun a=>a _ (List.getElem_mem _) f) (fun f=>?_);refine ih _ y (by rw [List.length_eraseIdx];rw [if_pos d];simp at o ⊢;omega) (fun e c=>b e (List.mem_of_mem_eraseIdx c)) (fun a=>k ?_) (fun j=>m fun a=>j ?_)
   .exact (Q0J d (fun e=>¬ UC e)).2 ⟨f,a⟩
   .exact ((Q0J d (fun e=>¬ UC e)).1 a).2
theorem Z0w{F:Nat}(hF:Q8<=F)(l:List Rg_):CO F l=some (Zc l):=by
 have m:=hF;unfold Q8 at hF
 unfold CO;refine Q6 (fun h=>?_) (fun h=>?_)
 .have h:200<l.length:=by simp at h;omega
  rw [Zc,if_pos h]
 .have h:¬ 200<l.length:=by simp at h;omega
  have r:Yy none l=0->CM F l=some (Zc l):=fun d=>by
   unfold CM;obtain ⟨y,v,w,D⟩:=Z0o m (l:=l) (by omega)
   refine Q4 v ?_;have j:y.length<F:=by omega
   refine Z0y m F y _ j (fun e a=>?_) (fun u=>?_) (fun u=>?_)
   .rw [w.row e a]
    have:=List.length_filter_le (fun f:Rg_=>decide (f.y_=e.1)) l
    omega
   .rw [Zc,if_neg h,if_neg (by simp [d]),if_pos ((Q3g w).2 u)]
   .rw [Zc,if_neg h,if_neg (by simp [d]),if_neg fun C=>u ((Q3g w).1 C)]
  have s:Yy none l≠0->Zc l=Yy none l:=fun d=>by rw [Zc,if_neg h,if_pos d]
  refine J4 (fun z:Int=>∃ i:Nat,z=i/\i<=l.length/\Yy none l=Yy (Vu l i) (l.drop i)) (fun z=>l.length-z.toNat) (fun q z G E=>?_) ⟨0,rfl,by omega,rfl⟩ (by simp;omega);obtain ⟨i,rfl,I,a⟩:=G
  unfold Q1u;refine Q6 (fun p=>?_) (fun p=>?_)
  .have p:i<l.length:=by simpa using p
   rw [YB p,Yy] at a;refine Z4 (k:=?_)
   simp only [Int.toNat_natCast];refine Q4 (Z0q m _) ?_
   refine Q6 (fun o=>?_) (fun o=>?_)
   .have o:YH (gl l i)≠0:=by simpa using o
    rw [if_pos o] at a;rw [s (by rw [a];exact o),a]
   .have o:YH (gl l i)=0:=by simpa using o
    rw [if_neg (by simp [o])] at a;have n:∀ b:Bool,b=(Vu l i).any (fun g=> !Qn g (gl l i))->HC F i q b=some (Zc l):=by
     intro b t;unfold HC
     refine Q6 (fun x=>?_) (fun x=>?_)
     .rw [if_pos (t ▸ x)] at a
      rw [s (by rw [a];decide),a]
     .rw [if_neg (by rw [<-t,x];simp)] at a
      refine Z4 (k:=?_);refine E _ ⟨i+1,by omega,p,?_⟩ (by omega)
      rw [a,Q0t]
    refine Q6 (fun d=>?_) (fun d=>?_)
    .have d:0<i:=by simpa using d
     refine Z4 (k:=?_);refine Z4 (k:=?_)
     have v:((i:Int)-1).toNat=i-1:=by omega
     rw [v];obtain ⟨c,H,B,J⟩:=Z0s m (gl l (i-1)) (gl l i)
     refine Q4 H (n _ ?_);have A:(Vu l i).any (fun g=> !Qn g (gl l i))=!Qn (gl l (i-1)) (gl l i):=by simp [Vu,show i≠0 from by omega]
     rw [A,Bool.eq_iff_iff,Bool.not_eq_true', <-Bool.not_eq_true, <-B,decide_eq_true_eq];omega
    .have d:i=0:=by simp at d;omega
     exact n _ (by simp [Vu,d])
  .have p:¬ i<l.length:=by simpa using p
   rw [List.drop_of_length_le (by omega)] at a;exact r a
structure HL (l:List Rg_):Prop where
 len:l.length<=200
 one:∀ f ∈ l,YH f=0
 asc:l.Pairwise fun f g=>Qn f g=true
 nx:NX l
theorem vn:∀ (l:List Rg_) (p:Option Rg_),Yy p l=0↔(∀ f ∈ l,YH f=0)/\l.Pairwise (fun f g=>Qn f g=true)/\∀ n,p=some n->∀ f ∈ l,Qn n f=true
 | [],p=>by simp [Yy]
 | f::l,p=>by
  have k:=vn l (some f);unfold Yy
  by_cases h1:YH f=0
  .rw [if_neg (by simp [h1])]
   by_cases e:p.any (fun g=> !Qn g f)=true
   .rw [if_pos e]
    constructor
    .intro h;cases h
    .rintro ⟨_,_,h⟩
     cases p with
     | none=>simp at e
     | some n=>
      have e:Qn n f=false:=by simpa using e
      rw [h n rfl f (by simp)] at e;cases e
   .rw [if_neg e,k]
    constructor
    .rintro ⟨a,b,c⟩
     refine ⟨fun g d=>?_,List.pairwise_cons.2 ⟨fun g d=>c _ rfl g d,b⟩,fun n i g d=>?_⟩
     .rcases List.mem_cons.1 d with rfl|d
      .exact h1
      .exact a g d
     .subst i
      have e:Qn n f=true:=by simpa using e
      rcases List.mem_cons.1 d with rfl|d
      .exact e
      .exact yw e (c _ rfl g d)
    .rintro ⟨a,b,c⟩
     obtain ⟨j,m⟩:=List.pairwise_cons.1 b;exact ⟨fun g d=>a g (by simp [d]),m,fun n i g d=>by cases i;exact j g d⟩
  .rw [if_pos h1]
   constructor
   .intro h;exact absurd h h1
   .rintro ⟨a,_,_⟩;exact absurd (a f (by simp)) h1
theorem FJ(l:List Rg_):Zc l=0↔HL l:=by
 unfold Zc
 by_cases h:200<l.length
 .rw [if_pos h]
  exact ⟨fun h=>(by cases h),fun c=>by have:=c.len;omega⟩
 .rw [if_neg h]
  by_cases h2:Yy none l=0
  .rw [if_neg (by simp [h2])]
   obtain ⟨a,b,_⟩:=(vn l none).1 h2
   by_cases h3:NX l
   .rw [if_pos h3];exact ⟨fun _=>⟨by omega,a,b,h3⟩,fun _=>rfl⟩
   .rw [if_neg h3];exact ⟨fun h=>(by cases h),fun c=>absurd c.nx h3⟩
  .rw [if_pos h2]
   exact ⟨fun h=>absurd h h2,fun c=>absurd ((vn l none).2 ⟨c.one,c.asc,fun n d=>by cases d⟩) h2⟩
section
variable {F:Nat} {L:List A2_} {d:Int}
theorem Q9p(l:List Rect):(Zt l=(⟨[]⟩,1)/\120<l.length)\/(Zt l=(⟨l⟩,0)/\l.length<=120):=by
 unfold Zt
 by_cases h:120<l.length
 .rw [if_pos h];exact .inl ⟨rfl,h⟩
 .rw [if_neg h];exact .inr ⟨rfl,by omega⟩
end
section
variable {F n:Nat} {L:List A2_} {d:Int}
theorem Z1r{Q:List Rect}(ha:Q.Pairwise Vk)(hp:∀ r ∈ Q,Qg r=true){Q' : List Rect}(he:Q2 Q'=Q2 Q)(hv:W6 (cn (Q2 Q'))):area (cn (Q2 Q'))=area Q:=by
 rw [hv.area,xu ha hp];congr 1
 funext x y
 rw [y8 (V8 _),he]
theorem Q8J{R p:List Rect}(ha:R.Pairwise Vk)(hp:p ∈ Ym R):p.Pairwise Vk:=by
 have h:=((Gx R).pairwise_iff fun {a b} h=>xv h).2 ha;rw [List.pairwise_flatten] at h
 exact h.1 p hp
end
section
variable {F:Nat} {L:List A2_} {d:Int}
theorem Pn{l:List Rect}(hc:G3 l)(hl:l.length<=120){a:List Rect}(ha:∀ r ∈ a,Qg r=true)(hs:∀ x y,Q2 l x y=true->Q2 a x y=true):W6 l:=by
 have b:Qw (16384:Int) l:=hc.box fun x y h=>by
  obtain ⟨r,e,c⟩:=(QA _ _ _).1 (hs x y h);have:=(ZW r).1 (ha r e)
  rw [Qh] at c;omega
 exact ⟨hl,b.prop (by omega),hc⟩
theorem kY{a:List Rect}(ha:W6 a)(hl:(QQ L d a).length<=120):W6 (QQ L d a):=Pn (G3.cn (CW _ _)) hl ha.2.1 fun x y h=>by
 unfold QQ at h;rw [y8 (CW _ _),Bool.and_eq_true] at h
 exact h.2
theorem Q4d(hF:Q8<=F)(hL:LF6 L)(d1:0<=d)(d2:d<=36864){a:Re_}(ha:W6 a.t_){m:Int}(m1:0<=m)(m2:m<=268435456)(hK:(cn (Q2 (W8 L d (zp 1)))).length<=120)(hRl:(QQ L d a.t_).length<=120):VM F L d m a=some (Zt (cn (Q2 (Wp L d m a.t_)))):=by
 have f:=hF;unfold Q8 at hF
 have w:W6 (QQ L d a.t_)/\True:=⟨kY ha hRl,trivial⟩;have t:=w.1.1
 have J:=ha.1;have R:=G3.cn (V8 (W8 L d (zp 1)))
 unfold VM;refine Q4 (Kw f hL.vl d1 d2 ha m1 m2) ?_
 refine Z3 rfl ?_;refine Q4 (Lf f hL d 1) ?_
 have s:Zt (cn (Q2 (W8 L d (zp 1))))=(⟨cn (Q2 (W8 L d (zp 1)))⟩,0):=by unfold Zt;rw [if_neg (by omega)]
 rw [s];refine Z3 rfl ?_
 refine Q4 (Xw f (by omega) (fun r c=>(R.pos c).1) (fun r c=>(ha.2.2.pos c).1) (k:=fun u v=>u&&v) rfl (fun u v=>by cases u <;> cases v <;> rfl)) ?_;have e:(cn fun x y=>Q2 (cn (Q2 (W8 L d (zp 1)))) x y&&Q2 a.t_ x y)=QQ L d a.t_:=by
  unfold QQ;congr 1
  funext x y
  rw [y8 (V8 _)]
 rw [e];refine Z3 (by rw [decide_eq_false_iff_not];omega) ?_
 have N:=(Gx (QQ L d a.t_)).length_eq;refine J4 (fun z:List Rect×List Rect=>∃ (k:Nat) (Q:List (List Rect)),Q++Ww k z.1=Ym (QQ L d a.t_)/\z.1.length<=k/\z.1.length<=120/\z.2=(Q.filter fun p=>decide (m<area p)).flatten/\∀ r ∈ z.1,r ∈ QQ L d a.t_) (fun z=>z.1.length) (fun i z O H=>?_) ⟨_,[],rfl,Nat.le_refl _,t,rfl,fun _ h=>h⟩ (by simp only;omega)
 obtain ⟨l,M⟩:=z;obtain ⟨k,Q,j,E,G,rfl,A⟩:=O
 simp only at j E G A H ⊢;have I:Q.flatten.length<=120:=by
  have:=congrArg (fun q=>(List.flatten q).length) j
  simp only [List.flatten_append,List.length_append] at this;omega
 have S:=vx (p:=fun p=>decide (m<area p)) Q;unfold MA
 cases l with
 | nil=>
  refine Z3 (by simp) ?_;unfold Mz
  have K:Ww k []=[]:=by cases k <;> rfl
  rw [K,List.append_nil] at j;subst j
  refine Q4 (JE f (by omega) fun r c=>?_) ?_
  .have:=(ZW r).1 (w.1.2.1 r (LW c))
   omega
  .rfl
 | cons b l=>
  refine Z9 (by simp) ?_;refine Q4 (jj f (by simp) (by omega) (fun r c=>Ri (w.1.2.1 r (A r c)))) ?_
  cases k with
  | zero=>simp at E
  | succ k=>
  simp only [Ww] at j;have B:=CC b l
  have C:=B.perm.length_eq;simp only [List.length_append,List.length_cons,List.length_nil] at C E G
  have U:∀ r ∈ (YM (b::l)).1,r ∈ QQ L d a.t_:=fun r c=>A r (B.perm.mem_iff.1 (List.mem_append.2 (.inl c)))
  have T:1<=(YM (b::l)).1.length:=by
   have:=B.lens.1
   exact List.length_pos_iff.2 this
  refine Q4 (qI f (by omega) fun r c=>w.1.2.1 r (U r c)) ?_;have g:∀ o,o=(((Q++[(YM (b::l)).1])).filter fun p=>decide (m<area p)).flatten->i ((YM (b::l)).2,o)=some (Zt (cn (Q2 (Wp L d m a.t_)))):=fun o P=>by
   refine H _ ⟨k,Q++[(YM (b::l)).1],by rw [<-j,List.append_assoc];rfl,by simp only;omega,by simp only;omega,P,fun r c=>A r (B.perm.mem_iff.1 (List.mem_append.2 (.inr c)))⟩ (by simp only [List.length_cons];omega)
  refine Q6 (fun D=>?_) (fun D=>?_)
  .refine Q7 (by simp only [Y5];omega) ?_
   refine g _ ?_;rw [List.filter_append,List.filter_cons,D];simp
  .refine g _ ?_
   rw [List.filter_append,List.filter_cons,D];simp
theorem Q1N:∀ (Q:List (List Rect)) (k:Nat),(∀ q ∈ Q,q.length<=k)->Q.flatten.length<=Q.length*k
 | [],_,_=>by simp
 | q::Q,k,h=>by
  have c:=Q1N Q k fun p a=>h p (by simp [a])
  have b:=h q (by simp);rw [List.flatten_cons,List.length_append,List.length_cons,Nat.add_mul]
  omega
noncomputable def Sw(R:List Rect)(p:List Int)(m:Int):List Rect:=((Qe R p).filter fun q=>decide (m<area (cn (Q2 q)))).flatten
theorem Q7w{R:List Rect}(hR:W6 R){p:List Int}(hl:Lab R p)(hs:PO R p)(m:Int):Q2 (Sw R p m)=Q2 (((Ym R).filter fun q=>decide (m<area q)).flatten):=by
 have f:∀ r ∈ R,WH r:=fun r g=>hR.2.2.pos g
 have k:=Z1q hR.2.2.apt f;have j:=Z1p hR.2.2.apt f hl hs
 have i:∀ q ∈ Qe R p,∀ b ∈ Ym R,Q2 q=Q2 b -> area (cn (Q2 q))=area b:=fun q c b a e=>by
  have l:W6 (cn (Q2 q)):=by
   refine Pn (G3.cn (V8 q)) ?_ (fun r g=>hR.2.1 r g) fun x y h=>?_
   .rw [e];exact Q8F hR b a
   .rw [y8 (V8 q)] at h
    exact (j.un x y).2 ⟨q,c,h⟩
  exact Z1r (Q8J hR.2.2.apt a) (fun r g=>hR.2.1 r (Hj a g)) e l
 funext x y
 unfold Sw;rw [Bool.eq_iff_iff,vg,vg,List.any_eq_true,List.any_eq_true]
 constructor
 .rintro ⟨q,c,h⟩
  rw [List.mem_filter,decide_eq_true_eq] at c;obtain ⟨b,a,e⟩:=j.uniq k c.1
  refine ⟨b,List.mem_filter.2 ⟨a,?_⟩,by rw [<-e];exact h⟩;rw [decide_eq_true_eq, <-i q c.1 b a e];exact c.2
 .rintro ⟨b,a,h⟩
  rw [List.mem_filter,decide_eq_true_eq] at a;obtain ⟨q,c,e⟩:=k.uniq j a.1
  refine ⟨q,List.mem_filter.2 ⟨c,?_⟩,by rw [<-e];exact h⟩;rw [decide_eq_true_eq,i q c b a.1 e.symm];exact a.2
theorem Q7V(hF:Q8<=F){R:List Rect}(hR:W6 R)(m:Int):Gq F m R false=some (Zt (cn (Q2 (((Ym R).filter fun q=>decide (m<area q)).flatten)))):=by
 have s:=hF;unfold Q8 at hF
 have w:=hR.1;obtain ⟨p,I,P,G⟩:=Q8f s (a:=⟨R⟩) hR
 have U:=Q7s (R:=R) (p:=p);rw [<-Q7w hR I P m]
 unfold Gq;refine Z3 rfl ?_
 refine Q4 G ?_;have b:∀ q ∈ Qe R p,(∀ r ∈ q,r ∈ R)/\q.length<=120:=fun q c=>by
  unfold Qe at c;obtain ⟨i,hi,rfl⟩:=List.mem_map.1 c
  refine ⟨fun r j=>?_,Nat.le_trans Q6z w⟩;obtain ⟨k,J,_,rfl⟩:=UU.1 j
  exact V4 J
 have u:∀ q ∈ Qe R p,W6 (cn (Q2 q)):=fun q c=>by
  have:=xe hR.2.2 (b q c).1
  have h5:=(b q c).2;refine Pn (G3.cn (V8 q)) (by omega) hR.2.1 fun x y h=>?_
  rw [y8 (V8 q)] at h;obtain ⟨r,j,T⟩:=(QA _ _ _).1 h
  exact Wy ((b q c).1 r j) T
 let X:Nat->List Rect:=fun i=>(((Qe R p).take i).filter fun q=>decide (m<area (cn (Q2 q)))).flatten
 have v:∀ i,(cn (Q2 (X i))).length<=14400:=fun i=>by
  have D:∀ q ∈ ((Qe R p).take i).filter (fun q=>decide (m<area (cn (Q2 q)))),q ∈ Qe R p:=fun q c=>List.mem_of_mem_take (List.mem_filter.1 c).1
  have Q:=Q1N _ 120 fun q c=>(b q (D q c)).2
  have S:(((Qe R p).take i).filter (fun q=>decide (m<area (cn (Q2 q))))).length<=120:=by
   have K:=List.length_filter_le (fun q=>decide (m<area (cn (Q2 q)))) ((Qe R p).take i);rw [List.length_take] at K
   omega
  have V:=xe (p:=X i) hR.2.2 fun r j=>by
   obtain ⟨q,c,j⟩:=List.mem_flatten.1 j;exact (b q (D q c)).1 r j
  have Z:=Nat.mul_le_mul_right 120 S;show _<=_
  have g6:(X i).length<=(((Qe R p).take i).filter (fun q=>decide (m<area (cn (Q2 q))))).length*120:=Q;omega
 refine J4 (fun z:List Rect×Int=>∃ i:Nat,z=(cn (Q2 (X i)),(i:Int))/\i<=(Qe R p).length) (fun z=>(Qe R p).length-z.2.toNat) (fun l z M E=>?_) ⟨0,?_,Nat.zero_le _⟩ (by simp;omega)
 .obtain ⟨i,rfl,N⟩:=M
  simp only at E ⊢;unfold bf
  dsimp only
  refine Q6 (fun h=>?_) (fun h=>?_)
  .have h:i<(Qe R p).length:=by simpa using h
   have B:gl ((Qe R p).map WZ) i=WZ ((Qe R p)[i]):=by
    rw [K5 (by rw [List.length_map];exact h),List.getElem_map]
   have A:(Qe R p)[i] ∈ Qe R p:=List.getElem_mem h;have C:=u _ A
   have t:X (i+1)=X i++(if m<area (cn (Q2 ((Qe R p)[i]))) then (Qe R p)[i] else []):=by
    show (((Qe R p).take (i+1)).filter _).flatten=_;rw [List.take_succ_eq_append_getElem h,List.filter_append,List.flatten_append,List.filter_cons]
    congr 1
    split
    .rename_i g;rw [if_pos (by simpa using g)];simp
    .rename_i g;rw [if_neg (by simpa using g)];rfl
   have f:∀ o,o=cn (Q2 (X (i+1)))->DD F (i:Int) l o=some (Zt (cn (Q2 (Sw R p m)))):=fun o O=>by
    unfold DD;refine Z4 (k:=?_)
    exact E _ ⟨i+1,by rw [O];simp,h⟩ (by simp only;omega)
   refine Q7 (by simp only [List.length_map];omega) ?_;simp only [Int.toNat_natCast,B]
   refine Q4 (zZ s (a:=WZ ((Qe R p)[i])) C) ?_;have e:area (WZ ((Qe R p)[i])).t_=area (cn (Q2 ((Qe R p)[i]))):=rfl
   rw [e];refine Q6 (fun g=>?_) (fun g=>?_)
   .rw [decide_eq_true_eq] at g
    have W:=v i;have Y:(WZ ((Qe R p)[i])).t_.length<=120:=C.1
    refine Q4 (Gt s (by omega)) ?_;refine f _ ?_
    rw [t,if_pos g];congr 1
    funext x y
    rw [YN,y8 (V8 _)];show (Q2 (X i) x y||Q2 (cn (Q2 ((Qe R p)[i]))) x y)=_
    rw [y8 (V8 _)]
   .rw [decide_eq_false_iff_not] at g
    refine f _ ?_;rw [t,if_neg g,List.append_nil]
  .have h:¬ i<(Qe R p).length:=by simpa using h
   have e:X i=Sw R p m:=by
    show (((Qe R p).take i).filter _).flatten=_;rw [List.take_of_length_le (by omega)];rfl
   rw [e];unfold zA
   exact Q4 (Tv _) rfl
 .have H:X 0=[]:=rfl
  rw [H,(PB (V8 [])).2 fun x y=>rfl];rfl
end
section
variable {F:Nat} {L:List A2_} {d:Int}
theorem Q2P{m:Int}{a:Re_}(h:WC L d m a=0):Wn L d=0/\W6 a.t_/\0<=m/\m<=268435456:=by
 unfold WC at h
 by_cases h1:Wn L d=0
 .rw [if_neg (by simp [h1])] at h
  cases hv:G9 a.t_ with
  | false=>rw [if_pos hv] at h;cases h
  | true=>
   rw [if_neg (by simp [hv])] at h;refine ⟨h1,(Yc _).1 hv,?_⟩
   split at h
   .cases h
   .omega
 .rw [if_pos h1] at h;exact absurd h h1
theorem Q9q{l:List Rect}(hc:G3 l){a:List Rect}(ha:∀ r ∈ a,Qg r=true)(hs:∀ x y,Q2 l x y=true->Q2 a x y=true):∀ r ∈ (Zt l).1.t_,Qg r=true:=by
 unfold Zt;split
 .exact fun r b=>(List.not_mem_nil b).elim
 .exact HF hc ha hs
theorem Q0S{l:List Rect}(h:G3 l):G3 (Zt l).1.t_:=by
 unfold Zt;split
 .exact PF
 .exact h
theorem Q7W(hF:Q8<=F)(m:Int)(a:Re_)(h:WC L d m a≠0):JL F L d m a=some (⟨[]⟩,WC L d m a):=by
 unfold JL;refine Q4 (XL hF L d) ?_
 unfold WC at h ⊢
 by_cases h1:Wn L d=0
 .rw [if_neg (by simp [h1])] at h ⊢
  rw [h1];refine Z3 rfl ?_
  refine Q4 (Wv hF a) ?_
  cases hv:G9 a.t_ with
  | false=>rfl
  | true=>
   rw [if_neg (by simp [hv])] at h ⊢;refine Z3 rfl ?_
   by_cases h2:m<0
   .rw [if_pos (.inl h2)]
    exact Z9 (by simpa using h2) rfl
   .refine Z3 (by simpa using h2) ?_
    by_cases h3:268435456<m
    .rw [if_pos (.inr h3),decide_eq_true h3];rfl
    .rw [if_neg (by omega)] at h;exact absurd rfl h
 .rw [if_pos h1]
  exact Z9 (by simpa using h1) rfl
theorem Q7Z(hF:Q8<=F)(m:Int)(a:Re_)(h:WC L d m a≠0):UN F a L d m=some (⟨[]⟩,WC L d m a):=by
 unfold UN;refine Q4 (XL hF L d) ?_
 unfold WC at h ⊢
 by_cases h1:Wn L d=0
 .rw [if_neg (by simp [h1])] at h ⊢
  rw [h1];refine Z3 rfl ?_
  refine Q4 (Wv hF a) ?_
  cases hv:G9 a.t_ with
  | false=>rfl
  | true=>
   rw [if_neg (by simp [hv])] at h ⊢;refine Z3 rfl ?_
   by_cases h2:m<0
   .rw [if_pos (.inl h2)]
    exact Z9 (by simpa using h2) rfl
   .refine Z3 (by simpa using h2) ?_
    by_cases h3:268435456<m
    .rw [if_pos (.inr h3),decide_eq_true h3];rfl
    .rw [if_neg (by omega)] at h;exact absurd rfl h
 .rw [if_pos h1]
  exact Z9 (by simpa using h1) rfl
theorem Q5s(hF:Q8<=F)(hL:VL L->LF6 L)(d m:Int)(a:Re_):∃ v,VM F L d m a=some v/\JL F L d m a=some v/\v.1.t_.length<=120/\G3 v.1.t_/\∀ r ∈ v.1.t_,Qg r=true:=by
 by_cases h:WC L d m a=0
 .obtain ⟨w,j,A,s⟩:=Q2P h
  obtain ⟨l,d1,B⟩:=xo w;have i:=hL l
  have C:=j.1;have D:(cn (Q2 (W8 L d (zp 1)))).length<=180000:=by
   have I:=i.all d (zp 1);have q:=xf (W8 L d (zp 1))
   have o:2*(W8 L d (zp 1)).length*(W8 L d (zp 1)).length<=(2*300)*300:=Nat.mul_le_mul (by omega) (by omega);omega
  have t:(cn fun x y=>K2 (Q2 (cn (Q2 (W8 L d (zp 1)))) x y) (Q2 a.t_ x y) 2)=QQ L d a.t_:=by
   unfold QQ;congr 1
   funext x y
   rw [y8 (V8 _)];rfl
  have c:∀ v,br (decide ((120:Int)<((List.length (cn (Q2 (W8 L d (zp 1)))):Nat):Int))) (Gq F m (QQ L d a.t_) true) (Gq F m (QQ L d a.t_) (decide ((120:Int)<((List.length (QQ L d a.t_):Nat):Int))))=some v->JL F L d m a=some v:=fun v p=>by
   unfold JL;refine Q4 (XL hF L d) ?_
   rw [w];refine Z3 rfl ?_
   refine Q4 (Wv hF a) ?_;rw [WJ j]
   refine Z3 rfl ?_;refine Z3 (by rw [decide_eq_false_iff_not];omega) ?_
   rw [show decide ((268435456:Int)<m)=false by rw [decide_eq_false_iff_not];omega];unfold Td
   refine Z3 rfl ?_;refine Q4 (bk hF i 8 11 d) ?_
   rw [<-Q3W];refine Q4 (JR hF (by omega) (by omega) (HF (G3.cn (V8 _)) (LF6.prop l d (zp 1)) fun x y h=>by rwa [y8 (V8 _)] at h) j.2.1) ?_
   rw [t];exact p
  have e:∀ v,(br ((Zt (cn (Q2 (W8 L d (zp 1))))).2 != (0:Int)) (some ((⟨[]⟩:Re_),(Zt (cn (Q2 (W8 L d (zp 1))))).2)) ((Yd F (Zt (cn (Q2 (W8 L d (zp 1))))).1.t_ a.t_ (fun G H=>Lk F G H)).bind fun b=>
    br (decide (120<(b.length:Int))) (some ((⟨[]⟩:Re_),(1:Int))) (Z7 (fun again (z:(List Rect)×(List Rect))=>MA F m again z.1 z.2) F (b,([]:List Rect)))))=some v->VM F L d m a=some v:=fun v p=>by
   unfold VM;refine Q4 (Kw hF l d1 B j A s) ?_
   refine Z3 rfl ?_;exact Q4 (Lf hF i d 1) p
  by_cases hK:(cn (Q2 (W8 L d (zp 1)))).length<=120
  .by_cases hR:(QQ L d a.t_).length<=120
   .refine ⟨_,Q4d hF i d1 B j A s hK hR,c _ ?_,yC _,Q0S (G3.cn (V8 _)),?_⟩
    rotate_left
    .exact Q9q (G3.cn (V8 _)) j.2.1 fun x y h=>by
      rw [y8 (V8 _)] at h;obtain ⟨r,f,q⟩:=(QA _ _ _).1 h
      have o:=Wy (LW f) q;unfold QQ at o
      rw [y8 (CW _ _),Bool.and_eq_true] at o;exact o.2
    refine Z3 (by rw [decide_eq_false_iff_not];omega) ?_;rw [show decide ((120:Int)<((List.length (QQ L d a.t_):Nat):Int))=false by rw [decide_eq_false_iff_not];omega]
    exact Q7V hF (kY j hR) m
   .refine ⟨(⟨[]⟩,1),e _ ?_,c _ ?_,by simp,PF,fun r f=>(List.not_mem_nil f).elim⟩
    .have g:Zt (cn (Q2 (W8 L d (zp 1))))=(⟨cn (Q2 (W8 L d (zp 1)))⟩,0):=by unfold Zt;rw [if_neg (by omega)]
     rw [g];refine Z3 rfl ?_
     refine Q4 (Xw hF (by omega) (fun r f=>((G3.cn (V8 _)).pos f).1) (fun r f=>(j.2.2.pos f).1) (k:=fun u v=>u&&v) rfl (fun u v=>by cases u <;> cases v <;> rfl)) ?_;refine Z9 ?_ rfl
     rw [decide_eq_true_eq];have E:(cn fun x y=>Q2 (cn (Q2 (W8 L d (zp 1)))) x y&&Q2 a.t_ x y)=QQ L d a.t_:=t
     show (120:Int)<(((cn fun x y=>Q2 (cn (Q2 (W8 L d (zp 1)))) x y&&Q2 a.t_ x y).length:Nat):Int);rw [E];omega
    .refine Z3 (by rw [decide_eq_false_iff_not];omega) ?_
     rw [show decide ((120:Int)<((List.length (QQ L d a.t_):Nat):Int))=true by rw [decide_eq_true_eq];omega];rfl
  .refine ⟨(⟨[]⟩,1),e _ ?_,c _ ?_,by simp,PF,fun r f=>(List.not_mem_nil f).elim⟩
   .have g:Zt (cn (Q2 (W8 L d (zp 1))))=(⟨[]⟩,1):=by unfold Zt;rw [if_pos (by omega)]
    rw [g];exact Z9 rfl rfl
   .exact Z9 (by rw [decide_eq_true_eq];omega) rfl
 .refine ⟨(⟨[]⟩,WC L d m a),?_,Q7W hF m a h,by simp,PF,fun r f=>(List.not_mem_nil f).elim⟩
  unfold VM;refine Q4 (Li hF L d m a) ?_
  exact Z9 (by simpa using h) rfl
theorem Z1G(hF:Q8<=F)(hL:VL L->LF6 L)(d m:Int)(a:Re_):∃ v,VN F a L d m=some v/\UN F a L d m=some v/\v.1.t_.length<=120/\(v.2=0->W6 v.1.t_):=by
 by_cases h:WC L d m a=0
 .obtain ⟨B,w,P,S⟩:=Q2P h
  obtain ⟨C,d1,Y⟩:=xo B;have M:=w.1
  obtain ⟨b,U,N,Z,V⟩:=Z0E hF hL d;have G:G3 b.1.t_:=by rw [V B];exact Q0S (G3.cn (V8 _))
  obtain ⟨j,I,J,q3,W,X⟩:=Q5s hF hL d m a;have E:∀ v,(br (b.2 != (0:Int)) (some ((⟨[]⟩:Re_),b.2)) ((VM F L d m a).bind fun c=>
    br (c.2 != (0:Int)) (some ((⟨[]⟩:Re_),c.2)) ((Bv F ([b.1.t_,c.1.t_]:List (List Rect))).bind fun o=>
    (Yd F a.t_ o (fun O R=>Lm F O R)).bind fun t=>
    (KX F t).bind fun i=>
    some (i.1,i.2))))=some v->VN F a L d m=some v:=fun v D=>by
   unfold VN;refine Q4 (Kw hF C d1 Y w P S) ?_
   refine Z3 rfl ?_;exact Q4 U D
  have q:∀ v,(br (b.2 != (0:Int)) (some ((⟨[]⟩:Re_),b.2)) ((JL F L d m a).bind fun f=>
    br (f.2 != (0:Int)) (some ((⟨[]⟩:Re_),f.2)) ((G5 F a.t_ b.1.t_ (3:Int)).bind fun s=>
    (G5 F s f.1.t_ (3:Int)).bind fun p=>
    (JS F p).bind fun g=>
    some (g.1,g.2))))=some v->UN F a L d m=some v:=fun v D=>by
   unfold UN;refine Q4 (XL hF L d) ?_
   rw [B];refine Z3 rfl ?_
   refine Q4 (Wv hF a) ?_;rw [WJ w]
   refine Z3 rfl ?_;refine Z3 (by rw [decide_eq_false_iff_not];omega) ?_
   rw [show decide ((268435456:Int)<m)=false by rw [decide_eq_false_iff_not];omega];unfold Te
   refine Z3 rfl ?_;exact Q4 N D
  by_cases e1:b.2=0
  .by_cases e2:j.2=0
   .have z:(cn fun x y=>K2 (Q2 (cn fun x y=>K2 (Q2 a.t_ x y) (Q2 b.1.t_ x y) 3) x y) (Q2 j.1.t_ x y) 3)=cn fun x y=>Q2 a.t_ x y && !Q2 (b.1.t_++j.1.t_) x y:=by
     congr 1
     funext x y
     rw [y8 (Ve _ _ _),YN];show ((Q2 a.t_ x y && !Q2 b.1.t_ x y) && !Q2 j.1.t_ x y)=_
     cases Q2 a.t_ x y <;> cases Q2 b.1.t_ x y <;> cases Q2 j.1.t_ x y <;> rfl
    refine ⟨Zt (cn fun x y=>Q2 a.t_ x y && !Q2 (b.1.t_++j.1.t_) x y),E _ ?_,q _ ?_,yC _,fun l=>?_⟩
    rotate_left 2
    .rcases Q9p (cn fun x y=>Q2 a.t_ x y && !Q2 (b.1.t_++j.1.t_) x y) with ⟨e,_⟩|⟨e,Q⟩
     .rw [e] at l;cases l
     .rw [e]
      refine Pn (G3.cn (Pt _ _)) Q w.2.1 fun x y K=>?_
      rw [y8 (Pt _ _),Bool.and_eq_true] at K;exact K.1
    .refine Z3 (by rw [e1];rfl) ?_
     refine Q4 I ?_;refine Z3 (by rw [e2];rfl) ?_
     refine Q4 (qh hF (by omega) (by omega)) ?_;refine Q4 (Xw hF (by simp only [List.length_append];omega) (fun r q=>(w.2.2.pos q).1) (fun r q=>?_) (k:=fun u v=>u && !v) rfl (fun u v=>by cases u <;> cases v <;> rfl)) ?_
     .rcases List.mem_append.1 q with h|h
      .exact (G.pos h).1
      .exact (W.pos h).1
     .exact Q4 (qS F _) rfl
    .refine Z3 (by rw [e1];rfl) ?_
     refine Q4 J ?_;refine Z3 (by rw [e2];rfl) ?_
     refine Q4 (Gt hF (by omega)) ?_;have T:=Z2d a.t_ b.1.t_ 3
     have H:(2*a.t_.length+2*b.1.t_.length)*(a.t_.length+b.1.t_.length)<=480*240:=Nat.mul_le_mul (by omega) (by omega);have A:∀ r ∈ j.1.t_,Qg r=true:=X
     refine Q4 (JR hF (by omega) (by omega) (HF (G3.cn (Ve _ _ _)) w.2.1 fun x y h=>?_) A) ?_
     .rw [y8 (Ve _ _ _)] at h
      simp only [K2] at h;simp at h
      exact h.1
     rw [z];exact Q4 (Tv _) rfl
   .refine ⟨(⟨[]⟩,j.2),E _ ?_,q _ ?_,by simp,fun l=>absurd l e2⟩
    .exact Z3 (by rw [e1];rfl) (Q4 I (Z9 (by simpa using e2) rfl))
    .exact Z3 (by rw [e1];rfl) (Q4 J (Z9 (by simpa using e2) rfl))
  .refine ⟨(⟨[]⟩,b.2),E _ ?_,q _ ?_,by simp,fun l=>absurd l e1⟩
   .exact Z9 (by simpa using e1) rfl
   .exact Z9 (by simpa using e1) rfl
 .refine ⟨(⟨[]⟩,WC L d m a),?_,Q7Z hF m a h,by simp,fun l=>absurd l h⟩
  unfold VN;refine Q4 (Li hF L d m a) ?_
  exact Z9 (by simpa using h) rfl
end
def Zs(y c:Int)(f:Rg_):Bool:=decide (f.y_=y)&&decide (f.c_=c)
def Wa(y:Int)(a:List Rect)(f:Rg_):Rg_:=if f.y_=y then ⟨f.y_,f.c_,⟨cn fun u v=>Q2 f.g_.t_ u v && !Q2 a u v⟩⟩ else f
def QY(l:List Rg_)(y c:Int)(a:List Rect):List Rg_:=(l.filter fun f=> !Zs y c f).map (Wa y a)
def vA(l:List Rg_)(y c:Int)(a:List Rect):List Rect:=match l.find? (Zs y c) with|some f=>cn fun u v=>Q2 f.g_.t_ u v||Q2 a u v|none=>a
def Zn(f:Rg_):Bool:= !decide (f.g_.t_.length=0)
def WV(l:List Rg_):Bool:=decide (200<l.length)||l.any fun f=>decide (120<f.g_.t_.length)
def Wb(l:List Rg_)(r:Rg_):Nat:=l.countP fun f=>Qn f r
def Pj(l:List Rg_)(r:Rg_):List Rg_:=l.take (Wb l r)++[r]++l.drop (Wb l r)
def We(l:List Rg_)(y c:Int)(a:List Rect):List Rg_:=
 if (vA l y c a).length=0 then (QY l y c a).filter Zn else Pj ((QY l y c a).filter Zn) ⟨y,c,⟨vA l y c a⟩⟩
def addH(l:List Rg_)(y c:Int)(a:Re_):List Rg_×Int:=
 if Zc l≠0 then ([],Zc l) else if y<0\/100<y then ([],18) else if c<0\/40<=c then ([],13) else if G9 a.t_=false then ([],7)
 else if WV (We l y c a.t_)=true then ([],1) else (We l y c a.t_,0)
theorem Q6U(l:List Rg_)(x:Rg_)(y c:Int)(a:List Rect):QY (l++[x]) y c a=QY l y c a++(if Zs y c x=true then [] else [Wa y a x]):=by
 unfold QY;rw [List.filter_append,List.map_append]
 congr 1
 cases h:Zs y c x with
 | true=>simp [h]
 | false=>simp [h]
theorem Q4s(l:List Rg_)(x:Rg_)(y c:Int)(a:List Rect)(h:Zs y c x=true->∀ f ∈ l,Zs y c f=false):vA (l++[x]) y c a=if Zs y c x=true then cn (fun u v=>Q2 x.g_.t_ u v||Q2 a u v) else vA l y c a:=by
 unfold vA;rw [List.find?_append]
 cases hx:Zs y c x with
 | true=>
  have:l.find? (Zs y c)=none:=List.find?_eq_none.2 fun f b=>by rw [h hx f b];simp
  rw [this];simp [hx]
 | false=>simp [hx]
theorem Q4t(l:List Rg_)(y c:Int)(a:List Rect)(h:∀ f ∈ l,Zs y c f=false):vA l y c a=a:=by
 unfold vA;have:l.find? (Zs y c)=none:=List.find?_eq_none.2 fun f b=>by rw [h f b];simp
 rw [this]
theorem jy{l:List Rg_}(h:l.Pairwise fun f g=>Qn f g=true){i:Nat}(hi:i<l.length){y c:Int}(hs:Zs y c (gl l i)=true):∀ f ∈ l.take i,Zs y c f=false:=by
 intro f b;obtain ⟨j,e,rfl⟩:=List.getElem_of_mem b
 have a:j<i:=by rw [List.length_take] at e;omega
 rw [List.getElem_take];have:=List.pairwise_iff_getElem.1 h j i (by omega) hi a
 rw [VZ] at this;rw [K5 hi] at hs
 unfold Zs at hs ⊢;rw [Bool.and_eq_true,decide_eq_true_eq,decide_eq_true_eq] at hs
 rw [<-Bool.not_eq_true,Bool.and_eq_true,decide_eq_true_eq,decide_eq_true_eq];omega
theorem HL.val{l:List Rg_}(h:HL l){f:Rg_}(hf:f ∈ l):W6 f.g_.t_:=((UP f).1 (h.one f hf)).2.2.2.2.2
theorem Q7P{F:Nat}(hF:Q8<=F){l:List Rg_}(h:HL l){y c:Int}{a:Re_}(ha:W6 a.t_){r:List Rg_×Int}(hk:Dw F y c (vA l y c a.t_) ((QY l y c a.t_).filter Zn)=some r):
  Z7 (fun again (z:(List Rect)×Int×(List Rg_))=>zw F l y c a again z.1 z.2.1 z.2.2) F (a.t_,(0:Int),([]:List Rg_))=some r:=by
 have s:=hF;unfold Q8 at hF
 have J:=h.len;refine J4 (fun z:(List Rect)×Int×(List Rg_)=>∃ i:Nat,z=(vA (l.take i) y c a.t_,(i:Int),(QY (l.take i) y c a.t_).filter Zn)/\i<=l.length) (fun z=>l.length-z.2.1.toNat) (fun again z M H=>?_) ⟨0,by rw [List.take_zero];rfl,by omega⟩ (by simp only;omega)
 obtain ⟨i,rfl,O⟩:=M;simp only at H ⊢
 unfold zw;simp only [Int.toNat_natCast]
 refine Q6 (fun j=>?_) (fun j=>?_)
 .have j:i<l.length:=by simpa using j
  have t:=h.val (V4 j);have N:((QY (l.take i) y c a.t_).filter Zn).length<=200:=by
   have E:=List.length_filter_le Zn (QY (l.take i) y c a.t_);unfold QY at E ⊢
   rw [List.length_map] at E;have:=List.length_filter_le (fun f=> !Zs y c f) (l.take i)
   have e:(l.take i).length<=l.length:=by rw [List.length_take];omega
   omega
  have g:∀ (v:List Rect) (p:List Rg_),v=vA (l.take (i+1)) y c a.t_->p=(QY (l.take (i+1)) y c a.t_).filter Zn->XI F i again v p=some r:=by
   rintro v p rfl rfl;unfold XI
   refine Z4 (k:=?_);exact H _ ⟨i+1,rfl,j⟩ (by simp only;omega)
  have A:=Q4s (l.take i) (gl l i) y c a.t_ (jy h.asc j);have x:=Q6U (l.take i) (gl l i) y c a.t_
  rw [<-QD j] at A x;have B:∀ w:List Rect,Zs y c (gl l i)=false->(⟨(gl l i).y_,(gl l i).c_,⟨w⟩⟩:Rg_)=Wa y a.t_ (gl l i)->Dx F l (vA (l.take i) y c a.t_) i ((QY (l.take i) y c a.t_).filter Zn) again w=some r:=by
   intro w m K;unfold Dx
   simp only [Int.toNat_natCast];have I:(QY (l.take (i+1)) y c a.t_).filter Zn=(QY (l.take i) y c a.t_).filter Zn++[(⟨(gl l i).y_,(gl l i).c_,⟨w⟩⟩:Rg_)].filter Zn:=by
    rw [x,if_neg (by rw [m];simp),List.filter_append,K]
   have D:vA (l.take i) y c a.t_=vA (l.take (i+1)) y c a.t_:=by rw [A,if_neg (by rw [m];simp)]
   refine Q6 (fun o=>?_) (fun o=>?_)
   .have o:w.length≠0:=by simp at o;omega
    refine Z4 (k:=?_);refine g _ _ D ?_
    rw [I];congr 1
    simp [Zn,o]
   .have o:w.length=0:=by simp at o;simp [o]
    refine g _ _ D ?_;rw [I]
    simp [Zn,o]
  refine Z4 (k:=?_);have C:∀ b:Bool,b=Zs y c (gl l i)->Dy F l y a (vA (l.take i) y c a.t_) i ((QY (l.take i) y c a.t_).filter Zn) again b=some r:=by
   intro b G;unfold Dy
   simp only [Int.toNat_natCast];refine Q6 (fun e=>?_) (fun e=>?_)
   .have m:Zs y c (gl l i)=true:=by rw [<-G,e]
    rw [Q4t _ y c a.t_ (jy h.asc j m)];refine Q4 (JR s (by have:=ha.1;omega) (by have:=t.1;omega) ha.2.1 t.2.1) (g _ _ ?_ ?_)
    .rw [A,if_pos m]
     congr 1
     funext u v
     simp [K2,Bool.or_comm]
    .rw [x,if_pos m,List.append_nil]
   .have m:Zs y c (gl l i)=false:=by rw [<-G,e]
    refine Q6 (fun q=>?_) (fun q=>?_)
    .have q:(gl l i).y_=y:=by simpa using q
     refine Q4 (JR s (by have:=t.1;omega) (by have:=ha.1;omega) t.2.1 ha.2.1) (B _ m ?_);unfold Wa;rw [if_pos q]
     simp [K2]
    .have q:¬ (gl l i).y_=y:=by simpa using q
     refine B _ m ?_;unfold Wa;rw [if_neg q]
  refine Q6 (fun e=>?_) (fun e=>?_)
  .have e:(gl l i).y_=y:=by simpa using e
   refine C _ ?_;unfold Zs
   rw [decide_eq_true e,Bool.true_and];rfl
  .have e:¬ (gl l i).y_=y:=by simpa using e
   refine C _ ?_;unfold Zs
   rw [decide_eq_false e,Bool.false_and]
 .have j:i=l.length:=by
   have:¬ i<l.length:=by simpa using j
   omega
  subst j;rw [List.take_length]
  exact hk
def Up(f:Rg_):Int×Int:=(f.y_,f.c_)
theorem TU{f g:Rg_}:Hk (Up f) (Up g)↔Qn f g=true:=by rw [VZ];unfold Hk Up;exact Iff.rfl
theorem Q2M{l:List Rg_}(h:l.Pairwise fun f g=>Qn f g=true)(r:Rg_):Wb l r<=l.length/\(∀ j,j<Wb l r->Qn (gl l j) r=true)/\∀ j,Wb l r<=j->j<l.length->Qn (gl l j) r=false:=by
 induction l with
 | nil=>exact ⟨Nat.le_refl _,fun j i=>by simp [Wb] at i,fun j _ i=>by simp at i⟩
 | cons f l ih=>
  obtain ⟨s,p⟩:=List.pairwise_cons.1 h;obtain ⟨a,b,c⟩:=ih p
  cases hf:Qn f r with
  | true=>
   have e:Wb (f::l) r=Wb l r+1:=by simp [Wb,hf]
   rw [e];refine ⟨by simp;exact a,fun j i=>?_,fun j i m=>?_⟩
   .cases j with
    | zero=>exact hf
    | succ j=>exact b j (by omega)
   .cases j with
    | zero=>omega
    | succ j=>exact c j (by omega) (by simpa using m)
  | false=>
   have k:∀ g ∈ l,Qn g r=false:=fun g o=>by
    rw [<-Bool.not_eq_true];intro q
    rw [yw (s g o) q] at hf;cases hf
   have e:Wb (f::l) r=0:=by
    unfold Wb;rw [List.countP_eq_zero]
    intro g o;rcases List.mem_cons.1 o with rfl|o
    .rw [hf];simp
    .rw [k g o];simp
   rw [e];refine ⟨Nat.zero_le _,fun j i=>absurd i (Nat.not_lt_zero j),fun j _ m=>?_⟩
   cases j with
   | zero=>exact hf
   | succ j=>
    have i:j<l.length:=by simpa using m
    exact k _ (V4 i)
theorem Z0e(l:List Rg_)(r:Rg_):(Pj l r).Perm (l++[r]):=by
 unfold Pj;have a:(l.take (Wb l r)++[r]++l.drop (Wb l r)).Perm (l.take (Wb l r)++(l.drop (Wb l r)++[r])):=by
  rw [List.append_assoc];exact List.Perm.append_left _ List.perm_append_comm
 rw [<-List.append_assoc,List.take_append_drop] at a;exact a
theorem Z0f{l:List Rg_}(h:l.Pairwise fun f g=>Qn f g=true){r:Rg_}(hr:∀ f ∈ l,Up f≠Up r):(Pj l r).Pairwise fun f g=>Qn f g=true:=by
 obtain ⟨a,b,c⟩:=Q2M h r;unfold Pj
 generalize Wb l r=k at *;have t:∀ f ∈ l.take k,Qn f r=true:=fun f e=>by
  obtain ⟨j,q,rfl⟩:=List.getElem_of_mem e;have i:j<k:=by rw [List.length_take] at q;omega
  have:=b j i
  rw [K5 (show j<l.length by omega)] at this;rw [List.getElem_take];exact this
 have s:∀ f ∈ l.drop k,Qn r f=true:=fun f e=>by
  obtain ⟨j,q,rfl⟩:=List.getElem_of_mem e;have i:k+j<l.length:=by rw [List.length_drop] at q;omega
  have p:=c (k+j) (by omega) i;rw [K5 i] at p
  rw [List.getElem_drop];have u:=hr _ (List.getElem_mem i)
  rcases Q9h u with o|o
  .rw [TU.1 o] at p;cases p
  .exact TU.1 o
 rw [List.pairwise_append,List.pairwise_append];refine ⟨⟨h.sublist (List.take_sublist _ _),List.pairwise_singleton _ _,fun f e g m=>?_⟩,h.sublist (List.drop_sublist _ _),fun f e g m=>?_⟩
 .rw [List.mem_singleton] at m;subst m;exact t f e
 .rcases List.mem_append.1 e with e|e
  .exact yw (t f e) (s g m)
  .rw [List.mem_singleton] at e;subst e;exact s g m
theorem Pw(y:Int)(a:List Rect)(f:Rg_):Up (Wa y a f)=Up f:=by unfold Wa;split <;> rfl
theorem Q9g(y:Int)(a:List Rect)(f g:Rg_):Qn (Wa y a f) (Wa y a g)=Qn f g:=by
 rw [Bool.eq_iff_iff, <-TU, <-TU,Pw,Pw]
theorem qz{l:List Rg_}(h:l.Pairwise fun f g=>Qn f g=true)(y c:Int)(a:List Rect):((QY l y c a).filter Zn).Pairwise fun f g=>Qn f g=true:=by
 refine List.Pairwise.filter _ ?_;unfold QY
 rw [List.pairwise_map];refine List.Pairwise.imp (fun {f g} hh=>?_) (List.Pairwise.filter _ h)
 rw [Q9g];exact hh
theorem Q6T{l:List Rg_}{y c:Int}{a v:List Rect}:∀ f ∈ (QY l y c a).filter Zn,Up f≠Up ⟨y,c,⟨v⟩⟩:=by
 intro f e h;have e:=(List.mem_filter.1 e).1
 unfold QY at e;obtain ⟨g,i,rfl⟩:=List.mem_map.1 e
 have b:=(List.mem_filter.1 i).2;rw [Pw] at h
 unfold Up at h;have k:g.y_=y:=congrArg Prod.fst h
 have j:g.c_=c:=congrArg Prod.snd h;unfold Zs at b
 simp [k,j] at b
theorem Z2U{l:List Rg_}(h:l.Pairwise fun f g=>Qn f g=true)(y c:Int)(a:List Rect):(We l y c a).Pairwise fun f g=>Qn f g=true:=by
 unfold We;split
 .exact qz h y c a
 .exact Z0f (qz h y c a) Q6T
theorem xy(l:List Rg_)(y c:Int)(a:List Rect):((QY l y c a++[(⟨y,c,⟨vA l y c a⟩⟩:Rg_)]).filter Zn).Perm (We l y c a):=by
 rw [List.filter_append];unfold We
 split
 .rename_i h
  have:[(⟨y,c,⟨vA l y c a⟩⟩:Rg_)].filter Zn=[]:=by simp [Zn,h]
  rw [this,List.append_nil]
 .rename_i h
  have:[(⟨y,c,⟨vA l y c a⟩⟩:Rg_)].filter Zn=[⟨y,c,⟨vA l y c a⟩⟩]:=by simp [Zn,h]
  rw [this];exact (Z0e _ _).symm
theorem jI(l:List Rg_)(y c:Int)(a:List Rect):(QY l y c a).length<=l.length:=by
 unfold QY;rw [List.length_map]
 exact List.length_filter_le _ _
theorem ba{F:Nat}(hF:Q8<=F){L:List Rg_}(hl:L.length<=201):Dz F L=some (if WV L=true then ([],1) else (L,0)):=by
 unfold Q8 at hF;unfold Dz
 refine Q6 (fun h=>?_) (fun h=>?_)
 .have h:200<L.length:=by have:=of_decide_eq_true h;omega
  rw [if_pos (by unfold WV;rw [decide_eq_true h,Bool.true_or])]
 .have h:¬ 200<L.length:=by have:=of_decide_eq_false h;omega
  refine J4 (fun z:Int=>∃ i:Nat,z=i/\i<=L.length/\∀ j,j<i->¬ 120<(gl L j).g_.t_.length) (fun z=>L.length-z.toNat) (fun e z o m=>?_) ⟨0,rfl,by omega,fun j c=>absurd c (Nat.not_lt_zero j)⟩ (by simp;omega);obtain ⟨i,rfl,q,g⟩:=o
  unfold bd;simp only [Int.toNat_natCast]
  refine Q6 (fun a=>?_) (fun a=>?_)
  .have a:i<L.length:=by simpa using a
   refine Z4 (k:=?_);refine Q6 (fun b=>?_) (fun b=>?_)
   .have b:120<(gl L i).g_.t_.length:=by have:=of_decide_eq_true b;omega
    rw [if_pos];unfold WV
    rw [Bool.or_eq_true];exact .inr (List.any_eq_true.2 ⟨_,V4 a,decide_eq_true b⟩)
   .have b:¬ 120<(gl L i).g_.t_.length:=by have:=of_decide_eq_false b;omega
    refine Z4 (k:=?_);refine m _ ⟨i+1,by omega,a,fun j c=>?_⟩ (by omega)
    rcases Nat.lt_or_ge j i with l|l
    .exact g j l
    .have:j=i:=by omega
     subst this;exact b
  .have a:i=L.length:=by
    have:¬ i<L.length:=by simpa using a
    omega
   subst a;rw [if_neg]
   .rfl
   .unfold WV
    rw [decide_eq_false h,Bool.false_or,GU (p:=fun f:Rg_=>decide (120<f.g_.t_.length)) fun j c=>decide_eq_false (g j c)];simp
theorem Q7Q{F:Nat}(hF:Q8<=F){l:List Rg_}(h:HL l){y c:Int}{a:List Rect}:
  Dw F y c (vA l y c a) ((QY l y c a).filter Zn)=some (if WV (We l y c a)=true then ([],1) else (We l y c a,0)):=by
 have s:=hF;unfold Q8 at hF
 have w:=h.len;have C:((QY l y c a).filter Zn).length<=200:=by
  have m:=jI l y c a;have f:=List.length_filter_le Zn (QY l y c a)
  omega
 have r:=qz h.asc y c a;unfold Dw We
 generalize (QY l y c a).filter Zn=R at *;generalize vA l y c a=v at *
 refine Q6 (fun m=>?_) (fun m=>?_)
 .have m:v.length≠0:=by have:=of_decide_eq_true m;omega
  rw [if_neg m];obtain ⟨k1,k2,x⟩:=Q2M r ⟨y,c,⟨v⟩⟩
  unfold Pj;generalize Wb R ⟨y,c,⟨v⟩⟩=k at *
  refine J4 (fun z:Int=>∃ i:Nat,z=i/\i<=k) (fun z=>R.length-z.toNat) (fun q z B A=>?_) ⟨0,rfl,by omega⟩ (by simp;omega);obtain ⟨i,rfl,D⟩:=B
  have t:i=k->SY F y c v R (i:Int)=some (if WV (R.take k++[(⟨y,c,⟨v⟩⟩:Rg_)]++R.drop k)=true then ([],1) else (R.take k++[⟨y,c,⟨v⟩⟩]++R.drop k,0)):=by
   rintro rfl;unfold SY
   simp only [Int.toNat_natCast];refine Q7 (by omega) (Q7 (by omega) (Q7 (by simp only [Y5];omega) (Q7 (by simp only [Y5,List.length_cons,List.length_nil];omega) (Q7 (by omega) (Q7 (by omega) (Q7 (by simp only [Y5,List.length_cons,List.length_nil];omega) ?_))))))
   have e:((([]:List Rg_)++((R.drop 0).take i))++([(⟨y,c,(⟨v⟩:Re_)⟩:Rg_)]:List Rg_))++((R.drop (0+i)).take (R.length-i))=R.take i++[⟨y,c,⟨v⟩⟩]++R.drop i:=by
    rw [List.nil_append,List.drop_zero,Nat.zero_add,List.take_of_length_le (l:=R.drop i) (by rw [List.length_drop];omega)]
   rw [e];refine ba s ?_
   simp only [List.length_append,List.length_take,List.length_drop,List.length_cons,List.length_nil];omega
  have g:∀ b:Bool,(b=true↔i<R.length/\Qn (gl R i) ⟨y,c,⟨v⟩⟩=true)->Gp F y c v R i q b=some (if WV (R.take k++[(⟨y,c,⟨v⟩⟩:Rg_)]++R.drop k)=true then ([],1) else (R.take k++[⟨y,c,⟨v⟩⟩]++R.drop k,0)):=by
   intro b u;unfold Gp
   refine Q6 (fun f=>?_) (fun f=>?_)
   .obtain ⟨p,o⟩:=u.1 f
    have j:i<k:=by
     rcases Nat.lt_or_ge i k with j|j
     .exact j
     .rw [x i j p] at o;cases o
    refine Z4 (k:=?_);exact A _ ⟨i+1,by omega,j⟩ (by omega)
   .refine t ?_
    rcases Nat.lt_or_ge i k with j|j
    .have:=u.2 ⟨by omega,k2 i j⟩
     rw [f] at this;cases this
    .omega
  unfold bc;simp only [Int.toNat_natCast]
  refine Q6 (fun f=>?_) (fun f=>?_)
  .have f:i<R.length:=by simpa using f
   refine Z4 (k:=?_);refine Q6 (fun p=>?_) (fun p=>?_)
   .refine g _ ?_
    have p:=of_decide_eq_true p;rw [VZ];simp;omega
   .have p:=of_decide_eq_false p
    refine Z4 (k:=?_);refine Q6 (fun o=>?_) (fun o=>?_)
    .have o:(gl R i).y_=y:=by simpa using o
     refine Z4 (k:=?_);refine g _ ?_
     rw [VZ,decide_eq_true_eq];simp only;omega
    .have o:¬ (gl R i).y_=y:=by simpa using o
     refine g _ ?_;rw [VZ];simp;omega
  .have f:¬ i<R.length:=by simpa using f
   refine g _ ?_;simp;omega
 .have m:v.length=0:=by have:=of_decide_eq_false m;omega
  rw [if_pos m];exact ba s (by omega)
theorem Q7O{F:Nat}(hF:Q8<=F)(l:List Rg_)(y c:Int)(a:Re_):SZ F l y c a=some (addH l y c a):=by
 unfold SZ addH;refine Q4 (cU hF l) ?_
 refine Q6 (fun h=>?_) (fun h=>?_)
 .rw [if_pos (by simpa using h)]
 .have h:Zc l=0:=by simpa using h
  rw [if_neg (by simp [h]),Yn (DB F l y c a)];unfold DB
  refine Q6 (fun f=>by rw [if_pos (by simpa using f)]) (fun f=>?_);rw [if_neg (by simpa using f),Yn (DA F l y c a)]
  unfold DA;refine Q6 (fun e=>by rw [if_pos (by simpa using e)]) (fun e=>?_)
  rw [if_neg (by simpa using e)];refine Q4 (Wv hF _) ?_
  refine Q6 (fun b=>by rw [if_pos (by simpa using b)]) (fun b=>?_);have b:G9 a.t_=true:=by simpa using b
  rw [if_neg (by rw [b];simp)];exact Q7P hF ((FJ l).1 h) ((Yc _).1 b) (Q7Q hF ((FJ l).1 h))
theorem Q0L{a b:Re_}(h:∀ x y,Q2 a.t_ x y=true->Q2 b.t_ x y=true->False):QV a b=false:=by
 by_cases ha:W6 a.t_
 .by_cases hb:W6 b.t_
  .exact Q8Y ha hb h
  .unfold QV
   have:G9 b.t_=false:=by rw [<-Bool.not_eq_true,Yc];exact hb
   rw [this];simp
 .unfold QV
  have:G9 a.t_=false:=by rw [<-Bool.not_eq_true,Yc];exact ha
  rw [this];rfl
theorem yu{a b:Re_}(ha:W6 a.t_)(hb:W6 b.t_)(h:QV a b=false):∀ x y,Q2 a.t_ x y=true->Q2 b.t_ x y=true->False:=by
 intro x y c e;unfold QV at h
 rw [WJ ha,WJ hb,Bool.true_and,Bool.true_and] at h;have:=(TJ ha.2.1 hb.2.1).2 ⟨x,y,c,e⟩
 rw [this] at h;cases h
theorem Q1q(a b:List Rect)(x y:Int):Q2 (a++b) x y=(Q2 a x y||Q2 b x y):=by
 rw [Bool.eq_iff_iff,Bool.or_eq_true,QA,QA,QA];constructor
 .rintro ⟨r,c,h⟩
  rcases List.mem_append.1 c with c|c
  .exact .inl ⟨r,c,h⟩
  .exact .inr ⟨r,c,h⟩
 .rintro (⟨r,c,h⟩|⟨r,c,h⟩)
  .exact ⟨r,List.mem_append_left _ c,h⟩
  .exact ⟨r,List.mem_append_right _ c,h⟩
theorem Ma(f:Rg_)(y:Int)(a:List Rect){u v:Int}(h:Q2 (Wa y a f).g_.t_ u v=true):Q2 f.g_.t_ u v=true/\(f.y_=y->Q2 a u v=false):=by
 unfold Wa at h;split at h
 .rename_i b
  simp only at h;rw [y8 (Pt _ _),Bool.and_eq_true,Bool.not_eq_true'] at h
  exact ⟨h.1,fun _=>h.2⟩
 .rename_i b
  exact ⟨h,fun c=>absurd c b⟩
theorem kj{l:List Rg_}{y c:Int}{a:List Rect}{u v:Int}:Q2 (vA l y c a) u v=true↔Q2 a u v=true\/∃ f,l.find? (Zs y c)=some f/\Q2 f.g_.t_ u v=true:=by
 unfold vA;split
 .rename_i f b
  have:=Ve f.g_.t_ a 1
  simp only [K2,if_true] at this;rw [y8 this,Bool.or_eq_true]
  constructor
  .rintro (h|h)
   .exact .inr ⟨f,b,h⟩
   .exact .inl h
  .rintro (h|⟨g,hg,h⟩)
   .exact .inr h
   .rw [b] at hg;cases hg;exact .inl h
 .rename_i b
  constructor
  .exact fun h=>.inl h
  .rintro (h|⟨g,hg,h⟩)
   .exact h
   .rw [b] at hg;cases hg
theorem xz{l:List Rg_}{y c:Int}{a:List Rect}{f:Rg_}:f ∈ We l y c a↔(f ∈ QY l y c a\/f=⟨y,c,⟨vA l y c a⟩⟩)/\f.g_.t_.length≠0:=by
 rw [<-(xy l y c a).mem_iff,List.mem_filter,List.mem_append,List.mem_singleton];unfold Zn
 simp
theorem jB(y c:Int)(f:Rg_):Zs y c f=true↔f.y_=y/\f.c_=c:=by unfold Zs;simp
theorem Sb{l:List Rg_}{y c:Int}{a:List Rect}{f:Rg_}:f ∈ QY l y c a↔∃ g ∈ l,Zs y c g=false/\f=Wa y a g:=by
 unfold QY;rw [List.mem_map]
 constructor
 .rintro ⟨g,b,rfl⟩
  have:=List.mem_filter.1 b
  exact ⟨g,this.1,by simpa using this.2,rfl⟩
 .rintro ⟨g,b,e,rfl⟩
  exact ⟨g,List.mem_filter.2 ⟨b,by simpa using e⟩,rfl⟩
theorem Q4x{l:List Rg_}(h:WV l=false):l.length<=200/\∀ f ∈ l,f.g_.t_.length<=120:=by
 unfold WV at h;rw [Bool.or_eq_false_iff] at h
 refine ⟨by have:=of_decide_eq_false h.1;omega,fun f a=>?_⟩;have:=List.any_eq_false.1 h.2 f a
 simp at this;exact this
theorem HL.apart{l:List Rg_}(h:HL l){f g:Rg_}(hf:f ∈ l)(hg:g ∈ l)(hy:f.y_=g.y_)(hc:f.c_≠g.c_):∀ x y,Q2 f.g_.t_ x y=true->Q2 g.g_.t_ x y=true->False:=by
 obtain ⟨i,b,rfl⟩:=List.getElem_of_mem hf;obtain ⟨j,c,rfl⟩:=List.getElem_of_mem hg
 have e:=List.pairwise_iff_getElem.1 h.nx;rcases Nat.lt_trichotomy i j with a|a|a
 .exact yu (h.val hf) (h.val hg) (e i j b c a hy)
 .subst a;exact absurd rfl hc
 .exact fun x y m k=>yu (h.val hg) (h.val hf) (e j i c b a hy.symm) x y k m
theorem HL.add{l:List Rg_}(h:HL l){y c:Int}(hy:0<=y/\y<=100)(hc:0<=c/\c<40){a:List Rect}(ha:W6 a)(ht:WV (We l y c a)=false):HL (We l y c a):=by
 obtain ⟨W,Y⟩:=Q4x ht;have O:∀ g ∈ l,∀ x G,Q2 (Wa y a g).g_.t_ x G=true->Q2 g.g_.t_ x G=true:=fun g _ x G q=>(Ma g y a q).1
 refine ⟨W,fun f s=>?_,Z2U h.asc y c a,?_⟩
 .have b:=Y f s
  obtain ⟨s,o⟩:=xz.1 s;rcases s with s|rfl
  .obtain ⟨g,t,J,rfl⟩:=Sb.1 s
   obtain ⟨V,Z,T,R,g5,X⟩:=(UP g).1 (h.one g t);unfold Wa at o b ⊢
   split at o <;> rename_i B
   .rw [if_pos B] at b ⊢
    rw [UP];simp only at b o ⊢
    exact ⟨V,Z,T,R,o,Pn (G3.cn (Pt _ _)) b X.2.1 fun u v q=>by rw [y8 (Pt _ _),Bool.and_eq_true] at q;exact q.1⟩
   .rw [if_neg B];exact h.one g t
  .rw [UP]
   simp only at b o ⊢;refine ⟨hy.1,hy.2,hc.1,hc.2,o,?_⟩
   unfold vA at b o ⊢;split at o <;> rename_i Q
   .rename_i g
    rw [Q] at b;simp only at b
    have p:=Ve g.g_.t_ a 1;simp only [K2,if_true] at p
    refine Pn (G3.cn p) b (a:=g.g_.t_++a) (fun r A=>?_) fun u v q=>?_
    .rcases List.mem_append.1 A with A|A
     .exact (h.val (List.mem_of_find?_eq_some Q)).2.1 r A
     .exact ha.2.1 r A
    .rw [y8 p] at q
     rw [Q1q];exact q
   .exact ha
 .unfold NX
  have z:∀ {f g:Rg_},(f.y_=g.y_->QV f.g_ g.g_=false)->(g.y_=f.y_->QV g.g_ f.g_=false):=fun {f g} q m=>by rw [Q8Z];exact q m.symm
  refine ((xy l y c a).pairwise_iff z).1 (List.Pairwise.filter _ ?_);rw [List.pairwise_append]
  refine ⟨?_,List.pairwise_singleton _ _,fun f s g t m=>?_⟩
  .unfold QY
   rw [List.pairwise_map,List.pairwise_filter];have hn:=List.pairwise_iff_getElem.1 h.nx
   rw [List.pairwise_iff_getElem];intro i j N P K _ _ m
   have e:∀ f:Rg_,(Wa y a f).y_=f.y_:=fun f=>congrArg Prod.fst (Pw y a f)
   rw [e,e] at m;have:=yu (h.val (List.getElem_mem N)) (h.val (List.getElem_mem P)) (hn i j N P K m)
   exact Q0L fun u v D I=>this u v (Ma _ y a D).1 (Ma _ y a I).1
  .rw [List.mem_singleton] at t
   subst t;obtain ⟨g,t,J,rfl⟩:=Sb.1 s
   have e:(Wa y a g).y_=g.y_:=congrArg Prod.fst (Pw y a g);rw [e] at m
   simp only at m;refine Q0L fun u v D I=>?_
   obtain ⟨S,U⟩:=Ma _ y a D;rcases kj.1 I with C|⟨k,M,C⟩
   .rw [U m] at C;cases C
   .have E:=List.mem_of_find?_eq_some M
    have w:=(jB y c k).1 (List.find?_some M);refine h.apart t E (by rw [m,w.1]) (fun H=>?_) u v S C
    rw [<-Bool.not_eq_true,jB] at J;exact J ⟨m,by rw [H,w.2]⟩
theorem HL.nil:HL []:=⟨by simp,fun f a=>by simp at a,.nil,.nil⟩
def YK(n:Int):Bool:=decide (97<=n)&&decide (n<=122)
def Uv(n:Int):Bool:=decide (48<=n)&&decide (n<=57)
def Qz(s:ByteArray):Bool:=decide (1<=s.size)&&decide (s.size<=12)&&decide (∀ i,i<s.size->(YK (J0 s (i:Nat))||(!decide (i=0)&&Uv (J0 s (i:Nat))))=true)
theorem ke{F:Nat}{s:ByteArray}(hs:s.size<F)(hs2:s.size<=4294967296):Bd F s=some (Qz s):=by
 unfold Bd;refine J4 (fun z:Int=>∃ i:Nat,z=i/\i<=s.size/\∀ j,j<i->(YK (J0 s (j:Nat))||(!decide (j=0)&&Uv (J0 s (j:Nat))))=true) (fun z=>s.size-z.toNat) (fun c z v u=>?_) ⟨0,rfl,by omega,fun j t=>absurd t (Nat.not_lt_zero j)⟩ (by simp;omega)
 obtain ⟨i,rfl,w,r⟩:=v;unfold kg
 refine Q6 (fun h=>?_) (fun h=>?_)
 .have h:i<s.size:=by simpa using h
  refine Z4 (k:=?_);have p:∀ b:Bool,b=!(YK (J0 s (i:Nat))||(!decide (i=0)&&Uv (J0 s (i:Nat))))->Xd F i c b=some (Qz s):=by
   intro b m;unfold Xd
   refine Q6 (fun a=>?_) (fun a=>?_)
   .rw [a,eq_comm,Bool.not_eq_true'] at m
    congr 1
    symm
    unfold Qz;rw [Bool.and_eq_false_iff]
    right
    rw [decide_eq_false_iff_not];intro o
    rw [o i h] at m;cases m
   .rw [a,eq_comm,Bool.not_eq_false'] at m
    refine Z4 (k:=?_);refine u _ ⟨i+1,by omega,h,fun j t=>?_⟩ (by omega)
    rcases Nat.lt_or_ge j i with e|e
    .exact r j e
    .have:j=i:=by omega
     subst this;exact m
  have k2:∀ l q:Bool,l=YK (J0 s (i:Nat))->q=Uv (J0 s (i:Nat))->Bb F i l c q=some (Qz s):=by
   intro l q a e;unfold Bb
   rw [a,e];refine Q6 (fun f=>?_) (fun f=>?_)
   .have f:YK (J0 s (i:Nat))=false:=by simpa using f
    refine Q6 (fun g=>?_) (fun g=>?_)
    .have g:i=0:=by simpa using g
     refine p _ ?_;rw [f,g];rfl
    .have g:i≠0:=by simpa using g
     refine p _ ?_;rw [f,decide_eq_false g];simp
   .have f:YK (J0 s (i:Nat))=true:=by simpa using f
    refine p _ ?_;rw [f];rfl
  have k1:∀ l:Bool,l=YK (J0 s (i:Nat))->Bc F s i c l=some (Qz s):=by
   intro l a;unfold Bc
   refine Z4 (k:=?_);refine Q6 (fun e=>?_) (fun e=>?_)
   .refine Z4 (k:=?_)
    refine k2 _ _ a ?_;unfold Uv;rw [e,Bool.true_and]
   .refine k2 _ _ a ?_
    unfold Uv;rw [e,Bool.false_and]
  refine Q6 (fun a=>?_) (fun a=>?_)
  .refine Z4 (k:=?_)
   refine k1 _ ?_;unfold YK;rw [a,Bool.true_and]
  .refine k1 _ ?_
   unfold YK;rw [a,Bool.false_and]
 .have h:i=s.size:=by
   have:¬ i<s.size:=by simpa using h
   omega
  subst h;unfold Ln
  refine Q6 (fun a=>?_) (fun a=>?_)
  .unfold Ba
   congr 1
   unfold Qz;have a:1<=s.size:=by have:=of_decide_eq_true a;omega
   rw [decide_eq_true a,decide_eq_true r,Bool.true_and,Bool.and_true,Bool.eq_iff_iff,decide_eq_true_eq,decide_eq_true_eq];omega
  .unfold Ba
   congr 1
   unfold Qz;have a:¬ 1<=s.size:=by have:=of_decide_eq_false a;omega
   rw [decide_eq_false a];rfl
def Wz:List ByteArray:=[(ByteArray.mk #[98,97,114,108,101,121]),(ByteArray.mk #[99,108,111,118,101,114]),(ByteArray.mk #[103,114,97,115,115]),(ByteArray.mk #[109,97,105,122,101]),(ByteArray.mk #[111,97,116,115]),(ByteArray.mk #[114,121,101]),(ByteArray.mk #[118,101,116,99,104]),(ByteArray.mk #[119,104,101,97,116])]
theorem Z1X:∀ i,i<8->Qz (gl Wz i)=true/\(gl Wz i).size<=12:=by decide +kernel
structure CropT (l:List Crop):Prop where
 len:3<=l.length/\l.length<=8
 one:∀ i,i<l.length->(gl l i).n_=gl Wz i/\0<=(gl l i).f_/\(gl l i).f_<=2/\0<=(gl l i).m_/\(gl l i).m_<=31
theorem Q9U{F:Nat}(hF:Q8<=F){t:Tape}(ht:TOk t):∃ t' l,Cy F t=some (t',l)/\TOk t' /\ CropT l:=by
 unfold Q8 at hF;obtain ⟨m,n,M,y,N,n2⟩:=Vc (F:=F) ht (lo:=3) (hi:=8) (by omega) (by omega) (by omega)
 have h:(Wz.take n.toNat).length=n.toNat:=by rw [List.length_take];simp [Wz];omega
 have s:∀ (k f i:Nat) (t:Tape) (c:List Crop),i+k=n.toNat->k<f->TOk t->c.length=i->(∀ j,j<i->(gl c j).n_=gl Wz j/\0<=(gl c j).f_/\(gl c j).f_<=2/\0<=(gl c j).m_/\(gl c j).m_<=31) ->
   ∃ t' l,Z7 (fun again (z:Int×(List Int)×Int×(List Crop))=>Pf F (m,n) again z.1 z.2.1 z.2.2.1 z.2.2.2) f ((i:Int),t.l_,t.at_,c)=some (t',l)/\TOk t' /\ CropT l:=by
  intro k
  induction k with
  | zero=>
   intro f i t c o H ht r g
   cases f with
   | zero=>omega
   | succ f=>
    refine ⟨⟨t.l_,t.at_⟩,c,?_,ht,⟨by omega,fun j v=>g j (by omega)⟩⟩;show Pf F (m,n) _ (i:Int) t.l_ t.at_ c=_
    unfold Pf;refine Z3 ?_ rfl
    show decide ((i:Int)<(((Wz.take n.toNat).length:Nat):Int))=false;rw [h];exact decide_eq_false (by omega)
  | succ k ih=>
   intro f i t c o H ht r g
   cases f with
   | zero=>omega
   | succ f=>
    obtain ⟨P,a,C,A,K,O⟩:=QL (F:=F) ht (n:=3) (by omega) (by omega);obtain ⟨E,b,B,J,R,Q⟩:=QL (F:=F) A (n:=8) (by omega) (by omega)
    have I:∀ j,j<8->0<=gl ([0,0,0,2,20,8,1,31]:List Int) j/\gl ([0,0,0,2,20,8,1,31]:List Int) j<=31:=by decide
    have u:gl (Wz.take n.toNat) i=gl Wz i:=by simp [gl,List.getD_eq_getElem?_getD,show i<n.toNat from by omega]
    obtain ⟨t',l,q,w,p⟩:=ih f (i+1) E (c++[⟨gl (Wz.take n.toNat) i,a,gl ([0,0,0,2,20,8,1,31]:List Int) b.toNat⟩]) (by omega) (by omega) J (by simp [r]) (fun j v=>by
     rcases Nat.lt_or_ge j i with x|x
     .have e:gl (c++[(⟨gl (Wz.take n.toNat) i,a,gl ([0,0,0,2,20,8,1,31]:List Int) b.toNat⟩:Crop)]) j=gl c j:=by simp [gl,List.getD_eq_getElem?_getD,List.getElem?_append_left (show j<c.length by omega)]
      rw [e];exact g j x
     .have:j=c.length:=by omega
      subst this;have e:gl (c++[(⟨gl (Wz.take n.toNat) i,a,gl ([0,0,0,2,20,8,1,31]:List Int) b.toNat⟩:Crop)]) c.length=⟨gl (Wz.take n.toNat) i,a,gl ([0,0,0,2,20,8,1,31]:List Int) b.toNat⟩:=by simp [gl,List.getD_eq_getElem?_getD]
      rw [e];obtain ⟨D,G⟩:=I b.toNat (by omega)
      refine ⟨by simp only;rw [u,r],K,by simp only;omega,D,G⟩)
    refine ⟨t',l,?_,w,p⟩;show Pf F (m,n) _ (i:Int) t.l_ t.at_ c=_
    unfold Pf;refine Z9 ?_ (Q7 ?_ (Q4 C (Q4 B (Q7 ?_ (Q7 ?_ (Q7 (W2 (by omega) (by omega)) ?_))))))
    .show decide ((i:Int)<(((Wz.take n.toNat).length:Nat):Int))=true
     rw [h];exact decide_eq_true (by omega)
    .show 0<=(i:Int)/\(i:Int)<(((Wz.take n.toNat).length:Nat):Int)
     rw [h];omega
    .simp only [List.length_cons,List.length_nil];omega
    .simp only [Y5,List.length_cons,List.length_nil];omega
    .exact q
 obtain ⟨t',l,q,w,p⟩:=s n.toNat F 0 m [] (by omega) (by omega) y rfl (fun j v=>absurd v (Nat.not_lt_zero j));refine ⟨t',l,?_,w,p⟩
 unfold Cy;refine Q4 M (Q7 ?_ q)
 simp only [List.length_cons,List.length_nil];omega
structure HisT (K:Int) (l:List Rg_):Prop where
 hl:HL l
 box:∀ f ∈ l,Qw 9 f.g_.t_
 crop:∀ f ∈ l,f.c_<K
theorem HisT.nil(K:Int):HisT K []:=⟨HL.nil,fun f a=>by simp at a,fun f a=>by simp at a⟩
theorem Mg{n:Int}{l:List Rect}(hb:Qw n l){u v:Int}(h:Q2 l u v=true):0<=u/\u<n/\0<=v/\v<n:=by
 obtain ⟨r,a,b⟩:=(QA _ _ _).1 h;have:=hb r a
 rw [Qh] at b;omega
theorem HisT.add{K:Int}{l:List Rg_}(h:HisT K l){y c:Int}(hy:0<=y/\y<=100)(hc:0<=c/\c<40)(hk:c<K){a:List Rect}(ha:W6 a)(hb:Qw 9 a)(ht:WV (We l y c a)=false):HisT K (We l y c a):=by
 have m:=h.hl.add hy hc ha ht;refine ⟨m,fun f b=>?_,fun f b=>?_⟩
 .refine (m.val b).2.2.box fun u v j=>?_
  obtain ⟨b,_⟩:=xz.1 b;rcases b with b|rfl
  .obtain ⟨g,i,_,rfl⟩:=Sb.1 b
   exact Mg (h.box g i) (Ma g y a j).1
  .rcases kj.1 j with k|⟨g,i,k⟩
   .exact Mg hb k
   .exact Mg (h.box g (List.mem_of_find?_eq_some i)) k
 .obtain ⟨b,_⟩:=xz.1 b
  rcases b with b|rfl
  .obtain ⟨g,i,_,rfl⟩:=Sb.1 b
   have:=congrArg Prod.snd (Pw y a g)
   have e:(Wa y a g).c_=g.c_:=this;rw [e];exact h.crop g i
  .exact hk
theorem Q3r{l:List Rg_}(h:HL l){y c:Int}(hy:0<=y/\y<=100)(hc:0<=c/\c<40){a:Re_}(ha:W6 a.t_):addH l y c a=if WV (We l y c a.t_)=true then ([],1) else (We l y c a.t_,0):=by
 unfold addH;rw [if_neg (by rw [(FJ _).2 h];simp),if_neg (by omega),if_neg (by omega),if_neg (by rw [WJ ha];simp)]
theorem HisT.addH{K:Int}{l:List Rg_}(h:HisT K l){y c:Int}(hy:0<=y/\y<=100)(hc:0<=c/\c<40)(hk:c<K){a:Re_}(ha:RegT 9 a):HisT K (addH l y c a).1:=by
 rw [Q3r h.hl hy hc ha.val];split
 .exact HisT.nil K
 .rename_i b
  exact h.add hy hc hk ha.val ha.box (by simpa using b)
def U4(l:List Rg_)(y:Int)(p:Int->Bool):List Rect:=(l.filter fun f=>decide (f.y_=y)&&p f.c_).flatMap fun f=>f.g_.t_
theorem MD{l:List Rg_}{y:Int}{p:Int->Bool}{u v:Int}:Q2 (U4 l y p) u v=true↔∃ f ∈ l,f.y_=y/\p f.c_=true/\Q2 f.g_.t_ u v=true:=by
 rw [QA];unfold U4
 constructor
 .rintro ⟨r,a,h⟩
  obtain ⟨f,b,a⟩:=List.mem_flatMap.1 a;obtain ⟨i,c⟩:=List.mem_filter.1 b
  rw [Bool.and_eq_true,decide_eq_true_eq] at c;exact ⟨f,i,c.1,c.2,Wy a h⟩
 .rintro ⟨f,b,g,e,h⟩
  obtain ⟨r,a,h⟩:=(QA _ _ _).1 h;exact ⟨r,List.mem_flatMap.2 ⟨f,List.mem_filter.2 ⟨b,by rw [Bool.and_eq_true,decide_eq_true_eq];exact ⟨g,e⟩⟩,a⟩,h⟩
theorem MC(l:List Rg_)(x:Rg_)(y:Int)(p:Int->Bool):U4 (l++[x]) y p=U4 l y p++(if (decide (x.y_=y)&&p x.c_)=true then x.g_.t_ else []):=by
 unfold U4;rw [List.filter_append,List.flatMap_append]
 congr 1
 cases h:(decide (x.y_=y)&&p x.c_) with
 | true=>simp [h]
 | false=>simp [h]
theorem Q4l{l:List Rg_}(h:HL l)(y:Int)(p:Int->Bool):∀ i,i<=l.length->(U4 (l.take i) y p).length<=120*i:=by
 intro i
 induction i with
 | zero=>intro _;rw [List.take_zero];exact Nat.le_refl _
 | succ i ih=>
  intro a;rw [QD (show i<l.length by omega),MC,List.length_append]
  have:=ih (by omega)
  have b:=(h.val (V4 (show i<l.length by omega))).1;split
  .omega
  .simp only [List.length_nil];omega
theorem Z0u{F:Nat}(hF:Q8<=F){l:List Rg_}(h:HL l)(y:Int){q:Int->Option Bool}(p:Int->Bool)(hq:∀ f ∈ l,q f.c_=some (p f.c_)):CL F l y q=some (U4 l y p):=by
 have v:=hF;unfold Q8 at hF
 have s:=h.len;unfold CL
 refine J4 (fun z:Int×List Rect=>∃ i:Nat,z=((i:Int),U4 (l.take i) y p)/\i<=l.length) (fun z=>l.length-z.1.toNat) (fun c z u r=>?_) ⟨0,rfl,by omega⟩ (by simp only;omega);obtain ⟨i,rfl,w⟩:=u
 simp only at r ⊢;unfold Q1s
 simp only [Int.toNat_natCast];refine Q6 (fun g=>?_) (fun g=>?_)
 .have g:i<l.length:=by simpa using g
  refine Z4 (k:=?_);have x:=(h.val (V4 g)).1
  have t:=Q4l h y p i (by omega);have e:=MC (l.take i) (gl l i) y p
  rw [<-QD g] at e;have j:∀ m,m=U4 (l.take (i+1)) y p->HA F i c m=some (U4 l y p):=by
   rintro m rfl;unfold HA
   refine Z4 (k:=?_);exact r _ ⟨i+1,rfl,g⟩ (by simp only;omega)
  have k1:∀ b:Bool,b=(decide ((gl l i).y_=y)&&p (gl l i).c_)->HB F l i (U4 (l.take i) y p) c b=some (U4 l y p):=by
   intro b o;unfold HB
   simp only [Int.toNat_natCast];refine Q6 (fun a=>?_) (fun a=>?_)
   .refine Q7 (by simp only [Y5];omega) (j _ ?_)
    rw [e,if_pos (by rw [<-o,a])]
   .refine j _ ?_
    rw [e,if_neg (by rw [<-o,a];simp),List.append_nil]
  refine Q6 (fun a=>?_) (fun a=>?_)
  .have a:(gl l i).y_=y:=by simpa using a
   refine Q4 (hq _ (V4 g)) (k1 _ ?_);rw [decide_eq_true a,Bool.true_and]
  .have a:¬ (gl l i).y_=y:=by simpa using a
   refine k1 _ ?_;rw [decide_eq_false a,Bool.false_and]
 .have g:i=l.length:=by
   have:¬ i<l.length:=by simpa using g
   omega
  subst g;unfold vj
  rw [List.take_length]
theorem Z2T(l:List Rg_)(y c:Int)(a:List Rect):(We l y c a).length<=l.length+1:=by
 rw [<-(xy l y c a).length_eq];have b:=List.length_filter_le Zn (QY l y c a++[(⟨y,c,⟨vA l y c a⟩⟩:Rg_)])
 have e:=jI l y c a;simp only [List.length_append,List.length_cons,List.length_nil] at b
 omega
theorem HisT.addH_len{K:Int}{l:List Rg_}(h:HisT K l){y c:Int}(hy:0<=y/\y<=100)(hc:0<=c/\c<40){a:Re_}(ha:RegT 9 a):(Go.Ab.addH l y c a).1.length<=l.length+1:=by
 rw [Q3r h.hl hy hc ha.val];split
 .simp
 .exact Z2T l y c a.t_
theorem Q9Q{F:Nat}(hF:Q8<=F){t:Tape}(ht:TOk t){cs:List Crop}(hcs:CropT cs){most:Int}(m1:0<=most)(m2:most<=50):∃ t' l,Cw F t cs 4 most=some (t',l)/\TOk t' /\ HisT (cs.length:Nat) l/\(l.length:Int)<=most:=by
 have b:=hF;unfold Q8 at hF
 obtain ⟨M,q⟩:=hcs.len;obtain ⟨G,c,J,u,D,r⟩:=QL (F:=F) ht (n:=most+1) (by omega) (by omega)
 have i:∀ (k f:Nat) (t:Tape) (l:List Rg_),k<f->k<=60->(l.length:Int)+k<=most->TOk t->HisT (cs.length:Nat) l->∃ t' l',Z7 (fun again (z:List Rg_×Int×List Int×Int)=>Cv F cs 4 again z.1 z.2.1 z.2.2.1 z.2.2.2) f (l,(k:Int),t.l_,t.at_)=some (t',l')/\TOk t' /\ HisT (cs.length:Nat) l' /\ (l'.length:Int)<=most:=by
  intro k
  induction k with
  | zero=>
   intro f t l E _ j ht g
   cases f with
   | zero=>omega
   | succ f=>exact ⟨⟨t.l_,t.at_⟩,l,rfl,ht,g,by omega⟩
  | succ k ih=>
   intro f t l E o j ht g
   cases f with
   | zero=>omega
   | succ f=>
    obtain ⟨N,y,A,v,Q,O⟩:=QL (F:=F) ht (n:=5) (by omega) (by omega);obtain ⟨P,c,x,H,D,r⟩:=QL (F:=F) v (n:=(cs.length:Nat)) (by omega) (by omega)
    obtain ⟨w,a,K,B,p⟩:=yI b H (n:=9) (most:=2) (by omega) (by omega) (by omega) (by omega);have s:=g.addH_len (y:=y) (c:=c) (by omega) (by omega) p
    obtain ⟨I,q,e,m,h⟩:=ih f w (addH l y c a).1 (by omega) (by omega) (by omega) B (g.addH (by omega) (by omega) r p);refine ⟨I,q,?_,m,h⟩
    show Cv F cs 4 _ l ((k+1:Nat):Int) t.l_ t.at_=_;unfold Cv
    refine Z9 (by simp) ?_;refine Z4 (k:=?_)
    refine Q4 A (Q4 x (Q4 K (Q4 (Q7O b _ _ _ _) ?_)));refine Z4 (k:=?_)
    have C:((k+1:Nat):Int)-1=(k:Int):=by omega
    rw [C];exact e
 obtain ⟨t',l,e,m,h⟩:=i c.toNat F G [] (by omega) (by omega) (by simp;omega) u (HisT.nil _);refine ⟨t',l,?_,m,h⟩
 unfold Cw;refine Z4 (k:=?_)
 refine Q4 J ?_;have:(c.toNat:Int)=c:=by omega
 rw [this] at e;exact e
def Zo(cs:List Crop)(c m:Int):Bool:=decide (0<=c)&&(decide (c<(cs.length:Nat))&&((m != 0)&&(QN .i64 (gl cs c.toNat).m_ m==m)))
theorem xa(F:Nat)(cs:List Crop)(c m:Int):Px F cs c m=some (Zo cs c m):=by
 unfold Px Zo;refine Q6 (fun b=>?_) (fun b=>?_)
 .rw [b,Bool.true_and]
  refine Q6 (fun a=>?_) (fun a=>?_)
  .rw [a,Bool.true_and]
   have b:=of_decide_eq_true b;have a:=of_decide_eq_true a
   refine Q6 (fun e=>?_) (fun e=>?_)
   .rw [e,Bool.true_and];exact Q7 ⟨b,a⟩ rfl
   .rw [e];rfl
  .rw [a];rfl
 .rw [b];rfl
theorem Q4m{K:Int}{l:List Rg_}(h:HisT K l)(y:Int)(p:Int->Bool):∀ i,i<=l.length->(U4 (l.take i) y p).length<=45*i:=by
 intro i
 induction i with
 | zero=>intro _;rw [List.take_zero];exact Nat.le_refl _
 | succ i ih=>
  intro b;have a:=V4 (show i<l.length by omega)
  rw [QD (show i<l.length by omega),MC,List.length_append];have:=ih (by omega)
  have c:=G3.half (h.hl.val a).2.2 (n:=9) (h.box _ a);split
  .omega
  .simp only [List.length_nil];omega
structure FewR (l:List Rg_):Prop where
 hl:HL l
 few:∀ y p i,i<l.length->(U4 (l.take i) y p).length<=300
theorem Z2n{l:List Rect}(h:l.length<=300):(cn (Q2 l)).length<=180000:=by
 have b:=xf l;have a:2*l.length*l.length<=2*300*300:=Nat.mul_le_mul (Nat.mul_le_mul_left 2 h) h
 omega
theorem Z2m{l:List Rect}(hp:∀ r ∈ l,Qg r=true):∀ r ∈ cn (Q2 l),Qg r=true:=HF (G3.cn (V8 l)) hp fun u v a=>by rw [y8 (V8 l)] at a;exact a
def ZU(cs:List Crop)(k m c:Int):Bool:=(decide (k<0)||decide ((gl cs c.toNat).f_=k))&&(decide (m=0)||(QN .i64 (gl cs c.toNat).m_ m==m))
theorem Dn{F:Nat}(hF:Q8<=F){l:List Rg_}(h:FewR l)(cs:List Crop)(y k m:Int)(hc:(k<0/\m=0)\/∀ f ∈ l,f.c_<(cs.length:Nat)):JK F l cs y k m=some (cn (Q2 (U4 l y (ZU cs k m)))):=by
 have E:=hF;unfold Q8 at hF
 have J:=h.hl.len;unfold JK
 refine J4 (fun z:List Rect×Int=>∃ i:Nat,z=(cn (Q2 (U4 (l.take i) y (ZU cs k m))),(i:Int))/\i<=l.length) (fun z=>l.length-z.2.toNat) (fun j z O I=>?_) ⟨0,?_,by omega⟩ (by simp only;omega)
 .obtain ⟨i,rfl,P⟩:=O
  simp only at I ⊢;unfold cR
  simp only [Int.toNat_natCast];refine Q6 (fun g=>?_) (fun g=>?_)
  .have g:i<l.length:=by simpa using g
   have G:=h.hl.val (V4 g);have M:=(UP _).1 (h.hl.one _ (V4 g))
   have C:=h.few y (ZU cs k m) i g;have D:∀ r ∈ U4 (l.take i) y (ZU cs k m),Qg r=true:=fun r w=>by
    unfold U4 at w;obtain ⟨f,K,B⟩:=List.mem_flatMap.1 w
    exact (h.hl.val (List.mem_of_mem_take (List.mem_filter.1 K).1)).2.1 r B
   have e:=MC (l.take i) (gl l i) y (ZU cs k m);rw [<-QD g] at e
   have o:∀ s,s=cn (Q2 (U4 (l.take (i+1)) y (ZU cs k m)))->Dp F i j s=some (cn (Q2 (U4 l y (ZU cs k m)))):=by
    rintro s rfl;unfold Dp
    refine Z4 (k:=?_);exact I _ ⟨i+1,rfl,g⟩ (by simp only;omega)
   have k1:∀ b:Bool,b=(decide ((gl l i).y_=y)&&ZU cs k m (gl l i).c_)->UM F l (cn (Q2 (U4 (l.take i) y (ZU cs k m)))) i j b=some (cn (Q2 (U4 l y (ZU cs k m)))):=by
    intro b H;unfold UM
    simp only [Int.toNat_natCast];refine Q6 (fun c=>?_) (fun c=>?_)
    .refine Q4 (JR E (by have:=Z2n C;omega) (by have:=G.1;omega) (Z2m D) G.2.1) (o _ ?_)
     rw [e,if_pos (by rw [<-H,c])];congr 1
     funext u v
     rw [y8 (V8 _),Q1q];simp [K2]
    .refine o _ ?_
     rw [e,if_neg (by rw [<-H,c];simp),List.append_nil]
   refine Z4 (k:=?_);refine Q6 (fun c=>?_) (fun c=>?_)
   .have c:(gl l i).y_=y:=by simpa using c
    have t:¬ (k<0/\m=0)->0<=(gl l i).c_/\(gl l i).c_<((cs.length:Nat):Int):=fun N=>by
     rcases hc with hc|hc
     .exact absurd hc N
     .exact ⟨M.2.2.1,hc _ (V4 g)⟩
    refine Q6 (fun q=>?_) (fun q=>?_)
    .have q:=of_decide_eq_true q
     refine Q6 (fun a=>?_) (fun a=>?_)
     .have a:m=0:=by simpa using a
      refine k1 _ ?_;unfold ZU
      rw [decide_eq_true c,decide_eq_true q,decide_eq_true a];rfl
     .have a:m≠0:=by simpa using a
      obtain ⟨A,x⟩:=t (by omega);refine Q7 ⟨A,x⟩ (k1 _ ?_)
      unfold ZU;rw [decide_eq_true c,decide_eq_true q,decide_eq_false a];rfl
    .have q:=of_decide_eq_false q
     obtain ⟨A,x⟩:=t (by omega);refine Q7 ⟨A,x⟩ (Q6 (fun p=>?_) (fun p=>?_))
     .have p:(gl cs (gl l i).c_.toNat).f_=k:=by simpa using p
      refine Q6 (fun a=>?_) (fun a=>?_)
      .have a:m=0:=by simpa using a
       refine k1 _ ?_;unfold ZU
       rw [decide_eq_true c,decide_eq_true p,decide_eq_true a];simp
      .have a:m≠0:=by simpa using a
       refine Q7 ⟨A,x⟩ (k1 _ ?_);unfold ZU
       rw [decide_eq_true c,decide_eq_true p,decide_eq_false a];simp
     .have p:¬ (gl cs (gl l i).c_.toNat).f_=k:=by simpa using p
      refine k1 _ ?_;unfold ZU
      rw [decide_eq_false q,decide_eq_false p];simp
   .have c:¬ (gl l i).y_=y:=by simpa using c
    refine k1 _ ?_;rw [decide_eq_false c,Bool.false_and]
  .have g:i=l.length:=by
    have:¬ i<l.length:=by simpa using g
    omega
   subst g;unfold zu
   rw [List.take_length]
 .have:cn (Q2 (U4 (l.take 0) y (ZU cs k m)))=[]:=(PB (V8 _)).2 fun u v=>by rw [List.take_zero];rfl
  rw [this];rfl
end
end Go.Ab
