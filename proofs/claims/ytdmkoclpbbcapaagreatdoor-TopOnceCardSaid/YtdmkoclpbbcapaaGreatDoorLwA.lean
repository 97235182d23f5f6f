/- What the plain programs compute, up to the law itself. -/
import Derived.Test.YtdmkoclpbbcapaaGreatDoorPuB
set_option linter.unusedVariables false
set_option linter.unusedSimpArgs false
set_option maxRecDepth 20000
namespace Go.Ab
noncomputable section
variable {F i k N:Nat}{l m a b out:List Rect}{f:Rg_}{g:Rect->Int}{v y n how most c u K:Int}{ag:(Int×List Rect×List Rect)->Option (List Rect)}{xs ys:List Int}{r:Rect}{S:Int->Int->Bool}{q:Bool->Bool->Option Bool}{t:Tape}{L:List A2_}{gs:List (Int×List Rg_)}
def put:List Int->Int->List Int
 |[],n=>[n]
 |a::l,n=>if a<n then a::put l n else if a=n then a::l else n::a::l
theorem Z0s(n:Int)(l:List Int)(i:Nat)(h:i<l.length)(hlt:gl l i<n):put (l.drop i) n=gl l i::put (l.drop (i+1)) n:=by
 rw[Zy h,put,Qa2 hlt]
theorem Tk(hF:Q6<=F){l:List Int}(hl:l.length<=1048576)(n:Int):Gk F l n=some (put l n):=by
 unfold Q6 at hF;unfold Gk
 refine z5 (λz:Int=>∃i:Nat,z=i/\i<=l.length/\put l n=l.take i++put (l.drop i) n) (λz=>l.length-z.toNat) (λd z f e=>?_) ⟨0,rfl,by simp,by simp⟩ (by simp;omega);obtain⟨i,rfl,j,b⟩:=f
 have k2:(∀h:i<l.length,n<=gl l i)->Tl F l n (i:Int)=some (put l n):=by
  intro c;unfold Tl
  refine Z6 (λh=>?_) (λh=>?_)
  .have h:i<l.length:=by simpa using h
   have c:=c h;refine Z5 (k:=?_)
   unfold DE;rw[Zy h,put]at b
   refine Z6 (λa=>?_) (λa=>?_)
   .have a:gl l i=n:=by simpa using a
    rw[b,Qa1 (by omega),Qa2 a, <-Zy h,Qg8]
   .have a:gl l i≠n:=by simpa using a
    repeat(refine Z5 (k:=?_))
    rw[b,Qa1 (by omega),Qa1 a, <-Zy h];simp
  .have h:¬i<l.length:=by simpa using h
   unfold DE;refine Z4 rfl ?_
   repeat(refine Z5 (k:=?_))
   have:i=l.length:=by omega
   subst this;simp[put]at b
   simp[b]
 unfold Q0h;refine Z6 (λh=>?_) (λh=>?_)
 .have h:i<l.length:=by simpa using h
  refine Z5 (k:=?_);unfold DF
  refine Z6 (λa=>?_) (λa=>?_)
  .have a:gl l i<n:=by simpa using a
   refine Z5 (k:=?_);refine e _ ⟨i+1,by omega,h,?_⟩ (by omega)
   rw[b,Z0s n l i h a,Qr h,Qh6];rfl
  .exact k2 λ_=>by simpa using a
 .unfold DF
  exact Z4 rfl (k2 λg=>absurd g (by simpa using h))
def QQ(r:Rect):Bool:=decide (0<=r.L_)&&(decide (r.L_<r.R_)&&(decide (r.R_<=16384)&&(decide (0<=r.w_)&&(decide (r.w_<r.H_)&&decide (r.H_<=16384)))))
theorem Yr(r:Rect):QQ r=true↔0<=r.L_/\r.L_<r.R_/\r.R_<=16384/\0<=r.w_/\r.w_<r.H_/\r.H_<=16384:=by simp[QQ]
theorem bL(F:Nat)(r:Rect):XW F r=some (QQ r):=by
 unfold XW;rw[Yy (Vk F),Yy (Vk F),Yy (Vk F),Yy (Vk F),Yy (Vk F)]
 rfl
def Qn(a b:Bool)(how:Int):Bool:=if how=1 then a||b else if how=2 then a&&b else a && !b
theorem Q9X(F:Nat)(a b:Bool)(how:Int):SX F a b how=some (Qn a b how):=by
 unfold SX Qn;rw[Q3E,Q3E]
 by_cases h1:how=1
 .subst h1;cases a<;>cases b<;>rfl
 .by_cases h2:how=2
  .subst h2;cases a<;>cases b<;>rfl
  .have c:(how==1)=false:=by simpa using h1
   have d:(how==2)=false:=by simpa using h2
   rw[c,d,Qa1 h1,Qa1 h2]
   cases a<;>cases b<;>rfl
theorem bN(hF:Q6<=F)(hl:l.length<=Z9)(x y:Int):Dx F l x y=some (Q2 l x y):=by
 unfold Q6 at hF;unfold Z9 at hl
 unfold Dx;refine Q0l (l:=l) (λm=>some (Q2 m x y)) (λa i c b=>?_) (λa=>?_) (by omega)
 .unfold zD
  refine Y9 (Vo c) ?_;refine Z5 (k:=?_)
  rw[Yy (Jc F i a),Yy (Jc F i a),Yy (Jc F i a)];unfold Jc
  have e:Q2 (gl l i::l.drop (i+1)) x y=((gl l i).has x y||Q2 (l.drop (i+1)) x y):=rfl;rw[e]
  have d:(decide ((gl l i).L_<=x)&&(decide (x<(gl l i).R_)&&(decide ((gl l i).w_<=y)&&decide (y<(gl l i).H_))))=(gl l i).has x y:=by
   simp only[Rect.has,Bool.and_assoc]
  show br (decide ((gl l i).L_<=x)&&(decide (x<(gl l i).R_)&&(decide ((gl l i).w_<=y)&&decide (y<(gl l i).H_)))) _ _=_;rw[d]
  refine Z6 (λh=>by rw[h];rfl) (λh=>?_);refine Z5 (k:=?_)
  rw[b,h,Qk0]
 .unfold zD
  exact Z4 (Us _) rfl
def VJ:List Rect->List Rect->Bool
 |[],[]=>true
 |a::l,b::m=>(a.L_==b.L_&&a.R_==b.R_)&&VJ l m
 |_,_=>false
theorem jV:∀{l m:List Rect},VJ l m=true->l.length=m.length
 |[],[],_=>rfl
 |[],_::_,h=>by cases h
 |_::_,[],h=>by cases h
 |a::l,b::m,h=>by
  simp only[VJ,Qa4]at h;simp[jV h.2]
theorem Q8s:∀(l m:List Rect),l.length=m.length->∀i,i<=l.length->VJ (l.drop i) (m.drop i)=if h:i<l.length then(((gl l i).L_==(gl m i).L_&&(gl l i).R_==(gl m i).R_)&&VJ (l.drop (i+1)) (m.drop (i+1)))else true:=by
 intro l m h i b;split
 .rename_i a
  rw[Zy a,Zy (l:=m) (by omega)];rfl
 .have:i=l.length:=by omega
  rw[Qe8 (by omega),Qe8 (by omega)];rfl
theorem Q9V(hF:Q6<=F)(hl:l.length<=Z9):SW F l m=some (VJ l m):=by
 unfold Q6 at hF;unfold Z9 at hl
 unfold SW;refine Z6 (λh=>?_) (λh=>?_)
 .have h:l.length≠m.length:=by simp at h;omega
  cases hs:VJ l m with
  |false=>rfl
  |true=>exact absurd (jV hs) h
 .have h:l.length=m.length:=by simp at h;omega
  refine z5 (λz:Int=>∃i:Nat,z=i/\i<=l.length/\VJ l m=VJ (l.drop i) (m.drop i)) (λz=>l.length-z.toNat) (λf z n j=>?_) ⟨0,rfl,by simp,by simp⟩ (by simp;omega);obtain⟨i,rfl,g,a⟩:=n
  rw[Q8s l m h i g]at a;unfold bK
  refine Z6 (λb=>?_) (λb=>?_)
  .have b:i<l.length:=by simpa using b
   rw[Qu4 b]at a;refine Z5 (k:=?_)
   refine Z5 (k:=?_);have o:i<m.length:=by omega
   refine Z6 (λd=>?_) (λd=>?_)
   .unfold Dw
    refine Y9 rfl ?_;have d:(gl l i).L_≠(gl m i).L_:=by simpa using d
    have e:((gl l i).L_==(gl m i).L_)=false:=by simpa using d
    rw[a,e];rfl
   .repeat (refine Z5 (k:=?_))
    have d:(gl l i).L_=(gl m i).L_:=by simpa using d
    have e:((gl l i).L_==(gl m i).L_)=true:=by simpa using d
    rw[e,Qe4]at a;unfold Dw
    refine Z6 (λc=>?_) (λc=>?_)
    .have c:(gl l i).R_≠(gl m i).R_:=by simpa using c
     have e:((gl l i).R_==(gl m i).R_)=false:=by simpa using c
     rw[a,e];rfl
    .have c:(gl l i).R_=(gl m i).R_:=by simpa using c
     have e:((gl l i).R_==(gl m i).R_)=true:=by simpa using c
     rw[e,Qe4]at a;refine Z5 (k:=?_)
     exact j _ ⟨i+1,by omega,b,a⟩ (by omega)
  .have b:¬i<l.length:=by simpa using b
   rw[dif_neg b]at a;rw[a];rfl
section
theorem yi(l:List Int)(n v:Int):v∈put l n↔v=n\/v∈l:=by
 induction l with
 |nil=>simp[put]
 |cons a l ih=>
  unfold put
  grind
theorem Q3N{l:List Int}(h:Yg l)(n:Int):Yg (put l n):=by
 induction l with
 |nil=>exact Qe6 _ _
 |cons a l ih=>
  obtain⟨e,c⟩:=Qd2.1 h;unfold put
  split
  .rename_i d
   refine Qd2.2 ⟨λv b=>?_,ih c⟩;rcases(yi l n v).1 b with rfl|b
   all_goals grind
  .split
   .exact h
   .refine Qd2.2 ⟨λv b=>?_,h⟩
    grind
theorem Pg(l:List Int)(n:Int):(put l n).length<=l.length+1:=by
 induction l with
 |nil=>simp[put]
 |cons a l ih=>
  unfold put
  grind
def Zb(l:List Rect)(xs:List Int):List Int:=l.foldl (λxs r=>put (put xs r.L_) r.R_) xs
def Zz(l:List Rect)(ys:List Int):List Int:=l.foldl (λys r=>put (put ys r.w_) r.H_) ys
theorem Ub{f:Rect->Int}(l:List Rect):∀{xs:List Int},Yg xs->Yg (l.foldl (λxs r=>put (put xs (f r)) (g r)) xs):=by
 induction l with
 |nil=>intro xs h;exact h
 |cons r l ih=>intro xs h;exact ih (Q3N (Q3N h _) _)
theorem ZJ{f:Rect->Int}(l:List Rect):∀(xs:List Int) (v:Int),v∈l.foldl (λxs r=>put (put xs (f r)) (g r)) xs↔v∈xs\/∃r∈l,v=f r\/v=g r:=by
 induction l with
 |nil=>intro xs v;simp
 |cons r l ih=>
  intro xs v;rw[Qr0,ih,yi,yi]
  grind
theorem Py{f:Rect->Int}(l:List Rect):∀(xs:List Int),(l.foldl (λxs r=>put (put xs (f r)) (g r)) xs).length<=xs.length+2*l.length:=by
 induction l with
 |nil=>intro xs;simp
 |cons r l ih=>
  intro xs;have b:=ih (put (put xs (f r)) (g r))
  have a:=Pg (put xs (f r)) (g r);have c:=Pg xs (f r)
  grind
section
variable {F:Nat}
theorem Q2W(hF:Q6<=F)(hv:0<=v/\v<=1)(hl:gl [a,b] v.toNat=l){ag:(List Int×List Int×Int)->Option (List Rect)}{y:Option (List Rect)}(hx:xs.length+2*l.length<=1000000)(hy:ys.length+2*l.length<=1000000)(h:ag (Zb l xs,Zz l ys,v+1)=y):Y3 (λagain (z:List Int×List Int×Int)=>zK F a b v ag again z.1 z.2.1 z.2.2) F (xs,ys,0)=y:=by
 have d:=hF;unfold Q6 at hF
 refine z5 (λz:List Int×List Int×Int=>∃j:Nat,z.2.2=j/\j<=l.length/\Zb (l.drop j) z.1=Zb l xs/\Zz (l.drop j) z.2.1=Zz l ys/\z.1.length+2*(l.length-j)<=1000000/\z.2.1.length+2*(l.length-j)<=1000000)
  (λz=>l.length-z.2.2.toNat) (λagain z q p=>?_) ⟨0,rfl,by omega,by simp,by simp,by simpa using hx,by simpa using hy⟩ (by simp;omega)
 obtain⟨i,g,w⟩:=z;obtain⟨j,m,r,e,f,n,o⟩:=q
 simp only at m e f n o;subst m
 unfold zK;simp only[hl,Qa3]
 refine Z6 (λc=>?_) (λc=>?_)
 .have c:j<l.length:=by simpa using c
  refine Z5 (k:=?_);have u:=Pg i (gl l j).L_
  have t:=Pg (put i (gl l j).L_) (gl l j).R_;have x:=Pg g (gl l j).w_
  have s:=Pg (put g (gl l j).w_) (gl l j).H_;refine Q4 (Tk d (by omega) _) ?_
  refine Q4 (Tk d (by omega) _) ?_;refine Q4 (Tk d (by omega) _) ?_
  refine Q4 (Tk d (by omega) _) ?_;refine Z5 (k:=?_)
  refine p _ ⟨j+1,rfl,by omega,?_,?_,by simp only;omega,by simp only;omega⟩ (by simp only;omega)
  .rw [<-e,Zy c];rfl
  .rw [<-f,Zy c];rfl
 .have c:¬j<l.length:=by simpa using c
  have:j=l.length:=by omega
  subst this;rw[Qh4]at e f
  unfold zG;refine Z5 (k:=?_)
  have e:i=Zb l xs:=e;have f:g=Zz l ys:=f
  rw[e,f];exact h
theorem vx(lo hi:Int):z9 ⟨lo,hi,[]⟩=[]:=rfl
theorem CB(lo hi:Int)(l:List Span)(s:Span):z9 ⟨lo,hi,l++[s]⟩=z9 ⟨lo,hi,l⟩++[⟨s.L_,lo,s.R_,hi⟩]:=by simp[z9]
theorem YQ(b:Rn (List Span)):(z9 b).length=b.v.length:=by simp[z9]
theorem GF{α:Type}[Emb α](l:List α)(x:α){n:Nat}(h:n=l.length):gl (l++[x]) n=x:=by subst h;simp[gl,Qa0]
theorem RE{α:Type}(l:List α)(x y:α){n:Nat}(h:n=l.length):(l++[x]).set n y=l++[y]:=by subst h;simp
theorem Z4T(hF:Q6<=F){ag:(Int×List Rect)->Option (List Rect)}{y:Option (List Rect)}(hk:k+1<xs.length)(hx:xs.length<=65536)(hm:m.length<=65536)(h:ag ((k:Int)+1,m++[⟨r.L_,r.w_,gl xs (k+1),r.H_⟩])=y):Kc F xs ys i k (m++[r]) ag true=y:=by
 unfold Q6 at hF;unfold Kc
 refine Y9 rfl ?_;have a:(m++[r]).length=m.length+1:=by simp
 simp only[a];have b:(((m.length+1:Nat):Int)-1).toNat=m.length:=by omega
 have c:((k:Int)+1).toNat=k+1:=by omega
 rw[b,GF _ _ rfl,RE _ _ _ rfl,c]
 repeat(refine Z5 (k:=?_))
 exact h
theorem Z4U(hF:Q6<=F){ag:(Int×List Rect)->Option (List Rect)}{y:Option (List Rect)}(hk:k+1<xs.length)(hi:i+1<ys.length)(hx:xs.length<=65536)(hy:ys.length<=65536)(hm:m.length<=65536)(h:ag ((k:Int)+1,m++[⟨gl xs k,gl ys i,gl xs (k+1),gl ys (i+1)⟩])=y):Kc F xs ys i k m ag false=y:=by
 unfold Q6 at hF;unfold Kc
 refine Z4 rfl ?_;have b:((k:Int)+1).toNat=k+1:=by omega
 have a:((i:Int)+1).toNat=i+1:=by omega
 rw[b,a];simp only[Qa3]
 repeat(refine Z5 (k:=?_))
 exact h
theorem Z4W(hF:Q6<=F)(hi:i+1<ys.length)(hx:xs.length<=65536)(hy:ys.length<=65536)(ha:a.length<=Z9)(hb:b.length<=Z9)(hst:Step false xs fun x=>Qn (Q2 a x (gl ys i)) (Q2 b x (gl ys i)) how){last:List Rect}{y:Option (List Rect)}(h:∀ l:List Span,SpOk l->(∀ x,J8 l x=Qn (Q2 a x (gl ys i)) (Q2 b x (gl ys i)) how)->l.length<=65536->DA F ys i out last ag (z9 ⟨gl ys i,gl ys (i+1),l⟩)=y):
  Y3 (λagain (z:Int×List Rect)=>zI F a b how xs ys i out last ag again z.1 z.2) F (0,[])=y:=by
 have j:=hF;unfold Q6 at hF
 refine z5 (λz:Int×List Rect=>∃(k:Nat) (l:List Span),z=((k:Int),z9 ⟨gl ys i,gl ys (i+1),l⟩)/\l.length<=k/\(k+1<=xs.length\/k=0)/\(0<xs.length->Bst false (λx=>Qn (Q2 a x (gl ys i)) (Q2 b x (gl ys i)) how) (l.map Span.rn) (gl xs k)))
  (λz=>xs.length-z.1.toNat) (λagain z I v=>?_) ⟨0,[],rfl,Qb4 _,.inr rfl,λw=>hst.start w⟩ (by simp;omega)
 obtain⟨k,l,rfl,J,K,f⟩:=I;simp only at v⊢
 unfold zI;refine Z5 (k:=?_)
 refine Z6 (λc=>?_) (λc=>?_)
 .have c:k+1<xs.length:=by simp at c;omega
  have f:=f (by omega);have p:=hst.asc.at_lt (show k<k+1 by omega) c
  simp only[Qa3]
  repeat(refine Z5 (k:=?_))
  refine Q4 (bN j ha _ _) ?_
  repeat(refine Z5 (k:=?_))
  refine Q4 (bN j hb _ _) ?_;refine Q4 (Q9X _ _ _ _) ?_
  have e:=hst.gap k c;refine Z6 (λm=>?_) (λm=>?_)
  .have m:Qn (Q2 a (gl xs k) (gl ys i)) (Q2 b (gl xs k) (gl ys i)) how=false:=by simpa using m
   unfold DB;refine Z5 (k:=?_)
   exact v _ ⟨k+1,l,rfl,by omega,.inl (by omega),λ_=>f.skip (by omega) λt A C=>(e t A C).trans m⟩ (by simp only;omega)
  .have m:Qn (Q2 a (gl xs k) (gl ys i)) (Q2 b (gl xs k) (gl ys i)) how=true:=by simpa using m
   have d:(∀s,l.getLast?=some s->s.R_≠gl xs k)->Kc F xs ys i k (z9 ⟨gl ys i,gl ys (i+1),l⟩) again false=y:=by
    intro D;refine Z4U j c hi hx hy (by rw[YQ];simp only;omega) (v _ ⟨k+1,l++[⟨gl xs k,gl xs (k+1)⟩],by rw[CB];rfl,by simp;omega,.inl (by omega),λ_=>?_⟩ (by simp only;omega))
    have:=f.add p e (λq n E=>by
     rw[List.getLast?_map]at n
     cases g:l.getLast? with
     |none=>rw[g]at n;cases n
     |some s=>rw[g]at n;cases n;exact absurd E (D s g))
    simp only[m]at this;rw[Qd6];exact this
   rcases Qj4 l with rfl|⟨o,s,u⟩
   .refine Z4 (by simp[vx]) ?_
    exact d λs g=>by simp at g
   .rw [Qj5]at u
    subst u;rw[CB]at d⊢
    have r:(z9 ⟨gl ys i,gl ys (i+1),o⟩++[(⟨s.L_,gl ys i,s.R_,gl ys (i+1)⟩:Rect)]).length=o.length+1:=by simp[YQ]
    have G:o.length+1<=k:=by simpa using J
    simp only[r];have H:(((o.length+1:Nat):Int)-1).toNat=o.length:=by omega
    rw[H,GF _ _ (by rw[YQ])];refine Y9 (by simp) ?_
    repeat(refine Z5 (k:=?_))
    by_cases g:s.R_=gl xs k
    .have B:(s.R_==gl xs k)=true:=by simpa using g
     simp only[B];refine Z4T j c hx (by rw[YQ];simp only;omega) (v _ ⟨k+1,o ++ [⟨s.L_,gl xs (k+1)⟩],by rw[CB];rfl,by simp only[Qb7,Qb1,Qc2];omega,.inl (by omega),λ_=>?_⟩ (by simp only;omega))
     rw[Qd6]at f;have:=f.grow (a:=s.rn) g p λt A C=>(e t A C).trans m
     rw[Qd6];exact this
    .have B:(s.R_==gl xs k)=false:=by simpa using g
     simp only[B];exact d λq n=>by simp at n;subst n;exact g
 .have c:¬k+1<xs.length:=by simp at c;omega
  by_cases w:xs.length=0
  .have:k=0:=by omega
   subst this;have:l=[]:=Qe0 (by omega)
   subst this;exact h [] .nil (λx=>(hst.empty w x).symm) (by simp)
  .have f:=f (by omega)
   exact h l (.of_runs f.runs) (λx=>by rw[DZ];exact hst.done (by omega) f x) (by omega)
theorem Z3b{α:Type}[Emb α](l m:List α)(x:α){n:Nat}(h:n=l.length):gl (l++x::m) n=x:=by subst h;simp[gl,Qa0]
theorem Q8i{α:Type}(l m:List α)(x y:α){n:Nat}(h:n=l.length):(l++x::m).set n y=l++y::m:=by subst h;simp
theorem Z4X(hF:Q6<=F)(hi:i+1<ys.length)(hy:ys.length<=65536){lo hi' : Int}{l:List Span}(hl:l.length<=65536){y:Option (List Rect)}(h:ag ((i:Int)+1,out,z9 ⟨lo,gl ys (i+1),l⟩)=y):
  Y3 (λagain (z:Int×List Rect)=>zJ F ys i out (z9 ⟨lo,hi',l⟩) ag again z.1 z.2) F (0,z9 ⟨lo,hi',l⟩)=y:=by
 unfold Q6 at hF;refine z5 (λz:Int×List Rect=>∃j:Nat,z=((j:Int),z9 ⟨lo,gl ys (i+1),l.take j⟩++z9 ⟨lo,hi',l.drop j⟩)/\j<=l.length) (λz=>l.length-z.1.toNat) (λagain z m d=>?_) ⟨0,by simp[z9],by omega⟩ (by simp;omega)
 obtain⟨j,rfl,n⟩:=m;simp only at d⊢
 have f:((i:Int)+1).toNat=i+1:=by omega
 unfold zJ;rw[YQ]
 simp only
 refine Z6 (λa=>?_) (λa=>?_)
 .have a:j<l.length:=by simpa using a
  refine Z5 (k:=?_);refine Z5 (k:=?_)
  have e:l.drop j=l[j]::l.drop (j+1):=Qi3 a;have b:(z9 ⟨lo,gl ys (i+1),l.take j⟩++z9 ⟨lo,hi',l.drop j⟩).length=l.length:=by
   rw[Qb7,YQ,YQ];simp;omega
  refine Q9 (by rw[b];omega) ?_;refine Z5 (k:=?_)
  rw[f];simp only[Qa3]
  have g:z9 ⟨lo,hi',l.drop j⟩=(⟨(l[j]).L_,lo,(l[j]).R_,hi'⟩:Rect)::z9 ⟨lo,hi',l.drop (j+1)⟩:=by rw[e];rfl
  have c:j=(z9 ⟨lo,gl ys (i+1),l.take j⟩).length:=by rw[YQ];simp;omega
  rw[g,Z3b _ _ _ c,Q8i _ _ _ _ c];refine d _ ⟨j+1,?_,a⟩ (by simp only;omega)
  rw[Qq7 a,CB];simp
 .have a:¬j<l.length:=by simpa using a
  have:j=l.length:=by omega
  subst this;unfold zH DC
  refine Z5 (k:=?_);rw[Qe5,Qh4,vx,Qj2]
  exact h
structure RowSt (rowf:Int->List Span) (c:Int) (n:Nat) (out last:List Rect):Prop where
 ex:∃acc,Bst [] rowf acc c/\(∀r∈acc,r.v≠[])/\((last=[]/\out=flat acc/\∀r∈acc,r.hi<c)\/∃acc' b,acc=acc' ++ [b]/\b.hi=c/\last=z9 b/\out=flat acc' /\ b.v.length<=65536)
 len:out.length+last.length<=n*65536
theorem Q1S(a b:List (Rn (List Span))):flat (a++b)=flat a++flat b:=by simp[flat]
theorem Q1Q(b:Rn (List Span)):flat [b]=z9 b:=by simp[flat]
theorem jW(lo hi lo' hi' : Int):∀(l m:List Span),VJ (z9 ⟨lo,hi,l⟩) (z9 ⟨lo',hi',m⟩)=decide (l=m)
 |[],[]=>rfl
 |[],b::m=>rfl
 |a::l,[]=>rfl
 |a::l,b::m=>by
  have e:=jW lo hi lo' hi' l m;have c:z9 ⟨lo,hi,a::l⟩=(⟨a.L_,lo,a.R_,hi⟩:Rect)::z9 ⟨lo,hi,l⟩:=rfl
  have d:z9 ⟨lo',hi',b::m⟩=(⟨b.L_,lo',b.R_,hi'⟩:Rect)::z9 ⟨lo',hi',m⟩:=rfl;rw[c,d,VJ,e]
  cases a;cases b
  grind
theorem Z4S(hF:Q6<=F)(hi:i+1<ys.length)(hy:ys.length<=65536){rowf:Int->List Span}(hst:Step [] ys rowf){last:List Rect}(hR:RowSt rowf (gl ys i) i out last){y:Option (List Rect)}(hlen:(rowf (gl ys i)).length<=65536)(h:∀ out' last',RowSt rowf (gl ys (i+1)) (i+1) out' last' -> ag ((i:Int)+1,out',last')=y):
  DA F ys i out last ag (z9 ⟨gl ys i,gl ys (i+1),rowf (gl ys i)⟩)=y:=by
 have z:=hF;unfold Q6 at hF
 obtain⟨⟨c,A,n,j⟩,p⟩:=hR;have q:=hst.asc.at_lt (show i<i+1 by omega) hi
 have d:=hst.gap i hi;have H:i*65536<=65536*65536:=Qb3 _ (by omega)
 generalize hv:rowf (gl ys i)=v at *;have g:(∀a,c.getLast?=some a->a.hi=gl ys i->a.v≠v)->flat c=out++last->Td F i out last (z9 ⟨gl ys i,gl ys (i+1),v⟩) ag=y:=by
  intro E u;unfold Td DC
  refine Z5 (k:=?_);refine Z5 (k:=?_)
  refine h _ _ ⟨?_,?_⟩
  .by_cases hv0:v=[]
   .subst hv0
    exact⟨c,A.skip (by omega) λt w x=>d t w x,n,.inl ⟨vx _ _,u.symm,λr f=>by have:=A.le r f;omega⟩⟩
   .refine ⟨c++[⟨gl ys i,gl ys (i+1),v⟩],?_,λr f=>?_,.inr ⟨c,_,rfl,rfl,rfl,u.symm,hlen⟩⟩
    .have:=A.add q (λt w x=>(d t w x).trans hv.symm) (λa l B=>by rw[hv];exact E a l B)
     grind
    all_goals grind
  .rw [Qb7,YQ,Qf8];simp only;omega
 unfold DA;rcases j with ⟨rfl,rfl,D⟩|⟨e,b,rfl,G,rfl,rfl,s⟩
 .refine Z4 rfl ?_
  unfold Gj;refine Z4 rfl ?_
  exact g (λa l B=>by have:=D a (List.mem_of_getLast? l);omega) (by simp)
 .have C:b.v≠[]:=n b (by simp)
  have o:0<b.v.length:=by
   grind
  have J:z9 b=z9 ⟨b.lo,b.hi,b.v⟩:=rfl;refine Y9 (by rw[YQ];simpa using o) ?_
  refine Q4 (Q9V z (by rw[YQ];unfold Z9;omega)) ?_;rw[J,jW]
  refine Z6 (λm=>?_) (λm=>?_)
  .have m:b.v=v:=Qa8 m
   refine Q9 (by rw[YQ];simp only;omega) ?_;refine Z5 (k:=?_)
   have K:((gl (z9 ⟨b.lo,b.hi,b.v⟩) (0:Int).toNat).H_==gl ys (i:Int).toNat)=true:=by
    have:gl (z9 ⟨b.lo,b.hi,b.v⟩) (0:Int).toNat=(⟨(b.v[0]).L_,b.lo,(b.v[0]).R_,b.hi⟩:Rect):=by
     have:0<(z9 ⟨b.lo,b.hi,b.v⟩).length:=by rw[YQ];exact o
     show gl (z9 ⟨b.lo,b.hi,b.v⟩) 0=_;rw[Qc this];simp[z9]
    grind
   rw[K];unfold Gj
   refine Y9 rfl ?_;refine Z4X z hi hy s ?_
   have I:=A.grow G q λt w x=>(d t w x).trans m.symm
   refine h _ _ ⟨⟨e ++ [⟨b.lo,gl ys (i+1),b.v⟩],I,λr f=>?_,.inr ⟨e,_,rfl,rfl,rfl,rfl,s⟩⟩,?_⟩
   .rcases Qa9.1 f with f|f
    .exact n r (by simp[f])
    .rw [Qb0.1 f];exact C
   .rw [YQ]at p⊢;rw[Qf8];exact Qc4 p (Nat.le_add_right _ _)
  .have m:b.v≠v:=Qb2 m
   unfold Gj;refine Z4 rfl ?_
   exact g (λa l B=>by rw[List.getLast?_append]at l;simp at l;subst l;exact m) (by rw[Q1S,Q1Q])
theorem Z4V(hF:Q6<=F)(hx:xs.length<=65536)(hy:ys.length<=65536)(ha:a.length<=Z9)(hb:b.length<=Z9)(hG:Grid xs ys λx y=>Qn (Q2 a x y) (Q2 b x y) how):Tb F a b how xs ys=some (cn λx y=>Qn (Q2 a x y) (Q2 b x y) how):=by
 have h:=hF;unfold Q6 at hF
 unfold Tb;have d:=hG.step
 have f:=hG.rows;refine z5 (λz:Int×List Rect×List Rect=>∃(i:Nat),z.1=(i:Int)/\((ys.length=0/\i=0/\z.2.1=[]/\z.2.2=[])\/(i+1<=ys.length/\RowSt (λy=>QV λx=>Qn (Q2 a x y) (Q2 b x y) how) (gl ys i) i z.2.1 z.2.2)))
  (λz=>ys.length-z.1.toNat) (λg z M w=>?_) ⟨0,rfl,?_⟩ (by simp;omega)
 .obtain ⟨N,K,G⟩:=z
  obtain⟨i,n,e⟩:=M;simp only at n e w⊢
  subst n;unfold Q0c
  refine Z5 (k:=?_);rcases e with ⟨j,rfl,rfl,rfl⟩|⟨n,A⟩
  .refine Z4 (by simp[j]) ?_
   unfold Tc;refine Z5 (k:=?_)
   have:=HY f d .nil (λt=>(d.empty j t).symm) (λb hb=>by cases hb)
   rw[this.1];rfl
  .refine Z6 (λc=>?_) (λc=>?_)
   .have c:i+1<ys.length:=by simp at c;omega
    refine Z4W h c hx hy ha hb (hG.x _) λl L J s=>?_
    have E:QV (λx=>Qn (Q2 a x (gl ys i)) (Q2 b x (gl ys i)) how)=l:=KJ L J;have:=Z4S h c hy d A (ag:=g) (y:=some (cn λx y=>Qn (Q2 a x y) (Q2 b x y) how)) (by rw[E];exact s) λv o m=>w _ ⟨i+1,rfl,.inr ⟨by omega,m⟩⟩ (by simp only;omega)
    rw[E]at this;exact this
   .have c:¬i+1<ys.length:=by simp at c;omega
    unfold Tc;obtain⟨⟨H,B,q,I⟩,D⟩:=A
    have u:i*65536<=65536*65536:=Qb3 _ (by omega);refine Z5 (k:=?_)
    have:=HY f d B.runs (λt=>d.done (by omega) B t) q
    rw[this.1];rcases I with ⟨rfl,rfl,_⟩|⟨C,O,rfl,_,rfl,rfl,_⟩
    .simp
    .rw [Q1S,Q1Q]
 .by_cases j:ys.length=0
  .exact .inl ⟨j,rfl,rfl,rfl⟩
  .exact .inr ⟨by omega,⟨⟨[],d.start (by omega),λr p=>(by cases p),.inl ⟨rfl,rfl,λr p=>(by cases p)⟩⟩,by simp⟩⟩
theorem Q2F(a b:List Rect)(how:Int):Grid (Zb b (Zb a [])) (Zz b (Zz a [])) λx y=>Qn (Q2 a x y) (Q2 b x y) how:=
 Grid.of (Ub b (Ub a .nil)) (Ub b (Ub a .nil))
  (λr c=>⟨(ZJ b _ _).2 (.inl ((ZJ a _ _).2 (.inr ⟨r,c,.inl rfl⟩))),(ZJ b _ _).2 (.inl ((ZJ a _ _).2 (.inr ⟨r,c,.inr rfl⟩)))⟩)
  (λr c=>⟨(ZJ b _ _).2 (.inr ⟨r,c,.inl rfl⟩),(ZJ b _ _).2 (.inr ⟨r,c,.inr rfl⟩)⟩)
  (λr c=>⟨(ZJ b _ _).2 (.inl ((ZJ a _ _).2 (.inr ⟨r,c,.inl rfl⟩))),(ZJ b _ _).2 (.inl ((ZJ a _ _).2 (.inr ⟨r,c,.inr rfl⟩)))⟩)
  (λr c=>⟨(ZJ b _ _).2 (.inr ⟨r,c,.inl rfl⟩),(ZJ b _ _).2 (.inr ⟨r,c,.inr rfl⟩)⟩)
  (k:=λp q=>Qn p q how) (by show Qn false false how=false;unfold Qn;split;rfl;split<;>rfl)
theorem Q0b(hF:Q6<=F)(ha:a.length<=200000)(hb:b.length<=200000)(hx:(Zb b (Zb a [])).length<=65536)(hy:(Zz b (Zz a [])).length<=65536):
  Wo F a b how=some (cn λx y=>Qn (Q2 a x y) (Q2 b x y) how):=by
 have d:=hF;unfold Q6 at hF
 have h:=Q2F a b how;have j:=Z4V d hx hy (by unfold Z9;omega) (by unfold Z9;omega) h
 have m:=Py (f:=Rect.L_) (g:=Rect.R_) a [];have o:=Py (f:=Rect.w_) (g:=Rect.H_) a []
 have i:∀c:(List Int×List Int×Int)->Option (List Rect),DD F a b how c (Zb b (Zb a [])) (Zz b (Zz a [])) 2=some (cn λx y=>Qn (Q2 a x y) (Q2 b x y) how):=λc=>by
  unfold DD;exact Z4 rfl j
 have q:(Zb a []).length<=2*a.length:=by have:=m;simpa[Zb]using this
 have p:(Zz a []).length<=2*a.length:=by have:=o;simpa[Zz]using this
 unfold Wo;refine z5 (λz:List Int×List Int×Int=>z=([],[],0)\/z=(Zb a [],Zz a [],1)\/z=(Zb b (Zb a []),Zz b (Zz a []),2)) (λz=>2-z.2.2.toNat) (λc z n e=>?_) (.inl rfl) (by simp;omega)
 rcases n with rfl|rfl|rfl
 .simp only
  unfold DD;refine Y9 rfl ?_
  refine Z5 (k:=?_);refine Q2W d (l:=a) (by omega) rfl (by simp;omega) (by simp;omega) ?_
  exact e _ (.inr (.inl rfl)) (by simp)
 .simp only
  unfold DD;refine Y9 rfl ?_
  refine Z5 (k:=?_);refine Q2W d (l:=b) (by omega) rfl (xs:=Zb a []) (ys:=Zz a []) (by omega) (by omega) ?_
  exact e _ (.inr (.inr rfl)) (by simp)
 .exact i c
end
end
section
theorem Z2Z(h:Grid xs ys S):Fin S:=by
 have c:=h.step
 by_cases h0:ys.length=0
 .exact (HY h.rows c .nil (λt=>(c.empty h0 t).symm) (λb s=>by cases s)).2
 .have m:∀ i,i+1<=ys.length->∃ e,Bst [] (fun y=>QV fun x=>S x y) e (gl ys i)/\∀ r ∈ e,r.v≠[]:=by
   intro i
   induction i with
   |zero=>intro _;exact⟨[],c.start (by omega),λr l=>by cases l⟩
   |succ i ih=>
    intro w;obtain⟨e,g,j⟩:=ih (by omega)
    have k:=c.asc.at_lt (show i<i+1 by omega) (by omega);have d:=c.gap i (by omega)
    by_cases hv:QV (λx=>S x (gl ys i))=[]
    .exact ⟨e,g.skip (by omega) λt n o=>(d t n o).trans hv,j⟩
    .rcases Qj4 e with rfl|⟨p,b,f⟩
     .refine ⟨_,g.add k d (λa q=>by simp at q),λr l=>?_⟩
      grind
     .rw [Qj5]at f
      subst f
      by_cases hm:b.hi=gl ys i/\b.v=QV λx=>S x (gl ys i)
      .refine ⟨_,g.grow hm.1 k λt n o=>(d t n o).trans hm.2.symm,λr l=>?_⟩
       grind
      .refine ⟨_,g.add k d (λa q z u=>?_),λr l=>?_⟩
       all_goals grind
  obtain⟨e,g,j⟩:=m (ys.length-1) (by omega);exact(HY h.rows c g.runs (λt=>c.done (by omega) g t) j).2
theorem Vu(a b:List Rect)(how:Int):Fin λx y=>Qn (Q2 a x y) (Q2 b x y) how:=Z2Z (Q2F a b how)
theorem Q0H(l:List Rect):(λx y=>Qn (Q2 l x y) (Q2 [] x y) 1)=Q2 l:=by
 funext x y;simp[Qn,Q2]
theorem Qz(l:List Rect):Fin (Q2 l):=by have:=Vu l [] 1;rwa [Q0H]at this
theorem Xa(l:List Rect):Yn l↔cn (Q2 l)=l:=⟨λh=>h.eq_cn.symm,λh=>by rw[<-h];exact UN (Qz l)⟩
theorem Fh:(Zb l []).length<=2*l.length:=by have:=Py (f:=Rect.L_) (g:=Rect.R_) l [];simpa[Zb]using this
theorem Z4s:(Zz l []).length<=2*l.length:=by have:=Py (f:=Rect.w_) (g:=Rect.H_) l [];simpa[Zz]using this
theorem Q2G:(Zb b (Zb a [])).length<=2*a.length+2*b.length:=by
 have c:=Py (f:=Rect.L_) (g:=Rect.R_) b (Zb a []);have d:=Fh (l:=a)
 have c:(Zb b (Zb a [])).length<=(Zb a []).length+2*b.length:=c;omega
theorem Z4r:(Zz b (Zz a [])).length<=2*a.length+2*b.length:=by
 have c:=Py (f:=Rect.w_) (g:=Rect.H_) b (Zz a []);have d:=Z4s (l:=a)
 have c:(Zz b (Zz a [])).length<=(Zz a []).length+2*b.length:=c;omega
theorem bZ(hF:Q6<=F)(h:a.length+b.length<=32768):Wo F a b how=some (cn λx y=>Qn (Q2 a x y) (Q2 b x y) how):=
 Q0b hF (by omega) (by omega) (by have:=Q2G (a:=a) (b:=b);omega) (by have:=Z4r (a:=a) (b:=b);omega)
theorem Q0a(hF:Q6<=F)(h:l.length<=32768):Wo F l [] 1=some (cn (Q2 l)):=by
 rw[bZ hF (by simpa using h),Q0H]
theorem yq{α:Type}[Emb α][DecidableEq α](l m:List α)(h:l.length=m.length)(i:Nat)(hi:i<l.length):decide (l.drop i=m.drop i)=(decide (gl l i=gl m i)&&decide (l.drop (i+1)=m.drop (i+1))):=by
 rw[Zy hi,Zy (l:=m) (by omega)]
 grind
theorem Q0i(r s:Rect):((r.L_==s.L_)&&((r.w_==s.w_)&&((r.R_==s.R_)&&((r.H_==s.H_)&&true))))=decide (r=s):=by
 cases r;cases s
 grind
theorem Q9Z(hF:Q6<=F)(hm:m.length<=Z9):SY F l m=some (decide (l=m)):=by
 unfold Q6 at hF;unfold Z9 at hm
 unfold SY;refine Z6 (λh=>?_) (λh=>?_)
 .have h:l.length≠m.length:=by simp at h;omega
  rw[Qa5 λe=>h (by rw[e])]
 .have h:l.length=m.length:=by simp at h;omega
  refine z5 (λz:Int=>∃i:Nat,z=i/\i<=l.length/\decide (l=m)=decide (l.drop i=m.drop i)) (λz=>l.length-z.toNat) (λd z g f=>?_) ⟨0,rfl,by omega,by simp⟩ (by simp;omega);obtain⟨i,rfl,j,c⟩:=g
  unfold bV;refine Z6 (λa=>?_) (λa=>?_)
  .have a:i<l.length:=by simpa using a
   rw[yq l m h i a]at c;refine Z5 (k:=?_)
   refine Z5 (k:=?_);rw[Q0i]
   refine Z6 (λb=>?_) (λb=>?_)
   .grind
   .have b:decide (gl l i=gl m i)=true:=by simpa using b
    rw[b,Qe4]at c;refine Z5 (k:=?_)
    exact f _ ⟨i+1,by omega,a,c⟩ (by omega)
  .have a:¬i<l.length:=by simpa using a
   have:i=l.length:=by omega
   rw[c,Qe8 (by omega),Qe8 (by omega),Qa6 rfl];rfl
def J1(l:List Rect):Prop:=l.length<=120/\(∀r∈l,QQ r=true)/\Yn l
open Classical in
noncomputable def QP(l:List Rect):Bool:=decide (J1 l)
theorem Wj(l:List Rect):QP l=true↔J1 l:=by unfold QP;exact @decide_eq_true_iff (J1 l) (Classical.propDecidable _)
theorem Xl(h:¬J1 l):QP l=false:=by rw[<-Qg3,Wj];exact h
theorem Wi(h:J1 l):QP l=true:=(Wj l).2 h
theorem Z5I{α:Type}[Emb α]{l:List α}{p:α->Prop}(h:i<l.length):(∀x∈l.drop i,p x)↔p (gl l i)/\∀x∈l.drop (i+1),p x:=by rw[Zy h];simp
theorem Dy(hF:Q6<=F)(a:Re_):Kb F a=some (QP a.t_):=by
 have e:=hF;unfold Q6 at hF
 obtain⟨l⟩:=a;simp only
 unfold Kb;refine Z6 (λh=>?_) (λh=>?_)
 .have h:120<l.length:=by simp at h;omega
  rw[Xl λd=>by have:=d.1;omega]
 .have h:l.length<=120:=by simp at h;omega
  refine z5 (λz:Int=>∃i:Nat,z=i/\i<=l.length/\((∀r∈l,QQ r=true)↔∀r∈l.drop i,QQ r=true)) (λz=>l.length-z.toNat) (λg z m j=>?_) ⟨0,rfl,by omega,by simp⟩ (by simp;omega);obtain⟨i,rfl,n,f⟩:=m
  unfold bQ;simp only
  refine Z6 (λb=>?_) (λb=>?_)
  .have b:i<l.length:=by simpa using b
   rw[Z5I (p:=λr=>QQ r=true) b]at f;refine Z5 (k:=?_)
   refine Q4 (bL _ _) ?_;refine Z6 (λc=>?_) (λc=>?_)
   .have c:QQ (gl l i)=false:=by simpa using c
    rw[Xl λd=>by have:=(f.1 d.2.1).1;rw[c]at this;cases this]
   .have c:QQ (gl l i)=true:=by simpa using c
    refine Z5 (k:=?_);exact j _ ⟨i+1,by omega,b,f.trans ⟨λh=>h.2,λh=>⟨c,h⟩⟩⟩ (by omega)
  .have b:¬i<l.length:=by simpa using b
   rw[Qe8 (by omega)]at f;unfold zE
   refine Q4 (Q0a e (by simp only;omega)) ?_;refine Q4 (Q9Z e (by unfold Z9;simp only;omega)) ?_
   simp only
   by_cases hc:cn (Q2 l)=l
   .rw [Qa6 hc,Wi ⟨h,f.2 (by simp),(Xa l).2 hc⟩]
   .rw [Qa5 hc,Xl λd=>hc ((Xa l).1 d.2.2)]
theorem Z0h(l:List Rect):Tf F l=some (if 120<l.length then(⟨[]⟩,1)else(⟨l⟩,0)):=by
 unfold Tf;refine Z6 (λh=>?_) (λh=>?_)
 all_goals grind
theorem Z0b(hF:Q6<=F)(hl:l.length<=120)(hp:∀r∈l,QQ r=true):SZ F l=some (if 120<(cn (Q2 l)).length then(⟨[]⟩,1)else(⟨cn (Q2 l)⟩,0)):=by
 have c:=hF;unfold Q6 at hF
 unfold SZ;refine Z4 (by simp;omega) ?_
 refine z5 (λz:Int=>∃i:Nat,z=i/\i<=l.length) (λz=>l.length-z.toNat) (λb z e d=>?_) ⟨0,rfl,by omega⟩ (by simp;omega);obtain⟨i,rfl,f⟩:=e
 unfold bW;refine Z6 (λa=>?_) (λa=>?_)
 .have a:i<l.length:=by simpa using a
  refine Z5 (k:=?_);refine Q4 (bL _ _) ?_
  refine Z4 (by rw[Qa3,hp _ (K3 a)];rfl) ?_;refine Z5 (k:=?_)
  exact d _ ⟨i+1,by omega,a⟩ (by omega)
 .unfold zF
  refine Q4 (Q0a c (by omega)) ?_;refine Q4 (Z0h _) ?_
  rfl
end
section
open Go.Sort
def xY(l:List Int):Prop:=l.Pairwise (· <= ·)
theorem Q6H{l:List Int}(hl:l.length<=Z9):∃r,Ui l=some r/\xY r/\(∀v,v∈r↔v∈l)/\r.length=l.length:=by
 refine⟨l.mergeSort λx y=>decide (x<=y),by unfold Ui;rw[Qa2 hl],?_,λv=>List.mem_mergeSort,Qn9 l⟩;have:=Qp9 (le:=λx y:Int=>decide (x<=y)) (λa b c d e=>by simp at *;omega) (λa b=>by simp;omega) l
 exact this.imp λh=>by simpa using h
def dd:List Int->List Int
 |[]=>[]
 |[a]=>[a]
 |a::b::l=>if a=b then dd (b::l)else a::dd (b::l)
theorem Fg(l:List Int)(x:Int):dd (l++[x])=if l.getLast?=some x then dd l else dd l++[x]:=by
 match l with
 |[]=>simp[dd]
 |[a]=>by_cases h:a=x<;>simp[dd,h]
 |a::b::l=>
  have c:=Fg (b::l) x;have e:(a::b::l).getLast?=(b::l).getLast?:=by simp[List.getLast?_cons]
  rw[e]
  by_cases h:a=b
  .simp only[Ql3,dd,h,Qh8]at c⊢
   exact c
  .simp only[Ql3,dd,h,Qh2]at c⊢
   rw[c];split<;>rfl
theorem Tz(l:List Int)(v:Int):v∈dd l↔v∈l:=by
 match l with
 |[]=>simp[dd]
 |[a]=>simp[dd]
 |a::b::l=>
  have c:=Tz (b::l) v;unfold dd
  split
  .rename_i h;subst h;rw[c];simp
  .rw [Qf0,c,Qf0 (a:=v) (b:=a)]
theorem xa(l:List Int)(h:xY l):Yg (dd l):=by
 match l with
 |[]=>exact .nil
 |[a]=>exact Qe6 _ _
 |a::b::l=>
  obtain⟨g,d⟩:=Qd2.1 h;have e:=xa (b::l) d
  unfold dd;split
  .exact e
  .rename_i f
   refine Qd2.2 ⟨λv c=>?_,e⟩;rw[Tz]at c
   have:=g b (by simp)
   rcases Qf0.1 c with rfl|c
   .omega
   .have:=(Qd2.1 d).1 v c;omega
theorem vZ(l:List Int):(dd l).length<=l.length:=by
 match l with
 |[]=>simp[dd]
 |[a]=>simp[dd]
 |a::b::l=>
  have c:=vZ (b::l);unfold dd
  split
  .simp at c⊢;omega
  .simp at c⊢;omega
theorem Q0X{l:List Int}(h:i<l.length):(l.take (i+1)).getLast?=some (gl l i):=by rw[Qr h];simp
theorem Ps{α:Type}[Emb α](l:List α)(i j:Nat)(x:α)(h:i<l.length):gl (l.set i x) j=if i=j then x else gl l j:=by
 simp only[gl,Qa0,List.getElem?_set]
 by_cases hij:i=j
 .subst hij;simp[h]
 .simp [hij]
theorem LQ{α:Type}(l:List α)(i n:Nat)(x:α)(h:n<=i):(l.set i x).take n=l.take n:=by
 apply Qt9;intro j
 simp only[Qk2,List.getElem?_set];split
 .rw [Qa1 (by omega)]
 .rfl
theorem LR{α:Type}[Emb α](l:List α)(k n:Nat)(h:k<=l.length):(clr l (0+k) n).take k=l.take k:=by
 apply Qt9;intro j
 simp only[Qk2,clr];split
 .rename_i a
  have:j<l.length:=by omega
  simp only[Qk9,Qo9 this,Qj0];rw[Qa1 (by omega),Qc this,Qb9 this]
 .rfl
theorem xD{α:Type}[Emb α](l:List α)(lo n:Nat):(clr l lo n).length=l.length:=by simp[clr]
theorem ju(hF:Q6<=F){l:List Int}(hl:l.length<=Z9):BG F l=some (dd l):=by
 have E:=hF;unfold Q6 at hF;unfold Z9 at hl
 unfold BG;refine Z6 (λh=>?_) (λh=>?_)
 .have h:l.length<2:=by simp at h;omega
  match l,h with
  |[],_=>rfl
  |[a],_=>rfl
 .have h:2<=l.length:=by simp at h;omega
  refine z5 (λz:Int=>∃k:Nat,z=k/\1<=k/\k<=l.length/\dd (l.take k)=l.take k) (λz=>l.length-z.toNat) (λA z B D=>?_) ⟨1,rfl,by omega,by omega,?_⟩ (by simp;omega)
  .obtain ⟨k,rfl,K,L,v⟩:=B
   unfold jw;refine Z6 (λm=>?_) (λm=>?_)
   .have m:k<l.length:=by simpa using m
    refine Z5 (k:=?_);refine Z5 (k:=?_)
    refine Z5 (k:=?_);have I:((k:Int)-1).toNat=k-1:=by omega
    rw[I];simp only[Qa3]
    have f:(l.take k).getLast?=some (gl l (k-1)):=by
     have:=Q0X (l:=l) (i:=k-1) (by omega)
     rwa [show k-1+1=k from by omega]at this
    refine Z6 (λo=>?_) (λo=>?_)
    .have o:gl l k=gl l (k-1):=by simpa using o
     refine Z5 (k:=?_);have x:dd (l.take (k+1))=l.take k:=by rw[Qr m,Fg,f,Qa2 (by rw[o]),v]
     refine z5 (λz:Int×Int×List Int=>∃(q r:Nat) (c:List Int),z=((q:Int),(r:Int),c)/\1<=r/\k+r<=l.length/\q+1<=k+r/\1<=q/\c.length=l.length/\(∀j,q<=j->gl c j=gl l j)/\c.take q=dd (l.take (k+r)))
      (λz=>l.length-z.2.1.toNat) (λw z B n=>?_) ⟨k,1,l,rfl,by omega,by omega,by omega,by omega,rfl,λ_ _=>rfl,x.symm⟩ (by simp only;omega)
     obtain⟨q,r,c,rfl,N,C,G,H,s,g,p⟩:=B;simp only at n⊢
     unfold jv;simp only[Qa3,Qd1]
     refine Z6 (λt=>?_) (λt=>?_)
     .have t:r<l.length-k:=by simp at t;omega
      refine Z5 (k:=?_);refine Z5 (k:=?_)
      refine Z5 (k:=?_);refine Z5 (k:=?_)
      have J:((r:Int)-1).toNat=r-1:=by omega
      rw[J];refine Z5 (k:=?_)
      rw[g (k+r) (by omega),g (k+(r-1)) (by omega)];have y:(l.take (k+r)).getLast?=some (gl l (k+(r-1))):=by
       have:=Q0X (l:=l) (i:=k+(r-1)) (by omega)
       rwa [show k+(r-1)+1=k+r from by omega]at this
      have u:dd (l.take (k+r+1))=if gl l (k+(r-1))=gl l (k+r)then dd (l.take (k+r))else dd (l.take (k+r))++[gl l (k+r)]:=by
       rw[Qr (by omega),Fg,y];simp
      refine Z6 (λd=>?_) (λd=>?_)
      .have d:gl l (k+r)≠gl l (k+(r-1)):=by simpa using d
       repeat(refine Z5 (k:=?_))
       refine n _ ⟨q+1,r+1,c.set q (gl l (k+r)),rfl,by omega,by omega,by omega,by omega,by simp[s],λj M=>?_,?_⟩ (by simp only;omega)
       .rw [Ps _ _ _ _ (by omega),Qa1 (by omega)];exact g j (by omega)
       .rw [show k+(r+1)=k+r+1 from rfl,u,Qa1 (λe=>d e.symm), <-p,Qr (by simp;omega),LQ _ _ _ _ (Qb4 _),Ps _ _ _ _ (by omega),Qa2 rfl]
      .have d:gl l (k+r)=gl l (k+(r-1)):=by simpa using d
       unfold Rx;refine Z5 (k:=?_)
       refine n _ ⟨q,r+1,c,rfl,by omega,by omega,by omega,by omega,s,g,?_⟩ (by simp only;omega);rw[show k+(r+1)=k+r+1 from rfl,u,Qa2 d.symm,p]
     .have t:¬r<l.length-k:=by simp at t;omega
      unfold qn;simp only[Qa3,xD]
      refine Z5 (k:=?_);refine Z5 (k:=?_)
      rw[LR _ _ _ (by omega),p,Ql6 (by omega)]
    .have o:gl l k≠gl l (k-1):=by simpa using o
     unfold qm;refine Z5 (k:=?_)
     refine D _ ⟨k+1,by omega,by omega,m,?_⟩ (by omega);rw[Qr m,Fg,f,Qa1 (λe=>o (by simpa using e.symm)),v]
   .have m:¬k<l.length:=by simpa using m
    have:k=l.length:=by omega
    subst this;rw[Qe5]at v
    unfold ql;rw[v]
  .match l,h with
   |a::b::l,_=>rfl
end
section
open Go.Sort
def Uu(l:List Rect):List Int:=l.flatMap λr=>[r.w_,r.H_]
def Vp(ls:List (List Rect)):List Int:=ls.flatMap Uu
def Vw(ls:List (List Rect)):List Int:=dd ((Vp ls).mergeSort λx y=>decide (x<=y))
theorem Q5V(l:List Int):xY (l.mergeSort λx y=>decide (x<=y)):=by
 have:=Qp9 (le:=λx y:Int=>decide (x<=y)) (λa b c e d=>by simp at *;omega) (λa b=>by simp;omega) l
 exact this.imp λh=>by simpa using h
theorem Q2E(ls:List (List Rect)):Yg (Vw ls):=xa _ (Q5V _)
theorem Q0L(ls:List (List Rect))(v:Int):v∈Vw ls↔∃l∈ls,∃r∈l,v=r.w_\/v=r.H_:=by
 unfold Vw;rw[Tz,List.mem_mergeSort]
 simp[Vp,Uu]
theorem Z1B(l:List Rect):(Uu l).length=2*l.length:=by
 induction l with
 |nil=>rfl
 |cons r l ih=>
  have:(Uu (r::l)).length=2+(Uu l).length:=by simp[Uu];omega
  rw[this,ih,Qb1];omega
def Wx(ls:List (List Rect)):Nat:=(ls.map List.length).sum
theorem Z1A(ls:List (List Rect)):(Vp ls).length=2*Wx ls:=by
 induction ls with
 |nil=>rfl
 |cons l ls ih=>
  have:(Vp (l::ls)).length=(Uu l).length+(Vp ls).length:=by simp[Vp]
  rw[this,ih,Z1B];simp[Wx];omega
theorem Q2D(ls:List (List Rect)):(Vw ls).length<=2*Wx ls:=by
 unfold Vw;have:=vZ ((Vp ls).mergeSort λx y=>decide (x<=y))
 rw[Qn9,Z1A]at this;exact this
theorem zh(hF:Q6<=F){ls:List (List Rect)}(h:Wx ls<=1000000000)(hn:ls.length<=1000000):KY F ls=some (Vw ls):=by
 have g:=hF;unfold Q6 at hF
 unfold KY;refine(Gm (l:=ls) (σ:=List Int) (λb a=>a.length+2*Wx b<=2000000000) (λb a=>some (dd ((a++Vp b).mergeSort λx y=>decide (x<=y))))
  (λe i a m d p=>?_) (λe a d=>?_) (by omega) (by simp;omega)).trans rfl
 .unfold zl
  refine Y9 (Vo m) ?_;refine Z5 (k:=?_)
  simp only[Qa3];generalize hl:gl ls i=l at *
  have n:Wx (l::ls.drop (i+1))=l.length+Wx (ls.drop (i+1)):=by simp[Wx]
  rw[n]at d;refine(Gm (l:=l) (σ:=List Int) (λb a=>a.length+2*b.length+2*Wx (ls.drop (i+1))<=2000000000) (λb a=>some (dd ((a++Uu b++Vp (ls.drop (i+1))).mergeSort λx y=>decide (x<=y))))
   (λc j a q d f=>?_) (λc a d=>?_) (by omega) (by omega)).trans ?_
  .simp only
   unfold zk;simp only[Qa3,hl]
   refine Y9 (Vo q) ?_;simp only[Qb1]at d
   refine Z5 (k:=?_);refine Z5 (k:=?_)
   refine Z5 (k:=?_);rw[f _ (by simp only[Qb7,Qb1,Qc2];omega)]
   simp[Uu]
  .simp only
   unfold zk;simp only[Qa3,hl]
   refine Z4 (Us _) ?_;unfold zj
   refine Z5 (k:=?_);rw[p _ (by simp only[Qc2]at d;omega)]
   simp[Uu]
  .simp [Vp]
 .simp only
  unfold zl;refine Z4 (Us _) ?_
  unfold zi;have d:a.length<=2000000000:=by simp[Wx]at d;omega
  have o:Ui a=some (a.mergeSort λx y=>decide (x<=y)):=by unfold Ui;rw[Qa2 (by unfold Z9;omega)]
  refine Q4 o ?_;refine Q4 (ju g (by rw[Qn9];unfold Z9;omega)) ?_
  simp[Vp]
theorem GW(F:Nat)(a b:Int):Wd F a b=some (if a<b then -1 else if b<a then 1 else 0):=by
 unfold Wd Fq;refine Q4 rfl (Q4 rfl ?_)
 refine Z4 (by simp) (Z4 (by simp) ?_);refine Z6 (λh=>?_) (λh=>?_)
 .have h:a<b:=by simpa using h
  rw[Qa2 h]
 .have h:¬a<b:=by simpa using h
  rw[Qa1 h];refine Z6 (λh=>?_) (λh=>?_)
  .have h:b<a:=by simpa using h
   rw[Qa2 h]
  .have h:¬b<a:=by simpa using h
   rw[Qa1 h]
def GX(a b:Span):Int:=if a.L_<b.L_ then -1 else if b.L_<a.L_ then 1 else 0
theorem TA(a b:Span):Za GX a b=decide (a.L_<b.L_):=by
 unfold Za GX
 by_cases h:a.L_<b.L_
 .simp [h]
 .by_cases h2:b.L_<a.L_<;>simp[h,h2]
theorem gv:SWO (Za GX) where
 irrefl x:=by rw[TA];simp
 trans x y z h1 h2:=by rw[TA]at *;simp at *;omega
 ntrans x y z h1 h2:=by rw[TA]at *;simp at *;omega
theorem Z0F{α:Type}[Emb α](cf:α->α->Int)(hO:SWO (Za cf))(l:List α):(ZH cf l).Perm l/\(ZH cf l).Pairwise λa b=>Za cf b a=false:=by
 letI inst:Inhabited α:=⟨Emb.d⟩
 have h:=pdq_sorts (Za cf) hO l.toArray 0 l.length (Lib.bitLen l.length) true true (Qc3 _) (by simp) (.inl rfl);have c:(pdq (Za cf) l.toArray 0 l.length (Lib.bitLen l.length) true true).size=l.length:=by simpa using h.1.1
 constructor
 .have:=h.1.2.2
  simp only[List.extract_toArray,List.extract_eq_take_drop,Qr1,Qm2,Qe5]at this;have e:((pdq (Za cf) l.toArray 0 l.length (Lib.bitLen l.length) true true).extract 0 l.length).toList=ZH cf l:=by
   unfold ZH;generalize pdq (Za cf) l.toArray 0 l.length (Lib.bitLen l.length) true true=d at c
   rw[<-c];simp
  rw[e]at this;exact this
 .rw [Qc8]
  intro i j m n k;have g : i<(pdq (Za cf) l.toArray 0 l.length (Lib.bitLen l.length) true true).size:=by simpa[ZH]using m
  have f : j<(pdq (Za cf) l.toArray 0 l.length (Lib.bitLen l.length) true true).size:=by simpa[ZH]using n
  have:=h.2 i j (Qc3 _) k (by omega)
  rw[Qj9 _ j f,Qj9 _ i g]at this;simpa[ZH]using this
def Wa(l:List Rect)(y:Int):List Span:=(l.filter λr=>decide (r.w_<=y)&&decide (y<r.H_)).map λr=>⟨r.L_,r.R_⟩
theorem Q1P(r:Rect)(l:List Rect)(y:Int):Wa (r::l) y=if(decide (r.w_<=y)&&decide (y<r.H_))=true then⟨r.L_,r.R_⟩::Wa l y else Wa l y:=by
 unfold Wa;rw[Qo4]
 split<;>rfl
theorem Z2B(l:List Rect)(x y:Int):J8 (Wa l y) x=Q2 l x y:=by
 induction l with
 |nil=>rfl
 |cons r l ih=>
  have e:Q2 (r::l) x y=(r.has x y||Q2 l x y):=rfl;rw[Q1P,e, <-ih]
  split
  .rename_i h
   simp only[Qa4,Qb5]at h;simp[J8,Span.has,Rect.has,h.1,h.2]
  .rename_i h
   have:r.has x y=false:=Hh (by simp at h;omega)
   rw[this,Qk0]
theorem Z3n(l:List Rect)(y:Int):(Wa l y).length<=l.length:=by
 unfold Wa;rw[Qg1];exact Qk5 _ _
theorem Z3m(h:∀r∈l,r.L_<r.R_)(y:Int):∀s∈Wa l y,s.L_<s.R_:=by
 intro s b;obtain⟨r,a,rfl⟩:=Qc5.1 b
 exact h r (Qf9.1 a).1
theorem Cj(l m:List Span)(x:Int):J8 (l++m) x=(J8 l x||J8 m x):=by simp[J8]
theorem Z2A{l m:List Span}(h:l.Perm m)(x:Int):J8 l x=J8 m x:=by
 rw[Qe1];simp only[J8,Qc6]
 constructor
 .rintro ⟨s,b,a⟩;exact⟨s,h.mem_iff.1 b,a⟩
 .rintro ⟨s,b,a⟩;exact⟨s,h.mem_iff.2 b,a⟩
theorem Z3a(a b:Int):K8 a b=if a<b then b else a:=rfl
theorem Q8D(hF:Q6<=F){S:List Span}(hl:S.length<=1000000000)(hpos:∀ s ∈ S,s.L_<s.R_)(hs:S.Pairwise fun a b=>a.L_<=b.L_):
  Y3 (λagain (z:Int×List Span)=>qY F S again z.1 z.2) F (0,[])=some (QV λx=>J8 S x):=by
 unfold Q6 at hF;refine z5 (λz:Int×List Span=>∃(i:Nat) (d:List Span),z=((i:Int),d)/\i<=S.length/\d.length<=i/\SpOk d/\(∀x,J8 d x=J8 (S.take i) x)/\∀o∈d,∀j,i<=j->j<S.length->o.L_<=(gl S j).L_)
  (λz=>S.length-z.1.toNat) (λagain z O A=>?_) ⟨0,[],rfl,by omega,Qb4 _,.nil,λx=>by simp,λo c=>by cases c⟩ (by simp only;omega)
 obtain⟨i,d,rfl,P,C,g,u,l⟩:=O;simp only at A⊢
 unfold qY;refine Z6 (λh=>?_) (λh=>?_)
 .have h:i<S.length:=by simpa using h
  refine Z5 (k:=?_);simp only[Qa3]
  have J:=hpos _ (K3 h);have q:∀j,i+1<=j->j<S.length->(gl S i).L_<=(gl S j).L_:=by
   intro j B f;rw[Qc h,Qc f]
   exact Qc8.1 hs i j h f (by omega)
  have m : ∀x,J8 (S.take (i+1)) x=(J8 d x||(gl S i).has x):=by
   intro x;rw[Qr h,Cj,u];simp[J8]
  have n:(∀o,d.getLast?=some o->o.R_<(gl S i).L_)->XJ F S i d again false=some (QV λx=>J8 S x):=by
   intro r;unfold XJ
   refine Z4 rfl ?_;refine Z5 (k:=?_)
   unfold BX;refine Z5 (k:=?_)
   simp only[Qa3];refine A _ ⟨i+1,d++[gl S i],rfl,h,by simp;omega,⟨λs hs=>?_,?_⟩,λx=>?_,λo c j B f=>?_⟩ (by simp only;omega)
   .rcases Qa9.1 hs with hs|hs
    .exact g.pos s hs
    .rw [Qb0.1 hs];exact J
   .refine Qd5.2 ⟨g.ch,Qe6 _ _,λo c b w=>?_⟩
    rw[Qb0.1 w];rcases Qj4 d with y|⟨t,e,v⟩
    .rw [y]at c;cases c
    .rw [Qj5]at v
     subst v;have N:=r e (by simp)
     rcases Qa9.1 c with c|c
     .have R:=(Qd5.1 g.ch).2.2 o c e (by simp)
      have Q:=g.pos e (by simp);omega
     .rw [Qb0.1 c];exact N
   .rw [m,Cj];simp[J8]
   .rcases Qa9.1 c with c|c
    .exact l o c j (by omega) f
    .rw [Qb0.1 c];exact q j B f
  rcases Qj4 d with y|⟨t,e,v⟩
  .subst y
   refine Z4 rfl ?_;exact n λo c=>by simp at c
  .rw [Qj5]at v
   subst v;have p:(t ++ [e]).length=t.length+1:=by simp
   have G:(((t.length+1:Nat):Int)-1).toNat=t.length:=by omega
   rw[p]at C⊢;refine Y9 (by simp) ?_
   refine Z5 (k:=?_);refine Z5 (k:=?_)
   rw[G,GF _ _ rfl]
   by_cases hc:(gl S i).L_<=e.R_
   .have D:decide ((gl S i).L_<=e.R_)=true:=by simpa using hc
    rw[D];unfold XJ
    refine Y9 rfl ?_;simp only[p]
    refine Z5 (k:=?_);refine Z5 (k:=?_)
    refine Z5 (k:=?_);refine Z5 (k:=?_)
    rw[G,GF _ _ rfl,RE _ _ _ rfl];unfold BX
    refine Z5 (k:=?_);simp only[Qa3]
    have H:e.L_<=(gl S i).L_:=l e (by simp) i (Qb4 _) h;have K:=g.pos e (by simp)
    have M:e.R_<=K8 e.R_ (gl S i).R_/\(gl S i).R_<=K8 e.R_ (gl S i).R_/\(K8 e.R_ (gl S i).R_=e.R_\/K8 e.R_ (gl S i).R_=(gl S i).R_):=by
     rw[Z3a];split<;>omega
    refine A _ ⟨i+1,t ++ [⟨e.L_,K8 e.R_ (gl S i).R_⟩],rfl,h,by simp;omega,⟨λs hs=>?_,?_⟩,λx=>?_,λo c j B f=>?_⟩ (by simp only;omega)
    .rcases Qa9.1 hs with hs|hs
     .exact g.pos s (by simp[hs])
     .rw [Qb0.1 hs];simp only;omega
    .obtain ⟨I,_,L⟩:=Qd5.1 g.ch
     refine Qd5.2 ⟨I,Qe6 _ _,λo c b w=>?_⟩;rw[Qb0.1 w]
     exact L o c e (by simp)
    .rw [m,Cj,Cj,Bool.or_assoc]
     congr 1
     have E:∀(s:Span) x,J8 [s] x=s.has x:=λs x=>by simp[J8]
     rw[E,E,Qe1];simp only[Span.has,Qj3,Qa4,Qb5]
     omega
    .rcases Qa9.1 c with c|c
     .exact l o (by simp[c]) j (by omega) f
     .rw [Qb0.1 c];exact l e (by simp) j (by omega) f
   .have D:decide ((gl S i).L_<=e.R_)=false:=by simpa using hc
    rw[D];exact n λo c=>by simp at c;subst c;omega
 .have h:¬i<S.length:=by simpa using h
  have:i=S.length:=by omega
  subst this;unfold qX
  rw[KJ g λx=>by rw[u,Qe5]]
theorem Sn(hF:Q6<=F)(hl:l.length<=1000000000)(hpos:∀r∈l,r.L_<r.R_)(y:Int):VN F l y=some (QV λx=>Q2 l x y):=by
 have p:=hF;unfold Q6 at hF
 unfold VN;have n:∀c:List Span,c=Wa l y->Sp F c=some (QV λx=>Q2 l x y):=by
  rintro c rfl;unfold Sp
  have w:=Z3n l y;have m:JF (Wa l y) (λv t=>Sr F v t)=some (ZH GX (Wa l y)):=
   Q6O GX (by unfold Z9;omega) gv λa b=>by unfold Sr;rw[GW];rfl
  refine Q4 m ?_;obtain⟨o,j⟩:=Z0F GX gv (Wa l y)
  have e:(λx=>Q2 l x y)=λx=>J8 (ZH GX (Wa l y)) x:=by funext x;rw[Z2A o,Z2B]
  rw[e];refine Q8D p (by rw[o.length_eq];omega) (λs j=>Z3m hpos y s (o.mem_iff.1 j)) (j.imp λ{a b} h=>?_)
  rw[TA]at h;simp at h;exact h
 refine(Gm (l:=l) (σ:=List Span) (λf c=>c.length+f.length<=1000000000/\c++Wa f y=Wa l y) (λf c=>some (QV λx=>Q2 l x y))
  (λd i c u g q=>?_) (λd c g=>?_) (by omega) ⟨by simp;omega,rfl⟩)
 .simp only
  unfold qZ;refine Y9 (Vo u) ?_
  refine Z5 (k:=?_);rw[Yy (BZ F l i c d)]
  simp only[Qa3];rw[Q1P]at g
  simp only[Qb1]at g;unfold BZ
  refine Z6 (λh=>?_) (λh=>?_)
  .rw [Qa2 h]at g
   refine Z5 (k:=?_);unfold BY
   refine Z5 (k:=?_);simp only[Qa3]
   exact q _ ⟨by simp only[Qb7,Qb1,Qc2];omega,by rw[<-g.2];simp⟩
  .rw [h]at g
   unfold BY;refine Z5 (k:=?_)
   exact q _ ⟨by omega,by simpa using g.2⟩
 .simp only
  unfold qZ;refine Z4 (Us _) ?_
  exact n c (by have:=g.2;simpa[Wa]using this)
end
theorem Q6f(r s:Span):((r.L_==s.L_)&&((r.R_==s.R_)&&true))=decide (r=s):=by
 cases r;cases s
 grind
theorem Q7D(hF:Q6<=F){l m:List Span}(hm:m.length<=Z9):Ro F l m=some (decide (l=m)):=by
 unfold Q6 at hF;unfold Z9 at hm
 unfold Ro;refine Z6 (λh=>?_) (λh=>?_)
 .have h:l.length≠m.length:=by simp at h;omega
  rw[Qa5 λe=>h (by rw[e])]
 .have h:l.length=m.length:=by simp at h;omega
  refine z5 (λz:Int=>∃i:Nat,z=i/\i<=l.length/\decide (l=m)=decide (l.drop i=m.drop i)) (λz=>l.length-z.toNat) (λd z g f=>?_) ⟨0,rfl,by omega,by simp⟩ (by simp;omega);obtain⟨i,rfl,j,c⟩:=g
  unfold jl;refine Z6 (λa=>?_) (λa=>?_)
  .have a:i<l.length:=by simpa using a
   rw[yq l m h i a]at c;refine Z5 (k:=?_)
   refine Z5 (k:=?_);rw[Q6f]
   refine Z6 (λb=>?_) (λb=>?_)
   .grind
   .have b:decide (gl l i=gl m i)=true:=by simpa using b
    rw[b,Qe4]at c;refine Z5 (k:=?_)
    exact f _ ⟨i+1,by omega,a,c⟩ (by omega)
  .have a:¬i<l.length:=by simpa using a
   have:i=l.length:=by omega
   rw[c,Qe8 (by omega),Qe8 (by omega),Qa6 rfl];rfl
theorem Q7F(hF:Q6<=F)(hm:m.length<=Z9):Rp F l m=some (decide (l=m)):=by
 unfold Q6 at hF;unfold Z9 at hm
 unfold Rp;refine Z6 (λh=>?_) (λh=>?_)
 .have h:l.length≠m.length:=by simp at h;omega
  rw[Qa5 λe=>h (by rw[e])]
 .have h:l.length=m.length:=by simp at h;omega
  refine z5 (λz:Int=>∃i:Nat,z=i/\i<=l.length/\decide (l=m)=decide (l.drop i=m.drop i)) (λz=>l.length-z.toNat) (λd z g f=>?_) ⟨0,rfl,by omega,by simp⟩ (by simp;omega);obtain⟨i,rfl,j,c⟩:=g
  unfold jo;refine Z6 (λa=>?_) (λa=>?_)
  .have a:i<l.length:=by simpa using a
   rw[yq l m h i a]at c;refine Z5 (k:=?_)
   refine Z5 (k:=?_);rw[Q0i]
   refine Z6 (λb=>?_) (λb=>?_)
   .grind
   .have b:decide (gl l i=gl m i)=true:=by simpa using b
    rw[b,Qe4]at c;refine Z5 (k:=?_)
    exact f _ ⟨i+1,by omega,a,c⟩ (by omega)
  .have a:¬i<l.length:=by simpa using a
   have:i=l.length:=by omega
   rw[c,Qe8 (by omega),Qe8 (by omega),Qa6 rfl];rfl
def Band.rn(b:Band):Rn (List Span):=⟨b.w_,b.H_,b.spans_⟩
def fl(l:List Band):List Rect:=flat (l.map Band.rn)
theorem vy(b:Band)(l:List Band):fl (b::l)=z9 b.rn++fl l:=rfl
theorem Z3p(l:List Band)(N:Nat)(h:∀b∈l,b.spans_.length<=N):(fl l).length<=l.length*N:=by
 induction l with
 |nil=>simp[fl,flat]
 |cons b l ih=>
  have d:=ih λc a=>h c (by simp[a])
  have e:=h b (by simp);rw[vy,Qb7,YQ,Qb1,Qf8]
  simp only[Band.rn];omega
theorem Q9l(hF:Q6<=F){l:List Band}(hl:l.length<=1000000000)(hn:(fl l).length<=Z9)(hs:∀b∈l,b.spans_.length<=1000000000):Sa F l=some (fl l):=by
 unfold Q6 at hF;unfold Z9 at hn
 unfold Sa;refine(Gm (l:=l) (σ:=List Rect) (λc a=>a.length+(fl c).length<=4294967296) (λc a=>some (a++fl c)) (λf i a h e o=>?_) (λf a e=>?_) (by omega) (by simp;omega)).trans (by simp)
 .unfold qQ
  refine Y9 (Vo h) ?_;refine Z5 (k:=?_)
  simp only[Qa3];have g:=hs _ (K3 h)
  rw[vy,Qb7,YQ]at e;rw[vy]
  generalize hb:gl l i=b at e g⊢;have e:a.length+(b.spans_.length+(fl (l.drop (i+1))).length)<=4294967296:=e
  refine(Gm (l:=b.spans_) (σ:=List Rect) (λc a=>a.length+c.length+(fl (l.drop (i+1))).length<=4294967296) (λc a=>some (a++(c.map (λs=>(⟨s.L_,b.w_,s.R_,b.H_⟩:Rect))++fl (l.drop (i+1)))))
   (λd j a n e m=>?_) (λd a e=>?_) (by omega) (by omega)).trans rfl
  .unfold qP
   simp only[Qa3,hb];refine Y9 (Vo n) ?_
   simp only[Qb1]at e;refine Z5 (k:=?_)
   refine Z5 (k:=?_);refine Z5 (k:=?_)
   grind
  .unfold qP
   simp only[Qa3,hb];refine Z4 (Us _) ?_
   unfold qO;refine Z5 (k:=?_)
   grind
 .unfold qQ
  refine Z4 (Us _) ?_;simp[qN,fl,flat]
theorem cR(hF:Q6<=F){cs:List Int}{row:Int->Option (List Span)}(hS:Ma S)(hst:Step [] cs λy=>QV λx=>S x y)(hc:cs.length<=65536)(hrow:∀y,row y=some (QV λx=>S x y))(hlen:∀y,(QV λx=>S x y).length<=65536):Dc F cs row=some (cn S):=by
 have E:=hF;unfold Q6 at hF
 unfold Dc;have D:∀c:List Band,Runs (c.map Band.rn)->(∀t,K5 [] (c.map Band.rn) t=QV λx=>S x t)->c.length<=cs.length->(∀b∈c,b.spans_.length<=65536)->Sw F c=some (cn S):=by
  intro c R n B f;unfold Sw
  have K:=Z3p c 65536 f;have L:c.length*65536<=65536*65536:=Qb3 _ (by omega)
  refine Q4 (Q9l E (by omega) (by unfold Z9;omega) (λb g=>by have:=f b g;omega)) ?_;have O:=(HY hS hst (acc:=(c.map Band.rn).filter λr=> !r.v.isEmpty) (R.filter _) (λt=>by
   rw[R.atR_filter _ (λr _ V=>by simpa using V)];exact n t) (λb g=>by
   grind)).1
  rw[O];congr 1
  have:∀l:List (Rn (List Span)),flat l=flat (l.filter λr=> !r.v.isEmpty):=by
   intro l
   induction l with
   |nil=>rfl
   |cons a l I=>
    rw[Qo4];have e:flat (a::l)=z9 a++flat l:=rfl
    cases n:a.v with
    |nil=>
     have:z9 a=[]:=by simp[z9,n]
     grind
    |cons s v=>
     simp only[List.isEmpty_cons,Bool.not_false,Qh8];have P:flat (a::l.filter λr=> !r.v.isEmpty)=z9 a++flat (l.filter λr=> !r.v.isEmpty):=rfl
     grind
  exact this _
 refine z5 (λz:Int×List Band=>∃(i:Nat) (c:List Band),z=((i:Int)+1,c)/\c.length<=i/\(∀b∈c,b.spans_.length<=65536)/\((cs.length=0/\i=0)\/(i+1<=cs.length/\Bst [] (λy=>QV λx=>S x y) (c.map Band.rn) (gl cs i))))
  (λz=>cs.length+1-z.1.toNat) (λA z X I=>?_) ⟨0,[],rfl,Qb4 _,λb g=>(Qe7 g).elim,?_⟩ (by simp;omega)
 .obtain ⟨i,c,rfl,B,f,u⟩:=X
  simp only at I⊢;unfold cS
  rcases u with ⟨C,rfl⟩|⟨Y,G⟩
  .have M:c=[]:=Qe0 (by omega)
   subst M;refine Z4 (by simp;omega) ?_
   exact D [] .nil (λt=>(hst.empty C t).symm) (by simp) (λb g=>by cases g)
  .refine Z6 (λd=>?_) (λd=>?_)
   .have d:i+1<cs.length:=by simp at d;omega
    have H:=hst.asc.at_lt (show i<i+1 by omega) d;have o:=hst.gap i d
    have T:((i:Int)+1-1).toNat=i:=by omega
    have P:((i:Int)+1).toNat=i+1:=by omega
    rw[T];refine Z5 (k:=?_)
    refine Z5 (k:=?_);refine Z5 (k:=?_)
    refine Z5 (k:=?_);refine Z5 (k:=?_)
    refine Q4 (hrow _) ?_;generalize n:(QV λx=>S x (gl cs i))=v at *
    have W:v.length<=65536:=by rw[<-n];exact hlen _
    have j:(∀q,(c.map Band.rn).getLast?=some q->q.hi=gl cs i->q.v≠v)->KZ F cs ((i:Int)+1) c v A false=some (cn S):=by
     intro h;unfold KZ
     refine Z4 rfl ?_;rw[T,P]
     refine Z5 (k:=?_);unfold Db
     refine Z5 (k:=?_);refine I _ ⟨i+1,c++[⟨gl cs i,gl cs (i+1),v⟩],by simp,by simp;omega,λb g=>?_,.inr ⟨by omega,?_⟩⟩ (by simp only;omega)
     .grind
     .rw [Qd6]
      have:=G.add H (λt K L=>(o t K L).trans n.symm) (λa U J=>by rw[n];exact h a U J)
      rw[n]at this;exact this
    rcases Qj4 c with C|⟨w,e,J⟩
    .subst C
     refine Z4 rfl ?_;exact j λq h=>by simp at h
    .rw [Qj5]at J
     subst J;have m:(w ++ [e]).length=w.length+1:=by simp
     have Q:(((w.length+1:Nat):Int)-1).toNat=w.length:=by omega
     rw[m]at B⊢;have p:gl (w ++ [e]) w.length=e:=GF _ _ rfl
     refine Y9 (by simp) ?_;refine Z5 (k:=?_)
     refine Z5 (k:=?_);rw[Q,p]
     by_cases hh:e.H_=gl cs i
     .refine Y9 (by simpa using hh) ?_
      refine Z5 (k:=?_);refine Z5 (k:=?_)
      refine Q4 (Q7D E (by unfold Z9;omega)) ?_
      by_cases hvv:e.spans_=v
      .rw [Qa6 hvv]
       unfold KZ;refine Y9 rfl ?_
       simp only[m];refine Z5 (k:=?_)
       refine Z5 (k:=?_);rw[Q,p,RE _ _ _ rfl,P]
       unfold Db;refine Z5 (k:=?_)
       refine I _ ⟨i+1,w ++ [⟨e.w_,gl cs (i+1),e.spans_⟩],by simp,by simp;omega,λb g=>?_,.inr ⟨by omega,?_⟩⟩ (by simp only;omega)
       .rcases Qa9.1 g with g|g
        .exact f b (by simp[g])
        .rw [Qb0.1 g];exact f e (by simp)
       .rw [Qd6]at G⊢
        exact G.grow (a:=e.rn) hh H λt K L=>(o t K L).trans hvv.symm
      .rw [Qa5 hvv]
       exact j λq h _=>by rw[Qd6]at h;simp at h;subst h;exact hvv
     .refine Z4 (by simpa using hh) ?_
      exact j λq h N=>by rw[Qd6]at h;simp at h;subst h;exact absurd N hh
   .have d:¬i+1<cs.length:=by simp at d;omega
    exact D c G.runs (λt=>hst.done (by omega) G t) (by omega) f
 .by_cases C:cs.length=0
  .exact .inl ⟨C,rfl⟩
  .exact .inr ⟨by omega,hst.start (by omega)⟩
theorem xx(ls:List (List Rect))(h:l∈ls):Jv (Vw ls) l:=λr a=>⟨(Q0L ls _).2 ⟨l,h,r,a,.inl rfl⟩,(Q0L ls _).2 ⟨l,h,r,a,.inr rfl⟩⟩
theorem yb(l:List Rect){ls:List (List Rect)}(h:l∈ls):Grid (Zb l []) (Vw ls) (Q2 l):=by
 have:=Grid.of (xs:=Zb l []) (ys:=Vw ls) (a:=l) (b:=[]) (Ub l .nil) (Q2E ls)
  (λr c=>⟨(ZJ l _ _).2 (.inr ⟨r,c,.inl rfl⟩),(ZJ l _ _).2 (.inr ⟨r,c,.inr rfl⟩)⟩) (λr c=>by cases c) (xx ls h) (λr c=>by cases c) (k:=λp q=>p||q) rfl
 have e:(λx y=>Q2 l x y||Q2 [] x y)=Q2 l:=by funext x y;simp[Q2]
 grind
theorem qU(hF:Q6<=F)(hl:l.length<=32768)(hpos:∀r∈l,r.L_<r.R_):XH F l=some (cn (Q2 l)):=by
 unfold XH;have a:=yb l (ls:=[l]) (by simp)
 have c:Wx [l]=l.length:=by simp[Wx]
 have b:=Q2D [l];refine Q4 (zh hF (by omega) (by simp)) ?_
 refine Q4 (cR hF a.rows a.step (by omega) (λy=>?_) (λy=>?_)) rfl
 .unfold qV
  exact Q4 (Sn hF (by omega) hpos y) rfl
 .have:=(a.x y).spn_len
  have d:=Fh (l:=l);omega
theorem Q7A{α:Type}[Emb α](hF:Q6<=F){l:List α}{q:α->Option Bool}(p:α->Bool)(hl:l.length<=1000000000)(hq:∀r∈l,q r=some (p r)):∃i:Int,Wl F l q=some i/\(0<=i↔l.any p=true):=by
 unfold Q6 at hF;have b:∀(n i:Nat),i<=l.length->l.length-i<n->∃r:Int,Y3 (λagain (z:Int)=>Wk F l q again z) n (i:Int)=some r/\(0<=r↔(l.drop i).any p=true):=by
  intro n
  induction n with
  |zero=>intro i _ h;omega
  |succ n ih=>
   intro i m j;have g:Y3 (λagain (z:Int)=>Wk F l q again z) (n+1) (i:Int)=Wk F l q (Y3 (λagain (z:Int)=>Wk F l q again z) n) (i:Int):=rfl
   rw[g]
   by_cases h:i<l.length
   .rw [xR h]
    by_cases a:p (gl l i)=true
    .refine ⟨i,?_,by rw[a];simp⟩
     unfold Wk;refine Y9 (Vo h) ?_
     refine Z5 (k:=?_);exact Q4 (hq _ (K3 h)) (Y9 a rfl)
    .have a:p (gl l i)=false:=by simpa using a
     obtain⟨r,e,c⟩:=ih (i+1) h (by omega);refine⟨r,?_,by rw[c,a];simp⟩
     unfold Wk;refine Y9 (Vo h) ?_
     refine Z5 (k:=?_);refine Q4 (hq _ (K3 h)) (Z4 a ?_)
     refine Z5 (k:=?_);exact e
   .have:i=l.length:=by omega
    subst this;refine⟨-1,?_,by simp⟩
    unfold Wk;exact Z4 (Us _) rfl
 obtain⟨r,d,f⟩:=b F 0 (Qc3 _) (by omega);exact⟨r,d,by simpa using f⟩
theorem UY{α:Type}[Emb α](hF:Q6<=F){l:List α}{q:α->Option Bool}(p:α->Bool)(hl:l.length<=1000000000)(hq:∀r∈l,q r=some (p r)):ZF F l q=some (l.any p):=by
 obtain⟨i,b,a⟩:=Q7A hF p hl hq;unfold ZF
 refine Q4 b ?_;congr 1
 rw[Qe1, <-a,Qt5]
theorem cz(F:Nat)(r:Rect):BR F r=some (QQ r):=by
 unfold BR;rw[Yy (Vj F),Yy (Vj F),Yy (Vj F),Yy (Vj F),Yy (Vj F)]
 rfl
theorem Wz(hF:Q6<=F)(a:Re_):Ya F a=some (QP a.t_):=by
 obtain⟨l⟩:=a;simp only
 unfold Ya;have b:=hF
 unfold Q6 at hF;refine Z6 (λh=>?_) (λh=>?_)
 .have h:120<l.length:=by simp at h;omega
  rw[Xl λc=>by have:=c.1;omega];rfl
 .have h:l.length<=120:=by simp at h;omega
  refine Q4 (UY (α:=Rect) b (λr=> !QQ r) (by simp only;omega) (λr _=>by unfold qW;rw[cz];rfl)) ?_;unfold Sl
  refine Z6 (λe=>?_) (λe=>?_)
  .rw [Xl λc=>?_]
   simp only[Qc6]at e;obtain⟨r,d,f⟩:=e
   rw[c.2.1 r d]at f;cases f
  .have g:∀ r ∈ l,QQ r=true:=by
    intro r d;have:=Qf6.1 e r d
    simpa using this
   refine Q4 (qU b (by simp only;omega) (λr d=>((Yr r).1 (g r d)).2.1)) ?_;refine Q4 (Q7F b (by unfold Z9;simp only;omega)) ?_
   simp only
   by_cases hc:cn (Q2 l)=l
   .rw [Qa6 hc,Wi ⟨h,g,(Xa l).2 hc⟩]
   .rw [Qa5 hc,Xl λc=>hc ((Xa l).1 c.2.2)]
def Zx{α:Type}(p:α->Bool)(l:List α):Int:=if l.any p then(l.findIdx p:Int)else -1
theorem vz{α:Type}[Emb α]{l:List α}{p:α->Bool}(h:i<l.length)(hb:∀j,j<i->p (gl l j)=false)(hi:p (gl l i)=true):l.findIdx p=i:=by
 induction l generalizing i with
 |nil=>simp at h
 |cons a l ih=>
  rw[List.findIdx_cons]
  cases i with
  |zero=>
   have:p a=true:=hi
   rw[this];rfl
  |succ i=>
   have b:p a=false:=hb 0 (by omega);rw[b]
   have:=ih (i:=i) (by simpa using h) (λj c=>hb (j+1) (by omega)) hi
   simp[this]
theorem FP{α:Type}[Emb α]{l:List α}{p:α->Bool}(h:∀j,j<l.length->p (gl l j)=false):l.any p=false:=by
 rw[Qf6];intro x b
 obtain⟨j,a,rfl⟩:=Qc7 b;have:=h j a
 rw[Qc a]at this;simpa using this
theorem jj{α:Type}[Emb α](hF:Q6<=F){l:List α}{q:α->Option Bool}(p:α->Bool)(hl:l.length<=1000000000)(hq:∀r∈l,q r=some (p r)):Wl F l q=some (Zx p l):=by
 unfold Q6 at hF;unfold Wl
 refine z5 (λz:Int=>∃i:Nat,z=i/\i<=l.length/\∀j,j<i->p (gl l j)=false) (λz=>l.length-z.toNat) (λc z g f=>?_) ⟨0,rfl,by omega,λj m=>by omega⟩ (by simp;omega);obtain⟨i,rfl,n,d⟩:=g
 unfold Wk;refine Z6 (λh=>?_) (λh=>?_)
 .have h:i<l.length:=by simpa using h
  refine Z5 (k:=?_);refine Q4 (hq _ (K3 h)) ?_
  simp only[Qa3];refine Z6 (λa=>?_) (λa=>?_)
  .have b:l.any p=true:=Qc6.2 ⟨_,K3 h,a⟩
   rw[Zx,Qa2 b,vz h d a]
  .refine Z5 (k:=?_)
   refine f _ ⟨i+1,by omega,h,λj m=>?_⟩ (by omega);rcases Qd3 j i with e|e
   .exact d j e
   .have:j=i:=by omega
    subst this;exact a
 .have h:¬i<l.length:=by simpa using h
  have:i=l.length:=by omega
  subst this;have b:=FP d
  rw[Zx,b];rfl
theorem Q7I(hF:Q6<=F){l:List A2_}{q:A2_->Option Bool}(p:A2_->Bool)(hl:l.length<=1000000000)(hq:∀r∈l,q r=some (p r)):Rs F l q=some (l.filter λr=> !p r):=by
 have C:=hF;unfold Q6 at hF
 unfold Rs;refine Q4 (jj (α:=A2_) C p hl hq) ?_
 by_cases g:l.any p=true
 .obtain ⟨x,n,u⟩:=Qc6.1 g
  have f:l.findIdx p<l.length:=Qm4 ⟨x,n,u⟩;have y:p (gl l (l.findIdx p))=true:=by rw[Qc f];exact Qr8 (w:=f)
  have v:∀j,j<l.findIdx p->p (gl l j)=false:=by
   intro j s;rw[Qc (by omega)]
   simpa using List.not_of_lt_findIdx s
  rw[Zx,Qa2 g];refine Z4 (by simp) ?_
  refine Z5 (k:=?_);generalize l.findIdx p=i0 at *
  have G:(l.take (i0+1)).filter (λr=> !p r)=l.take i0:=by
   rw[Qr f,Qg6];have H:(l.take i0).filter (λr=> !p r)=l.take i0:=by
    rw[Qm5];intro x n
    obtain⟨j,s,rfl⟩:=Qc7 n;have t : j<i0:=by simp at s;omega
    have:=v j t
    rw[Qc (by omega)]at this;simp[this]
   rw[H];simp[y]
  refine z5 (λz:Int×Int×List A2_=>∃(i j:Nat) (a:List A2_),z=((i:Int),(j:Int),a)/\i<j/\j<=l.length/\a.length=l.length/\(∀m,j<=m->gl a m=gl l m)/\a.take i=(l.take j).filter λr=> !p r)
   (λz=>l.length-z.2.1.toNat) (λA z I B=>?_) ⟨i0,i0+1,l,rfl,by omega,by omega,rfl,λ_ _=>rfl,G.symm⟩ (by simp only;omega)
  obtain⟨i,j,a,rfl,D,s,c,d,e⟩:=I;simp only at B⊢
  unfold jq;rw[c]
  refine Z6 (λh=>?_) (λh=>?_)
  .have h:j<l.length:=by simpa using h
   refine Z5 (k:=?_);simp only[Qa3]
   rw[d j (Qb4 _)];refine Q4 (hq _ (K3 h)) ?_
   have o:(l.take (j+1)).filter (λr=> !p r)=(l.take j).filter (λr=> !p r)++(if p (gl l j)=true then[]else[gl l j]):=by
    rw[Qr h,Qg6]
    by_cases b:p (gl l j)=true
    .rw [Qa2 b];simp[b]
    .rw [Qa1 b];simp[b]
   refine Z6 (λb=>?_) (λb=>?_)
   .have b:p (gl l j)=false:=by simpa using b
    refine Z5 (k:=?_);refine Z5 (k:=?_)
    unfold BE;refine Z5 (k:=?_)
    refine B _ ⟨i+1,j+1,a.set i (gl l j),rfl,by omega,by omega,by simp[c],λm E=>?_,?_⟩ (by simp only;omega)
    .rw [Ps _ _ _ _ (by omega),Qa1 (by omega)];exact d m (by omega)
    .rw [o,Qa1 (by rw[b];simp), <-e,Qr (by simp;omega),LQ _ _ _ _ (Qb4 _),Ps _ _ _ _ (by omega),Qa2 rfl]
   .have b:p (gl l j)=true:=by simpa using b
    unfold BE;refine Z5 (k:=?_)
    refine B _ ⟨i,j+1,a,rfl,by omega,by omega,c,λm E=>d m (by omega),?_⟩ (by simp only;omega);rw[o,Qa2 b,Qj2,e]
  .have h:¬j<l.length:=by simpa using h
   unfold qf;simp only[Qa3,xD,c]
   refine Z5 (k:=?_);refine Z5 (k:=?_)
   rw[LR _ _ _ (by omega),e,Ql6 (by omega)]
 .have g:l.any p=false:=by simpa using g
  rw[Zx,g];refine Y9 rfl ?_
  congr 1
  symm
  rw[Qm5];intro x n
  have:=Qf6.1 g x n
  simpa using this
theorem qp(hl:l.length<=Z9):Xw F l=some l:=by
 unfold Xw
 cases h:l with
 |nil=>
  show Vs _ _=_;unfold Vs
  exact @Q9 _ _ (Classical.propDecidable _) _ _ rfl rfl
 |cons a l' =>
  have:(a::l').length=l'.length+1:=rfl
  show(gd _ _)=_;rw[<-h]
  refine Z5 (k:=?_);simp
noncomputable def YC(f:A2_):Int:=
 if f.N_<1\/1073741824<f.N_ then 2 else if f.k_<0\/15<f.k_ then 14 else if f.F_<0\/f.u_<=f.F_\/36865<f.u_ then 9
 else if f.g_.t_.length=0\/QP f.g_.t_=false then 7 else 0
theorem bC(hF:Q6<=F)(f:A2_):Ds F f=some (YC f):=by
 have g:∀b:Bool,(b=true↔f.g_.t_.length=0\/QP f.g_.t_=false)->XV F b=some (if f.g_.t_.length=0\/QP f.g_.t_=false then 7 else 0):=by
  intro b a;unfold XV
  refine Z6 (λh=>by rw[Qa2 (a.1 h)]) (λh=>by rw[Qa1 λc=>by rw[a.2 c]at h;cases h])
 have e:∀b:Bool,(b=true↔f.F_<0\/f.u_<=f.F_\/36865<f.u_)->JZ F f b=some (if f.F_<0\/f.u_<=f.F_\/36865<f.u_ then 9 else if f.g_.t_.length=0\/QP f.g_.t_=false then 7 else 0):=by
  intro b a;unfold JZ
  refine Z6 (λh=>by rw[Qa2 (a.1 h)]) (λh=>?_);rw[Qa1 λc=>by rw[a.2 c]at h;cases h]
  refine Q4 (Dy hF _) ?_;rw[Yi (XV F)]
  grind
 have d:∀b:Bool,(b=true↔f.k_<0\/15<f.k_)->Ka F f b=some (if f.k_<0\/15<f.k_ then 14 else if f.F_<0\/f.u_<=f.F_\/36865<f.u_ then 9 else if f.g_.t_.length=0\/QP f.g_.t_=false then 7 else 0):=by
  intro b a;unfold Ka
  refine Z6 (λh=>by rw[Qa2 (a.1 h)]) (λh=>?_);rw[Qa1 λc=>by rw[a.2 c]at h;cases h]
  rw[Yi (JZ F f),Yi (JZ F f)];exact e _ (by simp)
 unfold Ds SQ YC;rw[Yi (λb=>br b (some (2:Int)) (br (decide (f.k_<(0:Int))) (Ka F f true) (Ka F f (decide ((15:Int)<f.k_)))))]
 refine Z6 (λh=>by rw[Qa2 (by simpa using h)]) (λh=>?_);rw[Qa1 (by simpa using h),Yi (Ka F f)]
 exact d _ (by simp)
theorem Z3v(hF:Q6<=F)(f:A2_):CG F f=some (YC f):=by
 have g:∀b:Bool,(b=true↔f.g_.t_.length=0\/QP f.g_.t_=false)->Ho F b=some (if f.g_.t_.length=0\/QP f.g_.t_=false then 7 else 0):=by
  intro b a;unfold Ho
  refine Z6 (λh=>by rw[Qa2 (a.1 h)]) (λh=>by rw[Qa1 λc=>by rw[a.2 c]at h;cases h])
 have i:∀b:Bool,(b=true↔f.F_<0\/f.u_<=f.F_\/36865<f.u_)->Ko F f b=some (if f.F_<0\/f.u_<=f.F_\/36865<f.u_ then 9 else if f.g_.t_.length=0\/QP f.g_.t_=false then 7 else 0):=by
  intro b a;unfold Ko
  refine Z6 (λh=>by rw[Qa2 (a.1 h)]) (λh=>?_);rw[Qa1 λc=>by rw[a.2 c]at h;cases h]
  refine Z6 (λd=>?_) (λd=>?_)
  .grind
  .have d:f.g_.t_.length≠0:=by simp at d;simpa using d
   exact Q4 (Wz hF _) (g _ (by simp[d]))
 have e:∀b:Bool,(b=true↔f.k_<0\/15<f.k_)->Kp F f b=some (if f.k_<0\/15<f.k_ then 14 else if f.F_<0\/f.u_<=f.F_\/36865<f.u_ then 9 else if f.g_.t_.length=0\/QP f.g_.t_=false then 7 else 0):=by
  intro b a;unfold Kp
  refine Z6 (λh=>by rw[Qa2 (a.1 h)]) (λh=>?_);rw[Qa1 λc=>by rw[a.2 c]at h;cases h]
  rw[Yi (Ko F f),Yi (Ko F f)];exact i _ (by simp)
 unfold CG CF YC;rw[Yi (λb=>br b (some (2:Int)) (br (decide (f.k_<(0:Int))) (Kp F f true) (Kp F f (decide ((15:Int)<f.k_)))))]
 refine Z6 (λh=>by rw[Qa2 (by simpa using h)]) (λh=>?_);rw[Qa1 (by simpa using h),Yi (Kp F f)]
 exact e _ (by simp)
noncomputable def Vb:Option Int->List A2_->Int
 |_,[]=>0
 |p,f::l=>if YC f≠0 then YC f else if p.any (λn=>decide (f.N_<=n))then 3 else Vb (some f.N_) l
noncomputable def ZB(l:List A2_):Int:=if 60<l.length then 1 else Vb none l
def Uq(l:List A2_)(i:Nat):Option Int:=if i=0 then none else some (gl l (i-1)).N_
theorem Q0q(l:List A2_)(i:Nat):Uq l (i+1)=some (gl l i).N_:=by simp[Uq]
theorem Q9T(hF:Q6<=F)(l:List A2_):SS F l=some (ZB l):=by
 have j:=hF;unfold Q6 at hF
 unfold SS ZB;refine Z6 (λh=>?_) (λh=>?_)
 .grind
 .have h:¬60<l.length:=by simp at h;omega
  rw[Qa1 h];refine z5 (λz:Int=>∃i:Nat,z=i/\i<=l.length/\Vb none l=Vb (Uq l i) (l.drop i)) (λz=>l.length-z.toNat) (λa z r q=>?_) ⟨0,rfl,by omega,rfl⟩ (by simp;omega)
  obtain⟨i,rfl,s,d⟩:=r;unfold bE
  refine Z6 (λc=>?_) (λc=>?_)
  .have c:i<l.length:=by simpa using c
   rw[Zy c,Vb]at d;refine Z5 (k:=?_)
   simp only[Qa3];refine Q4 (bC j _) ?_
   refine Z6 (λf=>?_) (λf=>?_)
   .grind
   .have f:YC (gl l i)=0:=by simpa using f
    rw[Qa1 (by simp[f])]at d;have o:∀b:Bool,b=(Uq l i).any (λn=>decide ((gl l i).N_<=n))->Dt F i a b=some (Vb none l):=by
     intro b g;unfold Dt
     refine Z6 (λm=>?_) (λm=>?_)
     .grind
     .rw [Qa1 (by rw[<-g,m];simp)]at d
      refine Z5 (k:=?_);refine q _ ⟨i+1,by omega,c,?_⟩ (by omega)
      rw[d,Q0q]
    refine Z6 (λe=>?_) (λe=>?_)
    .have e:0<i:=by simpa using e
     refine Z5 (k:=?_);refine Z5 (k:=?_)
     have p:((i:Int)-1).toNat=i-1:=by omega
     rw[p];exact o _ (by simp[Uq,show i≠0 from by omega])
    .have e:i=0:=by simp at e;omega
     exact o _ (by simp[Uq,e])
  .have c:¬i<l.length:=by simpa using c
   rw[Qe8 (by omega)]at d;rw[d];rfl
theorem Z3E(hF:Q6<=F)(l:List A2_):CL F l=some (ZB l):=by
 have j:=hF;unfold Q6 at hF
 unfold CL ZB;refine Z6 (λh=>?_) (λh=>?_)
 .grind
 .have h:¬60<l.length:=by simp at h;omega
  rw[Qa1 h];refine z5 (λz:Int=>∃i:Nat,z=i/\i<=l.length/\Vb none l=Vb (Uq l i) (l.drop i)) (λz=>l.length-z.toNat) (λa z r q=>?_) ⟨0,rfl,by omega,rfl⟩ (by simp;omega)
  obtain⟨i,rfl,s,d⟩:=r;unfold Q2g
  refine Z6 (λc=>?_) (λc=>?_)
  .have c:i<l.length:=by simpa using c
   rw[Zy c,Vb]at d;refine Z5 (k:=?_)
   simp only[Qa3];refine Q4 (Z3v j _) ?_
   refine Z6 (λf=>?_) (λf=>?_)
   .grind
   .have f:YC (gl l i)=0:=by simpa using f
    rw[Qa1 (by simp[f])]at d;have o:∀b:Bool,b=(Uq l i).any (λn=>decide ((gl l i).N_<=n))->Hu F i a b=some (Vb none l):=by
     intro b g;unfold Hu
     refine Z6 (λm=>?_) (λm=>?_)
     .grind
     .rw [Qa1 (by rw[<-g,m];simp)]at d
      refine Z5 (k:=?_);refine q _ ⟨i+1,by omega,c,?_⟩ (by omega)
      rw[d,Q0q]
    refine Z6 (λe=>?_) (λe=>?_)
    .have e:0<i:=by simpa using e
     refine Z5 (k:=?_);refine Z5 (k:=?_)
     have p:((i:Int)-1).toNat=i-1:=by omega
     rw[p];exact o _ (by simp[Uq,show i≠0 from by omega])
    .have e:i=0:=by simp at e;omega
     exact o _ (by simp[Uq,e])
  .have c:¬i<l.length:=by simpa using c
   rw[Qe8 (by omega)]at d;rw[d];rfl
structure VL (l:List A2_):Prop where
 len:l.length<=60
 one:∀f∈l,YC f=0
 asc:l.Pairwise λf g=>f.N_<g.N_
theorem Q3n:∀(l:List A2_) (p:Option Int),Vb p l=0↔(∀f∈l,YC f=0)/\l.Pairwise (λf g=>f.N_<g.N_)/\∀n,p=some n->∀f∈l,n<f.N_
 |[],p=>by simp[Vb]
 |f::l,p=>by
  have e:=Q3n l (some f.N_);unfold Vb
  by_cases h1:YC f=0
  .rw [Qa1 (by simp[h1])]
   by_cases h2:p.any (λn=>decide (f.N_<=n))=true
   .rw [Qa2 h2]
    constructor
    .grind
    .rintro ⟨_,_,h⟩
     cases p with
     |none=>simp at h2
     |some n=>
      grind
   .rw [Qa1 h2,e]
    constructor
    .rintro ⟨a,b,c⟩
     refine⟨λg d=>?_,Qd2.2 ⟨λg d=>c _ rfl g d,b⟩,λn i g d=>?_⟩
     all_goals grind
    .rintro ⟨a,b,c⟩
     obtain⟨j,k⟩:=Qd2.1 b
     grind
  all_goals grind
theorem HK(l:List A2_):ZB l=0↔VL l:=by
 unfold ZB
 by_cases h:60<l.length
 .rw [Qa2 h]
  exact⟨λh=>(by cases h),λc=>by have:=c.len;omega⟩
 .rw [Qa1 h,Q3n]
  exact⟨λ⟨a,b,_⟩=>⟨by omega,a,b⟩,λc=>⟨c.one,c.asc,λn d=>by cases d⟩⟩
theorem yc(f:A2_):YC f=0↔1<=f.N_/\f.N_<=1073741824/\0<=f.k_/\f.k_<=15/\0<=f.F_/\f.F_<f.u_/\f.u_<=36865/\f.g_.t_.length≠0/\J1 f.g_.t_:=by
 unfold YC;rw[<-Wj]
 grind
theorem Z3z{f:A2_}(h:f.g_.t_.length<=Z9):CI F f=some f:=by
 unfold CI;exact Q4 (qp h) rfl
theorem VL.rlen{l:List A2_}(h:VL l){f:A2_}(hf:f∈l):f.g_.t_.length<=120:=((yc f).1 (h.one f hf)).2.2.2.2.2.2.2.2.1
theorem Z3B(hF:Q6<=F){l:List A2_}(h:VL l):CJ F l=some l:=by
 unfold Q6 at hF;have c:=h.len
 unfold CJ;refine z5 (λz:Int×List A2_=>∃i:Nat,z=((i:Int),l.take i)/\i<=l.length) (λz=>l.length-z.1.toNat) (λb z e d=>?_) ⟨0,rfl,by omega⟩ (by simp only;omega)
 obtain⟨i,rfl,f⟩:=e;simp only at d⊢
 unfold Q2a;refine Z6 (λa=>?_) (λa=>?_)
 .have a:i<l.length:=by simpa using a
  refine Z5 (k:=?_);simp only[Qa3]
  refine Q4 (Z3z (by have:=h.rlen (K3 a);unfold Z9;omega)) ?_;refine Z5 (k:=?_)
  refine Z5 (k:=?_);exact d _ ⟨i+1,by rw[Qr a];rfl,a⟩ (by simp only;omega)
 .have a:¬i<l.length:=by simpa using a
  unfold vG
  grind
def Xm(f:A2_)(d:Int):Bool:=decide (f.F_<=d)&&decide (d<f.u_)
theorem Q1Z(F:Nat)(f:A2_)(d:Int):Hn F f d=some (Xm f d):=by
 unfold Hn;rw[Yy (CE F)];rfl
theorem Z3x(hF:Q6<=F)(l:List A2_)(d:Int):CH F l d=some (if ZB l≠0 then ZB l else if d<0\/36864<d then 9 else 0):=by
 unfold CH;refine Q4 (Z3E hF l) ?_
 refine Z6 (λh=>?_) (λh=>?_)
 .grind
 .have h:ZB l=0:=by simpa using h
  rw[Qa1 (by simp[h]),Yi (Hp F)];unfold Hp
  refine Z6 (λh=>?_) (λh=>?_)
  all_goals grind
theorem Q2e(hF:Q6<=F)(l:List A2_)(d:Int):Ht F l d=some (if ZB l≠0 then([],ZB l)else if d<0\/36864<d then([],9)else(l.filter λf=>Xm f d,0)):=by
 unfold Ht;refine Q4 (Z3x hF l d) ?_
 by_cases h:ZB l=0
 .simp only[h,ne_eq,not_true_eq_false,Qh2]
  by_cases h2:d<0\/36864<d
  .simp only[h2,Qh8]
   exact Y9 rfl rfl
  .simp only[h2,Qh2]
   refine Z4 rfl ?_;have b:=(HK l).1 h
   refine Q4 (Z3B hF b) ?_;have a:=b.len
   refine Q4 (Q7I hF (λf=> !Xm f d) (by omega) (λf _=>by unfold vI;rw[Q1Z];rfl)) ?_;simp
 .have e:(if ZB l≠0 then ZB l else if d<0\/36864<d then 9 else 0)=ZB l:=Qa2 h
  rw[e,Qa2 h];refine Y9 (by simpa using h) rfl
def ZI(l:List A2_)(n:Int):Nat:=l.countP λf=>decide (f.N_<n)
theorem yu{l:List A2_}(h:l.Pairwise λf g=>f.N_<g.N_)(n:Int):ZI l n<=l.length/\(∀j,j<ZI l n->(gl l j).N_<n)/\∀j,ZI l n<=j->j<l.length->n<=(gl l j).N_:=by
 induction l with
 |nil=>exact⟨Qb4 _,λj i=>by simp[ZI]at i,λj _ i=>by simp at i⟩
 |cons f l ih=>
  obtain⟨o,k⟩:=Qd2.1 h;obtain⟨a,b,c⟩:=ih k
  by_cases hf:f.N_<n
  .have e:ZI (f::l) n=ZI l n+1:=by simp[ZI,hf]
   rw[e];refine⟨by simp;exact a,λj i=>?_,λj i d=>?_⟩
   .cases j with
    |zero=>exact hf
    |succ j=>exact b j (by omega)
   .cases j with
    |zero=>omega
    |succ j=>exact c j (by omega) (by simpa using d)
  .have m:ZI l n=0:=by
    unfold ZI
    grind
   have e:ZI (f::l) n=0:=by
    have:ZI (f::l) n=ZI l n:=by simp[ZI,hf]
    rw[this,m]
   rw[e];refine⟨Qc3 _,λj i=>by omega,λj _ d=>?_⟩
   cases j with
   |zero=>show n<=f.N_;omega
   |succ j=>exact c j (by omega) (by simpa using d)
structure TOk (t:Tape):Prop where
 at_:0<=t.at_
 len:t.l_.length<=400
theorem Z2r(a:Int)(h1:1<=n)(h2:n<=1099511627776):∃k,GC F a n=some k/\0<=k/\k<n:=by
 have b:=Int.tmod_lt_of_pos a (show 0<n by omega);have c:=Int.lt_tmod_of_pos a (show 0<n by omega)
 unfold GC;generalize a.tmod n=m at *
 by_cases h:m<0
 .refine ⟨m+n,?_,by omega,by omega⟩
  refine Z4 (by simp;omega) ?_;refine Z5 (k:=?_)
  refine Y9 (by simpa using h) ?_;refine Z5 (k:=?_)
  rfl
 .refine ⟨m,?_,by omega,by omega⟩
  refine Z4 (by simp;omega) ?_;refine Z5 (k:=?_)
  exact Z4 (by simpa using h) rfl
theorem QK(ht:TOk t)(h1:1<=n)(h2:n<=1099511627776):∃t' k,Qt F t n=some (t',k)/\TOk t' /\ 0<=k/\k<n:=by
 obtain⟨a,b⟩:=ht;unfold Qt
 by_cases h:(t.l_.length:Int)<=t.at_
 .exact ⟨t,0,Y9 (by simpa using h) rfl,⟨a,b⟩,by omega,by omega⟩
 .obtain ⟨k,c,k1,k2⟩:=Z2r (F:=F) (gl t.l_ ((t.at_+1)-1).toNat) h1 h2
  refine⟨⟨t.l_,t.at_+1⟩,k,?_,⟨by simp only;omega,b⟩,k1,k2⟩;refine Z4 (by simpa using h) ?_
  refine Z5 (k:=?_);refine Z5 (k:=?_)
  refine Z5 (k:=?_);exact Q4 c rfl
theorem WE(ht:TOk t){lo hi:Int}(h1:lo<=hi)(h0 : -1099511627<=lo)(h2:hi<=1099511627):∃t' k,YF F t lo hi=some (t',k)/\TOk t' /\ lo<=k/\k<=hi:=by
 obtain⟨t',k,d,a,b,c⟩:=QK (F:=F) ht (n:=(hi-lo)+1) (by omega) (by omega);refine⟨t',lo+k,?_,a,by omega,by omega⟩
 unfold YF;refine Z5 (k:=?_)
 refine Z5 (k:=?_);refine Q4 d ?_
 refine Z5 (k:=?_);rfl
def QT(n:Int)(l:List Rect):Prop:=∀r∈l,0<=r.L_/\r.L_<r.R_/\r.R_<=n/\0<=r.w_/\r.w_<r.H_/\r.H_<=n
theorem QT.prop(h:QT n l)(hn:n<=16384):∀r∈l,QQ r=true:=λr a=>(Yr r).2 (by have:=h r a;omega)
theorem QT.in(h:QT n l){x:Int}(hx:Q2 l x y=true):0<=x/\x<n/\0<=y/\y<n:=by
 obtain⟨r,a,b⟩:=Qc6.1 hx;rw[QG]at b
 have:=h r a
 omega
theorem Z3o{l:List (Rn (List Span))}(h:r∈flat l):∃b∈l,∃s∈b.v,r=⟨s.L_,b.lo,s.R_,b.hi⟩:=by
 obtain⟨b,d,a⟩:=Qb8.1 h;obtain⟨s,c,rfl⟩:=Qc5.1 a
 grind
theorem Yn.pos(h:Yn l)(hr:r∈l):r.L_<r.R_/\r.w_<r.H_:=by
 obtain⟨b,d,rfl⟩:=h;obtain⟨c,a,s,e,rfl⟩:=Z3o hr
 exact⟨(d.sp c a).pos s e,d.runs.pos c a⟩
theorem Uy(hr:r∈l){x:Int}(h:r.has x y=true):Q2 l x y=true:=Qc6.2 ⟨r,hr,h⟩
theorem Yn.box(h:Yn l)(hn:∀x y,Q2 l x y=true->0<=x/\x<n/\0<=y/\y<n):QT n l:=by
 intro r c;obtain⟨e,d⟩:=h.pos c
 have a:=hn r.L_ r.w_ (Uy c ((QG _ _ _).2 (by omega)));have b:=hn (r.R_-1) (r.H_-1) (Uy c ((QG _ _ _).2 (by omega)))
 omega
theorem Q3H(hf:Fin S)(hn:∀x y,S x y=true->0<=x/\x<n/\0<=y/\y<n):QT n (cn S):=
 (UN hf).box λx y h=>hn x y (by rwa [QN hf]at h)
theorem Q3B:Yn []:=⟨[],⟨.nil,λb a=>(Qe7 a).elim,λb a=>(Qe7 a).elim⟩,rfl⟩
theorem xH(h1:r.L_<r.R_)(h2:r.w_<r.H_):Yn [r]:=
 ⟨[⟨r.w_,r.H_,[⟨r.L_,r.R_⟩]⟩],⟨⟨λb a=>by rw[Qb0.1 a];exact h2,Qe6 _ _⟩,λb a=>by
  rw[Qb0.1 a];exact⟨λs c=>by rw[Qb0.1 c];exact h1,Qe6 _ _⟩,λb a=>by rw[Qb0.1 a];simp⟩,rfl⟩
theorem Q3G(n:Int):QT n []:=λr a=>(Qe7 a).elim
theorem J1.nil:J1 []:=⟨by simp,λr a=>(Qe7 a).elim,Q3B⟩
theorem yA(ht:TOk t)(h1:1<=n)(h2:n<=16384):∃t' r,Gy F t n=some (t',r)/\TOk t' /\ QT n [r]:=by
 obtain⟨z,x,e,i,w,C⟩:=QK (F:=F) ht (n:=n) (by omega) (by omega);obtain⟨p,y,f,c,j,s⟩:=QK (F:=F) i (n:=n) (by omega) (by omega)
 obtain⟨l,u,d,b,A,q⟩:=QK (F:=F) c (n:=n-x) (by omega) (by omega);obtain⟨g,v,a,h,o,B⟩:=QK (F:=F) b (n:=n-y) (by omega) (by omega)
 refine⟨g,⟨x,y,(x+1)+u,(y+1)+v⟩,?_,h,λr m=>?_⟩
 .unfold Gy
  refine Q4 e ?_;refine Q4 f ?_
  simp only
  refine Z5 (k:=?_);refine Z5 (k:=?_)
  refine Q4 d ?_;simp only
  refine Z5 (k:=?_);refine Z5 (k:=?_)
  refine Z5 (k:=?_);refine Q4 a ?_
  simp only
  refine Z5 (k:=?_);rfl
 all_goals grind
structure RegT (n:Int) (a:Re_):Prop where
 box:QT n a.t_
 val:J1 a.t_
theorem Q1a(hF:Q6<=F)(ht:TOk t)(h1:1<=n)(h2:n<=16384)(m1:0<=most)(m2:most<=100):∃t' a R,Gx F t n most=some (t',a)/\TOk t' /\ RegT n a/\(List.length (α:=Rect) R:Int)<=most/\Q2 a.t_=Q2 R:=by
 have j:=hF;unfold Q6 at hF
 obtain⟨A,c,I,C,G,H⟩:=QK (F:=F) ht (n:=most+1) (by omega) (by omega);have g:∀(k f:Nat) (t:Tape) (l:List Rect),k<f->TOk t->QT n l->l.length+k<=100->(l.length:Int)+k<=most->∃t' a R,Y3 (λagain (z:Int×List Int×Int×List Rect)=>Pi F n again z.1 z.2.1 z.2.2.1 z.2.2.2) f ((k:Int),t.l_,t.at_,l)=some (t',a)/\TOk t' /\ RegT n a/\(List.length (α:=Rect) R:Int)<=most/\Q2 a.t_=Q2 R:=by
  intro k
  induction k with
  |zero=>
   intro f t l s ht e w v
   cases f with
   |zero=>omega
   |succ f=>
    have m:=Z0b j (l:=l) (by omega) (e.prop h2);refine⟨⟨t.l_,t.at_⟩,(if 120<(cn (Q2 l)).length then((⟨[]⟩:Re_),(1:Int))else(⟨cn (Q2 l)⟩,0)).1,(if 120<(cn (Q2 l)).length then[]else l),?_,ht,?_⟩
    .show Pi F n _ 0 t.l_ t.at_ l=_
     unfold Pi;refine Z4 rfl ?_
     unfold yz;exact Q4 m rfl
    .split
     .exact ⟨⟨Q3G _,J1.nil⟩,by simp;omega,rfl⟩
     .rename_i p
      have b:QT n (cn (Q2 l)):=Q3H (Qz l) λx y h=>e.in h
      exact⟨⟨b,by simp only;omega,b.prop h2,UN (Qz l)⟩,by omega,by funext x y;exact QN (Qz l) x y⟩
  |succ k ih=>
   intro f t l s ht e w v
   cases f with
   |zero=>omega
   |succ f=>
    obtain⟨t',r,B,u,D⟩:=yA (F:=F) ht h1 h2;obtain⟨E,a,Q,o,i,b⟩:=ih f t' (l++[r]) (by omega) u (λq d=>by
     rcases Qa9.1 d with d|d
     .exact e q d
     .exact D q d) (by simp;omega) (by simp;omega)
    refine⟨E,a,Q,?_,i,b⟩;show Pi F n _ ((k+1:Nat):Int) t.l_ t.at_ l=_
    unfold Pi;refine Y9 (by simp) ?_
    refine Q4 B ?_;refine Z5 (k:=?_)
    refine Z5 (k:=?_);have:((k+1:Nat):Int)-1=(k:Int):=by omega
    rw[this];exact o
 obtain⟨t',a,Q,o,i,b⟩:=g c.toNat F A [] (by omega) C (Q3G _) (by simp;omega) (by simp;omega);refine⟨t',a,Q,?_,i,b⟩
 unfold Gx;refine Z5 (k:=?_)
 grind
theorem yy(hF:Q6<=F)(ht:TOk t)(h1:1<=n)(h2:n<=16384)(m1:0<=most)(m2:most<=100):∃t' a,Gx F t n most=some (t',a)/\TOk t' /\ RegT n a:=by
 obtain⟨t',a,_,e,o,h,_⟩:=Q1a hF ht h1 h2 m1 m2;exact⟨t',a,e,o,h⟩
theorem Z2c(hF:Q6<=F)(ht:TOk t)(h1:1<=n)(h2:n<=16384)(m1:1<=most)(m2:most<=100):∃t' a R,GA F t n most=some (t',a)/\TOk t' /\ RegT n a/\a.t_.length≠0/\(List.length (α:=Rect) R:Int)<=most/\Q2 a.t_=Q2 R:=by
 obtain⟨e,a,Q,d,f,j,g⟩:=Q1a hF ht h1 h2 (by omega) m2;unfold GA
 by_cases h:a.t_.length=0
 .obtain ⟨c,r,k,i,b⟩:=yA (F:=F) f h1 h2
  have l:=b r (by simp);refine⟨⟨c.l_,c.at_⟩,⟨[r]⟩,[r],?_,i,⟨b,by simp,b.prop h2,xH (by omega) (by omega)⟩,by simp,by simp;omega,rfl⟩
  refine Q4 d ?_;refine Y9 (by simp only[h];rfl) ?_
  exact Q4 k rfl
 .refine ⟨⟨e.l_,e.at_⟩,⟨a.t_⟩,Q,?_,f,j,h,g⟩
  refine Q4 d ?_;exact Z4 (by simpa using h) rfl
theorem Z2e(hF:Q6<=F)(ht:TOk t)(h1:1<=n)(h2:n<=16384)(m1:0<=most)(m2:most<=100):∃t' a,GA F t n most=some (t',a)/\TOk t' /\ RegT n a/\a.t_.length≠0:=by
 obtain⟨d,a,e,f,i⟩:=yy hF ht h1 h2 m1 m2;unfold GA
 by_cases h:a.t_.length=0
 .obtain ⟨c,r,j,g,b⟩:=yA (F:=F) f h1 h2
  have k:=b r (by simp);refine⟨⟨c.l_,c.at_⟩,⟨[r]⟩,?_,g,⟨b,by simp,b.prop h2,xH (by omega) (by omega)⟩,by simp⟩
  refine Q4 e ?_;refine Y9 (by simp only[h];rfl) ?_
  exact Q4 j rfl
 .refine ⟨⟨d.l_,d.at_⟩,⟨a.t_⟩,?_,f,i,h⟩
  refine Q4 e ?_;exact Z4 (by simpa using h) rfl
structure FeaT (f:A2_):Prop where
 kind:0<=f.k_/\f.k_<=15
 F_:0<=f.F_/\f.F_<20
 u_:f.F_<f.u_/\f.u_<=f.F_+30
 reg:RegT 9 f.g_
 ne:f.g_.t_.length≠0
theorem Z2k(hF:Q6<=F)(ht:TOk t)(n:Int):∃t' f,Cc F t n=some (t',f)/\TOk t' /\ FeaT f/\f.N_=n:=by
 obtain⟨A,a,j,p,z,B⟩:=QK (F:=F) ht (n:=20) (by omega) (by omega);obtain⟨y,b,l,g,u,w⟩:=QK (F:=F) p (n:=16) (by omega) (by omega)
 obtain⟨v,c,i,e,s,x⟩:=WE (F:=F) g (lo:=1) (hi:=30) (by omega) (by omega) (by omega);obtain⟨m,r,q,o,h,d⟩:=Z2e hF e (n:=9) (most:=2) (by omega) (by omega) (by omega) (by omega)
 refine⟨m,⟨n,b,a,a+c,r⟩,?_,o,⟨by simp only;omega,by simp only;omega,by simp only;omega,h,d⟩,rfl⟩;unfold Cc
 refine Q4 j ?_;refine Q4 l ?_
 refine Q4 i ?_;simp only
 refine Z5 (k:=?_);exact Q4 q rfl
theorem FeaT.one{f:A2_}(h:FeaT f)(h1:1<=f.N_)(h2:f.N_<=1073741824):YC f=0:=
 (yc f).2 ⟨h1,h2,h.kind.1,h.kind.2,h.F_.1,h.u_.1,by have:=h.F_;have:=h.u_;omega,h.ne,h.reg.val⟩
def Kj(l:List A2_)(f:A2_):List A2_:=l.take (ZI l f.N_)++[f]++l.drop (ZI l f.N_)
noncomputable def Xc(l:List A2_)(f:A2_):List A2_×Int:=
 if ZB l≠0 then([],ZB l)else if YC f≠0 then([],YC f)else if ZI l f.N_<l.length/\(gl l (ZI l f.N_)).N_=f.N_ then([],6)
 else if l.length=60 then([],1)else(Kj l f,0)
theorem bF(hF:Q6<=F)(l:List A2_)(f:A2_):SV F l f=some (Xc l f):=by
 have e:=hF;unfold Q6 at hF
 unfold SV Xc;refine Q4 (Q9T e l) ?_
 by_cases h:ZB l=0
 .refine Z4 (by simp[h]) ?_
  rw[Qa1 (by simp[h])];refine Q4 (bC e f) ?_
  by_cases h1:YC f=0
  .refine Z4 (by simp[h1]) ?_
   rw[Qa1 (by simp[h1])];have n:=(HK l).1 h
   have o:=n.len;obtain⟨a,b,c⟩:=yu n.asc f.N_
   unfold Kj;generalize ZI l f.N_=k at *
   refine z5 (λz:Int=>∃i:Nat,z=i/\i<=k) (λz=>l.length-z.toNat) (λm z t s=>?_) ⟨0,rfl,by omega⟩ (by simp;omega);obtain⟨i,rfl,u⟩:=t
   have j:i=k->SU F l f (i:Int)=some (if k<l.length/\(gl l k).N_=f.N_ then([],6)else if l.length=60 then([],1)else(l.take k++[f]++l.drop k,0)):=by
    rintro rfl;unfold SU
    have r:∀b:Bool,(b=true↔i<l.length/\(gl l i).N_=f.N_)->Du F l f (i:Int) b=some (if i<l.length/\(gl l i).N_=f.N_ then([],6)else if l.length=60 then([],1)else(l.take i++[f]++l.drop i,0)):=by
     intro b p;unfold Du
     refine Z6 (λh=>by rw[Qa2 (p.1 h)]) (λh=>?_);rw[Qa1 λq=>by rw[p.2 q]at h;cases h]
     refine Z6 (λh=>?_) (λh=>?_)
     .grind
     .have h:l.length≠60:=by simp at h;omega
      rw[Qa1 h];simp only[Qa3]
      refine Z5 (k:=?_);refine Z5 (k:=?_)
      refine Z5 (k:=?_);refine Z5 (k:=?_)
      refine Z5 (k:=?_);simp
    refine Z6 (λd=>?_) (λd=>?_)
    .have d:i<l.length:=by simpa using d
     refine Z5 (k:=?_)
     grind
    all_goals grind
   unfold bG;refine Z6 (λd=>?_) (λd=>?_)
   .have d:i<l.length:=by simpa using d
    refine Z5 (k:=?_);unfold Dv
    simp only[Qa3];refine Z6 (λg=>?_) (λg=>?_)
    .have g:(gl l i).N_<f.N_:=by simpa using g
     refine Z5 (k:=?_);refine s _ ⟨i+1,by omega,?_⟩ (by omega)
     grind
    all_goals grind
   .have d:¬i<l.length:=by simpa using d
    unfold Dv;exact Z4 rfl (j (by omega))
  .refine Y9 (by simpa using h1) ?_
   rw[Qa2 h1]
 .refine Y9 (by simpa using h) ?_
  rw[Qa2 h]
theorem Q1p{l:List A2_}{f g:A2_}:g∈Kj l f↔g=f\/g∈l:=by
 unfold Kj;constructor
 .grind
 .rintro (rfl|h)
  .simp
  .rw [<-Qg8 (ZI l f.N_) l]at h
   grind
theorem Z2y{l:List A2_}{f:A2_}(hl:VL l)(hf:YC f=0)(hn:¬(ZI l f.N_<l.length/\(gl l (ZI l f.N_)).N_=f.N_))(h60:l.length≠60):VL (Kj l f):=by
 obtain⟨a,b,c⟩:=yu hl.asc f.N_;have m:=hl.len
 refine⟨by simp[Kj];omega,λg h=>?_,?_⟩
 .rcases Q1p.1 h with rfl|h
  .exact hf
  .exact hl.one g h
 .unfold Kj
  generalize ZI l f.N_=k at *;have s:∀g∈l.take k,g.N_<f.N_:=by
   intro g h;obtain⟨j,i,rfl⟩:=Qc7 h
   have d : j<k:=by simp at i;omega
   have:=b j d
   rw[Qc (by omega)]at this
   grind
  have t:∀g∈l.drop k,f.N_<g.N_:=by
   intro g h;obtain⟨j,i,rfl⟩:=Qc7 h
   have d : k+j<l.length:=by simp at i;omega
   have n:=c (k+j) (by omega) d;rw[Qc d]at n
   have q:(l[k+j]).N_≠f.N_:=by
    intro e;rcases Qi6 j with rfl|p
    .exact hn ⟨by omega,by rw[Qc (by omega)];exact e⟩
    .have o:=c k (Qb4 _) (by omega)
     rw[Qc (by omega)]at o;have r:=Qc8.1 hl.asc k (k+j) (by omega) d (by omega)
     omega
   grind
  have p:=hl.asc
  grind
structure LayT (l:List A2_):Prop where
 vl:VL l
 fea:∀f∈l,FeaT f/\1<=f.N_/\f.N_<=12
theorem Z1Z(hF:Q6<=F)(ht:TOk t)(m1:0<=most)(m2:most<=50):∃t' l,TU F t most=some (t',l)/\TOk t' /\ LayT l/\(l.length:Int)<=most:=by
 have d:=hF;unfold Q6 at hF
 obtain⟨E,c,I,G,K,N⟩:=QK (F:=F) ht (n:=most+1) (by omega) (by omega);have p:∀(k f:Nat) (t:Tape) (l:List A2_),k<f->TOk t->LayT l->(l.length:Int)+k<=most->∃t' l',Y3 (λagain (z:List A2_×Int×List Int×Int)=>Pl F again z.1 z.2.1 z.2.2.1 z.2.2.2) f (l,(k:Int),t.l_,t.at_)=some (t',l')/\TOk t' /\ LayT l' /\ (l'.length:Int)<=most:=by
  intro k
  induction k with
  |zero=>
   intro f t l h ht e D
   cases f with
   |zero=>omega
   |succ f=>exact⟨⟨t.l_,t.at_⟩,l,rfl,ht,e,by omega⟩
  |succ k ih=>
   intro f t l h ht e D
   cases f with
   |zero=>omega
   |succ f=>
    obtain⟨L,n,A,H,M,n2⟩:=WE (F:=F) ht (lo:=1) (hi:=12) (by omega) (by omega) (by omega);obtain⟨w,g,y,u,B,C⟩:=Z2k d H n
    have j:=B.one (by omega) (by omega);have J:=(HK l).2 e.vl
    have v:((k+1:Nat):Int)-1=(k:Int):=by omega
    by_cases hadd:(Xc l g).2=0
    .have i:LayT (Xc l g).1/\(Xc l g).1.length=l.length+1:=by
      unfold Xc at hadd⊢;rw[Qa1 (by simp[J]),Qa1 (by simp[j])]at hadd⊢
      by_cases a:ZI l g.N_<l.length/\(gl l (ZI l g.N_)).N_=g.N_
      .grind
      .rw [Qa1 a]at hadd⊢
       by_cases b:l.length=60
       .grind
       .rw [Qa1 b]
        refine⟨⟨Z2y e.vl j a b,λx r=>?_⟩,?_⟩
        .rcases Q1p.1 r with rfl|r
         .grind
         .exact e.fea x r
        .have:=(yu e.vl.asc g.N_).1
         simp[Kj];omega
     obtain⟨s,q,a,b,o,m⟩:=ih f w (Xc l g).1 (by omega) u i.1 (by omega);refine⟨s,q,?_,b,o,m⟩
     show Pl F _ l ((k+1:Nat):Int) t.l_ t.at_=_;unfold Pl
     refine Y9 (by simp) ?_;refine Q4 A (Q4 y (Q4 (bF d l g) ?_))
     refine Y9 (by simpa using hadd) ?_;unfold DX
     refine Z5 (k:=?_);rw[v];exact a
    .obtain ⟨s,q,a,b,o,m⟩:=ih f w l (by omega) u e (by omega)
     refine⟨s,q,?_,b,o,m⟩;show Pl F _ l ((k+1:Nat):Int) t.l_ t.at_=_
     unfold Pl;refine Y9 (by simp) ?_
     refine Q4 A (Q4 y (Q4 (bF d l g) ?_));refine Z4 (by simpa using hadd) ?_
     unfold DX;refine Z5 (k:=?_)
     rw[v];exact a
 obtain⟨t',l,a,b,o,m⟩:=p c.toNat F E [] (by omega) G ⟨⟨by simp,λf h=>(Qe7 h).elim,.nil⟩,λf h=>(Qe7 h).elim⟩ (by simp;omega);refine⟨t',l,?_,b,o,m⟩
 unfold TU;refine Z5 (k:=?_)
 refine Q4 I ?_;have:(c.toNat:Int)=c:=by omega
 rw[this]at a;exact a
theorem Z2p(F:Nat)(l:List Int):∃t,Cg F l=some t/\TOk t:=by
 unfold Cg;have h:Qa ((l.length:Nat):Int) 400=((min l.length 400:Nat):Int):=by unfold Qa;split<;>omega
 rw[h];refine⟨⟨l.take (min l.length 400),0⟩,?_,by simp only;omega,by simp;omega⟩
 refine Z5 (k:=?_);simp
theorem Hm{R:Type}{body:(Int->Option R)->Int->Option R}{y:Option R}(N:Nat)(step:∀again (i:Nat),i<N->again ((i:Int)+1)=y->body again (i:Int)=y)(stop:∀again,body again (N:Int)=y)(hF:N<F):Y3 body F 0=y:=by
 refine z5 (λz:Int=>∃i:Nat,z=i/\i<=N) (λz=>N-z.toNat) (λagain z b a=>?_) ⟨0,rfl,Qc3 _⟩ (by simp;omega);obtain⟨i,rfl,c⟩:=b
 rcases Qd3 i N with h|h
 .exact step again i h (a _ ⟨i+1,by omega,h⟩ (by omega))
 .have:i=N:=by omega
  subst this;exact stop again
theorem Runs.len{α:Type}{l:List (Rn α)}(h:Runs l):∀{a:Int},a<=n->(∀r∈l,a<=r.lo/\r.hi<=n)->(l.length:Int)<=n-a:=by
 induction l with
 |nil=>intro a d _;simp;omega
 |cons r l ih=>
  intro a d c;have e:=c r (by simp)
  have f:=h.pos r (by simp);have:=ih h.tail (a:=r.hi) (by omega) λq b=>⟨(h.head q b).1,(c q (by simp[b])).2⟩
  grind
theorem Q3d(h:Fin S):cn S=[]↔∀x y,S x y=false:=by
 constructor
 .intro e x y
  rw[<-QN h,e];rfl
 .intro e
  exact PI (l:=[]) ⟨.nil,λb a=>(Qe7 a).elim,λb a=>(Qe7 a).elim⟩ λx y=>(e x y).symm
def Ke(r s:Rect):Bool:=decide (r.L_<s.R_)&&(decide (s.L_<r.R_)&&(decide (r.w_<s.H_)&&decide (s.w_<r.H_)))
theorem Q9n(F:Nat)(r s:Rect):Sb F r s=some (Ke r s):=by
 unfold Sb;rw[Yy (JQ F),Yy (JQ F),Yy (JQ F)]
 rfl
def Gr(a b:List Rect):Bool:=a.any λr=>b.any λs=>Ke r s
theorem Q0z{s:Rect}(hr:QQ r=true)(hs:QQ s=true):Ke r s=true↔∃x y,r.has x y=true/\s.has x y=true:=by
 rw[Yr]at hr hs;simp only[QG]
 constructor
 .intro h
  simp only[Ke,Qa4,Qb5]at h;refine⟨max r.L_ s.L_,max r.w_ s.w_,?_⟩
  omega
 .rintro ⟨x,y,h⟩
  simp only[Ke,Qa4,Qb5];omega
theorem YP(l:List Rect)(x y:Int):Q2 l x y=true↔∃r∈l,r.has x y=true:=by unfold Q2;rw[Qc6]
theorem zW(ha:∀r∈a,QQ r=true)(hb:∀r∈b,QQ r=true):Gr a b=true↔∃x y,Q2 a x y=true/\Q2 b x y=true:=by
 simp only[Gr,Qc6,YP];constructor
 .rintro ⟨r,d,s,c,h⟩
  obtain⟨x,y,e,f⟩:=(Q0z (ha r d) (hb s c)).1 h
  grind
 .rintro ⟨x,y,⟨r,d,e⟩,⟨s,c,f⟩⟩
  exact⟨r,d,s,c,(Q0z (ha r d) (hb s c)).2 ⟨x,y,e,f⟩⟩
theorem Z0O:Gr a b=Gr b a:=by
 rw[Qe1];simp only[Gr,Qc6,Ke,Qa4,Qb5]
 grind
noncomputable def Zo(a b:Re_):Bool:=QP a.t_&&(QP b.t_&&Gr a.t_ b.t_)
theorem Z1p(a b:Re_):Zo a b=Zo b a:=by
 unfold Zo;rw[Z0O]
 grind
theorem zc(hF:Q6<=F)(a b:Re_):XK F a b=some (Zo a b):=by
 unfold XK Zo;refine Q4 (Wz hF a) ?_
 refine Z6 (λh=>?_) (λh=>by rw[h];rfl);refine Q4 (Wz hF b) ?_
 refine Z6 (λc=>?_) (λc=>by rw[h,c];rfl);have e:=((Wj _).1 h).1
 have d:=((Wj _).1 c).1;refine Q4 (UY (α:=Rect) hF (λr=>b.t_.any λs=>Ke r s) (by omega) λr _=>?_) ?_
 .unfold zf
  refine Q4 (UY (α:=Rect) hF (λs=>Ke r s) (by omega) λs _=>?_) rfl;unfold ze
  rw[Q9n];rfl
 .rw [h,c];rfl
theorem Z0f(hF:Q6<=F)(a b:Re_):Ta F a b=some (Zo a b):=by
 unfold Ta Zo;refine Q4 (Dy hF a) ?_
 refine Z6 (λh=>?_) (λh=>by rw[h];rfl);refine Q4 (Dy hF b) ?_
 refine Z6 (λd=>?_) (λd=>by rw[h,d];rfl);have f:=(Wj _).1 h
 have c:=(Wj _).1 d;have l:=f.1
 have j:=c.1;refine Q4 (bZ hF (by omega)) ?_
 unfold Dz;rw[h,d]
 show some _=some (Gr a.t_ b.t_);congr 1
 rw[Qe1,Qt5,zW f.2.1 c.2.1];have i:=Q3d (Vu a.t_ b.t_ 2)
 have e:∀x y,Qn (Q2 a.t_ x y) (Q2 b.t_ x y) 2=true↔Q2 a.t_ x y=true/\Q2 b.t_ x y=true:=λx y=>by simp[Qn]
 constructor
 .grind
 .rintro ⟨x,y,k⟩
  rcases Qi6 (cn λx y=>Qn (Q2 a.t_ x y) (Q2 b.t_ x y) 2).length with g|g
  all_goals grind
theorem Su(F:Nat)(l:List Rect):JS F l=some (if 120<l.length then(⟨[]⟩,1)else(⟨l⟩,0)):=by
 unfold JS;refine Z6 (λh=>?_) (λh=>?_)
 all_goals grind
theorem Sv(hF:Q6<=F)(hl:l.length<=32768)(hpos:∀r∈l,r.L_<r.R_):Un F l=some (if 120<(cn (Q2 l)).length then(⟨[]⟩,1)else(⟨cn (Q2 l)⟩,0)):=by
 unfold Un;refine Q4 (qU hF hl hpos) ?_
 exact Q4 (Su F _) rfl
def Zf(L:List A2_)(d:Int)(p:Int->Bool):List Rect:=(L.filter λf=>Xm f d&&p f.k_).flatMap λf=>f.g_.t_
theorem zL(f:A2_)(L:List A2_)(d:Int)(p:Int->Bool):Zf (f::L) d p=(if(Xm f d&&p f.k_)=true then f.g_.t_ else[])++Zf L d p:=by
 unfold Zf
 grind
theorem Z1n{d:Int}{p:Int->Bool}(h:r∈Zf L d p):∃f∈L,r∈f.g_.t_:=by
 obtain⟨f,b,a⟩:=Qb8.1 h
 grind
theorem Z0n(h:∀f∈L,f.g_.t_.length<=120)(d:Int)(p:Int->Bool):(Zf L d p).length<=120*L.length:=by
 induction L with
 |nil=>simp[Zf]
 |cons f L ih=>
  have b:=ih λg a=>h g (by simp[a])
  have c:=h f (by simp);rw[zL,Qb7,Qb1]
  grind
theorem Q2c(hF:Q6<=F)(hl:L.length<=10000)(hr:∀ f ∈ L,f.g_.t_.length<=120)(d:Int){q:Int->Option Bool}(p:Int->Bool)(hq:∀ f ∈ L,q f.k_=some (p f.k_)):
  Hs F L d q=some (Zf L d p):=by
 unfold Q6 at hF;unfold Hs
 refine Gm (l:=L) (I:=λl s=>s.length+120*l.length<=2000000/\∀f∈l,f.g_.t_.length<=120) (λl s=>some (s++Zf l d p)) (λa i s j c o=>?_) (λa s _=>?_) (by omega) ⟨by simp;omega,hr⟩
 .obtain ⟨c,e⟩:=c
  have n:=e _ (Qh9 ..);rw[Qb1]at c
  have g:∀b:Bool,b=(Xm (gl L i) d&&p (gl L i).k_)->Hr F L i s a b=some (s++Zf (gl L i::L.drop (i+1)) d p):=by
   intro b m;unfold Hr
   rw[zL];refine Z6 (λh=>?_) (λh=>?_)
   .rw [<-m,Qa2 h]
    simp only[Qa3];refine Q9 (by unfold Z9;omega) ?_
    unfold Hq;refine Z5 (k:=?_)
    grind
   .rw [<-m,Qa1 (by simp[h])]
    unfold Hq;refine Z5 (k:=?_)
    grind
  unfold CK;refine Y9 (Vo j) ?_
  refine Z5 (k:=?_);simp only[Qa3]
  refine Q4 (Q1Z F _ d) ?_;refine Z6 (λh=>?_) (λh=>?_)
  .refine Q4 (hq _ (K3 j)) ?_
   exact g _ (by rw[h];rfl)
  .exact g _ (by rw[h];rfl)
 .show CK F L d q a (L.length:Int) s=_
  unfold CK vH;refine Z4 (Us _) ?_
  simp[Zf]
theorem qg{α:Type}[Emb α](hF:Q6<=F){a b:List α}(ha:a.length<=1000000)(hb:b.length<=1000000):JG F [a,b]=some (a++b):=by
 unfold Q6 at hF;obtain⟨m,rfl⟩:∃m,F=m+3:=⟨F-3,by omega⟩
 have c:gl [a,b] (0:Int).toNat=a:=rfl;have d:gl [a,b] (1:Int).toNat=b:=rfl
 have k1:Xu (m+3) [a,b] (((a.length:Nat):Int)+((b.length:Nat):Int))=some (a++b):=by
  unfold Xu;refine Q4 (a:=[]) (by unfold GE;rw[Qa2 (by unfold Z9;omega)]) ?_
  show KM (m+3) [a,b] _ 0 []=_;unfold KM
  refine Y9 rfl ?_;rw[c]
  refine Z5 (k:=?_);refine Q9 (by simp[Z9];omega) ?_
  refine Z5 (k:=?_);show KM (m+3) [a,b] _ 1 ([]++a)=_
  unfold KM;refine Y9 rfl ?_
  rw[d];refine Z5 (k:=?_)
  refine Q9 (by simp[Z9];omega) ?_;refine Z5 (k:=?_)
  show KM (m+3) [a,b] _ 2 (([]++a)++b)=_;unfold KM
  refine Z4 rfl ?_;unfold BF
  simp
 show KN (m+3) [a,b] _ 0 0=_;unfold KN
 refine Y9 rfl ?_;rw[c]
 refine Z5 (k:=?_);refine Z5 (k:=?_)
 refine Z4 (by simp<;>omega) ?_;refine Z5 (k:=?_)
 show KN (m+3) [a,b] _ (0+((a.length:Nat):Int)) 1=_;unfold KN
 refine Y9 rfl ?_;rw[d]
 refine Z5 (k:=?_);refine Z5 (k:=?_)
 refine Z4 (by simp<;>omega) ?_;refine Z5 (k:=?_)
 show KN (m+3) [a,b] _ (0+((a.length:Nat):Int)+((b.length:Nat):Int)) 2=_;unfold KN
 refine Z4 rfl ?_;rw[Int.zero_add]
 exact k1
theorem cJ(hF:Q6<=F){l:List Span}(hl:l.length<=1000000)(x:Int):BU F l x=some (J8 l x):=by
 unfold Q6 at hF;have c:∃i:Int,Wl F l (λa=>JR F a x)=some i/\(0<=i↔J8 l x=true):=by
  have m:∀s:Span,JR F s x=some (s.has x):=λs=>by
   unfold JR;rw[Yy (Sf F)];rfl
  have d:∀(n i:Nat),i<=l.length->l.length-i<n->∃r:Int,Y3 (λagain (z:Int)=>Wk F l (λa=>JR F a x) again z) n (i:Int)=some r/\(0<=r↔J8 (l.drop i) x=true):=by
   intro n
   induction n with
   |zero=>intro i _ h;omega
   |succ n ih=>
    intro i p q;show ∃r:Int,Wk F l (λa=>JR F a x) (Y3 (λagain (z:Int)=>Wk F l (λa=>JR F a x) again z) n) (i:Int)=some r/\_
    by_cases h:i<l.length
    .have e:J8 (l.drop i) x=((gl l i).has x||J8 (l.drop (i+1)) x):=xR h λs=>s.has x
     rw[e]
     by_cases b:(gl l i).has x=true
     .refine ⟨i,?_,by rw[b];simp⟩
      unfold Wk;refine Y9 (Vo h) ?_
      refine Z5 (k:=?_);exact Q4 (m _) (Y9 b rfl)
     .have b:(gl l i).has x=false:=by simpa using b
      obtain⟨r,o,g⟩:=ih (i+1) h (by omega);refine⟨r,?_,by rw[g,b];simp⟩
      unfold Wk;refine Y9 (Vo h) ?_
      refine Z5 (k:=?_);refine Q4 (m _) (Z4 b ?_)
      refine Z5 (k:=?_);exact o
    .have:i=l.length:=by omega
     subst this;refine⟨-1,?_,by simp[J8]⟩
     unfold Wk;exact Z4 (Us _) rfl
  obtain⟨r,f,j⟩:=d F 0 (Qc3 _) (by omega);exact⟨r,f,by simpa using j⟩
 obtain⟨i,f,j⟩:=c;unfold BU ZF
 refine Q4 (Q4 f rfl) ?_;congr 1
 rw[Qe1, <-j,Qt5]
theorem Z1l(hF:Q6<=F){a b:List Span}(ha:a.length<=1000000)(hb:b.length<=1000000){es:List Int}{f:Int->Bool}{k:Bool->Bool->Bool}(hq:∀u v,q u v=some (k u v))(hst:Step false es f)(hf:∀x,f x=k (J8 a x) (J8 b x))(hes:es.length<=8000000):Y3 (λagain (z:Int×List Span)=>BT F a b q es again z.1 z.2) F ((1:Int),([]:List Span))=some (QV f):=by
 have w:=hF;unfold Q6 at hF
 by_cases h0:es.length=0
 .obtain ⟨m,rfl⟩:∃m,F=m+1:=⟨F-1,by omega⟩
  show BT (m+1) a b q es _ 1 []=_;unfold BT Sc
  refine Z4 (by simp[h0]) ?_;rw[Rd (hst.empty h0)]
 .refine z5 (λz:Int×List Span=>∃(i:Nat) (e:List Span),z=(((i+1:Nat):Int),e)/\i+1<=es.length/\Bst false f (e.map Span.rn) (gl es i)/\e.length<=i) (λz=>es.length-z.1.toNat) (λagain z G E=>?_) ⟨0,[],rfl,by omega,hst.start (by omega),by simp⟩ (by simp;omega)
  obtain⟨i,e,rfl,H,n,g⟩:=G;simp only
  unfold BT;refine Z6 (λh=>?_) (λh=>?_)
  .have h:i+1<es.length:=by simp at h;omega
   have A:(((i+1:Nat):Int)-1).toNat=i:=by omega
   have B:((i+1:Nat):Int).toNat=i+1:=by omega
   have j:=hst.asc.at_lt (show i<i+1 by omega) h;refine Z5 (k:=?_)
   refine Z5 (k:=?_);rw[A]
   refine Q4 (cJ w ha _) ?_;refine Q4 (cJ w hb _) ?_
   refine Q4 (hq _ _) ?_;rw[<-hf]
   have d:∀c : List Span,Bst false f (c.map Span.rn) (gl es (i+1))->c.length<=i+1->XG F ((i+1:Nat):Int) again c=some (QV f):=by
    intro c r y;unfold XG
    refine Z5 (k:=?_);exact E _ ⟨i+1,c,by simp,h,r,y⟩ (by simp;omega)
   cases hfe:f (gl es i)with
   |false=>
    refine Y9 rfl ?_;exact d e (n.skip (by omega) λt r y=>(hst.gap i h t r y).trans hfe) (by omega)
   |true=>
    refine Z4 rfl ?_;rcases Qj4 e with rfl|⟨l,s,p⟩
    .refine Z4 rfl ?_
     unfold BS;refine Z4 rfl ?_
     rw[A,B];refine Z5 (k:=?_)
     refine Q9 (by simp[Z9]) ?_;refine d _ ?_ (by simp)
     have:=n.add j (hst.gap i h) (λa ha=>by simp at ha)
     rw[hfe]at this;exact this
    .rw [Qj5]at p
     subst p;have C:(((l ++ [s]).length:Nat):Int)-1=((l.length:Nat):Int):=by simp
     have o:(((l.length:Nat):Int)).toNat=l.length:=by omega
     refine Y9 (by simp<;>omega) ?_;rw[C,o]
     refine Z5 (k:=?_);refine Q9 (by simp<;>omega) ?_
     rw[GF l s rfl];unfold BS
     by_cases hs:s.R_=gl es i
     .refine Y9 (by simp[hs]) ?_
      rw[C,o,B];refine Z5 (k:=?_)
      refine Z5 (k:=?_);refine Q9 (by simp<;>omega) ?_
      rw[GF l s rfl,RE l s _ rfl];refine d _ ?_ (by simp at g⊢;omega)
      rw[Qd6]at n;have:=n.grow (a:=s.rn) hs j λt r y=>(hst.gap i h t r y).trans hfe
      rw[Qd6];exact this
     .refine Z4 (by simpa using hs) ?_
      rw[A,B];refine Z5 (k:=?_)
      refine Q9 (by simp[Z9]at g⊢;omega) ?_;refine d _ ?_ (by simp at g⊢;omega)
      have:=n.add j (hst.gap i h) (λa ha D=>by
       rw[Qd6]at ha;simp at ha
       subst ha;exact absurd D hs)
      rw[hfe]at this;rw[Qd6];exact this
  .have h:i+1=es.length:=by simp at h;omega
   unfold Sc;congr 1
   refine(KJ (.of_runs n.runs) λx=>?_).symm;rw[DZ];exact hst.done h n x
def GP(l:List Span):List Int:=l.flatMap λs=>[s.L_,s.R_]
theorem vV(l:List Span):(GP l).length=2*l.length:=by
 induction l with
 |nil=>rfl
 |cons s l ih=>unfold GP at ih⊢;rw[Qt8,Qb7,ih];simp;omega
theorem Q1q{l:List Span}{c:List Int}(hc:Yg c)(hm:∀s∈l,s.L_∈c/\s.R_∈c)(hi:i+1<c.length){t:Int}(h1:gl c i<=t)(h2:t<gl c (i+1)):J8 l t=J8 l (gl c i):=by
 unfold J8
 induction l with
 |nil=>rfl
 |cons s l ih=>
  rw[Ql0,Ql0,ih λq d=>hm q (by simp[d])];congr 1
  obtain⟨b,a⟩:=hm s (by simp);have e:=hc.gap hi h1 h2 b
  have f:=hc.gap hi h1 h2 a;unfold Span.has
  grind
theorem Q1r{l:List Span}{t:Int}(h:∀s∈l,¬(s.L_<=t/\t<s.R_)):J8 l t=false:=by
 unfold J8;rw[Qf6]
 intro s a;have:=h s a
 simp only[Span.has,Qa4,Qb5];exact this
theorem Q9p(hF:Q6<=F){a b:List Span}(ha:a.length<=1000000)(hb:b.length<=1000000){k:Bool->Bool->Bool}(hk:k false false=false)(hq:∀ u v,q u v=some (k u v)):
  Se F a b q=some (QV λx=>k (J8 a x) (J8 b x)):=by
 have h:=hF;unfold Q6 at hF
 unfold Se;refine Q4 (qg h ha hb) ?_
 have G:(a++b).length<=2000000:=by rw[Qb7];omega
 refine Gm (l:=a++b) (I:=λl s=>s++GP l=GP (a++b)) (λ_ _=>some (QV λx=>k (J8 a x) (J8 b x))) (λg i s n o L=>?_) (λg s o=>?_) (by omega) rfl
 .have p:=vV (a++b)
  have H:s.length+2<=(GP (a++b)).length:=by
   rw[<-o,Qb7,vV];simp;omega
  unfold Sd;refine Y9 (Vo n) ?_
  refine Z5 (k:=?_);simp only[Qa3]
  refine Q9 (by simp[Z9];omega) ?_;refine Z5 (k:=?_)
  refine L _ ?_;rw[<-o,Qh6];rfl
 .have A:s=GP (a++b):=by rw[<-o];simp[GP]
  show Sd F a b q (a++b) g (((a++b).length:Nat):Int) s=_;unfold Sd
  refine Z4 (Us _) ?_;unfold qS
  have p:=vV (a++b);obtain⟨r,M,y,B,C⟩:=Q6H (l:=s) (by rw[A];unfold Z9;omega)
  refine Q4 M ?_;have K:r.length<=4000000:=by rw[C,A];omega
  refine Q4 (ju h (by unfold Z9;omega)) ?_;have J:=vZ r
  have d:=xa r y;have c:∀l,l=a\/l=b->∀s∈l,s.L_∈dd r/\s.R_∈dd r:=by
   intro l m q w;have:q∈a++b:=by rcases m with rfl|rfl<;>simp[w]
   have j:∀v,v∈[q.L_,q.R_]->v∈dd r:=λv E=>(Tz r v).2 ((B v).2 (by rw[A];exact Qb8.2 ⟨q,this,E⟩))
   exact⟨j _ (by simp),j _ (by simp)⟩
  refine Z1l h ha hb hq (f:=λx=>k (J8 a x) (J8 b x)) ⟨d,λi n t D j=>?_,λt z=>?_,λt z=>?_⟩ (λ_=>rfl) (by omega)
  .simp only[Q1q d (c a (.inl rfl)) n D j,Q1q d (c b (.inr rfl)) n D j]
  .have e:∀l,l=a\/l=b->J8 l t=false:=λl m=>Q1r λq hq=>by have:=z _ (c l m q hq).1;omega
   simp only[e a (.inl rfl),e b (.inr rfl),hk]
  .have e:∀l,l=a\/l=b->J8 l t=false:=λl m=>Q1r λq hq=>by have:=z _ (c l m q hq).2;omega
   simp only[e a (.inl rfl),e b (.inr rfl),hk]
theorem JT(hF:Q6<=F)(hl:a.length+b.length<=16000)(ha:∀ r ∈ a,r.L_<r.R_)(hb:∀ r ∈ b,r.L_<r.R_){k:Bool->Bool->Bool}(hk:k false false=false)(hq:∀ u v,q u v=some (k u v)):
  QU F a b q=some (cn λx y=>k (Q2 a x y) (Q2 b x y)):=by
 unfold QU;have d:Grid (Zb b (Zb a [])) (Vw [a,b]) λx y=>k (Q2 a x y) (Q2 b x y):=
  Grid.of (Ub b (Ub a .nil)) (Q2E _) (λr c=>⟨(ZJ b _ _).2 (.inl ((ZJ a _ _).2 (.inr ⟨r,c,.inl rfl⟩))),(ZJ b _ _).2 (.inl ((ZJ a _ _).2 (.inr ⟨r,c,.inr rfl⟩)))⟩)
   (λr c=>⟨(ZJ b _ _).2 (.inr ⟨r,c,.inl rfl⟩),(ZJ b _ _).2 (.inr ⟨r,c,.inr rfl⟩)⟩) (xx _ (by simp)) (xx _ (by simp)) hk
 have f:=yb a (ls:=[a,b]) (by simp);have e:=yb b (ls:=[a,b]) (by simp)
 have h:Wx [a,b]=a.length+b.length:=by simp[Wx]
 have g:=Q2D [a,b];have j:=Q2G (a:=a) (b:=b)
 refine Q4 (zh hF (by omega) (by simp)) ?_;refine Q4 (cR hF d.rows d.step (by omega) (λy=>?_) (λy=>?_)) rfl
 .unfold zm
  have m:=(f.x y).spn_len;have o:=(e.x y).spn_len
  have n:=Fh (l:=a);have i:=Fh (l:=b)
  refine Q4 (Sn hF (by omega) ha y) ?_;refine Q4 (Sn hF (by omega) hb y) ?_
  refine Q4 (Q9p hF (by omega) (by omega) hk hq) ?_;congr 2
  funext x
  rw[(f.rows.sp y).2 x,(e.rows.sp y).2 x]
 .have:=(d.x y).spn_len
  omega
def Sm(r:Rect):Prop:= -1000000<=r.L_/\r.L_<=1000000 /\ -1000000<=r.w_/\r.w_<=1000000 /\ -1000000<=r.R_/\r.R_<=1000000 /\ -1000000<=r.H_/\r.H_<=1000000
theorem Q7p(h:QQ r=true):Sm r:=by
 rw[Yr]at h;unfold Sm;omega
def Gu(a b:Rect):Int:=K8 0 (Qa a.H_ b.H_-K8 a.w_ b.w_)
def Ki(a b:Rect):Int:=K8 0 (Qa a.R_ b.R_-K8 a.L_ b.L_)
def jB(a b:Rect):Bool:=a.R_==b.L_||b.R_==a.L_
def RA(a b:Rect):Bool:=a.H_==b.w_||b.H_==a.w_
def xy(a b:Rect):Int:=(if jB a b=true then Gu a b else 0)+(if RA a b=true then Ki a b else 0)
theorem Z1N{a b:Rect}(ha:Sm a)(hb:Sm b):0<=Gu a b/\Gu a b<=2000000 /\ -2000000<=Qa a.H_ b.H_-K8 a.w_ b.w_/\Qa a.H_ b.H_-K8 a.w_ b.w_<=2000000:=by
 unfold Sm at ha hb;unfold Gu K8 Qa
 grind
theorem Z1O{a b:Rect}(ha:Sm a)(hb:Sm b):0<=Ki a b/\Ki a b<=2000000 /\ -2000000<=Qa a.R_ b.R_-K8 a.L_ b.L_/\Qa a.R_ b.R_-K8 a.L_ b.L_<=2000000:=by
 unfold Sm at ha hb;unfold Ki K8 Qa
 grind
theorem Q2S{a b:Rect}(ha:Sm a)(hb:Sm b)(h1:0<=v)(h2:v<=2000000)(c:Bool):BJ F a b v c=some (v+if c=true then Ki a b else 0):=by
 obtain⟨g,d,f,e⟩:=Z1O ha hb;unfold BJ
 cases c with
 |true=>
  refine Y9 rfl ?_;refine Q9 (V9 (by omega) (by omega)) ?_
  show gd (Q8 (v+Ki a b)) _=_;refine Q9 (V9 (by omega) (by omega)) ?_
  rfl
 |false=>
  refine Z4 rfl ?_;show some v=some (v+0)
  grind
theorem Q2T{a b:Rect}(ha:Sm a)(hb:Sm b)(h1:0<=v)(h2:v<=2000000):Xy F a b v=some (v+if RA a b=true then Ki a b else 0):=by
 unfold Xy;rw[Q2S ha hb h1 h2,Q2S ha hb h1 h2]
 unfold RA
 cases a.H_==b.w_<;>rfl
theorem Q2U{a b:Rect}(ha:Sm a)(hb:Sm b)(c:Bool):BK F a b c=some ((if c=true then Gu a b else 0)+if RA a b=true then Ki a b else 0):=by
 obtain⟨g,d,f,e⟩:=Z1N ha hb;unfold BK
 cases c with
 |true=>
  refine Y9 rfl ?_;refine Q9 (V9 (by omega) (by omega)) ?_
  show gd (Q8 (0+Gu a b)) _=_;refine Q9 (V9 (by omega) (by omega)) ?_
  show Xy F a b (0+Gu a b)=_;rw[Q2T ha hb (by omega) (by omega)]
  simp
 |false=>
  refine Z4 rfl ?_;rw[Q2T ha hb (by omega) (by omega)]
  rfl
theorem Q8d(F:Nat){a b:Rect}(ha:Sm a)(hb:Sm b):RB F a b=some (xy a b):=by
 unfold RB;rw[Q2U ha hb,Q2U ha hb]
 unfold xy jB
 cases a.R_==b.L_<;>rfl
def Zh(a b:Rect):Bool:=decide (0<xy a b)
theorem jF{F:Nat}{q:List Rect}{r:Rect}{i:Nat}(hi:i<q.length)(hl:q.length<=1000000)(hq:∀ s ∈ q,Sm s)(hr:Sm r):
  BL F r q i=some (if Zh (gl q i) r=true then q++[r]else q,Zh (gl q i) r):=by
 unfold BL;refine Q9 (by omega) ?_
 simp only[Qa3];refine Q4 (Q8d F (hq _ (K3 hi)) hr) ?_
 show RC F r q (Zh (gl q i) r)=_;unfold RC
 cases Zh (gl q i) r with
 |true=>
  refine Y9 rfl ?_;refine Q9 (by simp[Z9];omega) rfl
 |false=>exact Z4 rfl rfl
theorem Z2z(hF:Q6<=F){q:List Rect}(hk:k<q.length)(hl:l.length<=900000)(hql:q.length<=900000)(hq:∀ s ∈ q,Sm s)(hr:∀ r ∈ l,Sm r):
  Rk F l q k=some (l,if l.any (Zh (gl q k))=true then q++[gl l (l.findIdx (Zh (gl q k)))]else q,Zx (Zh (gl q k)) l):=by
 unfold Q6 at hF;unfold Rk
 refine z5 (λz:Int×List Rect=>∃i:Nat,z=((i:Int),q)/\i<=l.length/\∀j,j<i->Zh (gl q k) (gl l j)=false) (λz=>l.length-z.1.toNat) (λc z g f=>?_) ⟨0,rfl,by omega,λj m=>by omega⟩ (by simp;omega);obtain⟨i,rfl,n,d⟩:=g
 simp only at f⊢;unfold jh
 refine Z6 (λh=>?_) (λh=>?_)
 .have h:i<l.length:=by simpa using h
  refine Z5 (k:=?_);simp only[Qa3]
  refine Q4 (jF hk (by omega) hq (hr _ (K3 h))) ?_;simp only
  refine Z6 (λa=>?_) (λa=>?_)
  .have b:l.any (Zh (gl q k))=true:=Qc6.2 ⟨_,K3 h,a⟩
   rw[Qa2 a,Zx,Qa2 b,Qa2 b,vz h d a]
  .rw [a,Qa1 (by simp)]
   refine Z5 (k:=?_);refine f _ ⟨i+1,rfl,h,λj m=>?_⟩ (by simp only;omega)
   rcases Qd3 j i with e|e
   .exact d j e
   .have:j=i:=by omega
    subst this;exact a
 .have h:¬i<l.length:=by simpa using h
  have:i=l.length:=by omega
  subst this;have b:=FP d
  rw[Zx,b];rfl
theorem Z4o(hF:Q6<=F){q:List Rect}(hk:k<q.length)(hl:l.length+q.length<=900000)(hq:∀ s ∈ q,Sm s)(hr:∀ r ∈ l,Sm r):
  Rq F l q k=some (q++l.filter (Zh (gl q k)),l.filter λr=> !Zh (gl q k) r):=by
 have B:=hF;unfold Q6 at hF
 unfold Rq;refine Q4 (Z2z B hk (by omega) (by omega) hq hr) ?_
 generalize b:Zh (gl q k)=p;simp only
 by_cases g:l.any p=true
 .obtain ⟨x,C,G⟩:=Qc6.1 g
  have d:l.findIdx p<l.length:=Qm4 ⟨x,C,G⟩;have t:p (gl l (l.findIdx p))=true:=by rw[Qc d];exact Qr8 (w:=d)
  have v:∀j,j<l.findIdx p->p (gl l j)=false:=by
   intro j D;rw[Qc (by omega)]
   grind
  rw[Zx,Qa2 g,Qa2 g];refine Z4 (by simp) ?_
  refine Z5 (k:=?_);generalize l.findIdx p=i0 at *
  have I:(l.take i0).filter (λr=> !p r)=l.take i0:=by
   rw[Qm5];intro x C
   obtain⟨j,D,rfl⟩:=Qc7 C;have E : j<i0:=by simp at D;omega
   have:=v j E
   rw[Qc (by omega)]at this;simp[this]
  have K:(l.take i0).filter p=[]:=by
   rw[Qq3]
   grind
  have P:(l.take (i0+1)).filter (λr=> !p r)=l.take i0:=by
   rw[Qr d,Qg6,I];simp[t]
  have y:(l.take (i0+1)).filter p=[gl l i0]:=by
   rw[Qr d,Qg6,K];simp[t]
  refine z5 (λz:Int×Int×List Rect×List Rect=>∃(i j:Nat) (a:List Rect),z=((i:Int),(j:Int),a,q++(l.take j).filter p)/\i<j/\j<=l.length/\a.length=l.length/\(∀m,j<=m->gl a m=gl l m)/\a.take i=(l.take j).filter λr=> !p r)
   (λz=>l.length-z.2.1.toNat) (λH z Q A=>?_) ⟨i0,i0+1,l,by rw[y];rfl,by omega,by omega,rfl,λ_ _=>rfl,P.symm⟩ (by simp only;omega)
  obtain⟨i,j,a,rfl,L,D,c,f,e⟩:=Q;simp only at A⊢
  unfold jp;rw[c]
  have O:((l.take j).filter p).length<=j:=by
   grind
  have J:gl (q++(l.take j).filter p) k=gl q k:=by simp[gl,Qa0,Qf1,hk]
  refine Z6 (λh=>?_) (λh=>?_)
  .have h:j<l.length:=by simpa using h
   refine Z5 (k:=?_);simp only[Qa3]
   rw[f j (Qb4 _)];refine Q4 (jF (by simp;omega) (by simp;omega) (λs o=>?_) (hr _ (K3 h))) ?_
   .rcases Qa9.1 o with o|o
    .exact hq s o
    .exact hr s (Qi1 (Qf9.1 o).1)
   rw[J,b];have u:(l.take (j+1)).filter (λr=> !p r)=(l.take j).filter (λr=> !p r)++(if p (gl l j)=true then[]else[gl l j]):=by
    rw[Qr h,Qg6]
    grind
   have n:(l.take (j+1)).filter p=(l.take j).filter p++(if p (gl l j)=true then[gl l j]else[]):=by
    rw[Qr h,Qg6]
    grind
   simp only
   refine Z6 (λb=>?_) (λb=>?_)
   .have b:p (gl l j)=false:=by simpa using b
    refine Z5 (k:=?_);refine Z5 (k:=?_)
    unfold BD;refine Z5 (k:=?_)
    rw[b,Qa1 (by simp)];refine A _ ⟨i+1,j+1,a.set i (gl l j),?_,by omega,by omega,by simp[c],λm M=>?_,?_⟩ (by simp only;omega)
    .rw [n,b,Qa1 (by simp),Qj2];rfl
    .rw [Ps _ _ _ _ (by omega),Qa1 (by omega)];exact f m (by omega)
    .rw [u,Qa1 (by rw[b];simp), <-e,Qr (by simp;omega),LQ _ _ _ _ (Qb4 _),Ps _ _ _ _ (by omega),Qa2 rfl]
   .have b:p (gl l j)=true:=by simpa using b
    unfold BD;refine Z5 (k:=?_)
    rw[b,Qa2 rfl];refine A _ ⟨i,j+1,a,?_,by omega,by omega,c,λm M=>f m (by omega),?_⟩ (by simp only;omega)
    .rw [n,b,Qa2 rfl, <-Qh6];rfl
    .rw [u,Qa2 b,Qj2,e]
  .have h:¬j<l.length:=by simpa using h
   have N:j=l.length:=by omega
   unfold qe;simp only[Qa3,xD,c]
   refine Z5 (k:=?_);refine Z5 (k:=?_)
   rw[LR _ _ _ (by omega),e,Ql6 (by omega)]
 .have g:l.any p=false:=by simpa using g
  rw[Zx,g];refine Y9 rfl ?_
  have I:l.filter p=[]:=by
   rw[Qq3]
   grind
  have K:l.filter (λr=> !p r)=l:=by
   rw[Qm5]
   grind
  rw[I,K];simp
def jn:Nat->List Rect->Nat->List Rect->List Rect×List Rect
 |0,q,_,rest=>(q,rest)
 |n+1,q,k,rest=>if k<q.length then jn n (q++rest.filter (Zh (gl q k))) (k+1) (rest.filter λr=> !Zh (gl q k) r)else(q,rest)
def VY:List Rect->List Rect×List Rect
 |[]=>([],[])
 |a::l=>jn (l.length+2) [a] 0 l
theorem Q1X{α:Type}(p:α->Bool)(l:List α):(l.filter p).length+(l.filter λr=> !p r).length=l.length:=by
 induction l with
 |nil=>rfl
 |cons a l ih=>by_cases h:p a=true<;>simp[h]<;>omega
theorem Q4u(h:l.length<=Z9):BH F l=some l:=by
 unfold BH
 cases h:l with
 |nil=>
  show Vs _ _=_;unfold Vs
  exact @Q9 _ _ (Classical.propDecidable _) _ _ rfl rfl
 |cons a l' =>
  have:(a::l').length=l'.length+1:=rfl
  show(gd _ _)=_;rw[<-h]
  refine Z5 (k:=?_);simp
theorem Q8f(hF:Q6<=F)(hne:l≠[])(hl:l.length<=400000)(hs:∀r∈l,Sm r):RD F l=some (VY l):=by
 have f:=hF;unfold Q6 at hF
 cases l with
 |nil=>exact absurd rfl hne
 |cons a l=>
  simp only[Qb1]at hl;unfold RD
  refine Q9 (by simp only[Qb1];omega) ?_;refine Q9 (by simp only[Qb1];omega) ?_
  have m:(1:Int).toNat=1:=rfl;rw[m]
  refine Q4 (Q4u (by simp[Z9];omega)) ?_;simp only[List.drop_succ_cons,Qm2,List.take_succ_cons,Qo1]
  refine z5 (λz:List Rect×Int×List Rect=>∃(n k:Nat) (q b:List Rect),z=(b,(k:Int),q)/\k<=q.length/\q.length+b.length=l.length+1/\(∀r∈q++b,Sm r)/\l.length+2<=n+k/\jn n q k b=VY (a::l))
   (λz=>l.length+2-z.2.1.toNat) (λe z o j=>?_) ⟨l.length+2,0,[a],l,rfl,by simp,by simp;omega,λr g=>hs r (by simpa using g),by omega,rfl⟩ (by simp;omega)
  obtain⟨n,k,q,b,rfl,u,i,c,t,d⟩:=o;simp only at j⊢
  unfold jD qv
  cases n with
  |zero=>omega
  |succ n=>
  rw[jn]at d;refine Z6 (λh=>?_) (λh=>?_)
  .have h:k<q.length:=by simpa using h
   rw[Qa2 h]at d;refine Q4 (Z4o f h (by omega) (λs hs=>c s (by simp[hs])) (λs hs=>c s (by simp[hs]))) ?_
   refine Z5 (k:=?_);have p:=Q1X (Zh (gl q k)) b
   refine j _ ⟨n,k+1,_,_,rfl,by simp;omega,by simp;omega,λr g=>c r ?_,by omega,d⟩ (by simp only;omega)
   grind
  .have h:¬k<q.length:=by simpa using h
   rw[Qa1 h]at d;unfold qu
   rw[d]
def Apt(r s:Rect):Prop:=∀x y,r.has x y=true->s.has x y=true->False
def Q4v(q:List Rect):Prop:=∀i,0<i->i<q.length->∃j,j<i/\Zh (gl q j) (gl q i)=true
structure JnOk (q rest q' rest' : List Rect):Prop where
 perm:(q' ++ rest').Perm (q++rest)
 chain:Q4v q'
 pre:q <+: q'
 apart:∀r∈q',∀s∈rest',Zh r s=false
theorem Z0E{α:Type}(p:α->Bool)(l:List α):(l.filter p++l.filter λr=> !p r).Perm l:=List.filter_append_perm p l
theorem Z2s:∀(n:Nat) (q:List Rect) (k:Nat) (rest:List Rect),q.length+rest.length<n+k->k<=q.length->Q4v q->(∀i,i<k->∀s∈rest,Zh (gl q i) s=false)->JnOk q rest (jn n q k rest).1 (jn n q k rest).2:=by
 intro n
 induction n with
 |zero=>intro q k rest m o;omega
 |succ n ih=>
  intro q k rest m o d l;rw[jn]
  by_cases hk:k<q.length
  .rw [Qa2 hk]
   have p:=Q1X (Zh (gl q k)) rest;have f:∀i,i<q.length->gl (q++rest.filter (Zh (gl q k))) i=gl q i:=λi a=>by simp[gl,Qa0,Qf1,a]
   have h:=ih (q++rest.filter (Zh (gl q k))) (k+1) (rest.filter λr=> !Zh (gl q k) r) (by simp;omega) (by simp;omega) (λi a c=>?_) (λi a s e=>?_)
   .refine ⟨h.perm.trans ?_,h.chain,?_,h.apart⟩
    .rw [Qh6]
     exact(Z0E _ rest).append_left q
    .exact (List.prefix_append _ _).trans h.pre
   .by_cases hiq:i<q.length
    .obtain ⟨j,v,u⟩:=d i a hiq
     grind
    .refine ⟨k,by omega,?_⟩
     rw[f k hk];have t:gl (q++rest.filter (Zh (gl q k))) i∈rest.filter (Zh (gl q k)):=by
      have b : i-q.length<(rest.filter (Zh (gl q k))).length:=by simp at c;omega
      have:gl (q++rest.filter (Zh (gl q k))) i=gl (rest.filter (Zh (gl q k))) (i-q.length):=by
       simp[gl,Qa0,Qf1,hiq]
      rw[this];exact K3 b
     grind
   all_goals grind
  .rw [Qa1 hk]
   refine⟨Qw7 _,d,List.prefix_refl _,λr g s e=>?_⟩;obtain⟨i,a,rfl⟩:=Qc7 g
   have:=l i (by simp only at a;omega) s e
   rwa [Qc a]at this
theorem Q1l(a:Rect)(l:List Rect):JnOk [a] l (VY (a::l)).1 (VY (a::l)).2:=
 Z2s (l.length+2) [a] 0 l (by simp;omega) (by simp) (λi b c=>by simp at c;omega) (λi b=>by omega)
def Gp:Nat->List Rect->List (List Rect)
 |0,_=>[]
 |_+1,[]=>[]
 |n+1,a::l=>(VY (a::l)).1::Gp n (VY (a::l)).2
def Gq(l:List Rect):List (List Rect):=Gp l.length l
theorem JnOk.lens{a:Rect}{q r:List Rect}(h:JnOk [a] l q r):q≠[]/\r.length<=l.length:=by
 have b:=h.perm.length_eq;simp at b
 obtain⟨t,c⟩:=h.pre
 grind
theorem Z0H:∀(n:Nat) (l:List Rect),l.length<=n->(Gp n l).flatten.Perm l:=by
 intro n
 induction n with
 |zero=>intro l b;have:l=[]:=Qe0 (by omega);subst this;exact Qw7 _
 |succ n ih=>
  intro l b
  cases l with
  |nil=>exact Qw7 _
  |cons a l=>
   have h:=Q1l a l;have:=h.lens.2
   simp only[Gp,List.flatten_cons];simp only[Qb1]at b
   exact((ih _ (by omega)).append_left _).trans h.perm
theorem Q0v(l:List Rect):(Gq l).flatten.Perm l:=Z0H _ l (Qb4 _)
def We(a b:Int×Int):Int:=if a.1<b.1 then -1 else if b.1<a.1 then 1 else if a.2<b.2 then -1 else if b.2<a.2 then 1 else 0
def WC(a b:Int×Int):Prop:=a.1<b.1\/(a.1=b.1/\a.2<b.2)
theorem Fu{a b:Int×Int}:We a b<0↔WC a b:=by
 unfold We WC
 repeat' split
 all_goals omega
theorem Q3k{a b:Int×Int}:0<=We a b↔¬WC a b:=by rw[<-Fu];omega
theorem Q0R{a b:Int×Int}(h:a≠b):WC a b\/WC b a:=by
 unfold WC;have:a.1≠b.1\/a.2≠b.2:=by
  rcases Int.decEq a.1 b.1 with c|c
  .exact .inl c
  .right;intro d;exact h (Prod.ext c d)
 omega
theorem Yn.apt(h:Yn l):l.Pairwise Apt:=by
 obtain⟨b,e,rfl⟩:=h;unfold flat
 rw[List.pairwise_flatMap];refine⟨λc f=>?_,?_⟩
 .unfold z9
  rw[Qi4];refine(e.sp c f).ch.imp λh x y a d=>?_
  rw[QG]at a d;simp only at a d
  omega
 .refine e.runs.ch.imp λh r g s i x y a d=>?_
  obtain⟨u,_,rfl⟩:=Qc5.1 g;obtain⟨v,_,rfl⟩:=Qc5.1 i
  rw[QG]at a d;simp only at a d
  have:=h.1
  omega
theorem Z0G{p:List Rect}(hp:p∈Gq l)(hr:r∈p):r∈l:=(Q0v l).mem_iff.1 (List.mem_flatten.2 ⟨p,hp,hr⟩)
theorem xB(F:Nat)(hF:Q6<=F)(u v:Int):GV F [u,v]=some (if u≠0 then u else v):=by
 unfold Q6 at hF;obtain⟨F,rfl⟩:∃G,F=G+3:=⟨F-3,by omega⟩
 unfold GV;show GU _ [u,v] _ 0=_
 unfold GU;refine Y9 (by simp) ?_
 refine Q9 (by simp) ?_;have a:gl [u,v] (0:Int).toNat=u:=rfl
 rw[a]
 by_cases hu:u=0
 .subst hu
  refine Z4 (by simp) ?_;refine Q9 (V9 (by omega) (by omega)) ?_
  rw[Qa1 (by simp)];show GU _ [0,v] _ (0+1)=_
  unfold GU;refine Y9 (by simp) ?_
  refine Q9 (by simp) ?_;have b:gl [0,v] ((0:Int)+1).toNat=v:=rfl
  rw[b]
  by_cases hv:v=0
  .subst hv
   refine Z4 (by simp) ?_;refine Q9 (V9 (by omega) (by omega)) ?_
   show GU _ [0,0] _ (0+1+1)=_;unfold GU
   exact Z4 (by simp) rfl
  .exact Y9 (by simpa using hv) rfl
 .rw [Qa2 hu]
  exact Y9 (by simpa using hu) rfl
theorem cP(hF:Q6<=F)(hl:l.length<=120)(hp:∀r∈l,QQ r=true):KX F l=some (if 120<(cn (Q2 l)).length then(⟨[]⟩,1)else(⟨cn (Q2 l)⟩,0)):=by
 unfold KX;refine Z4 (by simp;omega) ?_
 refine Q4 (UY (α:=Rect) hF (λr=> !QQ r) (by omega) (λr _=>by unfold za;rw[cz];rfl)) ?_;refine Z4 ?_ ?_
 .rw [Qf6]
  intro r a;rw[hp r a];simp
 .refine Q4 (qU hF (by omega) (λr a=>((Yr r).1 (hp r a)).2.1)) ?_
  refine Q4 (Su F _) ?_;rfl
theorem CC(a b:List Rect):Fin λx y=>Q2 a x y && !Q2 b x y:=Vu a b 3
section
theorem Mv(h:QQ r=true):J1 [r]:=by
 have b:=(Yr r).1 h;exact⟨by simp,λs a=>by rw[Qb0.1 a];exact h,xH (by omega) (by omega)⟩
theorem Q3c(h:QQ r=true):cn (Q2 [r])=[r]:=(Xa _).1 (Mv h).2.2
section
variable {F:Nat} {a:Re_} {z1:Tape×Re_} {x1 k:Int} {x y:Int}
end
end
theorem CA{B:List (Rn (List Span))}(h:∀b∈B,b.v.length<=N):(flat B).length<=B.length*N:=by
 induction B with
 |nil=>simp[flat]
 |cons c B ih=>
  have e:flat (c::B)=z9 c++flat B:=rfl;have:=ih λd f=>h d (by simp[f])
  have g:=h c (by simp);rw[e,Qb7,YQ,Qb1,Qf8]
  omega
noncomputable def Xk(a b:Re_):Bool:=QP a.t_&&(QP b.t_&&decide (cn (λx y=>Qn (Q2 a.t_ x y) (Q2 b.t_ x y) 3)=[]))
theorem Q4V{a b:Re_}(ha:J1 a.t_)(hb:J1 b.t_):Xk a b=true↔∀x y,Q2 a.t_ x y=true->Q2 b.t_ x y=true:=by
 unfold Xk;rw[Wi ha,Wi hb,Qe4,Qe4,Qb5,Q3d (Vu _ _ _)]
 constructor
 .intro h x y c
  have:=h x y
  simp only[Qn]at this;rw[c]at this
  simpa using this
 .intro h x y
  simp only[Qn]
  cases c:Q2 a.t_ x y with
  |false=>rfl
  |true=>rw[h x y c];rfl
theorem Q5O{l:List Int}{M:Int}(h:∀x∈l,0<=x/\x<=M):0<=l.sum/\l.sum<=M*l.length:=by
 induction l with
 |nil=>simp
 |cons x l ih=>
  have d:=h x (by simp);have c:=ih λy b=>h y (by simp[b])
  simp only[List.sum_cons,Qb1];have e:M*((l.length+1:Nat):Int)=M*l.length+M:=by rw[Int.natCast_add,Int.mul_add];simp
  omega
theorem gw{f:Rect->Int}{j:Nat}(h:j<l.length):((l.take (j+1)).map f).sum=((l.take j).map f).sum+f (gl l j):=by
 rw[Qr h,Qd6,Qw0];simp
def WK(r:Rect):Int:=(r.R_-r.L_)*(r.H_-r.w_)
def area(l:List Rect):Int:=(l.map WK).sum
theorem Q3Q(h:QQ r=true):0<=WK r/\WK r<=268435456:=by
 rw[Yr]at h;unfold WK
 have c:0<=r.R_-r.L_/\r.R_-r.L_<=16384:=by omega
 have b:0<=r.H_-r.w_/\r.H_-r.w_<=16384:=by omega
 refine⟨Int.mul_nonneg c.1 b.1,?_⟩;have:=Int.mul_le_mul c.2 b.2 b.1 (by omega)
 omega
theorem SpOk.half{n:Int}:∀{l:List Span},SpOk l->∀{a:Int},a<=n+1->(∀s∈l,a<=s.L_/\s.R_<=n)->2*(l.length:Int)<=n+1-a
 |[],_,a,ha,_=>by simp;omega
 |s::l,h,a,ha,hb=>by
  have e:=hb s (by simp);have d:=h.pos s (by simp)
  have c:SpOk l:=⟨λq b=>h.pos q (by simp[b]),(Qd2.1 h.ch).2⟩;have:=SpOk.half (n:=n) c (a:=s.R_+1) (by omega) λq b=>⟨by have:=(Qd2.1 h.ch).1 q b;omega,(hb q (by simp[b])).2⟩
  rw[Qb1];omega
theorem Yn.half(hc:Yn l){n:Nat}(hb:QT n l):l.length<=n*((n+1) / 2):=by
 obtain⟨b,g,rfl⟩:=hc;have f:∀c∈b,∃s,s∈c.v:=λc hc=>Qp2 _ (g.ne c hc)
 have d:∀c∈b,∀s∈c.v,(⟨s.L_,c.lo,s.R_,c.hi⟩:Rect)∈flat b:=λc hc s e=>Qb8.2 ⟨c,hc,Qc5.2 ⟨s,e,rfl⟩⟩
 have j:(b.length:Int)<=n-0:=g.runs.len (by omega) λc hc=>by
  obtain⟨s,e⟩:=f c hc;have:=hb _ (d c hc s e)
  simp only at this;omega
 have h:∀c∈b,c.v.length<=(n+1) / 2:=λc hc=>by
  have:=(g.sp c hc).half (n:=n) (a:=0) (by omega) λs e=>by
   have:=hb _ (d c hc s e)
   simp only at this⊢;omega
  omega
 have i:=CA h;have m:b.length*((n+1) / 2)<=n*((n+1) / 2):=Qb3 _ (by omega)
 omega
def Zt(f:Nat->Int):Nat->Int
 |0=>0
 |n+1=>Zt f n+f n
theorem KG{f g:Nat->Int}{n:Nat}(h:∀i,i<n->f i=g i):Zt f n=Zt g n:=by
 induction n with
 |zero=>rfl
 |succ n ih=>rw[Zt,Zt,ih λi b=>h i (by omega),h n (by omega)]
theorem gz(f g:Nat->Int)(n:Nat):Zt (λi=>f i+g i) n=Zt f n+Zt g n:=by
 induction n with
 |zero=>rfl
 |succ n ih=>rw[Zt,Zt,Zt,ih];omega
theorem Ra{f g:Nat->Int}{n:Nat}(h:∀i,i<n->f i<=g i):Zt f n<=Zt g n:=by
 induction n with
 |zero=>exact Qn3 _
 |succ n ih=>
  have:=ih λi b=>h i (by omega)
  have:=h n (by omega)
  rw[Zt,Zt];omega
theorem MZ(n:Nat):Zt (λ_=>0) n=0:=by
 induction n with
 |zero=>rfl
 |succ n ih=>rw[Zt,ih];rfl
theorem gy{f:Nat->Int}{n:Nat}(h:∀i,i<n->0<=f i):0<=Zt f n:=by
 have:=Ra (f:=λ_=>0) (g:=f) h
 rwa [MZ]at this
theorem gx(c lo hi:Int)(h0:0<=lo)(h1:lo<=hi)(n:Nat):Zt (λi=>if lo<=(i:Int)/\(i:Int)<hi then c else 0) n=(if(n:Int)<=lo then 0 else if(n:Int)<=hi then n-lo else hi-lo)*c:=by
 induction n with
 |zero=>rw[Zt,Qa2 (by omega),Int.zero_mul]
 |succ n ih=>
  rw[Zt,ih];simp only[Int.natCast_succ]
  by_cases a:(n:Int)<lo
  .rw [Qa2 (by omega),Qa1 (by omega),Qa2 (by omega)];omega
  .by_cases b:(n:Int)<hi
   .rw [Qa2 (show lo<=(n:Int)/\(n:Int)<hi by omega),Qa1 (show ¬(n:Int)+1<=lo by omega),Qa2 (show(n:Int)+1<=hi by omega)]
    by_cases e:(n:Int)<=lo
    .have:(n:Int)=lo:=by omega
     rw[Qa2 e,show(n:Int)+1-lo=1 by omega,Int.zero_mul,Int.one_mul];omega
    .rw [Qa1 e,Qa2 (by omega),show(n:Int)+1-lo=(n-lo)+1 by omega,Int.add_mul,Int.one_mul]
   .rw [Qa1 (show ¬(lo<=(n:Int)/\(n:Int)<hi) by omega),Qa1 (show ¬(n:Int)+1<=lo by omega)]
    by_cases e:(n:Int)<=lo
    .have d:lo=hi:=by omega
     have f:(n:Int)=lo:=by omega
     rw[Qa2 e]
     by_cases e3:(n:Int)+1<=hi
     .omega
     .rw [Qa1 e3,d,Int.sub_self];omega
    .rw [Qa1 e]
     by_cases e4:(n:Int)<=hi
     .rw [Qa2 e4,Qa1 (by omega),show(n:Int)=hi by omega];omega
     .rw [Qa1 e4,Qa1 (by omega)];omega
def cnt(N:Nat)(S:Int->Int->Bool):Int:=Zt (λx=>Zt (λy=>if S x y=true then 1 else 0) N) N
theorem Q2X{T:Int->Int->Bool}(h:∀x y,S x y=true->T x y=true->False):cnt N (λx y=>S x y||T x y)=cnt N S+cnt N T:=by
 unfold cnt;rw[<-gz]
 refine KG λx _=>?_
 rw[<-gz];refine KG λy _=>?_
 have:=h x y
 cases e:S x y<;>cases e2:T x y<;>simp_all
theorem Z4Y(N:Nat)(S:Int->Int->Bool):0<=cnt N S:=gy λx _=>gy λy _=>by split<;>omega
theorem Q2Z{T:Int->Int->Bool}(h:∀x y,S x y=true->T x y=true):cnt N S<=cnt N T:=
 Ra λx _=>Ra λy _=>by
  by_cases a:S x y=true
  .rw [Qa2 a,Qa2 (h _ _ a)];omega
  .rw [Qa1 a];split<;>omega
theorem Q2Y(h:∀x y,S x y=false):cnt N S=0:=by
 unfold cnt;rw[KG (g:=λ_=>0) λx _=>by rw[KG (g:=λ_=>0) λy _=>by rw[h];rfl,MZ],MZ]
theorem Q3a(h1:0<=r.L_)(h2:r.L_<=r.R_)(h3:r.R_<=N)(h4:0<=r.w_)(h5:r.w_<=r.H_)(h6:r.H_<=N):cnt N r.has=WK r:=by
 have e:∀x:Nat,Zt (λy=>if r.has x y=true then 1 else 0) N=if r.L_<=(x:Int)/\(x:Int)<r.R_ then r.H_-r.w_ else 0:=λx=>by
  by_cases hx:r.L_<=(x:Int)/\(x:Int)<r.R_
  .rw [if_pos hx,KG (g:=fun i=>if r.w_<=(i:Int)/\(i:Int)<r.H_ then 1 else 0) fun y _=>by
    by_cases hy:r.w_<=(y:Int)/\(y:Int)<r.H_
    .rw [Qa2 ((QG r x y).2 ⟨hx.1,hx.2,hy.1,hy.2⟩),Qa2 hy]
    .rw [Qa1 (λh=>hy (by have:=(QG r x y).1 h;omega)),Qa1 hy],gx 1 _ _ h4 h5]
   by_cases a:(N:Int)<=r.w_
   .rw [Qa2 a];omega
   .rw [Qa1 a];split<;>omega
  .rw [Qa1 hx,KG (g:=λ_=>0) λy _=>by rw[Qa1 (λh=>hx (by have:=(QG r x y).1 h;omega))],MZ]
 unfold cnt;rw[KG λx _=>e x,gx _ _ _ h1 h2]
 unfold WK
 by_cases a:(N:Int)<=r.L_
 .rw [Qa2 a,show r.R_-r.L_=0 by omega]
 .rw [Qa1 a]
  by_cases b:(N:Int)<=r.R_
  .rw [Qa2 b,show(N:Int)=r.R_ by omega]
  .rw [Qa1 b]
@[irreducible] def sq (S:Int->Int->Bool):Int:=cnt 16384 S
theorem UW(S:Int->Int->Bool):sq S=cnt 16384 S:=by unfold sq;rfl
theorem Q3P:∀{l:List Rect},l.Pairwise Apt->(∀r∈l,QQ r=true)->area l=sq (Q2 l)
 |[],_,_=>by
  rw[UW,Q2Y (S:=Q2 []) (λx y=>rfl)];rfl
 |r::l,ha,hp=>by
  have b:=(Yr r).1 (hp r (by simp));have c:=Q3P (l:=l) (Qd2.1 ha).2 λq b=>hp q (by simp[b])
  have e:Q2 (r::l)=λx y=>r.has x y||Q2 l x y:=by
   funext x y;simp[Q2]
  rw[UW]at c⊢;rw[e,Q2X (λx y f h=>by
   obtain⟨s,d,g⟩:=(YP l x y).1 h;exact(Qd2.1 ha).1 s d x y f g),Q3a (by omega) (by omega) (by omega) (by omega) (by omega) (by omega), <-c]
  simp[area]
theorem J1.area(h:J1 l):area l=sq (Q2 l):=Q3P h.2.2.apt h.2.1
section
def Ok{R:Type}(x:Option R)(G:R->Prop):Prop:=∃r,x=some r/\G r
theorem Ur{R:Type}{r:R}{G:R->Prop}(h:G r):Ok (some r) G:=⟨r,rfl,h⟩
theorem G4{R:Type}{p:Prop}[Decidable p]{x:Option R}{G:R->Prop}(h:p)(k:Ok x G):Ok (gd p x) G:=by unfold gd;rw[Qa2 h];exact k
theorem Qm{α R:Type}{x:Option α}{f:α->Option R}{a:α}{G:R->Prop}(h:x=some a)(k:Ok (f a) G):Ok (x.bind f) G:=by rw[h];exact k
theorem QE{R:Type}{b:Bool}{x y:Option R}{G:R->Prop}(ht:b=true->Ok x G)(hf:b=false->Ok y G):Ok (br b x y) G:=by cases b;exact hf rfl;exact ht rfl
theorem VS{σ R:Type}{body:(σ->Option R)->σ->Option R}{G:R->Prop}(I:σ->Prop)(μ:σ->Nat)(round:∀again z,I z->(∀z',I z' -> μ z' < μ z->Ok (again z') G)->Ok (body again z) G):∀{n:Nat} {z:σ},I z->μ z<n->Ok (Y3 body n z) G:=by
 intro n
 induction n with
 |zero=>intro z _ h;omega
 |succ n ih=>
  intro z c h;exact round _ z c λz' b d=>ih b (by omega)
section
variable (R:List Rect)
end
variable {F:Nat} {a:Re_}
end
theorem cL(hF:Q6<=F)(hl:l.length<=1000000)(hp:∀r∈l,QQ r=true):BW F l=some (area l):=by
 unfold Q6 at hF;have b:∀j,0<=((l.take j).map WK).sum/\((l.take j).map WK).sum<=268435456*1000000:=λj=>by
  have:=Q5O (l:=(l.take j).map WK) (M:=268435456) (λx m=>by
   obtain⟨s,e,rfl⟩:=Qc5.1 m;exact Q3Q (hp s (Qi1 e)))
  simp only[Qg1,Qd7]at this;omega
 unfold BW;refine z5 (λz:Int×Int=>∃j:Nat,z=(((l.take j).map WK).sum,(j:Int))/\j<=l.length) (λz=>l.length-z.2.toNat) (λc z i d=>?_) ⟨0,by simp,by omega⟩ (by simp;omega)
 obtain⟨j,rfl,o⟩:=i;simp only at d⊢
 have n:=b j;have f:=b (j+1)
 unfold cN;refine Z6 (λh=>?_) (λh=>?_)
 .have h:j<l.length:=by simpa using h
  refine Z5 (k:=?_);simp only[Qa3]
  have g:=(Yr _).1 (hp _ (K3 h));have p:=Q3Q (hp _ (K3 h))
  rw[gw h]at f;refine Q9 (V9 (by omega) (by omega)) ?_
  refine Q9 (V9 (by omega) (by omega)) ?_;show gd (Q8 (WK (gl l j))) _=_
  refine Q9 (V9 (by omega) (by omega)) ?_;show gd (Q8 (((l.take j).map WK).sum+WK (gl l j))) _=_
  refine Q9 (V9 (by omega) (by omega)) ?_;refine Z5 (k:=?_)
  refine d _ ⟨j+1,?_,h⟩ (by simp only;omega);rw[gw h];rfl
 .have h:¬j<l.length:=by simpa using h
  have:j=l.length:=by omega
  subst this;rw[Qe5]
  rfl
theorem yC(ht:TOk t)(h1:1<=n)(h2:n<=1099511627776):∃t' b,Gz F t n=some (t',b)/\TOk t':=by
 obtain⟨d,k,c,e,_,_⟩:=QK (F:=F) ht h1 h2;refine⟨d,k==n-1,?_,e⟩
 unfold Gz;refine Q4 c ?_
 refine Q9 (V9 (by omega) (by omega)) rfl
section
def zs(k:Int):Int:=if 0<=k/\k<=7 then 0 else if 8<=k/\k<=11 then 1 else 2
theorem Q4D(F:Nat)(k:Int):Mo F k=some (zs k):=by
 have j:Ve F k true=some 0:=rfl;have l:Jz F true=some 1:=rfl
 have o:Jz F false=some 2:=rfl;have e:∀n:Int,(k==n)=decide (k=n):=λn=>by rw[Qe1];simp
 unfold Mo;simp only[e]
 by_cases h:0<=k/\k<=7
 .have f:zs k=0:=by unfold zs;rw[Qa2 h]
  rw[f];have b:∀{n:Int} {x:Option Int},(k≠n->x=some 0)->br (decide (k=n)) (Ve F k (decide (k=n))) x=some 0:=λ{n x} hx=>by
   refine Z6 (λd=>by rw[d];exact j) (λd=>hx (by simpa using d))
  refine b λm=>b λq=>b λr=>b λt=>b λs=>b λv=>b λu=>?_
  rw[show decide (k=7)=true by rw[Qb5];omega];exact j
 .have c:∀n:Int,0<=n->n<=7->decide (k=n)=false:=λn p g=>by rw[Qi8];omega
  rw[c 0 (by omega) (by omega),c 1 (by omega) (by omega),c 2 (by omega) (by omega),c 3 (by omega) (by omega),c 4 (by omega) (by omega),c 5 (by omega) (by omega),c 6 (by omega) (by omega),c 7 (by omega) (by omega)];simp only[br]
  unfold Ve;simp only[br,e]
  by_cases g:8<=k/\k<=11
  .have f:zs k=1:=by unfold zs;rw[Qa1 h,Qa2 g]
   rw[f];have b:∀{n:Int} {x:Option Int},(k≠n->x=some 1)->br (decide (k=n)) (Jz F (decide (k=n))) x=some 1:=λ{n x} hx=>by
    refine Z6 (λd=>by rw[d];exact l) (λd=>hx (by simpa using d))
   refine b λm=>b λq=>b λr=>?_
   rw[show decide (k=11)=true by rw[Qb5];omega];exact l
  .have f:zs k=2:=by unfold zs;rw[Qa1 h,Qa1 g]
   rw[f];have i:∀n:Int,8<=n->n<=11->decide (k=n)=false:=λn p g=>by rw[Qi8];omega
   rw[i 8 (by omega) (by omega),i 9 (by omega) (by omega),i 10 (by omega) (by omega),i 11 (by omega) (by omega)];exact o
def zp(w:Int)(k:Int):Bool:=zs k==w
theorem Q4F(F:Nat)(k w:Int):Mp F k w=some (zp w k):=by
 unfold Mp;exact Q4 (Q4D F k) rfl
structure LB (n:Nat) (L:List A2_):Prop where
 vl:VL L
 box:∀f∈L,QT n f.g_.t_
 n15:n<=15
theorem Z2U(hc:Yn l){n:Nat}(hb:QT n l)(hn:n<=15):l.length<=120:=by
 have b:=hc.half hb;have c:n*((n+1) / 2)<=15*8:=Qk3 hn (by omega)
 omega
theorem Ln(hf:Fin S){n:Nat}(hn:n<=15)(hb:∀x y,S x y=true->0<=x/\x<n/\0<=y/\y<n):J1 (cn S)/\QT n (cn S):=by
 have h:=Q3H (n:=(n:Int)) hf hb;exact⟨⟨Z2U (UN hf) h hn,h.prop (by omega),UN hf⟩,h⟩
variable {F n:Nat} {L:List A2_} {d:Int}
theorem LB.rbox(hL:LB n L)(d:Int)(p:Int->Bool):QT n (Zf L d p):=λr b=>by
 obtain⟨f,c,b⟩:=Z1n b;exact hL.box f c r b
theorem LB.rval(hL:LB n L)(d:Int)(p:Int->Bool):J1 (cn (Q2 (Zf L d p)))/\QT n (cn (Q2 (Zf L d p))):=Ln (Qz _) hL.n15 λx y h=>(hL.rbox d p).in h
theorem kB(hF:Q6<=F)(hL:LB n L)(d w:Int):Bg F L d w=some (⟨cn (Q2 (Zf L d (zp w)))⟩,0):=by
 have c:=hL.vl.len;unfold Bg
 refine Q4 (Q2c hF (by omega) (λf b=>hL.vl.rlen b) d (zp w) (λf _=>Q4F F f.k_ w)) ?_;have g:=Z0n (L:=L) (λf b=>hL.vl.rlen b) d (zp w)
 refine Q4 (Sv hF (by omega) λr e=>?_) ?_
 .have:=hL.rbox d (zp w) r e
  omega
 .have:=(hL.rval d (zp w)).1.1
  grind
theorem Le(hF:Q6<=F)(hv:VL L)(d1:0<=d)(d2:d<=36864){a:Re_}(ha:J1 a.t_){m:Int}(m1:0<=m)(m2:m<=268435456):Xi F L d m a=some 0:=by
 unfold Xi;refine Q4 (Q2e hF L d) ?_
 rw[Qa1 (by simp[(HK L).2 hv]),Qa1 (by omega)];refine Z4 rfl ?_
 refine Q4 (Wz hF a) ?_;rw[Wi ha]
 refine Z4 rfl ?_;refine Z4 (by rw[Qi8];omega) ?_
 rw[show decide ((268435456:Int)<m)=false by rw[Qi8];omega];rfl
theorem Q4K(hF:Q6<=F)(hL:LB n L)(d1:0<=d)(d2:d<=36864):Mr F L d=some (⟨cn (Q2 (Zf L d (zp 0)))⟩,0):=by
 unfold Mr;refine Q4 (Le hF hL.vl d1 d2 J1.nil (by omega) (by omega)) ?_
 refine Z4 rfl ?_;exact Q4 (kB hF hL d 0) rfl
noncomputable def Uj(L:List A2_)(d:Int)(a:List Rect):List Rect:=cn λx y=>Q2 (Zf L d (zp 1)) x y&&Q2 a x y
noncomputable def VG(L:List A2_)(d m:Int)(a:List Rect):List Rect:=((Gq (Uj L d a)).filter λp=>decide (m<area p)).flatten
theorem Z3r(a b:List Rect):Fin λx y=>Q2 a x y&&Q2 b x y:=Vu a b 2
theorem gR(hL:LB n L)(d:Int)(a:List Rect):J1 (Uj L d a)/\QT n (Uj L d a):=Ln (Z3r _ _) hL.n15 λx y h=>(hL.rbox d (zp 1)).in (Qa4 _ _ ▸ h).1
theorem Q6Q{m:Int}(h:r∈VG L d m a):r∈Uj L d a:=by
 obtain⟨p,c,b⟩:=List.mem_flatten.1 h;exact Z0G (Qf9.1 c).1 b
theorem gU(hL:LB n L)(d m:Int)(a:List Rect):QT n (VG L d m a):=λr b=>(gR hL d a).2 r (Q6Q b)
theorem gT(hL:LB n L)(d m:Int)(a:List Rect):J1 (cn (Q2 (VG L d m a)))/\QT n (cn (Q2 (VG L d m a))):=Ln (Qz _) hL.n15 λx y h=>(gU hL d m a).in h
theorem Q1R{p:List Rect->Bool}:∀Q:List (List Rect),(Q.filter p).flatten.length<=Q.flatten.length
 |[]=>Qb4 _
 |q::Q=>by
  have:=Q1R (p:=p) Q
  grind
theorem Q4H(hF:Q6<=F)(hL:LB n L)(d1:0<=d)(d2:d<=36864){a:Re_}(ha:J1 a.t_){m:Int}(m1:0<=m)(m2:m<=268435456):Mq F L d m a=some (⟨cn (Q2 (VG L d m a.t_))⟩,0):=by
 have c:=hF;unfold Q6 at hF
 have A:=gR hL d a.t_;have i:=A.1.1
 have M:=ha.1;have C:=hL.rval d (zp 1)
 have O:=C.1.1;unfold Mq
 refine Q4 (Le c hL.vl d1 d2 ha m1 m2) ?_;refine Z4 rfl ?_
 refine Q4 (kB c hL d 1) ?_;refine Z4 rfl ?_
 refine Q4 (JT c (by omega) (λr f=>(C.1.2.2.pos f).1) (λr f=>(ha.2.2.pos f).1) (k:=λu v=>u&&v) rfl (λu v=>by cases u<;>cases v<;>rfl)) ?_;have e:(cn λx y=>Q2 (cn (Q2 (Zf L d (zp 1)))) x y&&Q2 a.t_ x y)=Uj L d a.t_:=by
  unfold Uj;congr 1
  funext x y
  rw[QN (Qz _)]
 rw[e];refine Z4 (by rw[Qi8];omega) ?_
 have P:=(Q0v (Uj L d a.t_)).length_eq;refine z5 (λz:List Rect×List Rect=>∃(k:Nat) (Q:List (List Rect)),Q++Gp k z.1=Gq (Uj L d a.t_)/\z.1.length<=k/\z.1.length<=120/\z.2=(Q.filter λp=>decide (m<area p)).flatten/\∀r∈z.1,r∈Uj L d a.t_) (λz=>z.1.length) (λg z U D=>?_) ⟨_,[],rfl,Qb4 _,i,rfl,λ_ h=>h⟩ (by simp only;omega)
 obtain⟨l,H⟩:=z;obtain⟨k,Q,j,B,E,rfl,s⟩:=U
 simp only at j B E s D⊢;have N:Q.flatten.length<=120:=by
  grind
 have J:=Q1R (p:=λp=>decide (m<area p)) Q;unfold kC
 cases l with
 |nil=>
  refine Z4 (by simp) ?_;unfold Lg
  have T:Gp k []=[]:=by cases k<;>rfl
  rw[T,Qj2]at j;subst j
  refine Q4 (Sv c (by omega) λr f=>?_) ?_
  .have:=gU hL d m a.t_ r f
   omega
  .have:=(gT hL d m a.t_).1.1
   unfold VG at this;rw[Qa1 (by omega)];rfl
 |cons b l=>
  refine Y9 (by simp) ?_;refine Q4 (Q8f c (by simp) (by omega) (λr f=>Q7p (A.1.2.1 r (s r f)))) ?_
  cases k with
  |zero=>simp at B
  |succ k=>
  simp only[Gp]at j;have q:=Q1l b l
  have t:=q.perm.length_eq;simp only[Qb7,Qb1,Qc2]at t B E
  have K:∀r∈(VY (b::l)).1,r∈Uj L d a.t_:=λr f=>s r (q.perm.mem_iff.1 (Qa9.2 (.inl f)))
  have S:1<=(VY (b::l)).1.length:=by
   have:=q.lens.1
   grind
  refine Q4 (cL c (by omega) λr f=>A.1.2.1 r (K r f)) ?_;have w:∀o,o=(((Q++[(VY (b::l)).1])).filter λp=>decide (m<area p)).flatten->g ((VY (b::l)).2,o)=some (⟨cn (Q2 (VG L d m a.t_))⟩,0):=λo G=>by
   refine D _ ⟨k,Q++[(VY (b::l)).1],by rw[<-j,Qh6];rfl,by simp only;omega,by simp only;omega,G,λr f=>s r (q.perm.mem_iff.1 (Qa9.2 (.inr f)))⟩ (by simp only[Qb1];omega)
  refine Z6 (λI=>?_) (λI=>?_)
  .refine Q9 (by simp only[Z9];omega) ?_
   grind
  all_goals grind
noncomputable def Jq(L:List A2_)(d m:Int)(a:List Rect)(x y:Int):Bool:=Q2 a x y && !(Q2 (Zf L d (zp 0)) x y||Q2 (VG L d m a) x y)
theorem vE(L:List A2_)(d m:Int)(a:List Rect):Fin (Jq L d m a):=by
 have:=CC a (Zf L d (zp 0)++VG L d m a)
 simp only[Jk]at this;exact this
end
section
theorem yk{a b:Re_}(ha:J1 a.t_)(hb:J1 b.t_)(h:∀x y,Q2 a.t_ x y=true->Q2 b.t_ x y=true->False):Zo a b=false:=by
 rw[<-Qg3];intro c
 unfold Zo at c;rw[Wi ha,Wi hb,Qe4,Qe4,zW ha.2.1 hb.2.1]at c
 obtain⟨x,y,f,e⟩:=c;exact h x y f e
theorem LayT.lb(h:LayT L):LB 9 L:=⟨h.vl,λf b=>(h.fea f b).1.reg.box,by omega⟩
variable {F n:Nat} {L:List A2_} {d:Int}
end
section
variable {F n:Nat} {L:List A2_} {d:Int}
end
section
variable {F:Nat}
end
section
variable {F n:Nat} {L:List A2_} {d:Int}
end
section
def YM(r:Rg_):Int:=
 if r.year_<0\/100<r.year_ then 18 else if r.c_<0\/40<=r.c_ then 13 else if r.g_.t_.length=0\/QP r.g_.t_=false then 7 else 0
theorem Gl(r:Rg_):YM r=0↔0<=r.year_/\r.year_<=100/\0<=r.c_/\r.c_<40/\r.g_.t_.length≠0/\J1 r.g_.t_:=by
 unfold YM;rw[<-Wj]
 grind
theorem Z2I(hF:Q6<=F)(r:Rg_):Cm F r=some (YM r):=by
 unfold Cm YM;rw[Yi (Hd F r)]
 unfold Hd;refine Z6 (λh=>by rw[Qa2 (by simpa using h)]) (λh=>?_)
 rw[Qa1 (by simpa using h),Yi (Hc F r)];unfold Hc
 refine Z6 (λh=>by rw[Qa2 (by simpa using h)]) (λh=>?_);rw[Qa1 (by simpa using h)]
 refine Z6 (λh=>?_) (λh=>?_)
 .have h:r.g_.t_.length=0:=by simpa using h
  rw[Qa2 (.inl h)];rfl
 .have h:r.g_.t_.length≠0:=by simpa using h
  refine Q4 (Wz hF _) ?_;unfold Cl
  refine Z6 (λb=>?_) (λb=>?_)
  all_goals grind
def Qs(f g:Rg_):Bool:=decide (f.year_<g.year_)||(decide (f.year_=g.year_)&&decide (f.c_<g.c_))
theorem VW(f g:Rg_):Qs f g=true↔f.year_<g.year_\/(f.year_=g.year_/\f.c_<g.c_):=by unfold Qs;simp
theorem yn{g h:Rg_}(h1:Qs f g=true)(h2:Qs g h=true):Qs f h=true:=by
 rw[VW]at *;omega
theorem Z2K(hF:Q6<=F)(f g:Rg_):∃c,Cn F f g=some c/\(c<0↔Qs f g=true)/\(0<c↔Qs g f=true):=by
 refine⟨if(if f.year_<g.year_ then(-1:Int)else if g.year_<f.year_ then 1 else 0)≠0 then(if f.year_<g.year_ then(-1:Int)else if g.year_<f.year_ then 1 else 0)else(if f.c_<g.c_ then(-1:Int)else if g.c_<f.c_ then 1 else 0),?_,?_⟩
 .unfold Cn
  exact Q4 (GW _ _ _) (Q4 (GW _ _ _) (Q4 (xB F hF _ _) rfl))
 .rw [VW,VW]
  grind
def Yu:Option Rg_->List Rg_->Int
 |_,[]=>0
 |p,f::l=>if YM f≠0 then YM f else if p.any (λg=> !Qs g f)then 3 else Yu (some f) l
def NX(l:List Rg_):Prop:=l.Pairwise λf g=>f.year_=g.year_->Zo f.g_ g.g_=false
open Classical in
def Zq(l:List Rg_):Int:=if 200<l.length then 1 else if Yu none l≠0 then Yu none l else if NX l then 0 else 11
def Vm(l:List Rg_)(i:Nat):Option Rg_:=if i=0 then none else some (gl l (i-1))
theorem Q0p(l:List Rg_)(i:Nat):Vm l (i+1)=some (gl l i):=by simp[Vm]
theorem Q4g{l:List Rg_}:NX l↔∀j,j<l.length->∀i,i<j->(gl l i).year_=(gl l j).year_->Zo (gl l i).g_ (gl l j).g_=false:=by
 unfold NX;rw[Qc8]
 constructor
 .intro h j b i f e
  rw[Qc b,Qc (by omega)]at *
  grind
 .intro h i j f b c e
  have:=h j b i c
  rw[Qc b,Qc (by omega)]at this;exact this e
theorem Q9L(hF:Q6<=F){l:List Rg_}(hl:l.length<=200)(h0:NX l->y=0)(h1:¬NX l->y=11):Dh F l=some y:=by
 have t:=hF;unfold Q6 at hF
 unfold Dh;refine z5 (λz:Int=>∃i:Nat,z=i/\i<=l.length/\∀j,j<i->∀a,a<j->(gl l a).year_=(gl l j).year_->Zo (gl l a).g_ (gl l j).g_=false) (λz=>l.length-z.toNat) (λr z s C=>?_) ⟨0,rfl,by omega,λj p=>absurd p (Qc9 j)⟩ (by simp;omega)
 obtain⟨i,rfl,D,B⟩:=s;unfold bn
 refine Z6 (λg=>?_) (λg=>?_)
 .have g:i<l.length:=by simpa using g
  refine Z5 (k:=?_);refine Z5 (k:=?_)
  refine z5 (λz:Int=>∃j:Nat,z=j/\j<=i/\∀a,a<j->(gl l a).year_=(gl l i).year_->Zo (gl l a).g_ (gl l i).g_=false) (λz=>i-z.toNat) (λc z s q=>?_) ⟨0,rfl,by omega,λj p=>absurd p (Qc9 j)⟩ (by simp;omega);obtain⟨j,rfl,p,E⟩:=s
  unfold bm;simp only[Qa3]
  have o:(l.take i).length=i:=by rw[Qd7];omega
  simp only[o];refine Z6 (λf=>?_) (λf=>?_)
  .have f:j<i:=by simpa using f
   have e:gl (l.take i) j=gl l j:=by simp[gl,Qa0,f]
   rw[e];refine Z5 (k:=?_)
   have A:∀b:Bool,b=(decide ((gl l j).year_=(gl l i).year_)&&Zo (gl l j).g_ (gl l i).g_)->Dg F j c b=some y:=by
    intro b h;unfold Dg
    refine Z6 (λm=>?_) (λm=>?_)
    .rw [m,Qy1,Qa4,Qb5]at h
     rw[h1 λv=>by rw[Q4g.1 v i g j f h.1]at h;cases h.2]
    .rw [m]at h
     refine Z5 (k:=?_);refine q _ ⟨j+1,by omega,f,λa u w=>?_⟩ (by omega)
     grind
   refine Z6 (λm=>?_) (λm=>?_)
   .refine Q4 (Z0f t _ _) (A _ ?_)
    grind
   all_goals grind
  .have f:j=i:=by
    grind
   subst f;unfold zw
   refine Z5 (k:=?_);refine C _ ⟨j+1,by omega,g,λb h a u w=>?_⟩ (by omega)
   grind
 .have g:i=l.length:=by
   grind
  subst g;rw[h0 (Q4g.2 B)];rfl
theorem Q9N(hF:Q6<=F)(l:List Rg_):SM F l=some (Zq l):=by
 have w:=hF;unfold Q6 at hF
 unfold SM;refine Z6 (λh=>?_) (λh=>?_)
 .have h:200<l.length:=by simp at h;omega
  rw[Zq,Qa2 h]
 .have h:¬200<l.length:=by simp at h;omega
  have t:Yu none l=0->Dh F l=some (Zq l):=λj=>by
   refine Q9L w (by omega) (λC=>?_) (λC=>?_)
   .rw [Zq,Qa1 h,Qa1 (by simp[j]),Qa2 C]
   .rw [Zq,Qa1 h,Qa1 (by simp[j]),Qa1 C]
  have E:Yu none l≠0->Zq l=Yu none l:=λj=>by rw[Zq,Qa1 h,Qa2 j]
  refine z5 (λz:Int=>∃i:Nat,z=i/\i<=l.length/\Yu none l=Yu (Vm l i) (l.drop i)) (λz=>l.length-z.toNat) (λe z I H=>?_) ⟨0,rfl,by omega,rfl⟩ (by simp;omega);obtain⟨i,rfl,J,r⟩:=I
  unfold bp;refine Z6 (λq=>?_) (λq=>?_)
  .have q:i<l.length:=by simpa using q
   rw[Zy q,Yu]at r;refine Z5 (k:=?_)
   simp only[Qa3];have p:∀c:Int,YM (gl l i)=c->c≠0->Zq l=c:=λc o m=>by
    grind
   have f:YM (gl l i)=0->∀b:Bool,b=(Vm l i).any (λg=> !Qs g (gl l i))->Gg F i e b=some (Zq l):=by
    intro o b B;rw[Qa1 (by simp[o])]at r
    unfold Gg;refine Z6 (λm=>?_) (λm=>?_)
    .grind
    .rw [Qa1 (by rw[<-B,m];simp)]at r
     refine Z5 (k:=?_);refine H _ ⟨i+1,by omega,q,?_⟩ (by omega)
     rw[r,Q0p]
   rw[Yi (Dk F l i e)];unfold Dk
   refine Z6 (λo=>?_) (λo=>?_)
   .rw [p 18 (by unfold YM;rw[Qa2 (by simpa using o)]) (by decide)]
   .rw [Yi (Dj F l i e)]
    unfold Dj;refine Z6 (λm=>?_) (λm=>?_)
    .rw [p 13 (by unfold YM;rw[Qa1 (by simpa using o),Qa2 (by simpa using m)]) (by decide)]
    .refine Q4 (Dy w _) ?_
     rw[Yi (Di F l i e)];unfold Di
     refine Z6 (λu=>?_) (λu=>?_)
     .have u:(gl l i).g_.t_.length=0\/QP (gl l i).g_.t_=false:=by
       grind
      rw[p 7 (by unfold YM;rw[Qa1 (by simpa using o),Qa1 (by simpa using m),Qa2 u]) (by decide)]
     .have u:¬ ((gl l i).g_.t_.length=0\/QP (gl l i).g_.t_=false):=by
       grind
      have A:YM (gl l i)=0:=by unfold YM;rw[Qa1 (by simpa using o),Qa1 (by simpa using m),Qa1 u]
      refine Z6 (λj=>?_) (λj=>?_)
      .have j:0<i:=by simpa using j
       refine Z5 (k:=?_);refine Z5 (k:=?_)
       have G:((i:Int)-1).toNat=i-1:=by omega
       rw[G];have D:(Vm l i).any (λg=> !Qs g (gl l i))=!Qs (gl l (i-1)) (gl l i):=by simp[Vm,show i≠0 from by omega]
       refine Z6 (λs=>?_) (λs=>?_)
       .refine f A _ ?_
        have s:(gl l i).year_<(gl l (i-1)).year_:=by simpa using s
        rw[D,Qy1,Qh7, <-Qg3,VW];omega
       .have s:¬(gl l i).year_<(gl l (i-1)).year_:=by simpa using s
        refine Z5 (k:=?_);refine Z5 (k:=?_)
        refine Z6 (λv=>?_) (λv=>?_)
        .have v:(gl l i).year_=(gl l (i-1)).year_:=by simpa using v
         refine Z5 (k:=?_);refine Z5 (k:=?_)
         refine f A _ ?_;rw[D,Qe1,Qh7, <-Qg3,VW,Qb5]
         grind
        .have v:¬(gl l i).year_=(gl l (i-1)).year_:=by simpa using v
         refine f A _ ?_;rw[D,Qy1,Qn1,VW];omega
      .have j:i=0:=by simp at j;omega
       exact f A _ (by simp[Vm,j])
  .have q:¬i<l.length:=by simpa using q
   rw[Qe8 (by omega)]at r;exact t r
end
structure GrpOf (gs:List (Int×List Rg_)) (l:List Rg_):Prop where
 nd:(gs.map (·.1)).Nodup
 row:∀e∈gs,e.2=l.filter λf=>decide (f.year_=e.1)
 key:∀f∈l,∃e∈gs,e.1=f.year_
theorem GrpOf.nil:GrpOf [] []:=⟨by simp,λe c=>by simp at c,λf b=>by simp at b⟩
theorem GrpOf.gRow{l:List Rg_}(h:GrpOf gs l)(y:Int):gRow y gs=l.filter λf=>decide (f.year_=y):=by
 unfold Go.Ab.gRow;rcases Kl y gs with ⟨i,q,b,c⟩|⟨p,m⟩
 .rw [b]
  simp only
  rw[h.row q (Qf4 b),c]
 .rw [p,Qg7 (Qb4 _)]
  simp only
  symm
  rw[Qq3];intro f g o
  obtain⟨e,r,j⟩:=h.key f g
  grind
theorem GrpOf.app{l:List Rg_}(h:GrpOf gs l)(f:Rg_):GrpOf (gApp f.year_ [f] gs) (l++[f]):=by
 obtain⟨q,z,D,v,w⟩:=Cw (y:=f.year_) (m:=[f]) (gs:=gs);have o:=Q1I (y:=f.year_) (m:=[f]) h.nd
 have G:(gApp f.year_ [f] gs)[z3 f.year_ gs]?=some q:=by rw[v,DH w,Qa2 rfl]
 have c:∀e∈gApp f.year_ [f] gs,e=q\/(e∈gs/\e.1≠f.year_):=by
  intro e p;obtain⟨j,t⟩:=Qo7 p
  by_cases b:j=z3 f.year_ gs
  .grind
  .right
   have r:=t;rw[v,DH w,Qa1 b]at r
   refine⟨Qf4 r,λA=>b ?_⟩;exact yf o t G (by rw[A,z])
 refine⟨o,λe p=>?_,λg s=>?_⟩
 .rcases c e p with rfl|⟨E,I⟩
  .rw [D,h.gRow,Qg6,z];simp
  .rw [h.row e E,Qg6]
   grind
 .rcases Qa9.1 s with s|s
  .obtain ⟨e,p,u⟩:=h.key g s
   by_cases A:e.1=f.year_
   .grind
   .obtain ⟨j,t⟩:=Qo7 p
    have b:j≠z3 f.year_ gs:=by
     rintro rfl;rcases Kl f.year_ gs with ⟨_,H,B,C⟩|⟨J,_⟩
     all_goals grind
    refine⟨e,Qf4 (i:=j) ?_,u⟩;rw[v,DH w,Qa1 b];exact t
  all_goals grind
theorem Z3h(y:Int)(m:List Rg_)(gs:List (Int×List Rg_)):(gApp y m gs).length<=gs.length+1:=by
 obtain⟨q,_,_,h,b⟩:=Cw (y:=y) (m:=m) (gs:=gs);rw[h,DG b]
 grind
theorem Z2G(hF:Q6<=F){l:List Rg_}(hl:l.length<=200):∃gs,yU F l=some gs/\GrpOf gs l/\gs.length<=l.length:=by
 unfold Q6 at hF;have c:∀(n i:Nat) (gs:List (Int×List Rg_)),i<=l.length->l.length-i<n->GrpOf gs (l.take i)->gs.length<=i->∃r,Y3 (λagain (z:Int×(List (Int×(List Rg_))))=>Pr F l again z.1 z.2) n ((i:Int),gs)=some r/\GrpOf r l/\r.length<=l.length:=by
  intro n
  induction n with
  |zero=>intro i gs _ h;omega
  |succ n ih=>
   intro i gs o m b g
   by_cases h:i<l.length
   .obtain ⟨r,j,e⟩:=ih (i+1) (gApp (gl l i).year_ [gl l i] gs) h (by omega) (by rw[Qr h];exact b.app _) (by have:=Z3h (gl l i).year_ [gl l i] gs;omega)
    refine⟨r,?_,e⟩;show Pr F l _ (i:Int) gs=_
    unfold Pr;simp only[Qa3]
    refine Y9 (by simpa using h) ?_;refine Z5 (k:=?_)
    refine Q9 ?_ ?_
    .rw [b.gRow]
     have:=Qk5 (λf:Rg_=>decide (f.year_=(gl l i).year_)) (l.take i)
     have p:(l.take i).length<=200:=by rw[Qd7];omega
     simp only[Z9,Qb1,Qc2];omega
    .refine Z5 (k:=?_)
     exact j
   .have:i=l.length:=by omega
    subst this;refine⟨gs,?_,by rw[Qe5]at b;exact b,g⟩
    show Pr F l _ _ gs=_;unfold Pr
    exact Z4 (by simp) rfl
 exact c F 0 [] (Qc3 _) (by omega) (by rw[Qo1];exact GrpOf.nil) (Qc3 _)
def UK(e:Int×List Rg_):Prop:=¬e.2.Pairwise λf g=>Zo f.g_ g.g_=false
theorem Q3K{l:List Rg_}(h:GrpOf gs l):NX l↔∀e∈gs,¬UK e:=by
 unfold NX UK;constructor
 .intro c e b p
  refine p ?_;rw[h.row e b,Qr9]
  exact c.imp λ{f g} hh h1 h2=>hh (by simp at h1 h2;omega)
 .intro c
  rw[Qc8];intro i j r s m q
  obtain⟨e,b,o⟩:=h.key l[i] (Qd8 _);have:=Qu0.1 (c e b)
  rw[h.row e b,Qr9,Qc8]at this
  grind
theorem Q3L{e:Int×List Rg_}:¬UK e↔∀j,j<e.2.length->∀i,i<j->Zo (gl e.2 i).g_ (gl e.2 j).g_=false:=by
 unfold UK;rw[Qu0,Qc8]
 constructor
 .intro h j b i f
  rw[Qc b,Qc (by omega)]
  grind
 .intro h i j f b c
  have:=h j b i c
  rw[Qc b,Qc (by omega)]at this;exact this
theorem Z2P(hF:Q6<=F){e:Int×List Rg_}(hl:e.2.length<=200){rest:List (Int×List Rg_)}{ag:List (Int×List Rg_)->Option Int}(hb:UK e->y=11)(hg:¬ UK e->ag rest=some y):
  Y3 (λagain (z:Int)=>yW F e rest ag again z) F (0:Int)=some y:=by
 have b:=hF;unfold Q6 at hF
 refine z5 (λz:Int=>∃i:Nat,z=i/\i<=e.2.length/\∀j,j<i->∀a,a<j->Zo (gl e.2 a).g_ (gl e.2 j).g_=false) (λz=>e.2.length-z.toNat) (λagain z w v=>?_) ⟨0,rfl,by omega,λj q=>absurd q (Qc9 j)⟩ (by simp;omega);obtain⟨i,rfl,A,p⟩:=w
 unfold yW;simp only[Qa3]
 refine Z6 (λh=>?_) (λh=>?_)
 .have h:i<e.2.length:=by simpa using h
  refine Z5 (k:=?_);refine Z5 (k:=?_)
  refine Q4 (UY (α:=Rg_) b (λf=>Zo f.g_ (gl e.2 i).g_) (by rw[Qd7];omega) (λr _=>by unfold yX;exact Q4 (zc b _ _) rfl)) ?_;refine Z6 (λm=>?_) (λm=>?_)
  .rw [hb λu=>?_]
   .obtain ⟨f,t,g⟩:=Qc6.1 m
    obtain⟨a,c,rfl⟩:=Qc7 t;have l:a<i:=by rw[Qd7]at c;omega
    have:=Q3L.1 (Qu0.2 u) i h a l
    rw[Qn6]at g;rw[Qc (show a<e.2.length by omega)]at this
    rw[this]at g;cases g
  .refine Z5 (k:=?_)
   refine v _ ⟨i+1,by omega,h,λj q a c=>?_⟩ (by omega);rcases Qd3 j i with o|o
   .exact p j o a c
   .have:j=i:=by omega
    subst this;have s:=Qf6.1 m (gl e.2 a) (by
     rw[Qc (show a<e.2.length by omega)];have:e.2[a]=(e.2.take j)[a]'(by rw[Qd7];omega):=by rw[Qn6]
     rw[this];exact Qd8 _)
    simpa using s
 .have h:i=e.2.length:=by
   have:¬i<e.2.length:=by simpa using h
   omega
  subst h;exact hg (Q3L.2 p)
theorem Q0K{α:Type}{l:List α}(hi:i<l.length)(p:α->Prop):(∀e∈l,p e)↔p l[i]/\∀e∈l.eraseIdx i,p e:=by
 constructor
 .exact λh=>⟨h _ (Qd8 _),λe b=>h e (Qu9 b)⟩
 .rintro ⟨g,c⟩ e b
  obtain⟨j,f,rfl⟩:=Qc7 b
  by_cases hij:j=i
  .grind
  .exact c _ (List.mem_eraseIdx_iff_getElem.2 ⟨j,f,hij,rfl⟩)
theorem Z2Q{F:Nat}(hF:Q6<=F):∀ (n:Nat) (gs:List (Int×List Rg_)) (y:Int),gs.length<n->(∀ e ∈ gs,e.2.length<=200)->((∀ e ∈ gs,¬ UK e)->y=0)->((¬ ∀ e ∈ gs,¬ UK e)->y=11) ->
  Y3 (λagain (z:(List (Int×(List Rg_))))=>Cq F again z) n gs=some y:=by
 intro n
 induction n with
 |zero=>intro gs y h;omega
 |succ n ih=>
  intro gs y r c p q;show Cq F _ gs=_
  unfold Cq
  cases gs with
  |nil=>
   rw[Z1h,p (λe o=>by simp at o)];rfl
  |cons g l=>
   refine Z1g (by simp) λi j=>?_
   refine Z2P hF (c _ (Qd8 _)) (λf=>q λb=>b _ (Qd8 _) f) (λf=>?_);refine ih _ y (by rw[List.length_eraseIdx];rw[Qa2 j];simp at r⊢;omega) (λe o=>c e (Qu9 o)) (λb=>p ?_) (λm=>q λb=>m ?_)
   .exact (Q0K j (λe=>¬UK e)).2 ⟨f,b⟩
   .exact ((Q0K j (λe=>¬UK e)).1 b).2
theorem Z2O(hF:Q6<=F)(l:List Rg_):Cr F l=some (Zq l):=by
 have m:=hF;unfold Q6 at hF
 unfold Cr;refine Z6 (λh=>?_) (λh=>?_)
 .have h:200<l.length:=by simp at h;omega
  rw[Zq,Qa2 h]
 .have h:¬200<l.length:=by simp at h;omega
  have s:Yu none l=0->Cp F l=some (Zq l):=λf=>by
   unfold Cp;obtain⟨C,A,u,E⟩:=Z2G m (l:=l) (by omega)
   refine Q4 A ?_;have j:C.length<F:=by omega
   refine Z2Q m F C _ j (λe p=>?_) (λw=>?_) (λw=>?_)
   .rw [u.row e p]
    grind
   .rw [Zq,Qa1 h,Qa1 (by simp[f]),Qa2 ((Q3K u).2 w)]
   .rw [Zq,Qa1 h,Qa1 (by simp[f]),Qa1 λJ=>w ((Q3K u).1 J)]
  have G:Yu none l≠0->Zq l=Yu none l:=λf=>by rw[Zq,Qa1 h,Qa2 f]
  refine z5 (λz:Int=>∃i:Nat,z=i/\i<=l.length/\Yu none l=Yu (Vm l i) (l.drop i)) (λz=>l.length-z.toNat) (λq z I H=>?_) ⟨0,rfl,by omega,rfl⟩ (by simp;omega);obtain⟨i,rfl,K,p⟩:=I
  unfold Q1y;refine Z6 (λr=>?_) (λr=>?_)
  .have r:i<l.length:=by simpa using r
   rw[Zy r,Yu]at p;refine Z5 (k:=?_)
   simp only[Qa3];refine Q4 (Z2I m _) ?_
   refine Z6 (λt=>?_) (λt=>?_)
   .grind
   .have t:YM (gl l i)=0:=by simpa using t
    rw[Qa1 (by simp[t])]at p;have o:∀b:Bool,b=(Vm l i).any (λg=> !Qs g (gl l i))->Hg F i q b=some (Zq l):=by
     intro b v;unfold Hg
     refine Z6 (λB=>?_) (λB=>?_)
     .grind
     .rw [Qa1 (by rw[<-v,B];simp)]at p
      refine Z5 (k:=?_);refine H _ ⟨i+1,by omega,r,?_⟩ (by omega)
      rw[p,Q0p]
    refine Z6 (λf=>?_) (λf=>?_)
    .have f:0<i:=by simpa using f
     refine Z5 (k:=?_);refine Z5 (k:=?_)
     have A:((i:Int)-1).toNat=i-1:=by omega
     rw[A];obtain⟨c,D,M,O⟩:=Z2K m (gl l (i-1)) (gl l i)
     refine Q4 D (o _ ?_);have N:(Vm l i).any (λg=> !Qs g (gl l i))=!Qs (gl l (i-1)) (gl l i):=by simp[Vm,show i≠0 from by omega]
     grind
    .have f:i=0:=by simp at f;omega
     exact o _ (by simp[Vm,f])
  .have r:¬i<l.length:=by simpa using r
   rw[Qe8 (by omega)]at p;exact s p
structure HL (l:List Rg_):Prop where
 len:l.length<=200
 one:∀f∈l,YM f=0
 asc:l.Pairwise λf g=>Qs f g=true
 nx:NX l
theorem yY:∀(l:List Rg_) (p:Option Rg_),Yu p l=0↔(∀f∈l,YM f=0)/\l.Pairwise (λf g=>Qs f g=true)/\∀n,p=some n->∀f∈l,Qs n f=true
 |[],p=>by simp[Yu]
 |f::l,p=>by
  have m:=yY l (some f);unfold Yu
  by_cases h1:YM f=0
  .rw [Qa1 (by simp[h1])]
   by_cases e:p.any (λg=> !Qs g f)=true
   .rw [Qa2 e]
    constructor
    .grind
    .rintro ⟨_,_,h⟩
     cases p with
     |none=>simp at e
     |some n=>
      grind
   .rw [Qa1 e,m]
    constructor
    .rintro ⟨a,b,c⟩
     refine⟨λg i=>?_,Qd2.2 ⟨λg i=>c _ rfl g i,b⟩,λn j g i=>?_⟩
     .grind
     .subst j
      have e:Qs n f=true:=by simpa using e
      rcases Qf0.1 i with rfl|i
      .exact e
      .exact yn e (c _ rfl g i)
    .rintro ⟨a,b,c⟩
     obtain⟨o,q⟩:=Qd2.1 b
     grind
  all_goals grind
theorem Fv(l:List Rg_):Zq l=0↔HL l:=by
 unfold Zq
 by_cases h:200<l.length
 .rw [Qa2 h]
  exact⟨λh=>(by cases h),λc=>by have:=c.len;omega⟩
 .rw [Qa1 h]
  by_cases h2:Yu none l=0
  .rw [Qa1 (by simp[h2])]
   obtain⟨a,b,_⟩:=(yY l none).1 h2
   by_cases h3:NX l
   .rw [Qa2 h3];exact⟨λ_=>⟨by omega,a,b,h3⟩,λ_=>rfl⟩
   .rw [Qa1 h3];exact⟨λh=>(by cases h),λc=>absurd c.nx h3⟩
  .rw [Qa2 h2]
   exact⟨λh=>absurd h h2,λc=>absurd ((yY l none).2 ⟨c.one,c.asc,λn e=>by cases e⟩) h2⟩
section
variable {F:Nat} {L:List A2_} {d:Int}
theorem xN:∀{l:List Int},Yg l->∀{lo hi:Int},(∀v∈l,lo<=v/\v<=hi)->lo<=hi+1->(l.length:Int)<=hi+1-lo
 |[],_,lo,hi,_,h=>by simp;omega
 |a::l,h,lo,hi,hb,h2=>by
  have c:=Qd2.1 h;have e:=hb a (by simp)
  have:=xN (l:=l) c.2 (lo:=a+1) (hi:=hi) (λv b=>by have:=c.1 v b;have:=hb v (by simp[b]);omega) (by omega)
  rw[Qb1];omega
theorem Te(hF:Q6<=F)(ha:a.length<=200000)(hb:b.length<=200000)(pa:∀r∈a,QQ r=true)(pb:∀r∈b,QQ r=true):Wo F a b how=some (cn λx y=>Qn (Q2 a x y) (Q2 b x y) how):=by
 refine Q0b hF ha hb ?_ ?_
 .have:=xN (Ub b (Ub a (f:=Rect.L_) (g:=Rect.R_) .nil)) (lo:=0) (hi:=16384) (fun v e=>by
   rcases(ZJ b _ _).1 e with h|⟨r,c,h⟩
   .rcases (ZJ a _ _).1 h with h|⟨r,c,h⟩
    .cases h
    .have h:v=r.L_\/v=r.R_:=h
     have:=(Yr r).1 (pa r c);omega
   .have h:v=r.L_\/v=r.R_:=h
    have:=(Yr r).1 (pb r c);omega) (by omega)
  unfold Zb;omega
 .have:=xN (Ub b (Ub a (f:=Rect.w_) (g:=Rect.H_) .nil)) (lo:=0) (hi:=16384) (fun v e=>by
   rcases(ZJ b _ _).1 e with h|⟨r,c,h⟩
   .rcases (ZJ a _ _).1 h with h|⟨r,c,h⟩
    .cases h
    .have h:v=r.w_\/v=r.H_:=h
     have:=(Yr r).1 (pa r c);omega
   .have h:v=r.w_\/v=r.H_:=h
    have:=(Yr r).1 (pb r c);omega) (by omega)
  unfold Zz;omega
end
section
variable {F:Nat} {L:List A2_} {d:Int}
end
section
variable {F n:Nat} {L:List A2_} {d:Int}
end
section
variable {F:Nat} {L:List A2_} {d:Int}
theorem Q1C(hc:Yn l)(hl:l.length<=120)(ha:∀r∈a,QQ r=true)(hs:∀x y,Q2 l x y=true->Q2 a x y=true):J1 l:=by
 have e:QT (16384:Int) l:=hc.box λx y h=>by
  obtain⟨r,b,c⟩:=(YP _ _ _).1 (hs x y h);have:=(Yr r).1 (ha r b)
  rw[QG]at c;omega
 exact⟨hl,e.prop (by omega),hc⟩
end
section
variable {F:Nat} {L:List A2_} {d:Int}
end
def Zm(y c:Int)(f:Rg_):Bool:=decide (f.year_=y)&&decide (f.c_=c)
def YR(y:Int)(a:List Rect)(f:Rg_):Rg_:=if f.year_=y then⟨f.year_,f.c_,⟨cn λu v=>Q2 f.g_.t_ u v && !Q2 a u v⟩⟩else f
def QW(l:List Rg_)(y c:Int)(a:List Rect):List Rg_:=(l.filter λf=> !Zm y c f).map (YR y a)
def vA(l:List Rg_)(y c:Int)(a:List Rect):List Rect:=match l.find? (Zm y c)with|some f=>cn λu v=>Q2 f.g_.t_ u v||Q2 a u v|none=>a
def Zn(f:Rg_):Bool:= !decide (f.g_.t_.length=0)
def WN(l:List Rg_):Bool:=decide (200<l.length)||l.any λf=>decide (120<f.g_.t_.length)
def YS(l:List Rg_)(r:Rg_):Nat:=l.countP λf=>Qs f r
def Pq(l:List Rg_)(r:Rg_):List Rg_:=l.take (YS l r)++[r]++l.drop (YS l r)
def YU(l:List Rg_)(y c:Int)(a:List Rect):List Rg_:=
 if(vA l y c a).length=0 then(QW l y c a).filter Zn else Pq ((QW l y c a).filter Zn) ⟨y,c,⟨vA l y c a⟩⟩
def addH(l:List Rg_)(y c:Int)(a:Re_):List Rg_×Int:=
 if Zq l≠0 then([],Zq l)else if y<0\/100<y then([],18)else if c<0\/40<=c then([],13)else if QP a.t_=false then([],7)
 else if WN (YU l y c a.t_)=true then([],1)else(YU l y c a.t_,0)
theorem Q9e(l:List Rg_)(x:Rg_)(y c:Int)(a:List Rect):QW (l++[x]) y c a=QW l y c a++(if Zm y c x=true then[]else[YR y a x]):=by
 unfold QW;rw[Qg6,Qd6]
 congr 1
 cases h:Zm y c x with
 |true=>simp[h]
 |false=>simp[h]
theorem Q4X(l:List Rg_)(x:Rg_)(y c:Int)(a:List Rect)(h:Zm y c x=true->∀f∈l,Zm y c f=false):vA (l++[x]) y c a=if Zm y c x=true then cn (λu v=>Q2 x.g_.t_ u v||Q2 a u v)else vA l y c a:=by
 unfold vA;rw[List.find?_append]
 cases hx:Zm y c x with
 |true=>
  have:l.find? (Zm y c)=none:=Qi0.2 λf b=>by rw[h hx f b];simp
  rw[this];simp[hx]
 |false=>simp[hx]
theorem Q4Y(l:List Rg_)(y c:Int)(a:List Rect)(h:∀f∈l,Zm y c f=false):vA l y c a=a:=by
 unfold vA;have:l.find? (Zm y c)=none:=Qi0.2 λf b=>by rw[h f b];simp
 rw[this]
theorem jU{l:List Rg_}(h:l.Pairwise λf g=>Qs f g=true)(hi:i<l.length)(hs:Zm y c (gl l i)=true):∀f∈l.take i,Zm y c f=false:=by
 intro f e;obtain⟨j,m,rfl⟩:=Qc7 e
 have b:j<i:=by rw[Qd7]at m;omega
 rw[Qn6];have:=Qc8.1 h j i (by omega) hi b
 rw[VW]at this;rw[Qc hi]at hs
 unfold Zm at hs⊢;rw[Qa4,Qb5,Qb5]at hs
 rw[<-Qg3,Qa4,Qb5,Qb5];omega
theorem HL.val{l:List Rg_}(h:HL l)(hf:f∈l):J1 f.g_.t_:=((Gl f).1 (h.one f hf)).2.2.2.2.2
theorem Q9Q(hF:Q6<=F){l:List Rg_}(h:HL l){a:Re_}(ha:J1 a.t_){r:List Rg_×Int}(hk:Dl F y c (vA l y c a.t_) ((QW l y c a.t_).filter Zn)=some r):
  Y3 (λagain (z:(List Rect)×Int×(List Rg_))=>zx F l y c a again z.1 z.2.1 z.2.2) F (a.t_,(0:Int),([]:List Rg_))=some r:=by
 have s:=hF;unfold Q6 at hF
 have D:=h.len;refine z5 (λz:(List Rect)×Int×(List Rg_)=>∃i:Nat,z=(vA (l.take i) y c a.t_,(i:Int),(QW (l.take i) y c a.t_).filter Zn)/\i<=l.length) (λz=>l.length-z.2.1.toNat) (λagain z O J=>?_) ⟨0,by rw[Qo1];rfl,by omega⟩ (by simp only;omega)
 obtain⟨i,rfl,P⟩:=O;simp only at J⊢
 unfold zx;simp only[Qa3]
 refine Z6 (λg=>?_) (λg=>?_)
 .have g:i<l.length:=by simpa using g
  have t:=h.val (K3 g);have N:((QW (l.take i) y c a.t_).filter Zn).length<=200:=by
   have H:=Qk5 Zn (QW (l.take i) y c a.t_);unfold QW at H⊢
   rw[Qg1]at H;have:=Qk5 (λf=> !Zm y c f) (l.take i)
   have e:(l.take i).length<=l.length:=by rw[Qd7];omega
   omega
  have j:∀(v:List Rect) (p:List Rg_),v=vA (l.take (i+1)) y c a.t_->p=(QW (l.take (i+1)) y c a.t_).filter Zn->XU F i again v p=some r:=by
   rintro v p rfl rfl;unfold XU
   refine Z5 (k:=?_);exact J _ ⟨i+1,rfl,g⟩ (by simp only;omega)
  have A:=Q4X (l.take i) (gl l i) y c a.t_ (jU h.asc g);have B:=Q9e (l.take i) (gl l i) y c a.t_
  rw[<-Qr g]at A B;have K:∀w:List Rect,Zm y c (gl l i)=false->(⟨(gl l i).year_,(gl l i).c_,⟨w⟩⟩:Rg_)=YR y a.t_ (gl l i)->Dm F l (vA (l.take i) y c a.t_) i ((QW (l.take i) y c a.t_).filter Zn) again w=some r:=by
   intro w m M;unfold Dm
   simp only[Qa3];have E:(QW (l.take (i+1)) y c a.t_).filter Zn=(QW (l.take i) y c a.t_).filter Zn++[(⟨(gl l i).year_,(gl l i).c_,⟨w⟩⟩:Rg_)].filter Zn:=by
    rw[B,Qa1 (by rw[m];simp),Qg6,M]
   have I:vA (l.take i) y c a.t_=vA (l.take (i+1)) y c a.t_:=by rw[A,Qa1 (by rw[m];simp)]
   refine Z6 (λo=>?_) (λo=>?_)
   .have o:w.length≠0:=by simp at o;omega
    refine Z5 (k:=?_);refine j _ _ I ?_
    rw[E];congr 1
    simp[Zn,o]
   .have o:w.length=0:=by simp at o;simp[o]
    refine j _ _ I ?_;rw[E]
    simp[Zn,o]
  refine Z5 (k:=?_);have C:∀b:Bool,b=Zm y c (gl l i)->Dn F l y a (vA (l.take i) y c a.t_) i ((QW (l.take i) y c a.t_).filter Zn) again b=some r:=by
   intro b G;unfold Dn
   simp only[Qa3];refine Z6 (λe=>?_) (λe=>?_)
   .have m:Zm y c (gl l i)=true:=by rw[<-G,e]
    rw[Q4Y _ y c a.t_ (jU h.asc g m)];refine Q4 (Te s (by have:=ha.1;omega) (by have:=t.1;omega) ha.2.1 t.2.1) (j _ _ ?_ ?_)
    .rw [A,Qa2 m]
     congr 1
     funext u v
     simp[Qn,Bool.or_comm]
    .rw [B,Qa2 m,Qj2]
   .have m:Zm y c (gl l i)=false:=by rw[<-G,e]
    refine Z6 (λq=>?_) (λq=>?_)
    .have q:(gl l i).year_=y:=by simpa using q
     refine Q4 (Te s (by have:=t.1;omega) (by have:=ha.1;omega) t.2.1 ha.2.1) (K _ m ?_);unfold YR;rw[Qa2 q]
     simp[Qn]
    .have q:¬(gl l i).year_=y:=by simpa using q
     refine K _ m ?_;unfold YR;rw[Qa1 q]
  refine Z6 (λe=>?_) (λe=>?_)
  .have e:(gl l i).year_=y:=by simpa using e
   refine C _ ?_;unfold Zm
   rw[Qa6 e,Qe4];rfl
  .have e:¬(gl l i).year_=y:=by simpa using e
   refine C _ ?_;unfold Zm
   rw[Qa5 e,Qt0]
 .have g:i=l.length:=by
   have:¬i<l.length:=by simpa using g
   omega
  subst g;rw[Qe5]
  exact hk
def Uw(f:Rg_):Int×Int:=(f.year_,f.c_)
theorem TB{g:Rg_}:WC (Uw f) (Uw g)↔Qs f g=true:=by rw[VW];unfold WC Uw;exact Iff.rfl
theorem Q3b{l:List Rg_}(h:l.Pairwise λf g=>Qs f g=true)(r:Rg_):YS l r<=l.length/\(∀j,j<YS l r->Qs (gl l j) r=true)/\∀j,YS l r<=j->j<l.length->Qs (gl l j) r=false:=by
 induction l with
 |nil=>exact⟨Qb4 _,λj i=>by simp[YS]at i,λj _ i=>by simp at i⟩
 |cons f l ih=>
  obtain⟨q,t⟩:=Qd2.1 h;obtain⟨a,b,c⟩:=ih t
  cases hf:Qs f r with
  |true=>
   have e:YS (f::l) r=YS l r+1:=by simp[YS,hf]
   rw[e];refine⟨by simp;exact a,λj i=>?_,λj i m=>?_⟩
   .cases j with
    |zero=>exact hf
    |succ j=>exact b j (by omega)
   .cases j with
    |zero=>omega
    |succ j=>exact c j (by omega) (by simpa using m)
  |false=>
   have o:∀g∈l,Qs g r=false:=λg s=>by
    rw[<-Qg3];intro p
    rw[yn (q g s) p]at hf;cases hf
   have e:YS (f::l) r=0:=by
    unfold YS
    grind
   rw[e];refine⟨Qc3 _,λj i=>absurd i (Qc9 j),λj _ m=>?_⟩
   cases j with
   |zero=>exact hf
   |succ j=>
    have i:j<l.length:=by simpa using m
    exact o _ (K3 i)
theorem Z2w(l:List Rg_)(r:Rg_):(Pq l r).Perm (l++[r]):=by
 unfold Pq;have b:(l.take (YS l r)++[r]++l.drop (YS l r)).Perm (l.take (YS l r)++(l.drop (YS l r)++[r])):=by
  grind
 rw[<-Qh6,Qg8]at b;exact b
theorem Z2x{l:List Rg_}(h:l.Pairwise λf g=>Qs f g=true){r:Rg_}(hr:∀f∈l,Uw f≠Uw r):(Pq l r).Pairwise λf g=>Qs f g=true:=by
 obtain⟨a,b,c⟩:=Q3b h r;unfold Pq
 generalize YS l r=k at *;have t:∀f∈l.take k,Qs f r=true:=λf i=>by
  obtain⟨j,o,rfl⟩:=Qc7 i;have e:j<k:=by rw[Qd7]at o;omega
  have:=b j e
  rw[Qc (show j<l.length by omega)]at this
  grind
 have s:∀f∈l.drop k,Qs r f=true:=λf i=>by
  obtain⟨j,o,rfl⟩:=Qc7 i;have e:k+j<l.length:=by rw[Qo3]at o;omega
  have p:=c (k+j) (by omega) e;rw[Qc e]at p
  rw[List.getElem_drop];have u:=hr _ (Qd8 e)
  rcases Q0R u with m|m
  .rw [TB.1 m]at p;cases p
  .exact TB.1 m
 rw[Qd5,Qd5];refine⟨⟨h.sublist (List.take_sublist _ _),Qe6 _ _,λf i g q=>?_⟩,h.sublist (List.drop_sublist _ _),λf i g q=>?_⟩
 .grind
 .rcases Qa9.1 i with i|i
  .exact yn (t f i) (s g q)
  all_goals grind
theorem Pz(y:Int)(a:List Rect)(f:Rg_):Uw (YR y a f)=Uw f:=by unfold YR;split<;>rfl
theorem Z1y(y:Int)(a:List Rect)(f g:Rg_):Qs (YR y a f) (YR y a g)=Qs f g:=by
 rw[Qe1, <-TB, <-TB,Pz,Pz]
theorem qL{l:List Rg_}(h:l.Pairwise λf g=>Qs f g=true)(y c:Int)(a:List Rect):((QW l y c a).filter Zn).Pairwise λf g=>Qs f g=true:=by
 refine Qs0 _ ?_;unfold QW
 rw[Qi4];refine List.Pairwise.imp (λ{f g} hh=>?_) (Qs0 _ h)
 rw[Z1y];exact hh
theorem Q9d{l:List Rg_}{v:List Rect}:∀f∈(QW l y c a).filter Zn,Uw f≠Uw ⟨y,c,⟨v⟩⟩:=by
 intro f b e;have b:=(Qf9.1 b).1
 unfold QW at b;obtain⟨g,i,rfl⟩:=Qc5.1 b
 have h:=(Qf9.1 i).2;rw[Pz]at e
 unfold Uw at e;have j:g.year_=y:=congrArg Prod.fst e
 have m:g.c_=c:=congrArg Prod.snd e;unfold Zm at h
 grind
theorem Z5N{l:List Rg_}(h:l.Pairwise λf g=>Qs f g=true)(y c:Int)(a:List Rect):(YU l y c a).Pairwise λf g=>Qs f g=true:=by
 unfold YU;split
 .exact qL h y c a
 .exact Z2x (qL h y c a) Q9d
theorem xV(l:List Rg_)(y c:Int)(a:List Rect):((QW l y c a++[(⟨y,c,⟨vA l y c a⟩⟩:Rg_)]).filter Zn).Perm (YU l y c a):=by
 rw[Qg6];unfold YU
 split
 .rename_i h
  have:[(⟨y,c,⟨vA l y c a⟩⟩:Rg_)].filter Zn=[]:=by simp[Zn,h]
  grind
 .rename_i h
  have:[(⟨y,c,⟨vA l y c a⟩⟩:Rg_)].filter Zn=[⟨y,c,⟨vA l y c a⟩⟩]:=by simp[Zn,h]
  rw[this];exact(Z2w _ _).symm
theorem cq(l:List Rg_)(y c:Int)(a:List Rect):(QW l y c a).length<=l.length:=by
 unfold QW
 grind
theorem bu(hF:Q6<=F){L:List Rg_}(hl:L.length<=201):Dp F L=some (if WN L=true then([],1)else(L,0)):=by
 unfold Q6 at hF;unfold Dp
 refine Z6 (λh=>?_) (λh=>?_)
 .have h:200<L.length:=by have:=Qa8 h;omega
  rw[Qa2 (by unfold WN;rw[Qa6 h,Qx8])]
 .have h:¬200<L.length:=by have:=Qb2 h;omega
  refine z5 (λz:Int=>∃i:Nat,z=i/\i<=L.length/\∀j,j<i->¬120<(gl L j).g_.t_.length) (λz=>L.length-z.toNat) (λg z o m=>?_) ⟨0,rfl,by omega,λj e=>absurd e (Qc9 j)⟩ (by simp;omega);obtain⟨i,rfl,q,l⟩:=o
  unfold bz;simp only[Qa3]
  refine Z6 (λb=>?_) (λb=>?_)
  .have b:i<L.length:=by simpa using b
   refine Z5 (k:=?_);refine Z6 (λc=>?_) (λc=>?_)
   .have c:120<(gl L i).g_.t_.length:=by have:=Qa8 c;omega
    rw[Qa2];unfold WN
    rw[Qj3];exact .inr (Qc6.2 ⟨_,K3 b,Qa6 c⟩)
   .have c:¬120<(gl L i).g_.t_.length:=by have:=Qb2 c;omega
    refine Z5 (k:=?_);refine m _ ⟨i+1,by omega,b,λj e=>?_⟩ (by omega)
    grind
  .have b:i=L.length:=by
    grind
   subst b;rw[Qa1]
   .rfl
   .unfold WN
    rw[Qa5 h,Qk0,FP (p:=λf:Rg_=>decide (120<f.g_.t_.length)) λj e=>Qa5 (l j e)];simp
theorem Q9R(hF:Q6<=F){l:List Rg_}(h:HL l):
  Dl F y c (vA l y c a) ((QW l y c a).filter Zn)=some (if WN (YU l y c a)=true then([],1)else(YU l y c a,0)):=by
 have r:=hF;unfold Q6 at hF
 have s:=h.len;have w:((QW l y c a).filter Zn).length<=200:=by
  have g:=cq l y c a
  grind
 have q:=qL h.asc y c a;unfold Dl YU
 generalize (QW l y c a).filter Zn=R at *;generalize vA l y c a=v at *
 refine Z6 (λg=>?_) (λg=>?_)
 .have g:v.length≠0:=by have:=Qa8 g;omega
  rw[Qa1 g];obtain⟨k1,k2,D⟩:=Q3b q ⟨y,c,⟨v⟩⟩
  unfold Pq;generalize YS R ⟨y,c,⟨v⟩⟩=k at *
  refine z5 (λz:Int=>∃i:Nat,z=i/\i<=k) (λz=>R.length-z.toNat) (λm z B A=>?_) ⟨0,rfl,by omega⟩ (by simp;omega);obtain⟨i,rfl,E⟩:=B
  have C:i=k->SN F y c v R (i:Int)=some (if WN (R.take k++[(⟨y,c,⟨v⟩⟩:Rg_)]++R.drop k)=true then([],1)else(R.take k++[⟨y,c,⟨v⟩⟩]++R.drop k,0)):=by
   rintro rfl;unfold SN
   simp only[Qa3];refine Q9 (by omega) (Q9 (by omega) (Q9 (by simp only[Z9];omega) (Q9 (by simp only[Z9,Qb1,Qc2];omega) (Q9 (by omega) (Q9 (by omega) (Q9 (by simp only[Z9,Qb1,Qc2];omega) ?_))))))
   have e:((([]:List Rg_)++((R.drop 0).take i))++([(⟨y,c,(⟨v⟩:Re_)⟩:Rg_)]:List Rg_))++((R.drop (0+i)).take (R.length-i))=R.take i++[⟨y,c,⟨v⟩⟩]++R.drop i:=by
    rw[Qm9,Qm2,Qd1,Ql6 (l:=R.drop i) (by rw[Qo3];omega)]
   rw[e];refine bu r ?_
   grind
  have f:∀b:Bool,(b=true↔i<R.length/\Qs (gl R i) ⟨y,c,⟨v⟩⟩=true)->Gh F y c v R i m b=some (if WN (R.take k++[(⟨y,c,⟨v⟩⟩:Rg_)]++R.drop k)=true then([],1)else(R.take k++[⟨y,c,⟨v⟩⟩]++R.drop k,0)):=by
   intro b t;unfold Gh
   refine Z6 (λj=>?_) (λj=>?_)
   .obtain ⟨p,o⟩:=t.1 j
    have u:i<k:=by
     grind
    refine Z5 (k:=?_);exact A _ ⟨i+1,by omega,u⟩ (by omega)
   all_goals grind
  unfold bw;simp only[Qa3]
  refine Z6 (λj=>?_) (λj=>?_)
  .have j:i<R.length:=by simpa using j
   refine Z5 (k:=?_);refine Z6 (λp=>?_) (λp=>?_)
   .refine f _ ?_
    have p:=Qa8 p;rw[VW];simp;omega
   .have p:=Qb2 p
    refine Z5 (k:=?_);refine Z6 (λo=>?_) (λo=>?_)
    .have o:(gl R i).year_=y:=by simpa using o
     refine Z5 (k:=?_);refine f _ ?_
     rw[VW,Qb5];simp only;omega
    .have o:¬(gl R i).year_=y:=by simpa using o
     refine f _ ?_;rw[VW];simp;omega
  .have j:¬i<R.length:=by simpa using j
   refine f _ ?_;simp;omega
 .have g:v.length=0:=by have:=Qb2 g;omega
  rw[Qa2 g];exact bu r (by omega)
theorem Q9P(hF:Q6<=F)(l:List Rg_)(y c:Int)(a:Re_):SO F l y c a=some (addH l y c a):=by
 unfold SO addH;refine Q4 (Q9N hF l) ?_
 refine Z6 (λh=>?_) (λh=>?_)
 .grind
 .have h:Zq l=0:=by simpa using h
  rw[Qa1 (by simp[h]),Yi (Dr F l y c a)];unfold Dr
  refine Z6 (λf=>by rw[Qa2 (by simpa using f)]) (λf=>?_);rw[Qa1 (by simpa using f),Yi (Dq F l y c a)]
  unfold Dq;refine Z6 (λe=>by rw[Qa2 (by simpa using e)]) (λe=>?_)
  rw[Qa1 (by simpa using e)];refine Q4 (Dy hF _) ?_
  refine Z6 (λb=>by rw[Qa2 (by simpa using b)]) (λb=>?_);have b:QP a.t_=true:=by simpa using b
  rw[Qa1 (by rw[b];simp)];exact Q9Q hF ((Fv l).1 h) ((Wj _).1 b) (Q9R hF ((Fv l).1 h))
theorem Q0M{a b:Re_}(h:∀x y,Q2 a.t_ x y=true->Q2 b.t_ x y=true->False):Zo a b=false:=by
 by_cases ha:J1 a.t_
 .by_cases hb:J1 b.t_
  .exact yk ha hb h
  .unfold Zo
   have:QP b.t_=false:=by rw[<-Qg3,Wj];exact hb
   grind
 .unfold Zo
  have:QP a.t_=false:=by rw[<-Qg3,Wj];exact ha
  rw[this];rfl
theorem yl{a b:Re_}(ha:J1 a.t_)(hb:J1 b.t_)(h:Zo a b=false):∀x y,Q2 a.t_ x y=true->Q2 b.t_ x y=true->False:=by
 intro x y e c;unfold Zo at h
 rw[Wi ha,Wi hb,Qe4,Qe4]at h;have:=(zW ha.2.1 hb.2.1).2 ⟨x,y,e,c⟩
 grind
theorem Z2E(a b:List Rect)(x y:Int):Q2 (a++b) x y=(Q2 a x y||Q2 b x y):=by
 rw[Qe1,Qj3,YP,YP,YP]
 grind
theorem Hz(f:Rg_)(y:Int)(a:List Rect)(h:Q2 (YR y a f).g_.t_ u v=true):Q2 f.g_.t_ u v=true/\(f.year_=y->Q2 a u v=false):=by
 unfold YR at h;split at h
 .rename_i b
  simp only at h;rw[QN (CC _ _),Qa4,Qh7]at h
  grind
 all_goals grind
theorem kM{l:List Rg_}:Q2 (vA l y c a) u v=true↔Q2 a u v=true\/∃f,l.find? (Zm y c)=some f/\Q2 f.g_.t_ u v=true:=by
 unfold vA;split
 .rename_i f b
  have:=Vu f.g_.t_ a 1
  simp only[Qn,Qh8]at this;rw[QN this,Qj3]
  grind
 all_goals grind
theorem xW{l:List Rg_}:f∈YU l y c a↔(f∈QW l y c a\/f=⟨y,c,⟨vA l y c a⟩⟩)/\f.g_.t_.length≠0:=by
 rw[<-(xV l y c a).mem_iff,Qf9,Qa9,Qb0];unfold Zn
 simp
theorem jX(y c:Int)(f:Rg_):Zm y c f=true↔f.year_=y/\f.c_=c:=by unfold Zm;simp
theorem RY{l:List Rg_}:f∈QW l y c a↔∃g∈l,Zm y c g=false/\f=YR y a g:=by
 unfold QW
 grind
theorem Q5i{l:List Rg_}(h:WN l=false):l.length<=200/\∀f∈l,f.g_.t_.length<=120:=by
 unfold WN at h
 grind
theorem HL.apart{l:List Rg_}(h:HL l){g:Rg_}(hf:f∈l)(hg:g∈l)(hy:f.year_=g.year_)(hc:f.c_≠g.c_):∀x y,Q2 f.g_.t_ x y=true->Q2 g.g_.t_ x y=true->False:=by
 obtain⟨i,e,rfl⟩:=Qc7 hf;obtain⟨j,m,rfl⟩:=Qc7 hg
 have c:=Qc8.1 h.nx;rcases Qn5 i j with b|b|b
 .exact yl (h.val hf) (h.val hg) (c i j e m b hy)
 .grind
 .exact λx y o p=>yl (h.val hg) (h.val hf) (c j i m e b hy.symm) x y p o
theorem HL.add{l:List Rg_}(h:HL l)(hy:0<=y/\y<=100)(hc:0<=c/\c<40)(ha:J1 a)(ht:WN (YU l y c a)=false):HL (YU l y c a):=by
 obtain⟨V,Y⟩:=Q5i ht;have N:∀g∈l,∀x D,Q2 (YR y a g).g_.t_ x D=true->Q2 g.g_.t_ x D=true:=λg _ x D q=>(Hz g y a q).1
 refine⟨V,λf s=>?_,Z5N h.asc y c a,?_⟩
 .have b:=Y f s
  obtain⟨s,o⟩:=xW.1 s;rcases s with s|rfl
  .obtain ⟨g,t,J,rfl⟩:=RY.1 s
   obtain⟨g1,Z,Q,X,g5,S⟩:=(Gl g).1 (h.one g t);unfold YR at o b⊢
   split at o<;>rename_i z
   .rw [Qa2 z]at b⊢
    rw[Gl];simp only at b o⊢
    exact⟨g1,Z,Q,X,o,Q1C (UN (CC _ _)) b S.2.1 λu v q=>by rw[QN (CC _ _),Qa4]at q;exact q.1⟩
   .rw [Qa1 z];exact h.one g t
  .rw [Gl]
   simp only at b o⊢;refine⟨hy.1,hy.2,hc.1,hc.2,o,?_⟩
   unfold vA at b o⊢;split at o<;>rename_i K
   .rename_i g
    rw[K]at b;simp only at b
    have p:=Vu g.g_.t_ a 1;simp only[Qn,Qh8]at p
    refine Q1C (UN p) b (a:=g.g_.t_++a) (λr A=>?_) λu v q=>?_
    .rcases Qa9.1 A with A|A
     .exact (h.val (Qk6 K)).2.1 r A
     .exact ha.2.1 r A
    .rw [QN p]at q
     rw[Z2E];exact q
   .exact ha
 .unfold NX
  have w:∀{f g:Rg_},(f.year_=g.year_->Zo f.g_ g.g_=false)->(g.year_=f.year_->Zo g.g_ f.g_=false):=λ{f g} q m=>by rw[Z1p];exact q m.symm
  refine((xV l y c a).pairwise_iff w).1 (Qs0 _ ?_);rw[Qd5]
  refine⟨?_,Qe6 _ _,λf s g t m=>?_⟩
  .unfold QW
   rw[Qi4,Qr9];have U:=Qc8.1 h.nx
   rw[Qc8];intro i j I O B _ _ m
   have e:∀f:Rg_,(YR y a f).year_=f.year_:=λf=>congrArg Prod.fst (Pz y a f)
   rw[e,e]at m;have:=yl (h.val (Qd8 I)) (h.val (Qd8 O)) (U i j I O B m)
   exact Q0M λu v G H=>this u v (Hz _ y a G).1 (Hz _ y a H).1
  .rw [Qb0]at t
   subst t;obtain⟨g,t,J,rfl⟩:=RY.1 s
   have e:(YR y a g).year_=g.year_:=congrArg Prod.fst (Pz y a g);rw[e]at m
   simp only at m;refine Q0M λu v G H=>?_
   obtain⟨W,h4⟩:=Hz _ y a G;rcases kM.1 H with P|⟨k,M,P⟩
   .grind
   .have E:=Qk6 M
    have C:=(jX y c k).1 (Qv9 M);refine h.apart t E (by rw[m,C.1]) (λT=>?_) u v W P
    rw[<-Qg3,jX]at J
    grind
theorem HL.nil:HL []:=⟨by simp,λf b=>by simp at b,.nil,.nil⟩
def YE(n:Int):Bool:=decide (97<=n)&&decide (n<=122)
def UF(n:Int):Bool:=decide (48<=n)&&decide (n<=57)
def QZ(s:ByteArray):Bool:=decide (1<=s.size)&&decide (s.size<=12)&&decide (∀i,i<s.size->(YE (K7 s (i:Nat))||(!decide (i=0)&&UF (K7 s (i:Nat))))=true)
theorem Ll{s:ByteArray}(hs:s.size<F)(hs2:s.size<=4294967296):Bn F s=some (QZ s):=by
 unfold Bn;refine z5 (λz:Int=>∃i:Nat,z=i/\i<=s.size/\∀j,j<i->(YE (K7 s (j:Nat))||(!decide (j=0)&&UF (K7 s (j:Nat))))=true) (λz=>s.size-z.toNat) (λe z w v=>?_) ⟨0,rfl,by omega,λj u=>absurd u (Qc9 j)⟩ (by simp;omega)
 obtain⟨i,rfl,A,t⟩:=w;unfold kK
 refine Z6 (λh=>?_) (λh=>?_)
 .have h:i<s.size:=by simpa using h
  refine Z5 (k:=?_);have q:∀b:Bool,b=!(YE (K7 s (i:Nat))||(!decide (i=0)&&UF (K7 s (i:Nat))))->Xj F i e b=some (QZ s):=by
   intro b o;unfold Xj
   refine Z6 (λc=>?_) (λc=>?_)
   .rw [c,Qy1,Qh7]at o
    congr 1
    symm
    unfold QZ;rw[Bool.and_eq_false_iff]
    right
    rw[Qi8];intro p
    rw[p i h]at o;cases o
   .rw [c,Qy1,Qn1]at o
    refine Z5 (k:=?_);refine v _ ⟨i+1,by omega,h,λj u=>?_⟩ (by omega)
    rcases Qd3 j i with g|g
    .exact t j g
    .have:j=i:=by omega
     subst this;exact o
  have k2:∀m r:Bool,m=YE (K7 s (i:Nat))->r=UF (K7 s (i:Nat))->Bl F i m e r=some (QZ s):=by
   intro m r c g;unfold Bl
   rw[c,g];refine Z6 (λf=>?_) (λf=>?_)
   .have f:YE (K7 s (i:Nat))=false:=by simpa using f
    refine Z6 (λl=>?_) (λl=>?_)
    .have l:i=0:=by simpa using l
     refine q _ ?_;rw[f,l];rfl
    .have l:i≠0:=by simpa using l
     refine q _ ?_;rw[f,Qa5 l];simp
   .have f:YE (K7 s (i:Nat))=true:=by simpa using f
    refine q _ ?_;rw[f];rfl
  have k1:∀m:Bool,m=YE (K7 s (i:Nat))->Bm F s i e m=some (QZ s):=by
   intro m c;unfold Bm
   refine Z5 (k:=?_);refine Z6 (λg=>?_) (λg=>?_)
   .refine Z5 (k:=?_)
    refine k2 _ _ c ?_;unfold UF;rw[g,Qe4]
   .refine k2 _ _ c ?_
    unfold UF;rw[g,Qt0]
  refine Z6 (λc=>?_) (λc=>?_)
  .refine Z5 (k:=?_)
   refine k1 _ ?_;unfold YE;rw[c,Qe4]
  .refine k1 _ ?_
   unfold YE;rw[c,Qt0]
 .have h:i=s.size:=by
   have:¬i<s.size:=by simpa using h
   omega
  subst h;unfold Lm
  refine Z6 (λc=>?_) (λc=>?_)
  .unfold Bk
   congr 1
   unfold QZ;have c:1<=s.size:=by have:=Qa8 c;omega
   rw[Qa6 c,Qa6 t,Qe4,Bool.and_true,Qe1,Qb5,Qb5];omega
  .unfold Bk
   congr 1
   unfold QZ;have c:¬1<=s.size:=by have:=Qb2 c;omega
   rw[Qa5 c];rfl
def Yw:List ByteArray:=[(ByteArray.mk #[98,97,114,108,101,121]),(ByteArray.mk #[99,108,111,118,101,114]),(ByteArray.mk #[103,114,97,115,115]),(ByteArray.mk #[109,97,105,122,101]),(ByteArray.mk #[111,97,116,115]),(ByteArray.mk #[114,121,101]),(ByteArray.mk #[118,101,116,99,104]),(ByteArray.mk #[119,104,101,97,116])]
theorem Q2O:∀i,i<8->QZ (gl Yw i)=true/\(gl Yw i).size<=12:=by decide +kernel
theorem Z4K:∀i,i<8->0<i->(VK (gl Yw i) (gl Yw (i-1))||Zv (gl Yw i) (gl Yw (i-1)))=false:=by decide +kernel
structure CropT (l:List Crop):Prop where
 len:3<=l.length/\l.length<=8
 one:∀i,i<l.length->(gl l i).n_=gl Yw i/\0<=(gl l i).f_/\(gl l i).f_<=2/\0<=(gl l i).m_/\(gl l i).m_<=31
theorem Z4J(hF:Q6<=F){l:List Crop}(h:CropT l):PG F l=some 0:=by
 have p:=hF;unfold Q6 at hF
 obtain⟨u,s⟩:=h.len;unfold PG
 refine Z4 (Qa5 (by omega)) ?_;refine Hm l.length (λb i g o=>?_) (λb=>?_) (by omega)
 .obtain ⟨e,n2,n3,t,q⟩:=h.one i g
  unfold PF;simp only[Qa3]
  refine Y9 (by simpa using g) ?_;refine Z5 (k:=?_)
  obtain⟨j,r⟩:=Q2O i (by omega);refine Q4 (Ll (by rw[e];omega) (by rw[e];omega)) ?_
  rw[e,j];refine Z4 rfl (Z4 (Qa5 (by omega)) ?_)
  unfold GS;simp only[Qa3]
  refine Z4 (Qa5 (by omega)) (Z4 (Qa5 (by omega)) ?_);unfold GR
  simp only[Qa3];have f:GQ F i b false=some 0:=by
   unfold GQ;refine Z4 rfl ?_
   refine Z5 (k:=?_);exact o
  refine Z4 (Qa5 (by omega)) (Z6 (λc=>?_) (λc=>f));have c:0<i:=by simpa using c
  refine Z5 (k:=?_);refine Z5 (k:=?_)
  have m:((i:Int)-1).toNat=i-1:=by omega
  rw[m,e,(h.one (i-1) (by omega)).1,Z4K i (by omega) c];exact f
 .unfold PF
  exact Z4 (by simp) rfl
theorem Z2m(hF:Q6<=F)(ht:TOk t):∃t' l,Cd F t=some (t',l)/\TOk t' /\ CropT l:=by
 unfold Q6 at hF;obtain⟨m,n,O,I,S,n2⟩:=WE (F:=F) ht (lo:=3) (hi:=8) (by omega) (by omega) (by omega)
 have h:(Yw.take n.toNat).length=n.toNat:=by rw[Qd7];simp[Yw];omega
 have o:∀ (k f i:Nat) (t:Tape) (c:List Crop),i+k=n.toNat->k<f->TOk t->c.length=i->(∀ j,j<i->(gl c j).n_=gl Yw j/\0<=(gl c j).f_/\(gl c j).f_<=2/\0<=(gl c j).m_/\(gl c j).m_<=31) ->
   ∃t' l,Y3 (λagain (z:Int×(List Int)×Int×(List Crop))=>Pn F (m,n) again z.1 z.2.1 z.2.2.1 z.2.2.2) f ((i:Int),t.l_,t.at_,c)=some (t',l)/\TOk t' /\ CropT l:=by
  intro k
  induction k with
  |zero=>
   intro f i t c r B ht w g
   cases f with
   |zero=>omega
   |succ f=>
    refine⟨⟨t.l_,t.at_⟩,c,?_,ht,⟨by omega,λj q=>g j (by omega)⟩⟩;show Pn F (m,n) _ (i:Int) t.l_ t.at_ c=_
    unfold Pn;refine Z4 ?_ rfl
    show decide ((i:Int)<(((Yw.take n.toNat).length:Nat):Int))=false;rw[h];exact Qa5 (by omega)
  |succ k ih=>
   intro f i t c r B ht w g
   cases f with
   |zero=>omega
   |succ f=>
    obtain⟨P,a,N,J,H,Q⟩:=QK (F:=F) ht (n:=3) (by omega) (by omega);obtain⟨E,b,K,C,T,U⟩:=QK (F:=F) J (n:=8) (by omega) (by omega)
    have D:∀j,j<8->0<=gl ([0,0,0,2,20,8,1,31]:List Int) j/\gl ([0,0,0,2,20,8,1,31]:List Int) j<=31:=by decide
    have v:gl (Yw.take n.toNat) i=gl Yw i:=by simp[gl,Qa0,show i<n.toNat from by omega]
    obtain⟨t',l,p,u,s⟩:=ih f (i+1) E (c++[⟨gl (Yw.take n.toNat) i,a,gl ([0,0,0,2,20,8,1,31]:List Int) b.toNat⟩]) (by omega) (by omega) C (by simp[w]) (λj q=>by
     rcases Qd3 j i with A|A
     .have e:gl (c++[(⟨gl (Yw.take n.toNat) i,a,gl ([0,0,0,2,20,8,1,31]:List Int) b.toNat⟩:Crop)]) j=gl c j:=by simp[gl,Qa0,Qg0 (show j<c.length by omega)]
      rw[e];exact g j A
     .have:j=c.length:=by omega
      subst this;have e:gl (c++[(⟨gl (Yw.take n.toNat) i,a,gl ([0,0,0,2,20,8,1,31]:List Int) b.toNat⟩:Crop)]) c.length=⟨gl (Yw.take n.toNat) i,a,gl ([0,0,0,2,20,8,1,31]:List Int) b.toNat⟩:=by simp[gl,Qa0]
      rw[e];obtain⟨G,M⟩:=D b.toNat (by omega)
      refine⟨by simp only;rw[v,w],H,by simp only;omega,G,M⟩)
    refine⟨t',l,?_,u,s⟩;show Pn F (m,n) _ (i:Int) t.l_ t.at_ c=_
    unfold Pn;refine Y9 ?_ (Q9 ?_ (Q4 N (Q4 K (Q9 ?_ (Q9 ?_ (Q9 (V9 (by omega) (by omega)) ?_))))))
    .show decide ((i:Int)<(((Yw.take n.toNat).length:Nat):Int))=true
     rw[h];exact Qa6 (by omega)
    .show 0<=(i:Int)/\(i:Int)<(((Yw.take n.toNat).length:Nat):Int)
     rw[h];omega
    .simp only[Qb1,Qc2];omega
    .simp only[Z9,Qb1,Qc2];omega
    .exact p
 obtain⟨t',l,p,u,s⟩:=o n.toNat F 0 m [] (by omega) (by omega) I rfl (λj q=>absurd q (Qc9 j));refine⟨t',l,?_,u,s⟩
 unfold Cd;refine Q4 O (Q9 ?_ p)
 simp only[Qb1,Qc2];omega
structure HisT (K:Int) (l:List Rg_):Prop where
 hl:HL l
 box:∀f∈l,QT 9 f.g_.t_
 crop:∀f∈l,f.c_<K
theorem HisT.nil(K:Int):HisT K []:=⟨HL.nil,λf b=>by simp at b,λf b=>by simp at b⟩
theorem xL(hb:QT n l)(h:Q2 l u v=true):0<=u/\u<n/\0<=v/\v<n:=by
 obtain⟨r,b,c⟩:=(YP _ _ _).1 h;have:=hb r b
 rw[QG]at c;omega
theorem HisT.add{l:List Rg_}(h:HisT K l)(hy:0<=y/\y<=100)(hc:0<=c/\c<40)(hk:c<K)(ha:J1 a)(hb:QT 9 a)(ht:WN (YU l y c a)=false):HisT K (YU l y c a):=by
 have o:=h.hl.add hy hc ha ht;refine⟨o,λf b=>?_,λf b=>?_⟩
 .refine (o.val b).2.2.box λu v j=>?_
  obtain⟨b,_⟩:=xW.1 b;rcases b with b|rfl
  .obtain ⟨g,i,_,rfl⟩:=RY.1 b
   exact xL (h.box g i) (Hz g y a j).1
  .rcases kM.1 j with m|⟨g,i,m⟩
   .exact xL hb m
   .exact xL (h.box g (Qk6 i)) m
 .obtain ⟨b,_⟩:=xW.1 b
  rcases b with b|rfl
  .obtain ⟨g,i,_,rfl⟩:=RY.1 b
   have:=congrArg Prod.snd (Pz y a g)
   have e:(YR y a g).c_=g.c_:=this;rw[e];exact h.crop g i
  .exact hk
theorem Q3Y{l:List Rg_}(h:HL l)(hy:0<=y/\y<=100)(hc:0<=c/\c<40){a:Re_}(ha:J1 a.t_):addH l y c a=if WN (YU l y c a.t_)=true then([],1)else(YU l y c a.t_,0):=by
 unfold addH;rw[Qa1 (by rw[(Fv _).2 h];simp),Qa1 (by omega),Qa1 (by omega),Qa1 (by rw[Wi ha];simp)]
theorem HisT.addH{l:List Rg_}(h:HisT K l)(hy:0<=y/\y<=100)(hc:0<=c/\c<40)(hk:c<K){a:Re_}(ha:RegT 9 a):HisT K (addH l y c a).1:=by
 rw[Q3Y h.hl hy hc ha.val];split
 .exact HisT.nil K
 .rename_i b
  exact h.add hy hc hk ha.val ha.box (by simpa using b)
def Zl(l:List Rg_)(y:Int)(p:Int->Bool):List Rect:=(l.filter λf=>decide (f.year_=y)&&p f.c_).flatMap λf=>f.g_.t_
theorem Lj(l:List Rg_)(x:Rg_)(y:Int)(p:Int->Bool):Zl (l++[x]) y p=Zl l y p++(if(decide (x.year_=y)&&p x.c_)=true then x.g_.t_ else[]):=by
 unfold Zl
 grind
theorem Q4P{l:List Rg_}(h:HL l)(y:Int)(p:Int->Bool):∀i,i<=l.length->(Zl (l.take i) y p).length<=120*i:=by
 intro i
 induction i with
 |zero=>intro _;rw[Qo1];exact Qb4 _
 |succ i ih=>
  intro b;rw[Qr (show i<l.length by omega),Lj,Qb7]
  have:=ih (by omega)
  have c:=(h.val (K3 (show i<l.length by omega))).1
  grind
theorem Z2M(hF:Q6<=F){l:List Rg_}(h:HL l)(y:Int){q:Int->Option Bool}(p:Int->Bool)(hq:∀f∈l,q f.c_=some (p f.c_)):Co F l y q=some (Zl l y p):=by
 have v:=hF;unfold Q6 at hF
 have r:=h.len;unfold Co
 refine z5 (λz:Int×List Rect=>∃i:Nat,z=((i:Int),Zl (l.take i) y p)/\i<=l.length) (λz=>l.length-z.1.toNat) (λc z u s=>?_) ⟨0,rfl,by omega⟩ (by simp only;omega);obtain⟨i,rfl,A⟩:=u
 simp only at s⊢;unfold Q1w
 simp only[Qa3];refine Z6 (λg=>?_) (λg=>?_)
 .have g:i<l.length:=by simpa using g
  refine Z5 (k:=?_);have w:=(h.val (K3 g)).1
  have t:=Q4P h y p i (by omega);have e:=Lj (l.take i) (gl l i) y p
  rw[<-Qr g]at e;have o:∀j,j=Zl (l.take (i+1)) y p->He F i c j=some (Zl l y p):=by
   rintro j rfl;unfold He
   refine Z5 (k:=?_);exact s _ ⟨i+1,rfl,g⟩ (by simp only;omega)
  have k1:∀b:Bool,b=(decide ((gl l i).year_=y)&&p (gl l i).c_)->Hf F l i (Zl (l.take i) y p) c b=some (Zl l y p):=by
   intro b B;unfold Hf
   simp only[Qa3];refine Z6 (λm=>?_) (λm=>?_)
   .refine Q9 (by simp only[Z9];omega) (o _ ?_)
    grind
   all_goals grind
  refine Z6 (λm=>?_) (λm=>?_)
  .have m:(gl l i).year_=y:=by simpa using m
   refine Q4 (hq _ (K3 g)) (k1 _ ?_)
   grind
  all_goals grind
 .have g:i=l.length:=by
   grind
  subst g;unfold yV
  grind
theorem Z5M(l:List Rg_)(y c:Int)(a:List Rect):(YU l y c a).length<=l.length+1:=by
 rw[<-(xV l y c a).length_eq];have b:=Qk5 Zn (QW l y c a++[(⟨y,c,⟨vA l y c a⟩⟩:Rg_)])
 have e:=cq l y c a;simp only[Qb7,Qb1,Qc2]at b
 omega
theorem HisT.addH_len{l:List Rg_}(h:HisT K l)(hy:0<=y/\y<=100)(hc:0<=c/\c<40){a:Re_}(ha:RegT 9 a):(Go.Ab.addH l y c a).1.length<=l.length+1:=by
 rw[Q3Y h.hl hy hc ha.val];split
 .simp
 .exact Z5M l y c a.t_
theorem Z2i(hF:Q6<=F)(ht:TOk t){cs:List Crop}(hcs:CropT cs)(m1:0<=most)(m2:most<=50):∃t' l,Cb F t cs 4 most=some (t',l)/\TOk t' /\ HisT (cs.length:Nat) l/\(l.length:Int)<=most:=by
 have b:=hF;unfold Q6 at hF
 obtain⟨O,o⟩:=hcs.len;obtain⟨B,c,M,C,s,r⟩:=QK (F:=F) ht (n:=most+1) (by omega) (by omega)
 have h:∀(k f:Nat) (t:Tape) (l:List Rg_),k<f->k<=60->(l.length:Int)+k<=most->TOk t->HisT (cs.length:Nat) l->∃t' l',Y3 (λagain (z:List Rg_×Int×List Int×Int)=>Ca F cs 4 again z.1 z.2.1 z.2.2.1 z.2.2.2) f (l,(k:Int),t.l_,t.at_)=some (t',l')/\TOk t' /\ HisT (cs.length:Nat) l' /\ (l'.length:Int)<=most:=by
  intro k
  induction k with
  |zero=>
   intro f t l u _ i ht g
   cases f with
   |zero=>omega
   |succ f=>exact⟨⟨t.l_,t.at_⟩,l,rfl,ht,g,by omega⟩
  |succ k ih=>
   intro f t l u q i ht g
   cases f with
   |zero=>omega
   |succ f=>
    obtain⟨N,y,I,D,S,Q⟩:=QK (F:=F) ht (n:=5) (by omega) (by omega);obtain⟨P,c,E,v,s,r⟩:=QK (F:=F) D (n:=(cs.length:Nat)) (by omega) (by omega)
    obtain⟨G,a,J,A,p⟩:=yy b v (n:=9) (most:=2) (by omega) (by omega) (by omega) (by omega);have H:=g.addH_len (y:=y) (c:=c) (by omega) (by omega) p
    obtain⟨K,o,e,m,j⟩:=ih f G (addH l y c a).1 (by omega) (by omega) (by omega) A (g.addH (by omega) (by omega) r p);refine⟨K,o,?_,m,j⟩
    show Ca F cs 4 _ l ((k+1:Nat):Int) t.l_ t.at_=_;unfold Ca
    refine Y9 (by simp) ?_;refine Z5 (k:=?_)
    refine Q4 I (Q4 E (Q4 J (Q4 (Q9P b _ _ _ _) ?_)));refine Z5 (k:=?_)
    have w:((k+1:Nat):Int)-1=(k:Int):=by omega
    rw[w];exact e
 obtain⟨t',l,e,m,j⟩:=h c.toNat F B [] (by omega) (by omega) (by simp;omega) C (HisT.nil _);refine⟨t',l,?_,m,j⟩
 unfold Cb;refine Z5 (k:=?_)
 refine Q4 M ?_;have:(c.toNat:Int)=c:=by omega
 rw[this]at e;exact e
def VZ(cs:List Crop)(c m:Int):Bool:=decide (0<=c)&&(decide (c<(cs.length:Nat))&&((m != 0)&&(QO .i64 (gl cs c.toNat).m_ m==m)))
theorem xw(F:Nat)(cs:List Crop)(c m:Int):PE F cs c m=some (VZ cs c m):=by
 unfold PE VZ;refine Z6 (λb=>?_) (λb=>?_)
 .rw [b,Qe4]
  refine Z6 (λe=>?_) (λe=>?_)
  .rw [e,Qe4]
   have b:=Qa8 b;have e:=Qa8 e
   refine Z6 (λf=>?_) (λf=>?_)
   .rw [f,Qe4];exact Q9 ⟨b,e⟩ rfl
   .rw [f];rfl
  .rw [e];rfl
 .rw [b];rfl
theorem Q4Q{l:List Rg_}(h:HisT K l)(y:Int)(p:Int->Bool):∀i,i<=l.length->(Zl (l.take i) y p).length<=45*i:=by
 intro i
 induction i with
 |zero=>intro _;rw[Qo1];exact Qb4 _
 |succ i ih=>
  intro c;have b:=K3 (show i<l.length by omega)
  rw[Qr (show i<l.length by omega),Lj,Qb7];have:=ih (by omega)
  have e:=Yn.half (h.hl.val b).2.2 (n:=9) (h.box _ b);split
  .omega
  .simp only[Qc2];omega
end
end Go.Ab
