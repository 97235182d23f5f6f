/- What the plain programs compute, up to the law itself. -/
import Derived.Test.YtlhhgeknhlkakaaGreatDoorPuB
set_option linter.unusedVariables false
set_option linter.unusedSimpArgs false
set_option maxRecDepth 20000
namespace Go.Ab
noncomputable section
variable {F i k:Nat}{l m a b out:List Rect}{f:Rg_}{g:Rect->Int}{v y n how most c u:Int}{ag:(Int×List Rect×List Rect)->Option (List Rect)}{xs ys:List Int}{r:Rect}{S:Int->Int->Bool}{q:Bool->Bool->Option Bool}{t:Tape}{L:List A2_}{gs:List (Int×List Rg_)}
def put:List Int->Int->List Int
 |[],n=>[n]
 |a::l,n=>if a<n then a::put l n else if a=n then a::l else n::a::l
theorem Z0d(n:Int)(l:List Int)(i:Nat)(h:i<l.length)(hlt:gl l i<n):put (l.drop i) n=gl l i::put (l.drop (i+1)) n:=by
 rw[Yc h,put,Qa2 hlt]
theorem Te(hF:Q7<=F){l:List Int}(hl:l.length<=1048576)(n:Int):KH F l n=some (put l n):=by
 unfold Q7 at hF;unfold KH
 refine Qa (λz:Int=>∃i:Nat,z=i/\i<=l.length/\put l n=l.take i++put (l.drop i) n) (λz=>l.length-z.toNat) (λd z e f=>?_) ⟨0,rfl,by simp,by simp⟩ (by simp;omega);obtain⟨i,rfl,j,b⟩:=e
 have k2:(∀h:i<l.length,n<=gl l i)->Tf F l n (i:Int)=some (put l n):=by
  intro c;unfold Tf
  refine Z9 (λh=>?_) (λh=>?_)
  .have h:i<l.length:=by simpa using h
   have c:=c h;refine Z4 (k:=?_)
   unfold Dm;rw[Yc h,put]at b
   refine Z9 (λa=>?_) (λa=>?_)
   .have a:gl l i=n:=by simpa using a
    rw[b,Qa1 (by omega),Qa2 a, <-Yc h,Qh2]
   .have a:gl l i≠n:=by simpa using a
    repeat(refine Z4 (k:=?_))
    rw[b,Qa1 (by omega),Qa1 a, <-Yc h];simp
  .have h:¬i<l.length:=by simpa using h
   unfold Dm;refine Z8 rfl ?_
   repeat(refine Z4 (k:=?_))
   have:i=l.length:=by omega
   subst this;simp[put]at b
   simp[b]
 unfold Q0g;refine Z9 (λh=>?_) (λh=>?_)
 .have h:i<l.length:=by simpa using h
  refine Z4 (k:=?_);unfold Dn
  refine Z9 (λa=>?_) (λa=>?_)
  .have a:gl l i<n:=by simpa using a
   refine Z4 (k:=?_);refine f _ ⟨i+1,by omega,h,?_⟩ (by omega)
   rw[b,Z0d n l i h a,QB h,Qh8];rfl
  .exact k2 λ_=>by simpa using a
 .unfold Dn
  exact Z8 rfl (k2 λg=>absurd g (by simpa using h))
def QS(r:Rect):Bool:=decide (0<=r.L_)&&(decide (r.L_<r.R_)&&(decide (r.R_<=16384)&&(decide (0<=r.w_)&&(decide (r.w_<r.H_)&&decide (r.H_<=16384)))))
theorem Wc(r:Rect):QS r=true↔0<=r.L_/\r.L_<r.R_/\r.R_<=16384/\0<=r.w_/\r.w_<r.H_/\r.H_<=16384:=by simp[QS]
theorem bK(F:Nat)(r:Rect):Xl F r=some (QS r):=by
 unfold Xl;rw[Ys (WR F),Ys (WR F),Ys (WR F),Ys (WR F),Ys (WR F)]
 rfl
def Qn(a b:Bool)(how:Int):Bool:=if how=1 then a||b else if how=2 then a&&b else a && !b
theorem Q9F(F:Nat)(a b:Bool)(how:Int):SN F a b how=some (Qn a b how):=by
 unfold SN Qn;rw[Q3d,Q3d]
 by_cases h1:how=1
 .subst h1;cases a<;>cases b<;>rfl
 .by_cases h2:how=2
  .subst h2;cases a<;>cases b<;>rfl
  .have c:(how==1)=false:=by simpa using h1
   have d:(how==2)=false:=by simpa using h2
   rw[c,d,Qa1 h1,Qa1 h2]
   cases a<;>cases b<;>rfl
theorem bM(hF:Q7<=F)(hl:l.length<=Y6)(x y:Int):Df F l x y=some (Q8 l x y):=by
 unfold Q7 at hF;unfold Y6 at hl
 unfold Df;refine Q0k (l:=l) (λm=>some (Q8 m x y)) (λa i c b=>?_) (λa=>?_) (by omega)
 .unfold zT
  refine U3 (WX c) ?_;refine Z4 (k:=?_)
  rw[Ys (Ux F i a),Ys (Ux F i a),Ys (Ux F i a)];unfold Ux
  have e:Q8 (gl l i::l.drop (i+1)) x y=((gl l i).has x y||Q8 (l.drop (i+1)) x y):=rfl;rw[e]
  have d:(decide ((gl l i).L_<=x)&&(decide (x<(gl l i).R_)&&(decide ((gl l i).w_<=y)&&decide (y<(gl l i).H_))))=(gl l i).has x y:=by
   simp only[Rect.has,Qs1]
  show br (decide ((gl l i).L_<=x)&&(decide (x<(gl l i).R_)&&(decide ((gl l i).w_<=y)&&decide (y<(gl l i).H_)))) _ _=_;rw[d]
  refine Z9 (λh=>by rw[h];rfl) (λh=>?_);refine Z4 (k:=?_)
  rw[b,h,Qj7]
 .unfold zT
  exact Z8 (VV _) rfl
def Vt:List Rect->List Rect->Bool
 |[],[]=>true
 |a::l,b::m=>(a.L_==b.L_&&a.R_==b.R_)&&Vt l m
 |_,_=>false
theorem jU:∀{l m:List Rect},Vt l m=true->l.length=m.length
 |[],[],_=>rfl
 |[],_::_,h=>by cases h
 |_::_,[],h=>by cases h
 |a::l,b::m,h=>by
  simp only[Vt,Qa4]at h;simp[jU h.2]
theorem Q7J:∀(l m:List Rect),l.length=m.length->∀i,i<=l.length->Vt (l.drop i) (m.drop i)=if h:i<l.length then(((gl l i).L_==(gl m i).L_&&(gl l i).R_==(gl m i).R_)&&Vt (l.drop (i+1)) (m.drop (i+1)))else true:=by
 intro l m h i b;split
 .rename_i a
  rw[Yc a,Yc (l:=m) (by omega)];rfl
 .have:i=l.length:=by omega
  rw[Qf1 (by omega),Qf1 (by omega)];rfl
theorem Q9D(hF:Q7<=F)(hl:l.length<=Y6):SM F l m=some (Vt l m):=by
 unfold Q7 at hF;unfold Y6 at hl
 unfold SM;refine Z9 (λh=>?_) (λh=>?_)
 .have h:l.length≠m.length:=by simp at h;omega
  cases hs:Vt l m with
  |false=>rfl
  |true=>exact absurd (jU hs) h
 .have h:l.length=m.length:=by simp at h;omega
  refine Qa (λz:Int=>∃i:Nat,z=i/\i<=l.length/\Vt l m=Vt (l.drop i) (m.drop i)) (λz=>l.length-z.toNat) (λf z g j=>?_) ⟨0,rfl,by simp,by simp⟩ (by simp;omega);obtain⟨i,rfl,n,a⟩:=g
  rw[Q7J l m h i n]at a;unfold bI
  refine Z9 (λb=>?_) (λb=>?_)
  .have b:i<l.length:=by simpa using b
   rw[Qt9 b]at a;refine Z4 (k:=?_)
   refine Z4 (k:=?_);have o:i<m.length:=by omega
   refine Z9 (λd=>?_) (λd=>?_)
   .unfold De
    refine U3 rfl ?_;have d:(gl l i).L_≠(gl m i).L_:=by simpa using d
    have e:((gl l i).L_==(gl m i).L_)=false:=by simpa using d
    rw[a,e];rfl
   .repeat (refine Z4 (k:=?_))
    have d:(gl l i).L_=(gl m i).L_:=by simpa using d
    have e:((gl l i).L_==(gl m i).L_)=true:=by simpa using d
    rw[e,Qc6]at a;unfold De
    refine Z9 (λc=>?_) (λc=>?_)
    .have c:(gl l i).R_≠(gl m i).R_:=by simpa using c
     have e:((gl l i).R_==(gl m i).R_)=false:=by simpa using c
     rw[a,e];rfl
    .have c:(gl l i).R_=(gl m i).R_:=by simpa using c
     have e:((gl l i).R_==(gl m i).R_)=true:=by simpa using c
     rw[e,Qc6]at a;refine Z4 (k:=?_)
     exact j _ ⟨i+1,by omega,b,a⟩ (by omega)
  .have b:¬i<l.length:=by simpa using b
   rw[dif_neg b]at a;rw[a];rfl
section
theorem yA(l:List Int)(n v:Int):v∈put l n↔v=n\/v∈l:=by
 induction l with
 |nil=>simp[put]
 |cons a l ih=>
  unfold put;split
  .rw [Qe1,ih,Qe1]
   constructor
   .rintro (h|h|h);exact .inr (.inl h);exact .inl h;exact .inr (.inr h)
   .rintro (h|h|h);exact .inr (.inl h);exact .inl h;exact .inr (.inr h)
  .split
   .rename_i h;subst h
    rw[Qe1];constructor
    .intro h;exact .inr h
    .rintro (h|h);exact .inl h;exact h
   .rw [Qe1]
theorem Q3n{l:List Int}(h:Yd l)(n:Int):Yd (put l n):=by
 induction l with
 |nil=>exact Qf4 _ _
 |cons a l ih=>
  obtain⟨d,e⟩:=Qd5.1 h;unfold put
  split
  .rename_i c
   refine Qd5.2 ⟨λv b=>?_,ih e⟩;rcases(yA l n v).1 b with rfl|b
   .exact c
   .exact d v b
  .split
   .exact h
   .refine Qd5.2 ⟨λv b=>?_,h⟩
    rcases Qe1.1 b with rfl|b
    .omega
    .have:=d v b;omega
theorem Xu(l:List Int)(n:Int):(put l n).length<=l.length+1:=by
 induction l with
 |nil=>simp[put]
 |cons a l ih=>
  unfold put;split
  .simp;omega
  .split<;>simp
def QY(l:List Rect)(xs:List Int):List Int:=l.foldl (λxs r=>put (put xs r.L_) r.R_) xs
def Zu(l:List Rect)(ys:List Int):List Int:=l.foldl (λys r=>put (put ys r.w_) r.H_) ys
theorem VF{f:Rect->Int}(l:List Rect):∀{xs:List Int},Yd xs->Yd (l.foldl (λxs r=>put (put xs (f r)) (g r)) xs):=by
 induction l with
 |nil=>intro xs h;exact h
 |cons r l ih=>intro xs h;exact ih (Q3n (Q3n h _) _)
theorem ZC{f:Rect->Int}(l:List Rect):∀(xs:List Int) (v:Int),v∈l.foldl (λxs r=>put (put xs (f r)) (g r)) xs↔v∈xs\/∃r∈l,v=f r\/v=g r:=by
 induction l with
 |nil=>intro xs v;simp
 |cons r l ih=>
  intro xs v;rw[Qp0,ih,yA,yA]
  constructor
  .rintro ((h|h|h)|⟨q,a,h⟩)
   .exact .inr ⟨r,by simp,.inr h⟩
   .exact .inr ⟨r,by simp,.inl h⟩
   .exact .inl h
   .exact .inr ⟨q,by simp[a],h⟩
  .rintro (h|⟨q,a,h⟩)
   .exact .inl (.inr (.inr h))
   .rcases Qe1.1 a with rfl|a
    .rcases h with h|h
     .exact .inl (.inr (.inl h))
     .exact .inl (.inl h)
    .exact .inr ⟨q,a,h⟩
theorem XQ{f:Rect->Int}(l:List Rect):∀(xs:List Int),(l.foldl (λxs r=>put (put xs (f r)) (g r)) xs).length<=xs.length+2*l.length:=by
 induction l with
 |nil=>intro xs;simp
 |cons r l ih=>
  intro xs;have b:=ih (put (put xs (f r)) (g r))
  have a:=Xu (put xs (f r)) (g r);have c:=Xu xs (f r)
  simp only[Qp0,Qb0];omega
section
variable {F:Nat}
theorem Q2O(hF:Q7<=F)(hv:0<=v/\v<=1)(hl:gl [a,b] v.toNat=l){ag:(List Int×List Int×Int)->Option (List Rect)}{y:Option (List Rect)}(hx:xs.length+2*l.length<=1000000)(hy:ys.length+2*l.length<=1000000)(h:ag (QY l xs,Zu l ys,v+1)=y):Y3 (λagain (z:List Int×List Int×Int)=>ya F a b v ag again z.1 z.2.1 z.2.2) F (xs,ys,0)=y:=by
 have d:=hF;unfold Q7 at hF
 refine Qa (λz:List Int×List Int×Int=>∃j:Nat,z.2.2=j/\j<=l.length/\QY (l.drop j) z.1=QY l xs/\Zu (l.drop j) z.2.1=Zu l ys/\z.1.length+2*(l.length-j)<=1000000/\z.2.1.length+2*(l.length-j)<=1000000)
  (λz=>l.length-z.2.2.toNat) (λagain z r n=>?_) ⟨0,rfl,by omega,by simp,by simp,by simpa using hx,by simpa using hy⟩ (by simp;omega)
 obtain⟨i,g,s⟩:=z;obtain⟨j,m,p,e,f,o,q⟩:=r
 simp only at m e f o q;subst m
 unfold ya;simp only[hl,Qa3]
 refine Z9 (λc=>?_) (λc=>?_)
 .have c:j<l.length:=by simpa using c
  refine Z4 (k:=?_);have x:=Xu i (gl l j).L_
  have w:=Xu (put i (gl l j).L_) (gl l j).R_;have u:=Xu g (gl l j).w_
  have t:=Xu (put g (gl l j).w_) (gl l j).H_;refine Q4 (Te d (by omega) _) ?_
  refine Q4 (Te d (by omega) _) ?_;refine Q4 (Te d (by omega) _) ?_
  refine Q4 (Te d (by omega) _) ?_;refine Z4 (k:=?_)
  refine n _ ⟨j+1,rfl,by omega,?_,?_,by simp only;omega,by simp only;omega⟩ (by simp only;omega)
  .rw [<-e,Yc c];rfl
  .rw [<-f,Yc c];rfl
 .have c:¬j<l.length:=by simpa using c
  have:j=l.length:=by omega
  subst this;rw[Qk9]at e f
  unfold zW;refine Z4 (k:=?_)
  have e:i=QY l xs:=e;have f:g=Zu l ys:=f
  rw[e,f];exact h
theorem vL(lo hi:Int):Qb ⟨lo,hi,[]⟩=[]:=rfl
theorem Cx(lo hi:Int)(l:List Span)(s:Span):Qb ⟨lo,hi,l++[s]⟩=Qb ⟨lo,hi,l⟩++[⟨s.L_,lo,s.R_,hi⟩]:=by simp[Qb]
theorem YN(b:Rn (List Span)):(Qb b).length=b.v.length:=by simp[Qb]
theorem KW{α:Type}[Emb α](l:List α)(x:α){n:Nat}(h:n=l.length):gl (l++[x]) n=x:=by subst h;simp[gl,Qa0]
theorem Rg{α:Type}(l:List α)(x y:α){n:Nat}(h:n=l.length):(l++[x]).set n y=l++[y]:=by subst h;simp
theorem Z4q(hF:Q7<=F){ag:(Int×List Rect)->Option (List Rect)}{y:Option (List Rect)}(hk:k+1<xs.length)(hx:xs.length<=65536)(hm:m.length<=65536)(h:ag ((k:Int)+1,m++[⟨r.L_,r.w_,gl xs (k+1),r.H_⟩])=y):Jx F xs ys i k (m++[r]) ag true=y:=by
 unfold Q7 at hF;unfold Jx
 refine U3 rfl ?_;have b:(m++[r]).length=m.length+1:=by simp
 simp only[b];have a:(((m.length+1:Nat):Int)-1).toNat=m.length:=by omega
 have c:((k:Int)+1).toNat=k+1:=by omega
 rw[a,KW _ _ rfl,Rg _ _ _ rfl,c]
 repeat(refine Z4 (k:=?_))
 exact h
theorem Z4r(hF:Q7<=F){ag:(Int×List Rect)->Option (List Rect)}{y:Option (List Rect)}(hk:k+1<xs.length)(hi:i+1<ys.length)(hx:xs.length<=65536)(hy:ys.length<=65536)(hm:m.length<=65536)(h:ag ((k:Int)+1,m++[⟨gl xs k,gl ys i,gl xs (k+1),gl ys (i+1)⟩])=y):Jx F xs ys i k m ag false=y:=by
 unfold Q7 at hF;unfold Jx
 refine Z8 rfl ?_;have b:((k:Int)+1).toNat=k+1:=by omega
 have a:((i:Int)+1).toNat=i+1:=by omega
 rw[b,a];simp only[Qa3]
 repeat(refine Z4 (k:=?_))
 exact h
theorem Z4t(hF:Q7<=F)(hi:i+1<ys.length)(hx:xs.length<=65536)(hy:ys.length<=65536)(ha:a.length<=Y6)(hb:b.length<=Y6)(hst:Step false xs fun x=>Qn (Q8 a x (gl ys i)) (Q8 b x (gl ys i)) how){last:List Rect}{y:Option (List Rect)}(h:∀ l:List Span,SpOk l->(∀ x,K8 l x=Qn (Q8 a x (gl ys i)) (Q8 b x (gl ys i)) how)->l.length<=65536->Di F ys i out last ag (Qb ⟨gl ys i,gl ys (i+1),l⟩)=y):
  Y3 (λagain (z:Int×List Rect)=>zY F a b how xs ys i out last ag again z.1 z.2) F (0,[])=y:=by
 have j:=hF;unfold Q7 at hF
 refine Qa (λz:Int×List Rect=>∃(k:Nat) (l:List Span),z=((k:Int),Qb ⟨gl ys i,gl ys (i+1),l⟩)/\l.length<=k/\(k+1<=xs.length\/k=0)/\(0<xs.length->Bst false (λx=>Qn (Q8 a x (gl ys i)) (Q8 b x (gl ys i)) how) (l.map Span.rn) (gl xs k)))
  (λz=>xs.length-z.1.toNat) (λagain z J v=>?_) ⟨0,[],rfl,Qb3 _,.inr rfl,λA=>hst.start A⟩ (by simp;omega)
 obtain⟨k,l,rfl,E,K,f⟩:=J;simp only at v⊢
 unfold zY;refine Z4 (k:=?_)
 refine Z9 (λc=>?_) (λc=>?_)
 .have c:k+1<xs.length:=by simp at c;omega
  have f:=f (by omega);have u:=hst.asc.at_lt (show k<k+1 by omega) c
  simp only[Qa3]
  repeat(refine Z4 (k:=?_))
  refine Q4 (bM j ha _ _) ?_
  repeat(refine Z4 (k:=?_))
  refine Q4 (bM j hb _ _) ?_;refine Q4 (Q9F _ _ _ _) ?_
  have e:=hst.gap k c;refine Z9 (λm=>?_) (λm=>?_)
  .have m:Qn (Q8 a (gl xs k) (gl ys i)) (Q8 b (gl xs k) (gl ys i)) how=false:=by simpa using m
   unfold Dj;refine Z4 (k:=?_)
   exact v _ ⟨k+1,l,rfl,by omega,.inl (by omega),λ_=>f.skip (by omega) λt B w=>(e t B w).trans m⟩ (by simp only;omega)
  .have m:Qn (Q8 a (gl xs k) (gl ys i)) (Q8 b (gl xs k) (gl ys i)) how=true:=by simpa using m
   have d:(∀s,l.getLast?=some s->s.R_≠gl xs k)->Jx F xs ys i k (Qb ⟨gl ys i,gl ys (i+1),l⟩) again false=y:=by
    intro C;refine Z4r j c hi hx hy (by rw[YN];simp only;omega) (v _ ⟨k+1,l++[⟨gl xs k,gl xs (k+1)⟩],by rw[Cx];rfl,by simp;omega,.inl (by omega),λ_=>?_⟩ (by simp only;omega))
    have:=f.add u e (λq n G=>by
     rw[List.getLast?_map]at n
     cases g:l.getLast? with
     |none=>rw[g]at n;cases n
     |some s=>rw[g]at n;cases n;exact absurd G (C s g))
    simp only[m]at this;rw[Qe0];exact this
   rcases Qj2 l with rfl|⟨o,s,r⟩
   .refine Z8 (by simp[vL]) ?_
    exact d λs g=>by simp at g
   .rw [Qj3]at r
    subst r;rw[Cx]at d⊢
    have p:(Qb ⟨gl ys i,gl ys (i+1),o⟩++[(⟨s.L_,gl ys i,s.R_,gl ys (i+1)⟩:Rect)]).length=o.length+1:=by simp[YN]
    have I:o.length+1<=k:=by simpa using E
    simp only[p];have H:(((o.length+1:Nat):Int)-1).toNat=o.length:=by omega
    rw[H,KW _ _ (by rw[YN])];refine U3 (by simp) ?_
    repeat(refine Z4 (k:=?_))
    by_cases g:s.R_=gl xs k
    .have D:(s.R_==gl xs k)=true:=by simpa using g
     simp only[D];refine Z4q j c hx (by rw[YN];simp only;omega) (v _ ⟨k+1,o ++ [⟨s.L_,gl xs (k+1)⟩],by rw[Cx];rfl,by simp only[Qb5,Qb0,Qb6];omega,.inl (by omega),λ_=>?_⟩ (by simp only;omega))
     rw[Qe0]at f;have:=f.grow (a:=s.rn) g u λt B w=>(e t B w).trans m
     rw[Qe0];exact this
    .have D:(s.R_==gl xs k)=false:=by simpa using g
     simp only[D];exact d λq n=>by simp at n;subst n;exact g
 .have c:¬k+1<xs.length:=by simp at c;omega
  by_cases A:xs.length=0
  .have:k=0:=by omega
   subst this;have:l=[]:=Qd9 (by omega)
   subst this;exact h [] .nil (λx=>(hst.empty A x).symm) (by simp)
  .have f:=f (by omega)
   exact h l (.of_runs f.runs) (λx=>by rw[DJ];exact hst.done (by omega) f x) (by omega)
theorem Z2G{α:Type}[Emb α](l m:List α)(x:α){n:Nat}(h:n=l.length):gl (l++x::m) n=x:=by subst h;simp[gl,Qa0]
theorem Q7u{α:Type}(l m:List α)(x y:α){n:Nat}(h:n=l.length):(l++x::m).set n y=l++y::m:=by subst h;simp
theorem Z4u(hF:Q7<=F)(hi:i+1<ys.length)(hy:ys.length<=65536){lo hi' : Int}{l:List Span}(hl:l.length<=65536){y:Option (List Rect)}(h:ag ((i:Int)+1,out,Qb ⟨lo,gl ys (i+1),l⟩)=y):
  Y3 (λagain (z:Int×List Rect)=>zZ F ys i out (Qb ⟨lo,hi',l⟩) ag again z.1 z.2) F (0,Qb ⟨lo,hi',l⟩)=y:=by
 unfold Q7 at hF;refine Qa (λz:Int×List Rect=>∃j:Nat,z=((j:Int),Qb ⟨lo,gl ys (i+1),l.take j⟩++Qb ⟨lo,hi',l.drop j⟩)/\j<=l.length) (λz=>l.length-z.1.toNat) (λagain z e d=>?_) ⟨0,by simp[Qb],by omega⟩ (by simp;omega)
 obtain⟨j,rfl,n⟩:=e;simp only at d⊢
 have m:((i:Int)+1).toNat=i+1:=by omega
 unfold zZ;rw[YN]
 simp only
 refine Z9 (λa=>?_) (λa=>?_)
 .have a:j<l.length:=by simpa using a
  refine Z4 (k:=?_);refine Z4 (k:=?_)
  have g:l.drop j=l[j]::l.drop (j+1):=Qk1 a;have b:(Qb ⟨lo,gl ys (i+1),l.take j⟩++Qb ⟨lo,hi',l.drop j⟩).length=l.length:=by
   rw[Qb5,YN,YN];simp;omega
  refine Q9 (by rw[b];omega) ?_;refine Z4 (k:=?_)
  rw[m];simp only[Qa3]
  have f:Qb ⟨lo,hi',l.drop j⟩=(⟨(l[j]).L_,lo,(l[j]).R_,hi'⟩:Rect)::Qb ⟨lo,hi',l.drop (j+1)⟩:=by rw[g];rfl
  have c:j=(Qb ⟨lo,gl ys (i+1),l.take j⟩).length:=by rw[YN];simp;omega
  rw[f,Z2G _ _ _ c,Q7u _ _ _ _ c];refine d _ ⟨j+1,?_,a⟩ (by simp only;omega)
  rw[Qq4 a,Cx];simp
 .have a:¬j<l.length:=by simpa using a
  have:j=l.length:=by omega
  subst this;unfold zX Dk
  refine Z4 (k:=?_);rw[Qe5,Qk9,vL,Qi2]
  exact h
structure RowSt (rowf:Int->List Span) (c:Int) (n:Nat) (out last:List Rect):Prop where
 ex:∃acc,Bst [] rowf acc c/\(∀r∈acc,r.v≠[])/\((last=[]/\out=flat acc/\∀r∈acc,r.hi<c)\/∃acc' b,acc=acc' ++ [b]/\b.hi=c/\last=Qb b/\out=flat acc' /\ b.v.length<=65536)
 len:out.length+last.length<=n*65536
theorem Q1E(a b:List (Rn (List Span))):flat (a++b)=flat a++flat b:=by simp[flat]
theorem Q1B(b:Rn (List Span)):flat [b]=Qb b:=by simp[flat]
theorem jV(lo hi lo' hi' : Int):∀(l m:List Span),Vt (Qb ⟨lo,hi,l⟩) (Qb ⟨lo',hi',m⟩)=decide (l=m)
 |[],[]=>rfl
 |[],b::m=>rfl
 |a::l,[]=>rfl
 |a::l,b::m=>by
  have g:=jV lo hi lo' hi' l m;have f:Qb ⟨lo,hi,a::l⟩=(⟨a.L_,lo,a.R_,hi⟩:Rect)::Qb ⟨lo,hi,l⟩:=rfl
  have i:Qb ⟨lo',hi',b::m⟩=(⟨b.L_,lo',b.R_,hi'⟩:Rect)::Qb ⟨lo',hi',m⟩:=rfl;rw[f,i,Vt,g]
  cases a;cases b
  rw[Qd0];constructor
  .intro h
   rw[Qa4,Qa4]at h;obtain⟨⟨d,c⟩,e⟩:=h
   have d:=eq_of_beq d;have c:=eq_of_beq c
   have e:=Qa6 e;simp only at d c
   rw[d,c,e];exact Qa5 rfl
  .intro h
   have h:=Qa6 h
   injection h with d c
   injection d with e h4
   subst c;subst e;subst h4
   rw[Qa4,Qa4];exact⟨⟨Qu5 _,Qu5 _⟩,Qa5 rfl⟩
theorem Z4p(hF:Q7<=F)(hi:i+1<ys.length)(hy:ys.length<=65536){rowf:Int->List Span}(hst:Step [] ys rowf){last:List Rect}(hR:RowSt rowf (gl ys i) i out last){y:Option (List Rect)}(hlen:(rowf (gl ys i)).length<=65536)(h:∀ out' last',RowSt rowf (gl ys (i+1)) (i+1) out' last' -> ag ((i:Int)+1,out',last')=y):
  Di F ys i out last ag (Qb ⟨gl ys i,gl ys (i+1),rowf (gl ys i)⟩)=y:=by
 have z:=hF;unfold Q7 at hF
 obtain⟨⟨e,C,f,m⟩,A⟩:=hR;have x:=hst.asc.at_lt (show i<i+1 by omega) hi
 have d:=hst.gap i hi;have H:i*65536<=65536*65536:=Qb4 _ (by omega)
 generalize hv:rowf (gl ys i)=v at *;have g:(∀a,e.getLast?=some a->a.hi=gl ys i->a.v≠v)->flat e=out++last->SW F i out last (Qb ⟨gl ys i,gl ys (i+1),v⟩) ag=y:=by
  intro E B;unfold SW Dk
  refine Z4 (k:=?_);refine Z4 (k:=?_)
  refine h _ _ ⟨?_,?_⟩
  .by_cases hv0:v=[]
   .subst hv0
    exact⟨e,C.skip (by omega) λt q o=>d t q o,f,.inl ⟨vL _ _,B.symm,λr c=>by have:=C.le r c;omega⟩⟩
   .refine ⟨e++[⟨gl ys i,gl ys (i+1),v⟩],?_,λr c=>?_,.inr ⟨e,_,rfl,rfl,rfl,B.symm,hlen⟩⟩
    .have:=C.add x (λt q o=>(d t q o).trans hv.symm) (λa l D=>by rw[hv];exact E a l D)
     rw[hv]at this;exact this
    .rcases Qb2.1 c with c|c
     .exact f r c
     .rw [Qb1.1 c];exact hv0
  .rw [Qb5,YN,Qg8];simp only;omega
 unfold Di;rcases m with ⟨rfl,rfl,G⟩|⟨j,b,rfl,w,rfl,rfl,u⟩
 .refine Z8 rfl ?_
  unfold KG;refine Z8 rfl ?_
  exact g (λa l D=>by have:=G a (List.mem_of_getLast? l);omega) (by simp)
 .have s:b.v≠[]:=f b (by simp)
  have p:0<b.v.length:=by
   cases hh:b.v with
   |nil=>exact absurd hh s
   |cons _ _=>simp
  have I:Qb b=Qb ⟨b.lo,b.hi,b.v⟩:=rfl;refine U3 (by rw[YN];simpa using p) ?_
  refine Q4 (Q9D z (by rw[YN];unfold Y6;omega)) ?_;rw[I,jV]
  refine Z9 (λn=>?_) (λn=>?_)
  .have n:b.v=v:=Qa6 n
   refine Q9 (by rw[YN];simp only;omega) ?_;refine Z4 (k:=?_)
   have K:((gl (Qb ⟨b.lo,b.hi,b.v⟩) (0:Int).toNat).H_==gl ys (i:Int).toNat)=true:=by
    have:gl (Qb ⟨b.lo,b.hi,b.v⟩) (0:Int).toNat=(⟨(b.v[0]).L_,b.lo,(b.v[0]).R_,b.hi⟩:Rect):=by
     have:0<(Qb ⟨b.lo,b.hi,b.v⟩).length:=by rw[YN];exact p
     show gl (Qb ⟨b.lo,b.hi,b.v⟩) 0=_;rw[y7 this];simp[Qb]
    rw[this];simpa using w
   rw[K];unfold KG
   refine U3 rfl ?_;refine Z4u z hi hy u ?_
   have J:=C.grow w x λt q o=>(d t q o).trans n.symm
   refine h _ _ ⟨⟨j ++ [⟨b.lo,gl ys (i+1),b.v⟩],J,λr c=>?_,.inr ⟨j,_,rfl,rfl,rfl,rfl,u⟩⟩,?_⟩
   .rcases Qb2.1 c with c|c
    .exact f r (by simp[c])
    .rw [Qb1.1 c];exact s
   .rw [YN]at A⊢;rw[Qg8];exact Qc9 A (Nat.le_add_right _ _)
  .have n:b.v≠v:=Qa8 n
   unfold KG;refine Z8 rfl ?_
   exact g (λa l D=>by rw[List.getLast?_append]at l;simp at l;subst l;exact n) (by rw[Q1E,Q1B])
theorem Z4s(hF:Q7<=F)(hx:xs.length<=65536)(hy:ys.length<=65536)(ha:a.length<=Y6)(hb:b.length<=Y6)(hG:Grid xs ys λx y=>Qn (Q8 a x y) (Q8 b x y) how):SU F a b how xs ys=some (cn λx y=>Qn (Q8 a x y) (Q8 b x y) how):=by
 have h:=hF;unfold Q7 at hF
 unfold SU;have d:=hG.step
 have e:=hG.rows;refine Qa (λz:Int×List Rect×List Rect=>∃(i:Nat),z.1=(i:Int)/\((ys.length=0/\i=0/\z.2.1=[]/\z.2.2=[])\/(i+1<=ys.length/\RowSt (λy=>QR λx=>Qn (Q8 a x y) (Q8 b x y) how) (gl ys i) i z.2.1 z.2.2)))
  (λz=>ys.length-z.1.toNat) (λg z I C=>?_) ⟨0,rfl,?_⟩ (by simp;omega)
 .obtain ⟨N,L,D⟩:=z
  obtain⟨i,o,f⟩:=I;simp only at o f C⊢
  subst o;unfold Q0b
  refine Z4 (k:=?_);rcases f with ⟨j,rfl,rfl,rfl⟩|⟨o,w⟩
  .refine Z8 (by simp[j]) ?_
   unfold SV;refine Z4 (k:=?_)
   have:=HJ e d .nil (λt=>(d.empty j t).symm) (λb hb=>by cases hb)
   rw[this.1];rfl
  .refine Z9 (λc=>?_) (λc=>?_)
   .have c:i+1<ys.length:=by simp at c;omega
    refine Z4t h c hx hy ha hb (hG.x _) λl J H q=>?_
    have B:QR (λx=>Qn (Q8 a x (gl ys i)) (Q8 b x (gl ys i)) how)=l:=Ka J H;have:=Z4p h c hy d w (ag:=g) (y:=some (cn λx y=>Qn (Q8 a x y) (Q8 b x y) how)) (by rw[B];exact q) λE m n=>C _ ⟨i+1,rfl,.inr ⟨by omega,n⟩⟩ (by simp only;omega)
    rw[B]at this;exact this
   .have c:¬i+1<ys.length:=by simp at c;omega
    unfold SV;obtain⟨⟨M,u,p,K⟩,G⟩:=w
    have A:i*65536<=65536*65536:=Qb4 _ (by omega);refine Z4 (k:=?_)
    have:=HJ e d u.runs (λt=>d.done (by omega) u t) p
    rw[this.1];rcases K with ⟨rfl,rfl,_⟩|⟨v,O,rfl,_,rfl,rfl,_⟩
    .simp
    .rw [Q1E,Q1B]
 .by_cases j:ys.length=0
  .exact .inl ⟨j,rfl,rfl,rfl⟩
  .exact .inr ⟨by omega,⟨⟨[],d.start (by omega),λr s=>(by cases s),.inl ⟨rfl,rfl,λr s=>(by cases s)⟩⟩,by simp⟩⟩
theorem Q2C(a b:List Rect)(how:Int):Grid (QY b (QY a [])) (Zu b (Zu a [])) λx y=>Qn (Q8 a x y) (Q8 b x y) how:=
 Grid.of (VF b (VF a .nil)) (VF b (VF a .nil))
  (λr c=>⟨(ZC b _ _).2 (.inl ((ZC a _ _).2 (.inr ⟨r,c,.inl rfl⟩))),(ZC b _ _).2 (.inl ((ZC a _ _).2 (.inr ⟨r,c,.inr rfl⟩)))⟩)
  (λr c=>⟨(ZC b _ _).2 (.inr ⟨r,c,.inl rfl⟩),(ZC b _ _).2 (.inr ⟨r,c,.inr rfl⟩)⟩)
  (λr c=>⟨(ZC b _ _).2 (.inl ((ZC a _ _).2 (.inr ⟨r,c,.inl rfl⟩))),(ZC b _ _).2 (.inl ((ZC a _ _).2 (.inr ⟨r,c,.inr rfl⟩)))⟩)
  (λr c=>⟨(ZC b _ _).2 (.inr ⟨r,c,.inl rfl⟩),(ZC b _ _).2 (.inr ⟨r,c,.inr rfl⟩)⟩)
  (k:=λp q=>Qn p q how) (by show Qn false false how=false;unfold Qn;split;rfl;split<;>rfl)
theorem Q0a(hF:Q7<=F)(ha:a.length<=200000)(hb:b.length<=200000)(hx:(QY b (QY a [])).length<=65536)(hy:(Zu b (Zu a [])).length<=65536):
  Wk F a b how=some (cn λx y=>Qn (Q8 a x y) (Q8 b x y) how):=by
 have d:=hF;unfold Q7 at hF
 have h:=Q2C a b how;have n:=Z4s d hx hy (by unfold Y6;omega) (by unfold Y6;omega) h
 have m:=XQ (f:=Rect.L_) (g:=Rect.R_) a [];have i:=XQ (f:=Rect.w_) (g:=Rect.H_) a []
 have o:∀c:(List Int×List Int×Int)->Option (List Rect),Dl F a b how c (QY b (QY a [])) (Zu b (Zu a [])) 2=some (cn λx y=>Qn (Q8 a x y) (Q8 b x y) how):=λc=>by
  unfold Dl;exact Z8 rfl n
 have q:(QY a []).length<=2*a.length:=by have:=m;simpa[QY]using this
 have p:(Zu a []).length<=2*a.length:=by have:=i;simpa[Zu]using this
 unfold Wk;refine Qa (λz:List Int×List Int×Int=>z=([],[],0)\/z=(QY a [],Zu a [],1)\/z=(QY b (QY a []),Zu b (Zu a []),2)) (λz=>2-z.2.2.toNat) (λc z j e=>?_) (.inl rfl) (by simp;omega)
 rcases j with rfl|rfl|rfl
 .simp only
  unfold Dl;refine U3 rfl ?_
  refine Z4 (k:=?_);refine Q2O d (l:=a) (by omega) rfl (by simp;omega) (by simp;omega) ?_
  exact e _ (.inr (.inl rfl)) (by simp)
 .simp only
  unfold Dl;refine U3 rfl ?_
  refine Z4 (k:=?_);refine Q2O d (l:=b) (by omega) rfl (xs:=QY a []) (ys:=Zu a []) (by omega) (by omega) ?_
  exact e _ (.inr (.inr rfl)) (by simp)
 .exact o c
end
end
section
theorem Z2D(h:Grid xs ys S):Fin S:=by
 have d:=h.step
 by_cases h0:ys.length=0
 .exact (HJ h.rows d .nil (λt=>(d.empty h0 t).symm) (λb w=>by cases w)).2
 .have n:∀ i,i+1<=ys.length->∃ g,Bst [] (fun y=>QR fun x=>S x y) g (gl ys i)/\∀ r ∈ g,r.v≠[]:=by
   intro i
   induction i with
   |zero=>intro _;exact⟨[],d.start (by omega),λr c=>by cases c⟩
   |succ i ih=>
    intro z;obtain⟨g,k,f⟩:=ih (by omega)
    have l:=d.asc.at_lt (show i<i+1 by omega) (by omega);have e:=d.gap i (by omega)
    by_cases hv:QR (λx=>S x (gl ys i))=[]
    .exact ⟨g,k.skip (by omega) λt p o=>(e t p o).trans hv,f⟩
    .rcases Qj2 g with rfl|⟨s,b,j⟩
     .refine ⟨_,k.add l e (λa m=>by simp at m),λr c=>?_⟩
      simp at c;rw[c];exact hv
     .rw [Qj3]at j
      subst j
      by_cases hm:b.hi=gl ys i/\b.v=QR λx=>S x (gl ys i)
      .refine ⟨_,k.grow hm.1 l λt p o=>(e t p o).trans hm.2.symm,λr c=>?_⟩
       rcases Qb2.1 c with c|c
       .exact f r (by simp[c])
       .rw [Qb1.1 c];exact f b (by simp)
      .refine ⟨_,k.add l e (λa m u q=>?_),λr c=>?_⟩
       .simp at m;subst m;exact hm ⟨u,q⟩
       .rcases Qb2.1 c with c|c
        .exact f r c
        .rw [Qb1.1 c];exact hv
  obtain⟨g,k,f⟩:=n (ys.length-1) (by omega);exact(HJ h.rows d k.runs (λt=>d.done (by omega) k t) f).2
theorem Ub(a b:List Rect)(how:Int):Fin λx y=>Qn (Q8 a x y) (Q8 b x y) how:=Z2D (Q2C a b how)
theorem Q0B(l:List Rect):(λx y=>Qn (Q8 l x y) (Q8 [] x y) 1)=Q8 l:=by
 funext x y;simp[Qn,Q8]
theorem QX(l:List Rect):Fin (Q8 l):=by have:=Ub l [] 1;rwa [Q0B]at this
theorem Gl(l:List Rect):YC l↔cn (Q8 l)=l:=⟨λh=>h.eq_cn.symm,λh=>by rw[<-h];exact US (QX l)⟩
theorem Fw:(QY l []).length<=2*l.length:=by have:=XQ (f:=Rect.L_) (g:=Rect.R_) l [];simpa[QY]using this
theorem Z4d:(Zu l []).length<=2*l.length:=by have:=XQ (f:=Rect.w_) (g:=Rect.H_) l [];simpa[Zu]using this
theorem Q2D:(QY b (QY a [])).length<=2*a.length+2*b.length:=by
 have c:=XQ (f:=Rect.L_) (g:=Rect.R_) b (QY a []);have d:=Fw (l:=a)
 have c:(QY b (QY a [])).length<=(QY a []).length+2*b.length:=c;omega
theorem Z4c:(Zu b (Zu a [])).length<=2*a.length+2*b.length:=by
 have c:=XQ (f:=Rect.w_) (g:=Rect.H_) b (Zu a []);have d:=Z4d (l:=a)
 have c:(Zu b (Zu a [])).length<=(Zu a []).length+2*b.length:=c;omega
theorem bY(hF:Q7<=F)(h:a.length+b.length<=32768):Wk F a b how=some (cn λx y=>Qn (Q8 a x y) (Q8 b x y) how):=
 Q0a hF (by omega) (by omega) (by have:=Q2D (a:=a) (b:=b);omega) (by have:=Z4c (a:=a) (b:=b);omega)
theorem bZ(hF:Q7<=F)(h:l.length<=32768):Wk F l [] 1=some (cn (Q8 l)):=by
 rw[bY hF (by simpa using h),Q0B]
theorem yG{α:Type}[Emb α][DecidableEq α](l m:List α)(h:l.length=m.length)(i:Nat)(hi:i<l.length):decide (l.drop i=m.drop i)=(decide (gl l i=gl m i)&&decide (l.drop (i+1)=m.drop (i+1))):=by
 rw[Yc hi,Yc (l:=m) (by omega)];rw[Qd0,Qa4,Qj5,Qj5,Qj5,Ql5]
theorem Q0h(r s:Rect):((r.L_==s.L_)&&((r.w_==s.w_)&&((r.R_==s.R_)&&((r.H_==s.H_)&&true))))=decide (r=s):=by
 cases r;cases s
 rw[Qd0,Qj5];simp
theorem Q9H(hF:Q7<=F)(hm:m.length<=Y6):SO F l m=some (decide (l=m)):=by
 unfold Q7 at hF;unfold Y6 at hm
 unfold SO;refine Z9 (λh=>?_) (λh=>?_)
 .have h:l.length≠m.length:=by simp at h;omega
  rw[Qa7 λe=>h (by rw[e])]
 .have h:l.length=m.length:=by simp at h;omega
  refine Qa (λz:Int=>∃i:Nat,z=i/\i<=l.length/\decide (l=m)=decide (l.drop i=m.drop i)) (λz=>l.length-z.toNat) (λd z f g=>?_) ⟨0,rfl,by omega,by simp⟩ (by simp;omega);obtain⟨i,rfl,j,c⟩:=f
  unfold bR;refine Z9 (λa=>?_) (λa=>?_)
  .have a:i<l.length:=by simpa using a
   rw[yG l m h i a]at c;refine Z4 (k:=?_)
   refine Z4 (k:=?_);rw[Q0h]
   refine Z9 (λb=>?_) (λb=>?_)
   .have b:decide (gl l i=gl m i)=false:=by simpa using b
    rw[c,b];rfl
   .have b:decide (gl l i=gl m i)=true:=by simpa using b
    rw[b,Qc6]at c;refine Z4 (k:=?_)
    exact g _ ⟨i+1,by omega,a,c⟩ (by omega)
  .have a:¬i<l.length:=by simpa using a
   have:i=l.length:=by omega
   rw[c,Qf1 (by omega),Qf1 (by omega),Qa5 rfl];rfl
def K7(l:List Rect):Prop:=l.length<=120/\(∀r∈l,QS r=true)/\YC l
open Classical in
noncomputable def Qr(l:List Rect):Bool:=decide (K7 l)
theorem Wh(l:List Rect):Qr l=true↔K7 l:=by unfold Qr;exact @decide_eq_true_iff (K7 l) (Classical.propDecidable _)
theorem Gy(h:¬K7 l):Qr l=false:=by rw[<-Qf7,Wh];exact h
theorem WN(h:K7 l):Qr l=true:=(Wh l).2 h
theorem Z4R{α:Type}[Emb α]{l:List α}{p:α->Prop}(h:i<l.length):(∀x∈l.drop i,p x)↔p (gl l i)/\∀x∈l.drop (i+1),p x:=by rw[Yc h];simp
theorem Dg(hF:Q7<=F)(a:Re_):Jw F a=some (Qr a.t_):=by
 have f:=hF;unfold Q7 at hF
 obtain⟨l⟩:=a;simp only
 unfold Jw;refine Z9 (λh=>?_) (λh=>?_)
 .have h:120<l.length:=by simp at h;omega
  rw[Gy λe=>by have:=e.1;omega]
 .have h:l.length<=120:=by simp at h;omega
  refine Qa (λz:Int=>∃i:Nat,z=i/\i<=l.length/\((∀r∈l,QS r=true)↔∀r∈l.drop i,QS r=true)) (λz=>l.length-z.toNat) (λg z j m=>?_) ⟨0,rfl,by omega,by simp⟩ (by simp;omega);obtain⟨i,rfl,n,d⟩:=j
  unfold bP;simp only
  refine Z9 (λb=>?_) (λb=>?_)
  .have b:i<l.length:=by simpa using b
   rw[Z4R (p:=λr=>QS r=true) b]at d;refine Z4 (k:=?_)
   refine Q4 (bK _ _) ?_;refine Z9 (λc=>?_) (λc=>?_)
   .have c:QS (gl l i)=false:=by simpa using c
    rw[Gy λe=>by have:=(d.1 e.2.1).1;rw[c]at this;cases this]
   .have c:QS (gl l i)=true:=by simpa using c
    refine Z4 (k:=?_);exact m _ ⟨i+1,by omega,b,d.trans ⟨λh=>h.2,λh=>⟨c,h⟩⟩⟩ (by omega)
  .have b:¬i<l.length:=by simpa using b
   rw[Qf1 (by omega)]at d;unfold zU
   refine Q4 (bZ f (by simp only;omega)) ?_;refine Q4 (Q9H f (by unfold Y6;simp only;omega)) ?_
   simp only
   by_cases hc:cn (Q8 l)=l
   .rw [Qa5 hc,WN ⟨h,d.2 (by simp),(Gl l).2 hc⟩]
   .rw [Qa7 hc,Gy λe=>hc ((Gl l).1 e.2.2)]
theorem Q9P(l:List Rect):SY F l=some (if 120<l.length then(⟨[]⟩,1)else(⟨l⟩,0)):=by
 unfold SY;refine Z9 (λh=>?_) (λh=>?_)
 .have h:120<l.length:=by simp at h;omega
  rw[Qa2 h]
 .have h:¬120<l.length:=by simp at h;omega
  rw[Qa1 h]
theorem Q9J(hF:Q7<=F)(hl:l.length<=120)(hp:∀r∈l,QS r=true):SQ F l=some (if 120<(cn (Q8 l)).length then(⟨[]⟩,1)else(⟨cn (Q8 l)⟩,0)):=by
 have c:=hF;unfold Q7 at hF
 unfold SQ;refine Z8 (by simp;omega) ?_
 refine Qa (λz:Int=>∃i:Nat,z=i/\i<=l.length) (λz=>l.length-z.toNat) (λb z d e=>?_) ⟨0,rfl,by omega⟩ (by simp;omega);obtain⟨i,rfl,f⟩:=d
 unfold bV;refine Z9 (λa=>?_) (λa=>?_)
 .have a:i<l.length:=by simpa using a
  refine Z4 (k:=?_);refine Q4 (bK _ _) ?_
  refine Z8 (by rw[Qa3,hp _ (J9 a)];rfl) ?_;refine Z4 (k:=?_)
  exact e _ ⟨i+1,by omega,a⟩ (by omega)
 .unfold zV
  refine Q4 (bZ c (by omega)) ?_;refine Q4 (Q9P _) ?_
  rfl
end
section
open Go.Sort
def ka(l:List Int):Prop:=l.Pairwise (· <= ·)
theorem Q6a{l:List Int}(hl:l.length<=Y6):∃r,VM l=some r/\ka r/\(∀v,v∈r↔v∈l)/\r.length=l.length:=by
 refine⟨l.mergeSort λx y=>decide (x<=y),by unfold VM;rw[Qa2 hl],?_,λv=>List.mem_mergeSort,Qn4 l⟩;have:=Qv0 (le:=λx y:Int=>decide (x<=y)) (λa b c e d=>by simp at *;omega) (λa b=>by simp;omega) l
 exact this.imp λh=>by simpa using h
def dd:List Int->List Int
 |[]=>[]
 |[a]=>[a]
 |a::b::l=>if a=b then dd (b::l)else a::dd (b::l)
theorem Fv(l:List Int)(x:Int):dd (l++[x])=if l.getLast?=some x then dd l else dd l++[x]:=by
 match l with
 |[]=>simp[dd]
 |[a]=>by_cases h:a=x<;>simp[dd,h]
 |a::b::l=>
  have c:=Fv (b::l) x;have e:(a::b::l).getLast?=(b::l).getLast?:=by simp[List.getLast?_cons]
  rw[e]
  by_cases h:a=b
  .simp only[Qi6,dd,h,Qi8]at c⊢
   exact c
  .simp only[Qi6,dd,h,Qi0]at c⊢
   rw[c];split<;>rfl
theorem Ts(l:List Int)(v:Int):v∈dd l↔v∈l:=by
 match l with
 |[]=>simp[dd]
 |[a]=>simp[dd]
 |a::b::l=>
  have c:=Ts (b::l) v;unfold dd
  split
  .rename_i h;subst h;rw[c];simp
  .rw [Qe1,c,Qe1 (a:=v) (b:=a)]
theorem xA(l:List Int)(h:ka l):Yd (dd l):=by
 match l with
 |[]=>exact .nil
 |[a]=>exact Qf4 _ _
 |a::b::l=>
  obtain⟨g,d⟩:=Qd5.1 h;have e:=xA (b::l) d
  unfold dd;split
  .exact e
  .rename_i f
   refine Qd5.2 ⟨λv c=>?_,e⟩;rw[Ts]at c
   have:=g b (by simp)
   rcases Qe1.1 c with rfl|c
   .omega
   .have:=(Qd5.1 d).1 v c;omega
theorem xz(l:List Int):(dd l).length<=l.length:=by
 match l with
 |[]=>simp[dd]
 |[a]=>simp[dd]
 |a::b::l=>
  have c:=xz (b::l);unfold dd
  split
  .simp at c⊢;omega
  .simp at c⊢;omega
theorem Q0O{l:List Int}(h:i<l.length):(l.take (i+1)).getLast?=some (gl l i):=by rw[QB h];simp
theorem XI{α:Type}[Emb α](l:List α)(i j:Nat)(x:α)(h:i<l.length):gl (l.set i x) j=if i=j then x else gl l j:=by
 simp only[gl,Qa0,Qp7]
 by_cases hij:i=j
 .subst hij;simp[h]
 .simp [hij]
theorem LI{α:Type}(l:List α)(i n:Nat)(x:α)(h:n<=i):(l.set i x).take n=l.take n:=by
 apply List.ext_getElem?;intro j
 simp only[Qj4,Qp7];split
 .rw [Qa1 (by omega)]
 .rfl
theorem LJ{α:Type}[Emb α](l:List α)(k n:Nat)(h:k<=l.length):(clr l (0+k) n).take k=l.take k:=by
 apply List.ext_getElem?;intro j
 simp only[Qj4,clr];split
 .rename_i a
  have:j<l.length:=by omega
  simp only[Qk3,Qo6 this,Qj0];rw[Qa1 (by omega),y7 this,Qc0 this]
 .rfl
theorem xH{α:Type}[Emb α](l:List α)(lo n:Nat):(clr l lo n).length=l.length:=by simp[clr]
theorem jv(hF:Q7<=F){l:List Int}(hl:l.length<=Y6):PU F l=some (dd l):=by
 have K:=hF;unfold Q7 at hF;unfold Y6 at hl
 unfold PU;refine Z9 (λh=>?_) (λh=>?_)
 .have h:l.length<2:=by simp at h;omega
  match l,h with
  |[],_=>rfl
  |[a],_=>rfl
 .have h:2<=l.length:=by simp at h;omega
  refine Qa (λz:Int=>∃k:Nat,z=k/\1<=k/\k<=l.length/\dd (l.take k)=l.take k) (λz=>l.length-z.toNat) (λx z B I=>?_) ⟨1,rfl,by omega,by omega,?_⟩ (by simp;omega)
  .obtain ⟨k,rfl,C,L,v⟩:=B
   unfold jx;refine Z9 (λm=>?_) (λm=>?_)
   .have m:k<l.length:=by simpa using m
    refine Z4 (k:=?_);refine Z4 (k:=?_)
    refine Z4 (k:=?_);have H:((k:Int)-1).toNat=k-1:=by omega
    rw[H];simp only[Qa3]
    have f:(l.take k).getLast?=some (gl l (k-1)):=by
     have:=Q0O (l:=l) (i:=k-1) (by omega)
     rwa [show k-1+1=k from by omega]at this
    refine Z9 (λp=>?_) (λp=>?_)
    .have p:gl l k=gl l (k-1):=by simpa using p
     refine Z4 (k:=?_);have y:dd (l.take (k+1))=l.take k:=by rw[QB m,Fv,f,Qa2 (by rw[p]),v]
     refine Qa (λz:Int×Int×List Int=>∃(q r:Nat) (d:List Int),z=((q:Int),(r:Int),d)/\1<=r/\k+r<=l.length/\q+1<=k+r/\1<=q/\d.length=l.length/\(∀j,q<=j->gl d j=gl l j)/\d.take q=dd (l.take (k+r)))
      (λz=>l.length-z.2.1.toNat) (λw z B n=>?_) ⟨k,1,l,rfl,by omega,by omega,by omega,by omega,rfl,λ_ _=>rfl,y.symm⟩ (by simp only;omega)
     obtain⟨q,r,d,rfl,N,E,D,J,s,g,o⟩:=B;simp only at n⊢
     unfold jw;simp only[Qa3,Qd2]
     refine Z9 (λt=>?_) (λt=>?_)
     .have t:r<l.length-k:=by simp at t;omega
      refine Z4 (k:=?_);refine Z4 (k:=?_)
      refine Z4 (k:=?_);refine Z4 (k:=?_)
      have G:((r:Int)-1).toNat=r-1:=by omega
      rw[G];refine Z4 (k:=?_)
      rw[g (k+r) (by omega),g (k+(r-1)) (by omega)];have A:(l.take (k+r)).getLast?=some (gl l (k+(r-1))):=by
       have:=Q0O (l:=l) (i:=k+(r-1)) (by omega)
       rwa [show k+(r-1)+1=k+r from by omega]at this
      have u:dd (l.take (k+r+1))=if gl l (k+(r-1))=gl l (k+r)then dd (l.take (k+r))else dd (l.take (k+r))++[gl l (k+r)]:=by
       rw[QB (by omega),Fv,A];simp
      refine Z9 (λc=>?_) (λc=>?_)
      .have c:gl l (k+r)≠gl l (k+(r-1)):=by simpa using c
       repeat(refine Z4 (k:=?_))
       refine n _ ⟨q+1,r+1,d.set q (gl l (k+r)),rfl,by omega,by omega,by omega,by omega,by simp[s],λj M=>?_,?_⟩ (by simp only;omega)
       .rw [XI _ _ _ _ (by omega),Qa1 (by omega)];exact g j (by omega)
       .rw [show k+(r+1)=k+r+1 from rfl,u,Qa1 (λe=>c e.symm), <-o,QB (by simp;omega),LI _ _ _ _ (Qb3 _),XI _ _ _ _ (by omega),Qa2 rfl]
      .have c:gl l (k+r)=gl l (k+(r-1)):=by simpa using c
       unfold MZ;refine Z4 (k:=?_)
       refine n _ ⟨q,r+1,d,rfl,by omega,by omega,by omega,by omega,s,g,?_⟩ (by simp only;omega);rw[show k+(r+1)=k+r+1 from rfl,u,Qa2 c.symm,o]
     .have t:¬r<l.length-k:=by simp at t;omega
      unfold qi;simp only[Qa3,xH]
      refine Z4 (k:=?_);refine Z4 (k:=?_)
      rw[LJ _ _ _ (by omega),o,Qj6 (by omega)]
    .have p:gl l k≠gl l (k-1):=by simpa using p
     unfold qh;refine Z4 (k:=?_)
     refine I _ ⟨k+1,by omega,by omega,m,?_⟩ (by omega);rw[QB m,Fv,f,Qa1 (λe=>p (by simpa using e.symm)),v]
   .have m:¬k<l.length:=by simpa using m
    have:k=l.length:=by omega
    subst this;rw[Qe5]at v
    unfold qg;rw[v]
  .match l,h with
   |a::b::l,_=>rfl
end
section
open Go.Sort
def VX(l:List Rect):List Int:=l.flatMap λr=>[r.w_,r.H_]
def WY(ls:List (List Rect)):List Int:=ls.flatMap VX
def Vd(ls:List (List Rect)):List Int:=dd ((WY ls).mergeSort λx y=>decide (x<=y))
theorem Q5p(l:List Int):ka (l.mergeSort λx y=>decide (x<=y)):=by
 have:=Qv0 (le:=λx y:Int=>decide (x<=y)) (λa b c e d=>by simp at *;omega) (λa b=>by simp;omega) l
 exact this.imp λh=>by simpa using h
theorem Q2B(ls:List (List Rect)):Yd (Vd ls):=xA _ (Q5p _)
theorem Q0E(ls:List (List Rect))(v:Int):v∈Vd ls↔∃l∈ls,∃r∈l,v=r.w_\/v=r.H_:=by
 unfold Vd;rw[Ts,List.mem_mergeSort]
 simp[WY,VX]
theorem Z1g(l:List Rect):(VX l).length=2*l.length:=by
 induction l with
 |nil=>rfl
 |cons r l ih=>
  have:(VX (r::l)).length=2+(VX l).length:=by simp[VX];omega
  rw[this,ih,Qb0];omega
def Wp(ls:List (List Rect)):Nat:=(ls.map List.length).sum
theorem Z1f(ls:List (List Rect)):(WY ls).length=2*Wp ls:=by
 induction ls with
 |nil=>rfl
 |cons l ls ih=>
  have:(WY (l::ls)).length=(VX l).length+(WY ls).length:=by simp[WY]
  rw[this,ih,Z1g];simp[Wp];omega
theorem Q2A(ls:List (List Rect)):(Vd ls).length<=2*Wp ls:=by
 unfold Vd;have:=xz ((WY ls).mergeSort λx y=>decide (x<=y))
 rw[Qn4,Z1f]at this;exact this
theorem zc(hF:Q7<=F){ls:List (List Rect)}(h:Wp ls<=1000000000)(hn:ls.length<=1000000):Kp F ls=some (Vd ls):=by
 have g:=hF;unfold Q7 at hF
 unfold Kp;refine(KJ (l:=ls) (σ:=List Int) (λb a=>a.length+2*Wp b<=2000000000) (λb a=>some (dd ((a++WY b).mergeSort λx y=>decide (x<=y))))
  (λe i a p d m=>?_) (λe a d=>?_) (by omega) (by simp;omega)).trans rfl
 .unfold zh
  refine U3 (WX p) ?_;refine Z4 (k:=?_)
  simp only[Qa3];generalize hl:gl ls i=l at *
  have n:Wp (l::ls.drop (i+1))=l.length+Wp (ls.drop (i+1)):=by simp[Wp]
  rw[n]at d;refine(KJ (l:=l) (σ:=List Int) (λb a=>a.length+2*b.length+2*Wp (ls.drop (i+1))<=2000000000) (λb a=>some (dd ((a++VX b++WY (ls.drop (i+1))).mergeSort λx y=>decide (x<=y))))
   (λc j a o d f=>?_) (λc a d=>?_) (by omega) (by omega)).trans ?_
  .simp only
   unfold zg;simp only[Qa3,hl]
   refine U3 (WX o) ?_;simp only[Qb0]at d
   refine Z4 (k:=?_);refine Z4 (k:=?_)
   refine Z4 (k:=?_);rw[f _ (by simp only[Qb5,Qb0,Qb6];omega)]
   simp[VX]
  .simp only
   unfold zg;simp only[Qa3,hl]
   refine Z8 (VV _) ?_;unfold zf
   refine Z4 (k:=?_);rw[m _ (by simp only[Qb6]at d;omega)]
   simp[VX]
  .simp [WY]
 .simp only
  unfold zh;refine Z8 (VV _) ?_
  unfold ze;have d:a.length<=2000000000:=by simp[Wp]at d;omega
  have q:VM a=some (a.mergeSort λx y=>decide (x<=y)):=by unfold VM;rw[Qa2 (by unfold Y6;omega)]
  refine Q4 q ?_;refine Q4 (jv g (by rw[Qn4];unfold Y6;omega)) ?_
  simp[WY]
theorem Hx(F:Nat)(a b:Int):YB F a b=some (if a<b then -1 else if b<a then 1 else 0):=by
 unfold YB Fy;refine Q4 rfl (Q4 rfl ?_)
 refine Z8 (by simp) (Z8 (by simp) ?_);refine Z9 (λh=>?_) (λh=>?_)
 .have h:a<b:=by simpa using h
  rw[Qa2 h]
 .have h:¬a<b:=by simpa using h
  rw[Qa1 h];refine Z9 (λh=>?_) (λh=>?_)
  .have h:b<a:=by simpa using h
   rw[Qa2 h]
  .have h:¬b<a:=by simpa using h
   rw[Qa1 h]
def Gj(a b:Span):Int:=if a.L_<b.L_ then -1 else if b.L_<a.L_ then 1 else 0
theorem Tt(a b:Span):ZJ Gj a b=decide (a.L_<b.L_):=by
 unfold ZJ Gj
 by_cases h:a.L_<b.L_
 .simp [h]
 .by_cases h2:b.L_<a.L_<;>simp[h,h2]
theorem gy:SWO (ZJ Gj) where
 irrefl x:=by rw[Tt];simp
 trans x y z h1 h2:=by rw[Tt]at *;simp at *;omega
 ntrans x y z h1 h2:=by rw[Tt]at *;simp at *;omega
theorem Z0o{α:Type}[Emb α](cf:α->α->Int)(hO:SWO (ZJ cf))(l:List α):(ZA cf l).Perm l/\(ZA cf l).Pairwise λa b=>ZJ cf b a=false:=by
 letI inst:Inhabited α:=⟨Emb.d⟩
 have h:=pdq_sorts (ZJ cf) hO l.toArray 0 l.length (Lib.bitLen l.length) true true (Qc2 _) (by simp) (.inl rfl);have c:(pdq (ZJ cf) l.toArray 0 l.length (Lib.bitLen l.length) true true).size=l.length:=by simpa using h.1.1
 constructor
 .have:=h.1.2.2
  simp only[List.extract_toArray,List.extract_eq_take_drop,Qq8,Qj9,Qe5]at this;have e:((pdq (ZJ cf) l.toArray 0 l.length (Lib.bitLen l.length) true true).extract 0 l.length).toList=ZA cf l:=by
   unfold ZA;generalize pdq (ZJ cf) l.toArray 0 l.length (Lib.bitLen l.length) true true=d at c
   rw[<-c];simp
  rw[e]at this;exact this
 .rw [Qd6]
  intro i j n m f;have g : i<(pdq (ZJ cf) l.toArray 0 l.length (Lib.bitLen l.length) true true).size:=by simpa[ZA]using n
  have k : j<(pdq (ZJ cf) l.toArray 0 l.length (Lib.bitLen l.length) true true).size:=by simpa[ZA]using m
  have:=h.2 i j (Qc2 _) f (by omega)
  rw[Qp3 _ j k,Qp3 _ i g]at this;simpa[ZA]using this
def Wf(l:List Rect)(y:Int):List Span:=(l.filter λr=>decide (r.w_<=y)&&decide (y<r.H_)).map λr=>⟨r.L_,r.R_⟩
theorem Q1A(r:Rect)(l:List Rect)(y:Int):Wf (r::l) y=if(decide (r.w_<=y)&&decide (y<r.H_))=true then⟨r.L_,r.R_⟩::Wf l y else Wf l y:=by
 unfold Wf;rw[Qi7]
 split<;>rfl
theorem Z2g(l:List Rect)(x y:Int):K8 (Wf l y) x=Q8 l x y:=by
 induction l with
 |nil=>rfl
 |cons r l ih=>
  have e:Q8 (r::l) x y=(r.has x y||Q8 l x y):=rfl;rw[Q1A,e, <-ih]
  split
  .rename_i h
   simp only[Qa4,Qb7]at h;simp[K8,Span.has,Rect.has,h.1,h.2]
  .rename_i h
   have:r.has x y=false:=DQ (by simp at h;omega)
   rw[this,Qj7]
theorem Z2O(l:List Rect)(y:Int):(Wf l y).length<=l.length:=by
 unfold Wf;rw[Qg1];exact Qh7 _ _
theorem Z2N(h:∀r∈l,r.L_<r.R_)(y:Int):∀s∈Wf l y,s.L_<s.R_:=by
 intro s a;obtain⟨r,b,rfl⟩:=Qc7.1 a
 exact h r (Qe6.1 b).1
theorem Ce(l m:List Span)(x:Int):K8 (l++m) x=(K8 l x||K8 m x):=by simp[K8]
theorem Z2f{l m:List Span}(h:l.Perm m)(x:Int):K8 l x=K8 m x:=by
 rw[Qd0];simp only[K8,Qd3]
 constructor
 .rintro ⟨s,b,a⟩;exact⟨s,h.mem_iff.1 b,a⟩
 .rintro ⟨s,b,a⟩;exact⟨s,h.mem_iff.2 b,a⟩
theorem Z2E(a b:Int):y3 a b=if a<b then b else a:=rfl
theorem Q7V(hF:Q7<=F){S:List Span}(hl:S.length<=1000000000)(hpos:∀ s ∈ S,s.L_<s.R_)(hs:S.Pairwise fun a b=>a.L_<=b.L_):
  Y3 (λagain (z:Int×List Span)=>qT F S again z.1 z.2) F (0,[])=some (QR λx=>K8 S x):=by
 unfold Q7 at hF;refine Qa (λz:Int×List Span=>∃(i:Nat) (d:List Span),z=((i:Int),d)/\i<=S.length/\d.length<=i/\SpOk d/\(∀x,K8 d x=K8 (S.take i) x)/\∀o∈d,∀j,i<=j->j<S.length->o.L_<=(gl S j).L_)
  (λz=>S.length-z.1.toNat) (λagain z M C=>?_) ⟨0,[],rfl,by omega,Qb3 _,.nil,λx=>by simp,λo c=>by cases c⟩ (by simp only;omega)
 obtain⟨i,d,rfl,Q,A,f,u,l⟩:=M;simp only at C⊢
 unfold qT;refine Z9 (λh=>?_) (λh=>?_)
 .have h:i<S.length:=by simpa using h
  refine Z4 (k:=?_);simp only[Qa3]
  have O:=hpos _ (J9 h);have q:∀j,i+1<=j->j<S.length->(gl S i).L_<=(gl S j).L_:=by
   intro j y g;rw[y7 h,y7 g]
   exact Qd6.1 hs i j h g (by omega)
  have n : ∀x,K8 (S.take (i+1)) x=(K8 d x||(gl S i).has x):=by
   intro x;rw[QB h,Ce,u];simp[K8]
  have m:(∀o,d.getLast?=some o->o.R_<(gl S i).L_)->GW F S i d again false=some (QR λx=>K8 S x):=by
   intro r;unfold GW
   refine Z8 rfl ?_;refine Z4 (k:=?_)
   unfold Bh;refine Z4 (k:=?_)
   simp only[Qa3];refine C _ ⟨i+1,d++[gl S i],rfl,h,by simp;omega,⟨λs hs=>?_,?_⟩,λx=>?_,λo c j y g=>?_⟩ (by simp only;omega)
   .rcases Qb2.1 hs with hs|hs
    .exact f.pos s hs
    .rw [Qb1.1 hs];exact O
   .refine Qe8.2 ⟨f.ch,Qf4 _ _,λo c b w=>?_⟩
    rw[Qb1.1 w];rcases Qj2 d with D|⟨t,e,v⟩
    .rw [D]at c;cases c
    .rw [Qj3]at v
     subst v;have K:=r e (by simp)
     rcases Qb2.1 c with c|c
     .have P:=(Qe8.1 f.ch).2.2 o c e (by simp)
      have R:=f.pos e (by simp);omega
     .rw [Qb1.1 c];exact K
   .rw [n,Ce];simp[K8]
   .rcases Qb2.1 c with c|c
    .exact l o c j (by omega) g
    .rw [Qb1.1 c];exact q j y g
  rcases Qj2 d with D|⟨t,e,v⟩
  .subst D
   refine Z8 rfl ?_;exact m λo c=>by simp at c
  .rw [Qj3]at v
   subst v;have p:(t ++ [e]).length=t.length+1:=by simp
   have E:(((t.length+1:Nat):Int)-1).toNat=t.length:=by omega
   rw[p]at A⊢;refine U3 (by simp) ?_
   refine Z4 (k:=?_);refine Z4 (k:=?_)
   rw[E,KW _ _ rfl]
   by_cases hc:(gl S i).L_<=e.R_
   .have B:decide ((gl S i).L_<=e.R_)=true:=by simpa using hc
    rw[B];unfold GW
    refine U3 rfl ?_;simp only[p]
    refine Z4 (k:=?_);refine Z4 (k:=?_)
    refine Z4 (k:=?_);refine Z4 (k:=?_)
    rw[E,KW _ _ rfl,Rg _ _ _ rfl];unfold Bh
    refine Z4 (k:=?_);simp only[Qa3]
    have I:e.L_<=(gl S i).L_:=l e (by simp) i (Qb3 _) h;have N:=f.pos e (by simp)
    have J:e.R_<=y3 e.R_ (gl S i).R_/\(gl S i).R_<=y3 e.R_ (gl S i).R_/\(y3 e.R_ (gl S i).R_=e.R_\/y3 e.R_ (gl S i).R_=(gl S i).R_):=by
     rw[Z2E];split<;>omega
    refine C _ ⟨i+1,t ++ [⟨e.L_,y3 e.R_ (gl S i).R_⟩],rfl,h,by simp;omega,⟨λs hs=>?_,?_⟩,λx=>?_,λo c j y g=>?_⟩ (by simp only;omega)
    .rcases Qb2.1 hs with hs|hs
     .exact f.pos s (by simp[hs])
     .rw [Qb1.1 hs];simp only;omega
    .obtain ⟨H,_,L⟩:=Qe8.1 f.ch
     refine Qe8.2 ⟨H,Qf4 _ _,λo c b w=>?_⟩;rw[Qb1.1 w]
     exact L o c e (by simp)
    .rw [n,Ce,Ce,Bool.or_assoc]
     congr 1
     have G:∀(s:Span) x,K8 [s] x=s.has x:=λs x=>by simp[K8]
     rw[G,G,Qd0];simp only[Span.has,Qi4,Qa4,Qb7]
     omega
    .rcases Qb2.1 c with c|c
     .exact l o (by simp[c]) j (by omega) g
     .rw [Qb1.1 c];exact l e (by simp) j (by omega) g
   .have B:decide ((gl S i).L_<=e.R_)=false:=by simpa using hc
    rw[B];exact m λo c=>by simp at c;subst c;omega
 .have h:¬i<S.length:=by simpa using h
  have:i=S.length:=by omega
  subst this;unfold qS
  rw[Ka f λx=>by rw[u,Qe5]]
theorem RV(hF:Q7<=F)(hl:l.length<=1000000000)(hpos:∀r∈l,r.L_<r.R_)(y:Int):Vx F l y=some (QR λx=>Q8 l x y):=by
 have p:=hF;unfold Q7 at hF
 unfold Vx;have m:∀c:List Span,c=Wf l y->RW F c=some (QR λx=>Q8 l x y):=by
  rintro c rfl;unfold RW
  have w:=Z2O l y;have j:Jd (Wf l y) (λu t=>RX F u t)=some (ZA Gj (Wf l y)):=
   Q6g Gj (by unfold Y6;omega) gy λa b=>by unfold RX;rw[Hx];rfl
  refine Q4 j ?_;obtain⟨n,o⟩:=Z0o Gj gy (Wf l y)
  have e:(λx=>Q8 l x y)=λx=>K8 (ZA Gj (Wf l y)) x:=by funext x;rw[Z2f n,Z2g]
  rw[e];refine Q7V p (by rw[n.length_eq];omega) (λs o=>Z2N hpos y s (n.mem_iff.1 o)) (o.imp λ{a b} h=>?_)
  rw[Tt]at h;simp at h;exact h
 refine(KJ (l:=l) (σ:=List Span) (λf c=>c.length+f.length<=1000000000/\c++Wf f y=Wf l y) (λf c=>some (QR λx=>Q8 l x y))
  (λd i c v g q=>?_) (λd c g=>?_) (by omega) ⟨by simp;omega,rfl⟩)
 .simp only
  unfold qU;refine U3 (WX v) ?_
  refine Z4 (k:=?_);rw[Ys (Bj F l i c d)]
  simp only[Qa3];rw[Q1A]at g
  simp only[Qb0]at g;unfold Bj
  refine Z9 (λh=>?_) (λh=>?_)
  .rw [Qa2 h]at g
   refine Z4 (k:=?_);unfold Bi
   refine Z4 (k:=?_);simp only[Qa3]
   exact q _ ⟨by simp only[Qb5,Qb0,Qb6];omega,by rw[<-g.2];simp⟩
  .rw [h]at g
   unfold Bi;refine Z4 (k:=?_)
   exact q _ ⟨by omega,by simpa using g.2⟩
 .simp only
  unfold qU;refine Z8 (VV _) ?_
  exact m c (by have:=g.2;simpa[Wf]using this)
end
theorem Q5y(r s:Span):((r.L_==s.L_)&&((r.R_==s.R_)&&true))=decide (r=s):=by
 cases r;cases s
 rw[Qd0,Qj5];simp
theorem Q6W(hF:Q7<=F){l m:List Span}(hm:m.length<=Y6):MS F l m=some (decide (l=m)):=by
 unfold Q7 at hF;unfold Y6 at hm
 unfold MS;refine Z9 (λh=>?_) (λh=>?_)
 .have h:l.length≠m.length:=by simp at h;omega
  rw[Qa7 λe=>h (by rw[e])]
 .have h:l.length=m.length:=by simp at h;omega
  refine Qa (λz:Int=>∃i:Nat,z=i/\i<=l.length/\decide (l=m)=decide (l.drop i=m.drop i)) (λz=>l.length-z.toNat) (λd z f g=>?_) ⟨0,rfl,by omega,by simp⟩ (by simp;omega);obtain⟨i,rfl,j,c⟩:=f
  unfold jm;refine Z9 (λa=>?_) (λa=>?_)
  .have a:i<l.length:=by simpa using a
   rw[yG l m h i a]at c;refine Z4 (k:=?_)
   refine Z4 (k:=?_);rw[Q5y]
   refine Z9 (λb=>?_) (λb=>?_)
   .have b:decide (gl l i=gl m i)=false:=by simpa using b
    rw[c,b];rfl
   .have b:decide (gl l i=gl m i)=true:=by simpa using b
    rw[b,Qc6]at c;refine Z4 (k:=?_)
    exact g _ ⟨i+1,by omega,a,c⟩ (by omega)
  .have a:¬i<l.length:=by simpa using a
   have:i=l.length:=by omega
   rw[c,Qf1 (by omega),Qf1 (by omega),Qa5 rfl];rfl
theorem Q6Y(hF:Q7<=F)(hm:m.length<=Y6):MT F l m=some (decide (l=m)):=by
 unfold Q7 at hF;unfold Y6 at hm
 unfold MT;refine Z9 (λh=>?_) (λh=>?_)
 .have h:l.length≠m.length:=by simp at h;omega
  rw[Qa7 λe=>h (by rw[e])]
 .have h:l.length=m.length:=by simp at h;omega
  refine Qa (λz:Int=>∃i:Nat,z=i/\i<=l.length/\decide (l=m)=decide (l.drop i=m.drop i)) (λz=>l.length-z.toNat) (λd z f g=>?_) ⟨0,rfl,by omega,by simp⟩ (by simp;omega);obtain⟨i,rfl,j,c⟩:=f
  unfold jp;refine Z9 (λa=>?_) (λa=>?_)
  .have a:i<l.length:=by simpa using a
   rw[yG l m h i a]at c;refine Z4 (k:=?_)
   refine Z4 (k:=?_);rw[Q0h]
   refine Z9 (λb=>?_) (λb=>?_)
   .have b:decide (gl l i=gl m i)=false:=by simpa using b
    rw[c,b];rfl
   .have b:decide (gl l i=gl m i)=true:=by simpa using b
    rw[b,Qc6]at c;refine Z4 (k:=?_)
    exact g _ ⟨i+1,by omega,a,c⟩ (by omega)
  .have a:¬i<l.length:=by simpa using a
   have:i=l.length:=by omega
   rw[c,Qf1 (by omega),Qf1 (by omega),Qa5 rfl];rfl
def Band.rn(b:Band):Rn (List Span):=⟨b.w_,b.H_,b.spans_⟩
def fl(l:List Band):List Rect:=flat (l.map Band.rn)
theorem vM(b:Band)(l:List Band):fl (b::l)=Qb b.rn++fl l:=rfl
theorem Z2Q(l:List Band)(N:Nat)(h:∀b∈l,b.spans_.length<=N):(fl l).length<=l.length*N:=by
 induction l with
 |nil=>simp[fl,flat]
 |cons b l ih=>
  have d:=ih λc a=>h c (by simp[a])
  have e:=h b (by simp);rw[vM,Qb5,YN,Qb0,Qg8]
  simp only[Band.rn];omega
theorem Q8C(hF:Q7<=F){l:List Band}(hl:l.length<=1000000000)(hn:(fl l).length<=Y6)(hs:∀b∈l,b.spans_.length<=1000000000):RL F l=some (fl l):=by
 unfold Q7 at hF;unfold Y6 at hn
 unfold RL;refine(KJ (l:=l) (σ:=List Rect) (λc a=>a.length+(fl c).length<=4294967296) (λc a=>some (a++fl c)) (λf i a m e n=>?_) (λf a e=>?_) (by omega) (by simp;omega)).trans (by simp)
 .unfold qJ
  refine U3 (WX m) ?_;refine Z4 (k:=?_)
  simp only[Qa3];have h:=hs _ (J9 m)
  rw[vM,Qb5,YN]at e;rw[vM]
  generalize hb:gl l i=b at e h⊢;have e:a.length+(b.spans_.length+(fl (l.drop (i+1))).length)<=4294967296:=e
  refine(KJ (l:=b.spans_) (σ:=List Rect) (λc a=>a.length+c.length+(fl (l.drop (i+1))).length<=4294967296) (λc a=>some (a++(c.map (λs=>(⟨s.L_,b.w_,s.R_,b.H_⟩:Rect))++fl (l.drop (i+1)))))
   (λd j a o e g=>?_) (λd a e=>?_) (by omega) (by omega)).trans rfl
  .unfold qI
   simp only[Qa3,hb];refine U3 (WX o) ?_
   simp only[Qb0]at e;refine Z4 (k:=?_)
   refine Z4 (k:=?_);refine Z4 (k:=?_)
   rw[g _ (by simp only[Qb5,Qb0,Qb6];omega)];simp
  .unfold qI
   simp only[Qa3,hb];refine Z8 (VV _) ?_
   unfold qH;refine Z4 (k:=?_)
   rw[n _ (by simpa using e)];simp
 .unfold qJ
  refine Z8 (VV _) ?_;simp[qG,fl,flat]
theorem cL(hF:Q7<=F){cs:List Int}{row:Int->Option (List Span)}(hS:HM S)(hst:Step [] cs λy=>QR λx=>S x y)(hc:cs.length<=65536)(hrow:∀y,row y=some (QR λx=>S x y))(hlen:∀y,(QR λx=>S x y).length<=65536):Bp F cs row=some (cn S):=by
 have J:=hF;unfold Q7 at hF
 unfold Bp;have E:∀c:List Band,Runs (c.map Band.rn)->(∀t,G9 [] (c.map Band.rn) t=QR λx=>S x t)->c.length<=cs.length->(∀b∈c,b.spans_.length<=65536)->RZ F c=some (cn S):=by
  intro c T n H f;unfold RZ
  have L:=Z2Q c 65536 f;have K:c.length*65536<=65536*65536:=Qb4 _ (by omega)
  refine Q4 (Q8C J (by omega) (by unfold Y6;omega) (λb d=>by have:=f b d;omega)) ?_;have N:=(HJ hS hst (acc:=(c.map Band.rn).filter λr=> !r.v.isEmpty) (T.filter _) (λt=>by
   rw[T.atR_filter _ (λr _ X=>by simpa using X)];exact n t) (λb d=>by
   have:=(Qe6.1 d).2
   intro B;rw[B]at this;simp at this)).1
  rw[N];congr 1
  have:∀l:List (Rn (List Span)),flat l=flat (l.filter λr=> !r.v.isEmpty):=by
   intro l
   induction l with
   |nil=>rfl
   |cons a l C=>
    rw[Qi7];have e:flat (a::l)=Qb a++flat l:=rfl
    cases n:a.v with
    |nil=>
     have:Qb a=[]:=by simp[Qb,n]
     rw[e,this,Qk2,C];simp
    |cons s v=>
     simp only[List.isEmpty_cons,Bool.not_false,Qi8];have M:flat (a::l.filter λr=> !r.v.isEmpty)=Qb a++flat (l.filter λr=> !r.v.isEmpty):=rfl
     rw[e,M, <-C]
  exact this _
 refine Qa (λz:Int×List Band=>∃(i:Nat) (c:List Band),z=((i:Int)+1,c)/\c.length<=i/\(∀b∈c,b.spans_.length<=65536)/\((cs.length=0/\i=0)\/(i+1<=cs.length/\Bst [] (λy=>QR λx=>S x y) (c.map Band.rn) (gl cs i))))
  (λz=>cs.length+1-z.1.toNat) (λu z V C=>?_) ⟨0,[],rfl,Qb3 _,λb d=>(Qg0 d).elim,?_⟩ (by simp;omega)
 .obtain ⟨i,c,rfl,H,f,A⟩:=V
  simp only at C⊢;unfold cM
  rcases A with ⟨G,rfl⟩|⟨Y,D⟩
  .have O:c=[]:=Qd9 (by omega)
   subst O;refine Z8 (by simp;omega) ?_
   exact E [] .nil (λt=>(hst.empty G t).symm) (by simp) (λb d=>by cases d)
  .refine Z9 (λg=>?_) (λg=>?_)
   .have g:i+1<cs.length:=by simp at g;omega
    have I:=hst.asc.at_lt (show i<i+1 by omega) g;have p:=hst.gap i g
    have U:((i:Int)+1-1).toNat=i:=by omega
    have M:((i:Int)+1).toNat=i+1:=by omega
    rw[U];refine Z4 (k:=?_)
    refine Z4 (k:=?_);refine Z4 (k:=?_)
    refine Z4 (k:=?_);refine Z4 (k:=?_)
    refine Q4 (hrow _) ?_;generalize n:(QR λx=>S x (gl cs i))=v at *
    have P:v.length<=65536:=by rw[<-n];exact hlen _
    have m:(∀q,(c.map Band.rn).getLast?=some q->q.hi=gl cs i->q.v≠v)->Kq F cs ((i:Int)+1) c v u false=some (cn S):=by
     intro h;unfold Kq
     refine Z8 rfl ?_;rw[U,M]
     refine Z4 (k:=?_);unfold Bo
     refine Z4 (k:=?_);refine C _ ⟨i+1,c++[⟨gl cs i,gl cs (i+1),v⟩],by simp,by simp;omega,λb d=>?_,.inr ⟨by omega,?_⟩⟩ (by simp only;omega)
     .rcases Qb2.1 d with d|d
      .exact f b d
      .rw [Qb1.1 d];exact P
     .rw [Qe0]
      have:=D.add I (λt L K=>(p t L K).trans n.symm) (λa W B=>by rw[n];exact h a W B)
      rw[n]at this;exact this
    rcases Qj2 c with G|⟨w,e,B⟩
    .subst G
     refine Z8 rfl ?_;exact m λq h=>by simp at h
    .rw [Qj3]at B
     subst B;have j:(w ++ [e]).length=w.length+1:=by simp
     have R:(((w.length+1:Nat):Int)-1).toNat=w.length:=by omega
     rw[j]at H⊢;have o:gl (w ++ [e]) w.length=e:=KW _ _ rfl
     refine U3 (by simp) ?_;refine Z4 (k:=?_)
     refine Z4 (k:=?_);rw[R,o]
     by_cases hh:e.H_=gl cs i
     .refine U3 (by simpa using hh) ?_
      refine Z4 (k:=?_);refine Z4 (k:=?_)
      refine Q4 (Q6W J (by unfold Y6;omega)) ?_
      by_cases hvv:e.spans_=v
      .rw [Qa5 hvv]
       unfold Kq;refine U3 rfl ?_
       simp only[j];refine Z4 (k:=?_)
       refine Z4 (k:=?_);rw[R,o,Rg _ _ _ rfl,M]
       unfold Bo;refine Z4 (k:=?_)
       refine C _ ⟨i+1,w ++ [⟨e.w_,gl cs (i+1),e.spans_⟩],by simp,by simp;omega,λb d=>?_,.inr ⟨by omega,?_⟩⟩ (by simp only;omega)
       .rcases Qb2.1 d with d|d
        .exact f b (by simp[d])
        .rw [Qb1.1 d];exact f e (by simp)
       .rw [Qe0]at D⊢
        exact D.grow (a:=e.rn) hh I λt L K=>(p t L K).trans hvv.symm
      .rw [Qa7 hvv]
       exact m λq h _=>by rw[Qe0]at h;simp at h;subst h;exact hvv
     .refine Z8 (by simpa using hh) ?_
      exact m λq h Q=>by rw[Qe0]at h;simp at h;subst h;exact absurd Q hh
   .have g:¬i+1<cs.length:=by simp at g;omega
    exact E c D.runs (λt=>hst.done (by omega) D t) (by omega) f
 .by_cases G:cs.length=0
  .exact .inl ⟨G,rfl⟩
  .exact .inr ⟨by omega,hst.start (by omega)⟩
theorem xD(ls:List (List Rect))(h:l∈ls):UR (Vd ls) l:=λr a=>⟨(Q0E ls _).2 ⟨l,h,r,a,.inl rfl⟩,(Q0E ls _).2 ⟨l,h,r,a,.inr rfl⟩⟩
theorem yu(l:List Rect){ls:List (List Rect)}(h:l∈ls):Grid (QY l []) (Vd ls) (Q8 l):=by
 have:=Grid.of (xs:=QY l []) (ys:=Vd ls) (a:=l) (b:=[]) (VF l .nil) (Q2B ls)
  (λr c=>⟨(ZC l _ _).2 (.inr ⟨r,c,.inl rfl⟩),(ZC l _ _).2 (.inr ⟨r,c,.inr rfl⟩)⟩) (λr c=>by cases c) (xD ls h) (λr c=>by cases c) (k:=λp q=>p||q) rfl
 have e:(λx y=>Q8 l x y||Q8 [] x y)=Q8 l:=by funext x y;simp[Q8]
 rwa [e]at this
theorem qM(hF:Q7<=F)(hl:l.length<=32768)(hpos:∀r∈l,r.L_<r.R_):GT F l=some (cn (Q8 l)):=by
 unfold GT;have a:=yu l (ls:=[l]) (by simp)
 have d:Wp [l]=l.length:=by simp[Wp]
 have b:=Q2A [l];refine Q4 (zc hF (by omega) (by simp)) ?_
 refine Q4 (cL hF a.rows a.step (by omega) (λy=>?_) (λy=>?_)) rfl
 .unfold qN
  exact Q4 (RV hF (by omega) hpos y) rfl
 .have:=(a.x y).spn_len
  have c:=Fw (l:=l);omega
theorem Q6T{α:Type}[Emb α](hF:Q7<=F){l:List α}{q:α->Option Bool}(p:α->Bool)(hl:l.length<=1000000000)(hq:∀r∈l,q r=some (p r)):∃i:Int,Wr F l q=some i/\(0<=i↔l.any p=true):=by
 unfold Q7 at hF;have b:∀(n i:Nat),i<=l.length->l.length-i<n->∃r:Int,Y3 (λagain (z:Int)=>Wi F l q again z) n (i:Int)=some r/\(0<=r↔(l.drop i).any p=true):=by
  intro n
  induction n with
  |zero=>intro i _ h;omega
  |succ n ih=>
   intro i j m;have e:Y3 (λagain (z:Int)=>Wi F l q again z) (n+1) (i:Int)=Wi F l q (Y3 (λagain (z:Int)=>Wi F l q again z) n) (i:Int):=rfl
   rw[e]
   by_cases h:i<l.length
   .rw [xV h]
    by_cases a:p (gl l i)=true
    .refine ⟨i,?_,by rw[a];simp⟩
     unfold Wi;refine U3 (WX h) ?_
     refine Z4 (k:=?_);exact Q4 (hq _ (J9 h)) (U3 a rfl)
    .have a:p (gl l i)=false:=by simpa using a
     obtain⟨r,f,c⟩:=ih (i+1) h (by omega);refine⟨r,?_,by rw[c,a];simp⟩
     unfold Wi;refine U3 (WX h) ?_
     refine Z4 (k:=?_);refine Q4 (hq _ (J9 h)) (Z8 a ?_)
     refine Z4 (k:=?_);exact f
   .have:i=l.length:=by omega
    subst this;refine⟨-1,?_,by simp⟩
    unfold Wi;exact Z8 (VV _) rfl
 obtain⟨r,g,d⟩:=b F 0 (Qc2 _) (by omega);exact⟨r,g,by simpa using d⟩
theorem Jf{α:Type}[Emb α](hF:Q7<=F){l:List α}{q:α->Option Bool}(p:α->Bool)(hl:l.length<=1000000000)(hq:∀r∈l,q r=some (p r)):ZN F l q=some (l.any p):=by
 obtain⟨i,a,b⟩:=Q6T hF p hl hq;unfold ZN
 refine Q4 a ?_;congr 1
 rw[Qd0, <-b,Qj5]
theorem ct(F:Nat)(r:Rect):Bc F r=some (QS r):=by
 unfold Bc;rw[Ys (WQ F),Ys (WQ F),Ys (WQ F),Ys (WQ F),Ys (WQ F)]
 rfl
theorem Vw(hF:Q7<=F)(a:Re_):Wa F a=some (Qr a.t_):=by
 obtain⟨l⟩:=a;simp only
 unfold Wa;have b:=hF
 unfold Q7 at hF;refine Z9 (λh=>?_) (λh=>?_)
 .have h:120<l.length:=by simp at h;omega
  rw[Gy λd=>by have:=d.1;omega];rfl
 .have h:l.length<=120:=by simp at h;omega
  refine Q4 (Jf (α:=Rect) b (λr=> !QS r) (by simp only;omega) (λr _=>by unfold qO;rw[ct];rfl)) ?_;unfold RU
  refine Z9 (λe=>?_) (λe=>?_)
  .rw [Gy λd=>?_]
   simp only[Qd3]at e;obtain⟨r,c,f⟩:=e
   rw[d.2.1 r c]at f;cases f
  .have g:∀ r ∈ l,QS r=true:=by
    intro r c;have:=Qf0.1 e r c
    simpa using this
   refine Q4 (qM b (by simp only;omega) (λr c=>((Wc r).1 (g r c)).2.1)) ?_;refine Q4 (Q6Y b (by unfold Y6;simp only;omega)) ?_
   simp only
   by_cases hc:cn (Q8 l)=l
   .rw [Qa5 hc,WN ⟨h,g,(Gl l).2 hc⟩]
   .rw [Qa7 hc,Gy λd=>hc ((Gl l).1 d.2.2)]
def Yk{α:Type}(p:α->Bool)(l:List α):Int:=if l.any p then(l.findIdx p:Int)else -1
theorem vP{α:Type}[Emb α]{l:List α}{p:α->Bool}(h:i<l.length)(hb:∀j,j<i->p (gl l j)=false)(hi:p (gl l i)=true):l.findIdx p=i:=by
 induction l generalizing i with
 |nil=>simp at h
 |cons a l ih=>
  rw[List.findIdx_cons]
  cases i with
  |zero=>
   have:p a=true:=hi
   rw[this];rfl
  |succ i=>
   have b:p a=false:=hb 0 (by omega);rw[b]
   have:=ih (i:=i) (by simpa using h) (λj c=>hb (j+1) (by omega)) hi
   simp[this]
theorem FN{α:Type}[Emb α]{l:List α}{p:α->Bool}(h:∀j,j<l.length->p (gl l j)=false):l.any p=false:=by
 rw[Qf0];intro x b
 obtain⟨j,a,rfl⟩:=Qc3 b;have:=h j a
 rw[y7 a]at this;simpa using this
theorem jk{α:Type}[Emb α](hF:Q7<=F){l:List α}{q:α->Option Bool}(p:α->Bool)(hl:l.length<=1000000000)(hq:∀r∈l,q r=some (p r)):Wr F l q=some (Yk p l):=by
 unfold Q7 at hF;unfold Wr
 refine Qa (λz:Int=>∃i:Nat,z=i/\i<=l.length/\∀j,j<i->p (gl l j)=false) (λz=>l.length-z.toNat) (λd z f g=>?_) ⟨0,rfl,by omega,λj m=>by omega⟩ (by simp;omega);obtain⟨i,rfl,n,b⟩:=f
 unfold Wi;refine Z9 (λh=>?_) (λh=>?_)
 .have h:i<l.length:=by simpa using h
  refine Z4 (k:=?_);refine Q4 (hq _ (J9 h)) ?_
  simp only[Qa3];refine Z9 (λa=>?_) (λa=>?_)
  .have c:l.any p=true:=Qd3.2 ⟨_,J9 h,a⟩
   rw[Yk,Qa2 c,vP h b a]
  .refine Z4 (k:=?_)
   refine g _ ⟨i+1,by omega,h,λj m=>?_⟩ (by omega);rcases Qc8 j i with e|e
   .exact b j e
   .have:j=i:=by omega
    subst this;exact a
 .have h:¬i<l.length:=by simpa using h
  have:i=l.length:=by omega
  subst this;have c:=FN b
  rw[Yk,c];rfl
theorem Q7b(hF:Q7<=F){l:List A2_}{q:A2_->Option Bool}(p:A2_->Bool)(hl:l.length<=1000000000)(hq:∀r∈l,q r=some (p r)):MV F l q=some (l.filter λr=> !p r):=by
 have B:=hF;unfold Q7 at hF
 unfold MV;refine Q4 (jk (α:=A2_) B p hl hq) ?_
 by_cases g:l.any p=true
 .obtain ⟨x,n,A⟩:=Qd3.1 g
  have e:l.findIdx p<l.length:=Qm0 ⟨x,n,A⟩;have y:p (gl l (l.findIdx p))=true:=by rw[y7 e];exact Qr4 (w:=e)
  have t:∀j,j<l.findIdx p->p (gl l j)=false:=by
   intro j s;rw[y7 (by omega)]
   simpa using Qw0 s
  rw[Yk,Qa2 g];refine Z8 (by simp) ?_
  refine Z4 (k:=?_);generalize l.findIdx p=i0 at *
  have E:(l.take (i0+1)).filter (λr=> !p r)=l.take i0:=by
   rw[QB e,Qg3];have D:(l.take i0).filter (λr=> !p r)=l.take i0:=by
    rw[Qm1];intro x n
    obtain⟨j,s,rfl⟩:=Qc3 n;have C : j<i0:=by simp at s;omega
    have:=t j C
    rw[y7 (by omega)]at this;simp[this]
   rw[D];simp[y]
  refine Qa (λz:Int×Int×List A2_=>∃(i j:Nat) (a:List A2_),z=((i:Int),(j:Int),a)/\i<j/\j<=l.length/\a.length=l.length/\(∀m,j<=m->gl a m=gl l m)/\a.take i=(l.take j).filter λr=> !p r)
   (λz=>l.length-z.2.1.toNat) (λv z H u=>?_) ⟨i0,i0+1,l,rfl,by omega,by omega,rfl,λ_ _=>rfl,E.symm⟩ (by simp only;omega)
  obtain⟨i,j,a,rfl,I,s,c,d,f⟩:=H;simp only at u⊢
  unfold jr;rw[c]
  refine Z9 (λh=>?_) (λh=>?_)
  .have h:j<l.length:=by simpa using h
   refine Z4 (k:=?_);simp only[Qa3]
   rw[d j (Qb3 _)];refine Q4 (hq _ (J9 h)) ?_
   have o:(l.take (j+1)).filter (λr=> !p r)=(l.take j).filter (λr=> !p r)++(if p (gl l j)=true then[]else[gl l j]):=by
    rw[QB h,Qg3]
    by_cases b:p (gl l j)=true
    .rw [Qa2 b];simp[b]
    .rw [Qa1 b];simp[b]
   refine Z9 (λb=>?_) (λb=>?_)
   .have b:p (gl l j)=false:=by simpa using b
    refine Z4 (k:=?_);refine Z4 (k:=?_)
    unfold PS;refine Z4 (k:=?_)
    refine u _ ⟨i+1,j+1,a.set i (gl l j),rfl,by omega,by omega,by simp[c],λm G=>?_,?_⟩ (by simp only;omega)
    .rw [XI _ _ _ _ (by omega),Qa1 (by omega)];exact d m (by omega)
    .rw [o,Qa1 (by rw[b];simp), <-f,QB (by simp;omega),LI _ _ _ _ (Qb3 _),XI _ _ _ _ (by omega),Qa2 rfl]
   .have b:p (gl l j)=true:=by simpa using b
    unfold PS;refine Z4 (k:=?_)
    refine u _ ⟨i,j+1,a,rfl,by omega,by omega,c,λm G=>d m (by omega),?_⟩ (by simp only;omega);rw[o,Qa2 b,Qi2,f]
  .have h:¬j<l.length:=by simpa using h
   unfold qe;simp only[Qa3,xH,c]
   refine Z4 (k:=?_);refine Z4 (k:=?_)
   rw[LJ _ _ _ (by omega),f,Qj6 (by omega)]
 .have g:l.any p=false:=by simpa using g
  rw[Yk,g];refine U3 rfl ?_
  congr 1
  symm
  rw[Qm1];intro x n
  have:=Qf0.1 g x n
  simpa using this
theorem jz(hl:l.length<=Y6):PV F l=some l:=by
 unfold PV
 cases h:l with
 |nil=>
  show XK _ _=_;unfold XK
  exact @Q9 _ _ (Classical.propDecidable _) _ _ rfl rfl
 |cons a l' =>
  have:(a::l').length=l'.length+1:=rfl
  show(gd _ _)=_;rw[<-h]
  refine Z4 (k:=?_);simp
noncomputable def Yh(f:A2_):Int:=
 if f.N_<1\/1073741824<f.N_ then 2 else if f.k_<0\/15<f.k_ then 14 else if f.F_<0\/f.u_<=f.F_\/36865<f.u_ then 9
 else if f.g_.t_.length=0\/Qr f.g_.t_=false then 7 else 0
theorem bB(hF:Q7<=F)(f:A2_):Da F f=some (Yh f):=by
 have e:∀b:Bool,(b=true↔f.g_.t_.length=0\/Qr f.g_.t_=false)->Xk F b=some (if f.g_.t_.length=0\/Qr f.g_.t_=false then 7 else 0):=by
  intro b a;unfold Xk
  refine Z9 (λh=>by rw[Qa2 (a.1 h)]) (λh=>by rw[Qa1 λc=>by rw[a.2 c]at h;cases h])
 have d:∀b:Bool,(b=true↔f.F_<0\/f.u_<=f.F_\/36865<f.u_)->Ju F f b=some (if f.F_<0\/f.u_<=f.F_\/36865<f.u_ then 9 else if f.g_.t_.length=0\/Qr f.g_.t_=false then 7 else 0):=by
  intro b a;unfold Ju
  refine Z9 (λh=>by rw[Qa2 (a.1 h)]) (λh=>?_);rw[Qa1 λc=>by rw[a.2 c]at h;cases h]
  refine Q4 (Dg hF _) ?_;rw[Yg (Xk F)]
  exact e _ (by simp[or_comm])
 have g:∀b:Bool,(b=true↔f.k_<0\/15<f.k_)->Jv F f b=some (if f.k_<0\/15<f.k_ then 14 else if f.F_<0\/f.u_<=f.F_\/36865<f.u_ then 9 else if f.g_.t_.length=0\/Qr f.g_.t_=false then 7 else 0):=by
  intro b a;unfold Jv
  refine Z9 (λh=>by rw[Qa2 (a.1 h)]) (λh=>?_);rw[Qa1 λc=>by rw[a.2 c]at h;cases h]
  rw[Yg (Ju F f),Yg (Ju F f)];exact d _ (by simp)
 unfold Da SI Yh;rw[Yg (λb=>br b (some (2:Int)) (br (decide (f.k_<(0:Int))) (Jv F f true) (Jv F f (decide ((15:Int)<f.k_)))))]
 refine Z9 (λh=>by rw[Qa2 (by simpa using h)]) (λh=>?_);rw[Qa1 (by simpa using h),Yg (Jv F f)]
 exact g _ (by simp)
theorem Z2V(hF:Q7<=F)(f:A2_):CC F f=some (Yh f):=by
 have e:∀b:Bool,(b=true↔f.g_.t_.length=0\/Qr f.g_.t_=false)->DU F b=some (if f.g_.t_.length=0\/Qr f.g_.t_=false then 7 else 0):=by
  intro b c;unfold DU
  refine Z9 (λh=>by rw[Qa2 (c.1 h)]) (λh=>by rw[Qa1 λd=>by rw[c.2 d]at h;cases h])
 have g:∀b:Bool,(b=true↔f.F_<0\/f.u_<=f.F_\/36865<f.u_)->JH F f b=some (if f.F_<0\/f.u_<=f.F_\/36865<f.u_ then 9 else if f.g_.t_.length=0\/Qr f.g_.t_=false then 7 else 0):=by
  intro b c;unfold JH
  refine Z9 (λh=>by rw[Qa2 (c.1 h)]) (λh=>?_);rw[Qa1 λd=>by rw[c.2 d]at h;cases h]
  refine Z9 (λa=>?_) (λa=>?_)
  .have a:f.g_.t_.length=0:=by simp at a;simp[a]
   exact e _ (by simp[a])
  .have a:f.g_.t_.length≠0:=by simp at a;simpa using a
   exact Q4 (Vw hF _) (e _ (by simp[a]))
 have i:∀b:Bool,(b=true↔f.k_<0\/15<f.k_)->JI F f b=some (if f.k_<0\/15<f.k_ then 14 else if f.F_<0\/f.u_<=f.F_\/36865<f.u_ then 9 else if f.g_.t_.length=0\/Qr f.g_.t_=false then 7 else 0):=by
  intro b c;unfold JI
  refine Z9 (λh=>by rw[Qa2 (c.1 h)]) (λh=>?_);rw[Qa1 λd=>by rw[c.2 d]at h;cases h]
  rw[Yg (JH F f),Yg (JH F f)];exact g _ (by simp)
 unfold CC CB Yh;rw[Yg (λb=>br b (some (2:Int)) (br (decide (f.k_<(0:Int))) (JI F f true) (JI F f (decide ((15:Int)<f.k_)))))]
 refine Z9 (λh=>by rw[Qa2 (by simpa using h)]) (λh=>?_);rw[Qa1 (by simpa using h),Yg (JI F f)]
 exact i _ (by simp)
noncomputable def WI:Option Int->List A2_->Int
 |_,[]=>0
 |p,f::l=>if Yh f≠0 then Yh f else if p.any (λn=>decide (f.N_<=n))then 3 else WI (some f.N_) l
noncomputable def Zp(l:List A2_):Int:=if 60<l.length then 1 else WI none l
def VU(l:List A2_)(i:Nat):Option Int:=if i=0 then none else some (gl l (i-1)).N_
theorem Q0o(l:List A2_)(i:Nat):VU l (i+1)=some (gl l i).N_:=by simp[VU]
theorem Q9B(hF:Q7<=F)(l:List A2_):SJ F l=some (Zp l):=by
 have m:=hF;unfold Q7 at hF
 unfold SJ Zp;refine Z9 (λh=>?_) (λh=>?_)
 .have h:60<l.length:=by simp at h;omega
  rw[Qa2 h]
 .have h:¬60<l.length:=by simp at h;omega
  rw[Qa1 h];refine Qa (λz:Int=>∃i:Nat,z=i/\i<=l.length/\WI none l=WI (VU l i) (l.drop i)) (λz=>l.length-z.toNat) (λd z r q=>?_) ⟨0,rfl,by omega,rfl⟩ (by simp;omega)
  obtain⟨i,rfl,s,a⟩:=r;unfold bD
  refine Z9 (λc=>?_) (λc=>?_)
  .have c:i<l.length:=by simpa using c
   rw[Yc c,WI]at a;refine Z4 (k:=?_)
   simp only[Qa3];refine Q4 (bB m _) ?_
   refine Z9 (λe=>?_) (λe=>?_)
   .have e:Yh (gl l i)≠0:=by simpa using e
    rw[a,Qa2 e]
   .have e:Yh (gl l i)=0:=by simpa using e
    rw[Qa1 (by simp[e])]at a;have o:∀b:Bool,b=(VU l i).any (λn=>decide ((gl l i).N_<=n))->Db F i d b=some (WI none l):=by
     intro b g;unfold Db
     refine Z9 (λj=>?_) (λj=>?_)
     .rw [a,Qa2 (g ▸ j)]
     .rw [Qa1 (by rw[<-g,j];simp)]at a
      refine Z4 (k:=?_);refine q _ ⟨i+1,by omega,c,?_⟩ (by omega)
      rw[a,Q0o]
    refine Z9 (λf=>?_) (λf=>?_)
    .have f:0<i:=by simpa using f
     refine Z4 (k:=?_);refine Z4 (k:=?_)
     have p:((i:Int)-1).toNat=i-1:=by omega
     rw[p];exact o _ (by simp[VU,show i≠0 from by omega])
    .have f:i=0:=by simp at f;omega
     exact o _ (by simp[VU,f])
  .have c:¬i<l.length:=by simpa using c
   rw[Qf1 (by omega)]at a;rw[a];rfl
theorem Z3e(hF:Q7<=F)(l:List A2_):CH F l=some (Zp l):=by
 have m:=hF;unfold Q7 at hF
 unfold CH Zp;refine Z9 (λh=>?_) (λh=>?_)
 .have h:60<l.length:=by simp at h;omega
  rw[Qa2 h]
 .have h:¬60<l.length:=by simp at h;omega
  rw[Qa1 h];refine Qa (λz:Int=>∃i:Nat,z=i/\i<=l.length/\WI none l=WI (VU l i) (l.drop i)) (λz=>l.length-z.toNat) (λd z r q=>?_) ⟨0,rfl,by omega,rfl⟩ (by simp;omega)
  obtain⟨i,rfl,s,a⟩:=r;unfold Q1S
  refine Z9 (λc=>?_) (λc=>?_)
  .have c:i<l.length:=by simpa using c
   rw[Yc c,WI]at a;refine Z4 (k:=?_)
   simp only[Qa3];refine Q4 (Z2V m _) ?_
   refine Z9 (λe=>?_) (λe=>?_)
   .have e:Yh (gl l i)≠0:=by simpa using e
    rw[a,Qa2 e]
   .have e:Yh (gl l i)=0:=by simpa using e
    rw[Qa1 (by simp[e])]at a;have o:∀b:Bool,b=(VU l i).any (λn=>decide ((gl l i).N_<=n))->Ha F i d b=some (WI none l):=by
     intro b g;unfold Ha
     refine Z9 (λj=>?_) (λj=>?_)
     .rw [a,Qa2 (g ▸ j)]
     .rw [Qa1 (by rw[<-g,j];simp)]at a
      refine Z4 (k:=?_);refine q _ ⟨i+1,by omega,c,?_⟩ (by omega)
      rw[a,Q0o]
    refine Z9 (λf=>?_) (λf=>?_)
    .have f:0<i:=by simpa using f
     refine Z4 (k:=?_);refine Z4 (k:=?_)
     have p:((i:Int)-1).toNat=i-1:=by omega
     rw[p];exact o _ (by simp[VU,show i≠0 from by omega])
    .have f:i=0:=by simp at f;omega
     exact o _ (by simp[VU,f])
  .have c:¬i<l.length:=by simpa using c
   rw[Qf1 (by omega)]at a;rw[a];rfl
structure VL (l:List A2_):Prop where
 len:l.length<=60
 one:∀f∈l,Yh f=0
 asc:l.Pairwise λf g=>f.N_<g.N_
theorem Q2W:∀(l:List A2_) (p:Option Int),WI p l=0↔(∀f∈l,Yh f=0)/\l.Pairwise (λf g=>f.N_<g.N_)/\∀n,p=some n->∀f∈l,n<f.N_
 |[],p=>by simp[WI]
 |f::l,p=>by
  have k:=Q2W l (some f.N_);unfold WI
  by_cases h1:Yh f=0
  .rw [Qa1 (by simp[h1])]
   by_cases e:p.any (λn=>decide (f.N_<=n))=true
   .rw [Qa2 e]
    constructor
    .intro h;cases h
    .rintro ⟨_,_,h⟩
     cases p with
     |none=>simp at e
     |some n=>
      have e:f.N_<=n:=by simpa using e
      have:=h n rfl f (by simp)
      omega
   .rw [Qa1 e,k]
    constructor
    .rintro ⟨a,b,c⟩
     refine⟨λg d=>?_,Qd5.2 ⟨λg d=>c _ rfl g d,b⟩,λn i g d=>?_⟩
     .rcases Qe1.1 d with rfl|d
      .exact h1
      .exact a g d
     .subst i
      have e:n<f.N_:=by simpa using e
      rcases Qe1.1 d with rfl|d
      .exact e
      .have:=c _ rfl g d;omega
    .rintro ⟨a,b,c⟩
     obtain⟨m,j⟩:=Qd5.1 b;exact⟨λg d=>a g (by simp[d]),j,λn i g d=>by cases i;exact m g d⟩
  .rw [Qa2 h1]
   constructor
   .intro h;exact absurd h h1
   .rintro ⟨a,_,_⟩;exact absurd (a f (by simp)) h1
theorem Hz(l:List A2_):Zp l=0↔VL l:=by
 unfold Zp
 by_cases h:60<l.length
 .rw [Qa2 h]
  exact⟨λh=>(by cases h),λc=>by have:=c.len;omega⟩
 .rw [Qa1 h,Q2W]
  exact⟨λ⟨a,b,_⟩=>⟨by omega,a,b⟩,λc=>⟨c.one,c.asc,λn d=>by cases d⟩⟩
theorem yw(f:A2_):Yh f=0↔1<=f.N_/\f.N_<=1073741824/\0<=f.k_/\f.k_<=15/\0<=f.F_/\f.F_<f.u_/\f.u_<=36865/\f.g_.t_.length≠0/\K7 f.g_.t_:=by
 unfold Yh;rw[<-Wh]
 by_cases h1:f.N_<1\/1073741824<f.N_
 .rw [Qa2 h1];simp;omega
 .rw [Qa1 h1]
  by_cases h2:f.k_<0\/15<f.k_
  .rw [Qa2 h2];simp;omega
  .rw [Qa1 h2]
   by_cases h3:f.F_<0\/f.u_<=f.F_\/36865<f.u_
   .rw [Qa2 h3];simp;omega
   .rw [Qa1 h3]
    by_cases a:f.g_.t_.length=0\/Qr f.g_.t_=false
    .rw [Qa2 a]
     constructor
     .intro h;cases h
     .rintro ⟨_,_,_,_,_,_,_,c,b⟩
      rcases a with a|a
      .exact absurd a c
      .rw [b]at a;cases a
    .rw [Qa1 a]
     refine⟨λ_=>?_,λ_=>rfl⟩;have c:f.g_.t_.length≠0:=λh=>a (.inl h)
     have b:Qr f.g_.t_=true:=by
      cases hv:Qr f.g_.t_ with
      |true=>rfl
      |false=>exact absurd (.inr hv) a
     refine⟨by omega,by omega,by omega,by omega,by omega,by omega,by omega,c,b⟩
theorem Z2Z{f:A2_}(h:f.g_.t_.length<=Y6):CE F f=some f:=by
 unfold CE;exact Q4 (jz h) rfl
theorem VL.rlen{l:List A2_}(h:VL l){f:A2_}(hf:f∈l):f.g_.t_.length<=120:=((yw f).1 (h.one f hf)).2.2.2.2.2.2.2.2.1
theorem Z3b(hF:Q7<=F){l:List A2_}(h:VL l):CF F l=some l:=by
 unfold Q7 at hF;have c:=h.len
 unfold CF;refine Qa (λz:Int×List A2_=>∃i:Nat,z=((i:Int),l.take i)/\i<=l.length) (λz=>l.length-z.1.toNat) (λb z e d=>?_) ⟨0,rfl,by omega⟩ (by simp only;omega)
 obtain⟨i,rfl,f⟩:=e;simp only at d⊢
 unfold Q1M;refine Z9 (λa=>?_) (λa=>?_)
 .have a:i<l.length:=by simpa using a
  refine Z4 (k:=?_);simp only[Qa3]
  refine Q4 (Z2Z (by have:=h.rlen (J9 a);unfold Y6;omega)) ?_;refine Z4 (k:=?_)
  refine Z4 (k:=?_);exact d _ ⟨i+1,by rw[QB a];rfl,a⟩ (by simp only;omega)
 .have a:¬i<l.length:=by simpa using a
  unfold vU;rw[Qj6 (by omega)]
def GA(f:A2_)(d:Int):Bool:=decide (f.F_<=d)&&decide (d<f.u_)
theorem Q1L(F:Nat)(f:A2_)(d:Int):DT F f d=some (GA f d):=by
 unfold DT;rw[Ys (CA F)];rfl
theorem Z2X(hF:Q7<=F)(l:List A2_)(d:Int):CD F l d=some (if Zp l≠0 then Zp l else if d<0\/36864<d then 9 else 0):=by
 unfold CD;refine Q4 (Z3e hF l) ?_
 refine Z9 (λh=>?_) (λh=>?_)
 .have h:Zp l≠0:=by simpa using h
  rw[Qa2 h]
 .have h:Zp l=0:=by simpa using h
  rw[Qa1 (by simp[h]),Yg (DV F)];unfold DV
  refine Z9 (λh=>?_) (λh=>?_)
  .rw [Qa2 (by simpa using h)]
  .rw [Qa1 (by simpa using h)]
theorem Q1Q(hF:Q7<=F)(l:List A2_)(d:Int):DZ F l d=some (if Zp l≠0 then([],Zp l)else if d<0\/36864<d then([],9)else(l.filter λf=>GA f d,0)):=by
 unfold DZ;refine Q4 (Z2X hF l d) ?_
 by_cases h:Zp l=0
 .simp only[h,ne_eq,not_true_eq_false,Qi0]
  by_cases h2:d<0\/36864<d
  .simp only[h2,Qi8]
   exact U3 rfl rfl
  .simp only[h2,Qi0]
   refine Z8 rfl ?_;have b:=(Hz l).1 h
   refine Q4 (Z3b hF b) ?_;have a:=b.len
   refine Q4 (Q7b hF (λf=> !GA f d) (by omega) (λf _=>by unfold vW;rw[Q1L];rfl)) ?_;simp
 .have e:(if Zp l≠0 then Zp l else if d<0\/36864<d then 9 else 0)=Zp l:=Qa2 h
  rw[e,Qa2 h];refine U3 (by simpa using h) rfl
def ZB(l:List A2_)(n:Int):Nat:=l.countP λf=>decide (f.N_<n)
theorem yI{l:List A2_}(h:l.Pairwise λf g=>f.N_<g.N_)(n:Int):ZB l n<=l.length/\(∀j,j<ZB l n->(gl l j).N_<n)/\∀j,ZB l n<=j->j<l.length->n<=(gl l j).N_:=by
 induction l with
 |nil=>exact⟨Qb3 _,λj i=>by simp[ZB]at i,λj _ i=>by simp at i⟩
 |cons f l ih=>
  obtain⟨p,k⟩:=Qd5.1 h;obtain⟨a,b,c⟩:=ih k
  by_cases hf:f.N_<n
  .have e:ZB (f::l) n=ZB l n+1:=by simp[ZB,hf]
   rw[e];refine⟨by simp;exact a,λj i=>?_,λj i d=>?_⟩
   .cases j with
    |zero=>exact hf
    |succ j=>exact b j (by omega)
   .cases j with
    |zero=>omega
    |succ j=>exact c j (by omega) (by simpa using d)
  .have m:ZB l n=0:=by
    unfold ZB;rw[Qx0]
    intro g o;have:=p g o
    simp;omega
   have e:ZB (f::l) n=0:=by
    have:ZB (f::l) n=ZB l n:=by simp[ZB,hf]
    rw[this,m]
   rw[e];refine⟨Qc2 _,λj i=>by omega,λj _ d=>?_⟩
   cases j with
   |zero=>show n<=f.N_;omega
   |succ j=>exact c j (by omega) (by simpa using d)
structure TOk (t:Tape):Prop where
 at_:0<=t.at_
 len:t.l_.length<=400
theorem Z1U(a:Int)(h1:1<=n)(h2:n<=1099511627776):∃k,KT F a n=some k/\0<=k/\k<n:=by
 have c:=Int.tmod_lt_of_pos a (show 0<n by omega);have b:=Int.lt_tmod_of_pos a (show 0<n by omega)
 unfold KT;generalize a.tmod n=m at *
 by_cases h:m<0
 .refine ⟨m+n,?_,by omega,by omega⟩
  refine Z8 (by simp;omega) ?_;refine Z4 (k:=?_)
  refine U3 (by simpa using h) ?_;refine Z4 (k:=?_)
  rfl
 .refine ⟨m,?_,by omega,by omega⟩
  refine Z8 (by simp;omega) ?_;refine Z4 (k:=?_)
  exact Z8 (by simpa using h) rfl
theorem Qz(ht:TOk t)(h1:1<=n)(h2:n<=1099511627776):∃t' k,Qm F t n=some (t',k)/\TOk t' /\ 0<=k/\k<n:=by
 obtain⟨a,b⟩:=ht;unfold Qm
 by_cases h:(t.l_.length:Int)<=t.at_
 .exact ⟨t,0,U3 (by simpa using h) rfl,⟨a,b⟩,by omega,by omega⟩
 .obtain ⟨k,c,k1,k2⟩:=Z1U (F:=F) (gl t.l_ ((t.at_+1)-1).toNat) h1 h2
  refine⟨⟨t.l_,t.at_+1⟩,k,?_,⟨by simp only;omega,b⟩,k1,k2⟩;refine Z8 (by simpa using h) ?_
  refine Z4 (k:=?_);refine Z4 (k:=?_)
  refine Z4 (k:=?_);exact Q4 c rfl
theorem ZR(ht:TOk t){lo hi:Int}(h1:lo<=hi)(h0 : -1099511627<=lo)(h2:hi<=1099511627):∃t' k,Zn F t lo hi=some (t',k)/\TOk t' /\ lo<=k/\k<=hi:=by
 obtain⟨t',k,d,a,b,c⟩:=Qz (F:=F) ht (n:=(hi-lo)+1) (by omega) (by omega);refine⟨t',lo+k,?_,a,by omega,by omega⟩
 unfold Zn;refine Z4 (k:=?_)
 refine Z4 (k:=?_);refine Q4 d ?_
 refine Z4 (k:=?_);rfl
def QN(n:Int)(l:List Rect):Prop:=∀r∈l,0<=r.L_/\r.L_<r.R_/\r.R_<=n/\0<=r.w_/\r.w_<r.H_/\r.H_<=n
theorem QN.prop(h:QN n l)(hn:n<=16384):∀r∈l,QS r=true:=λr a=>(Wc r).2 (by have:=h r a;omega)
theorem QN.in(h:QN n l){x:Int}(hx:Q8 l x y=true):0<=x/\x<n/\0<=y/\y<n:=by
 obtain⟨r,a,b⟩:=Qd3.1 hx;rw[ZZ]at b
 have:=h r a
 omega
theorem Z2P{l:List (Rn (List Span))}(h:r∈flat l):∃b∈l,∃s∈b.v,r=⟨s.L_,b.lo,s.R_,b.hi⟩:=by
 obtain⟨b,d,a⟩:=Qc1.1 h;obtain⟨s,c,rfl⟩:=Qc7.1 a
 exact⟨b,d,s,c,rfl⟩
theorem YC.pos(h:YC l)(hr:r∈l):r.L_<r.R_/\r.w_<r.H_:=by
 obtain⟨b,d,rfl⟩:=h;obtain⟨c,a,s,e,rfl⟩:=Z2P hr
 exact⟨(d.sp c a).pos s e,d.runs.pos c a⟩
theorem Cf(hr:r∈l){x:Int}(h:r.has x y=true):Q8 l x y=true:=Qd3.2 ⟨r,hr,h⟩
theorem YC.box(h:YC l)(hn:∀x y,Q8 l x y=true->0<=x/\x<n/\0<=y/\y<n):QN n l:=by
 intro r c;obtain⟨e,d⟩:=h.pos c
 have a:=hn r.L_ r.w_ (Cf c ((ZZ _ _ _).2 (by omega)));have b:=hn (r.R_-1) (r.H_-1) (Cf c ((ZZ _ _ _).2 (by omega)))
 omega
theorem Q3g(hf:Fin S)(hn:∀x y,S x y=true->0<=x/\x<n/\0<=y/\y<n):QN n (cn S):=
 (US hf).box λx y h=>hn x y (by rwa [Yj hf]at h)
theorem Q3a:YC []:=⟨[],⟨.nil,λb a=>(Qg0 a).elim,λb a=>(Qg0 a).elim⟩,rfl⟩
theorem xJ(h1:r.L_<r.R_)(h2:r.w_<r.H_):YC [r]:=
 ⟨[⟨r.w_,r.H_,[⟨r.L_,r.R_⟩]⟩],⟨⟨λb a=>by rw[Qb1.1 a];exact h2,Qf4 _ _⟩,λb a=>by
  rw[Qb1.1 a];exact⟨λs c=>by rw[Qb1.1 c];exact h1,Qf4 _ _⟩,λb a=>by rw[Qb1.1 a];simp⟩,rfl⟩
theorem Q3f(n:Int):QN n []:=λr a=>(Qg0 a).elim
theorem K7.nil:K7 []:=⟨by simp,λr a=>(Qg0 a).elim,Q3a⟩
theorem yK(ht:TOk t)(h1:1<=n)(h2:n<=16384):∃t' r,KR F t n=some (t',r)/\TOk t' /\ QN n [r]:=by
 obtain⟨z,x,a,i,C,q⟩:=Qz (F:=F) ht (n:=n) (by omega) (by omega);obtain⟨p,y,d,h,s,B⟩:=Qz (F:=F) i (n:=n) (by omega) (by omega)
 obtain⟨m,u,j,c,o,l⟩:=Qz (F:=F) h (n:=n-x) (by omega) (by omega);obtain⟨b,v,e,g,A,w⟩:=Qz (F:=F) c (n:=n-y) (by omega) (by omega)
 refine⟨b,⟨x,y,(x+1)+u,(y+1)+v⟩,?_,g,λr f=>?_⟩
 .unfold KR
  refine Q4 a ?_;refine Q4 d ?_
  simp only
  refine Z4 (k:=?_);refine Z4 (k:=?_)
  refine Q4 j ?_;simp only
  refine Z4 (k:=?_);refine Z4 (k:=?_)
  refine Z4 (k:=?_);refine Q4 e ?_
  simp only
  refine Z4 (k:=?_);rfl
 .rw [Qb1.1 f]
  simp only
  omega
structure RegT (n:Int) (a:Re_):Prop where
 box:QN n a.t_
 val:K7 a.t_
theorem Q0R(hF:Q7<=F)(ht:TOk t)(h1:1<=n)(h2:n<=16384)(m1:0<=most)(m2:most<=100):∃t' a R,Xx F t n most=some (t',a)/\TOk t' /\ RegT n a/\(List.length (α:=Rect) R:Int)<=most/\Q8 a.t_=Q8 R:=by
 have o:=hF;unfold Q7 at hF
 obtain⟨D,c,C,B,H,I⟩:=Qz (F:=F) ht (n:=most+1) (by omega) (by omega);have i:∀(k f:Nat) (t:Tape) (l:List Rect),k<f->TOk t->QN n l->l.length+k<=100->(l.length:Int)+k<=most->∃t' a R,Y3 (λagain (z:Int×List Int×Int×List Rect)=>Xw F n again z.1 z.2.1 z.2.2.1 z.2.2.2) f ((k:Int),t.l_,t.at_,l)=some (t',a)/\TOk t' /\ RegT n a/\(List.length (α:=Rect) R:Int)<=most/\Q8 a.t_=Q8 R:=by
  intro k
  induction k with
  |zero=>
   intro f t l u ht g s A
   cases f with
   |zero=>omega
   |succ f=>
    have m:=Q9J o (l:=l) (by omega) (g.prop h2);refine⟨⟨t.l_,t.at_⟩,(if 120<(cn (Q8 l)).length then((⟨[]⟩:Re_),(1:Int))else(⟨cn (Q8 l)⟩,0)).1,(if 120<(cn (Q8 l)).length then[]else l),?_,ht,?_⟩
    .show Xw F n _ 0 t.l_ t.at_ l=_
     unfold Xw;refine Z8 rfl ?_
     unfold yJ;exact Q4 m rfl
    .split
     .exact ⟨⟨Q3f _,K7.nil⟩,by simp;omega,rfl⟩
     .rename_i p
      have b:QN n (cn (Q8 l)):=Q3g (QX l) λx y h=>g.in h
      exact⟨⟨b,by simp only;omega,b.prop h2,US (QX l)⟩,by omega,by funext x y;exact Yj (QX l) x y⟩
  |succ k ih=>
   intro f t l u ht g s A
   cases f with
   |zero=>omega
   |succ f=>
    obtain⟨t',r,w,E,G⟩:=yK (F:=F) ht h1 h2;obtain⟨v,a,Q,e,j,b⟩:=ih f t' (l++[r]) (by omega) E (λq d=>by
     rcases Qb2.1 d with d|d
     .exact g q d
     .exact G q d) (by simp;omega) (by simp;omega)
    refine⟨v,a,Q,?_,j,b⟩;show Xw F n _ ((k+1:Nat):Int) t.l_ t.at_ l=_
    unfold Xw;refine U3 (by simp) ?_
    refine Q4 w ?_;refine Z4 (k:=?_)
    refine Z4 (k:=?_);have:((k+1:Nat):Int)-1=(k:Int):=by omega
    rw[this];exact e
 obtain⟨t',a,Q,e,j,b⟩:=i c.toNat F D [] (by omega) B (Q3f _) (by simp;omega) (by simp;omega);refine⟨t',a,Q,?_,j,b⟩
 unfold Xx;refine Z4 (k:=?_)
 refine Q4 C ?_;have:(c.toNat:Int)=c:=by omega
 rw[this]at e;exact e
theorem Q0T(hF:Q7<=F)(ht:TOk t)(h1:1<=n)(h2:n<=16384)(m1:0<=most)(m2:most<=100):∃t' a,Xx F t n most=some (t',a)/\TOk t' /\ RegT n a:=by
 obtain⟨t',a,_,e,o,h,_⟩:=Q0R hF ht h1 h2 m1 m2;exact⟨t',a,e,o,h⟩
theorem Z1A(hF:Q7<=F)(ht:TOk t)(h1:1<=n)(h2:n<=16384)(m1:1<=most)(m2:most<=100):∃t' a R,KS F t n most=some (t',a)/\TOk t' /\ RegT n a/\a.t_.length≠0/\(List.length (α:=Rect) R:Int)<=most/\Q8 a.t_=Q8 R:=by
 obtain⟨f,a,Q,c,e,i,k⟩:=Q0R hF ht h1 h2 (by omega) m2;unfold KS
 by_cases h:a.t_.length=0
 .obtain ⟨d,r,l,g,b⟩:=yK (F:=F) e h1 h2
  have j:=b r (by simp);refine⟨⟨d.l_,d.at_⟩,⟨[r]⟩,[r],?_,g,⟨b,by simp,b.prop h2,xJ (by omega) (by omega)⟩,by simp,by simp;omega,rfl⟩
  refine Q4 c ?_;refine U3 (by simp only[h];rfl) ?_
  exact Q4 l rfl
 .refine ⟨⟨f.l_,f.at_⟩,⟨a.t_⟩,Q,?_,e,i,h,k⟩
  refine Q4 c ?_;exact Z8 (by simpa using h) rfl
theorem Z1C(hF:Q7<=F)(ht:TOk t)(h1:1<=n)(h2:n<=16384)(m1:0<=most)(m2:most<=100):∃t' a,KS F t n most=some (t',a)/\TOk t' /\ RegT n a/\a.t_.length≠0:=by
 obtain⟨f,a,c,e,i⟩:=Q0T hF ht h1 h2 m1 m2;unfold KS
 by_cases h:a.t_.length=0
 .obtain ⟨d,r,k,g,b⟩:=yK (F:=F) e h1 h2
  have j:=b r (by simp);refine⟨⟨d.l_,d.at_⟩,⟨[r]⟩,?_,g,⟨b,by simp,b.prop h2,xJ (by omega) (by omega)⟩,by simp⟩
  refine Q4 c ?_;refine U3 (by simp only[h];rfl) ?_
  exact Q4 k rfl
 .refine ⟨⟨f.l_,f.at_⟩,⟨a.t_⟩,?_,e,i,h⟩
  refine Q4 c ?_;exact Z8 (by simpa using h) rfl
structure FeaT (f:A2_):Prop where
 kind:0<=f.k_/\f.k_<=15
 F_:0<=f.F_/\f.F_<20
 u_:f.F_<f.u_/\f.u_<=f.F_+30
 reg:RegT 9 f.g_
 ne:f.g_.t_.length≠0
theorem Z1I(hF:Q7<=F)(ht:TOk t)(n:Int):∃t' f,TQ F t n=some (t',f)/\TOk t' /\ FeaT f/\f.N_=n:=by
 obtain⟨x,a,e,o,u,z⟩:=Qz (F:=F) ht (n:=20) (by omega) (by omega);obtain⟨v,b,i,p,w,y⟩:=Qz (F:=F) o (n:=16) (by omega) (by omega)
 obtain⟨s,c,q,h,A,B⟩:=ZR (F:=F) p (lo:=1) (hi:=30) (by omega) (by omega) (by omega);obtain⟨g,r,j,m,l,d⟩:=Z1C hF h (n:=9) (most:=2) (by omega) (by omega) (by omega) (by omega)
 refine⟨g,⟨n,b,a,a+c,r⟩,?_,m,⟨by simp only;omega,by simp only;omega,by simp only;omega,l,d⟩,rfl⟩;unfold TQ
 refine Q4 e ?_;refine Q4 i ?_
 refine Q4 q ?_;simp only
 refine Z4 (k:=?_);exact Q4 j rfl
theorem FeaT.one{f:A2_}(h:FeaT f)(h1:1<=f.N_)(h2:f.N_<=1073741824):Yh f=0:=
 (yw f).2 ⟨h1,h2,h.kind.1,h.kind.2,h.F_.1,h.u_.1,by have:=h.F_;have:=h.u_;omega,h.ne,h.reg.val⟩
def JD(l:List A2_)(f:A2_):List A2_:=l.take (ZB l f.N_)++[f]++l.drop (ZB l f.N_)
noncomputable def Gn(l:List A2_)(f:A2_):List A2_×Int:=
 if Zp l≠0 then([],Zp l)else if Yh f≠0 then([],Yh f)else if ZB l f.N_<l.length/\(gl l (ZB l f.N_)).N_=f.N_ then([],6)
 else if l.length=60 then([],1)else(JD l f,0)
theorem bE(hF:Q7<=F)(l:List A2_)(f:A2_):SL F l f=some (Gn l f):=by
 have n:=hF;unfold Q7 at hF
 unfold SL Gn;refine Q4 (Q9B n l) ?_
 by_cases h:Zp l=0
 .refine Z8 (by simp[h]) ?_
  rw[Qa1 (by simp[h])];refine Q4 (bB n f) ?_
  by_cases h1:Yh f=0
  .refine Z8 (by simp[h1]) ?_
   rw[Qa1 (by simp[h1])];have p:=(Hz l).1 h
   have q:=p.len;obtain⟨a,b,c⟩:=yI p.asc f.N_
   unfold JD;generalize ZB l f.N_=k at *
   refine Qa (λz:Int=>∃i:Nat,z=i/\i<=k) (λz=>l.length-z.toNat) (λo z u t=>?_) ⟨0,rfl,by omega⟩ (by simp;omega);obtain⟨i,rfl,v⟩:=u
   have j:i=k->SK F l f (i:Int)=some (if k<l.length/\(gl l k).N_=f.N_ then([],6)else if l.length=60 then([],1)else(l.take k++[f]++l.drop k,0)):=by
    rintro rfl;unfold SK
    have m:∀b:Bool,(b=true↔i<l.length/\(gl l i).N_=f.N_)->Dc F l f (i:Int) b=some (if i<l.length/\(gl l i).N_=f.N_ then([],6)else if l.length=60 then([],1)else(l.take i++[f]++l.drop i,0)):=by
     intro b r;unfold Dc
     refine Z9 (λh=>by rw[Qa2 (r.1 h)]) (λh=>?_);rw[Qa1 λs=>by rw[r.2 s]at h;cases h]
     refine Z9 (λh=>?_) (λh=>?_)
     .have h:l.length=60:=by simp at h;omega
      rw[Qa2 h]
     .have h:l.length≠60:=by simp at h;omega
      rw[Qa1 h];simp only[Qa3]
      refine Z4 (k:=?_);refine Z4 (k:=?_)
      refine Z4 (k:=?_);refine Z4 (k:=?_)
      refine Z4 (k:=?_);simp
    refine Z9 (λd=>?_) (λd=>?_)
    .have d:i<l.length:=by simpa using d
     refine Z4 (k:=?_);exact m _ (by simp[d])
    .have d:¬i<l.length:=by simpa using d
     exact m _ (by simp[d])
   unfold bF;refine Z9 (λd=>?_) (λd=>?_)
   .have d:i<l.length:=by simpa using d
    refine Z4 (k:=?_);unfold Dd
    simp only[Qa3];refine Z9 (λe=>?_) (λe=>?_)
    .have e:(gl l i).N_<f.N_:=by simpa using e
     refine Z4 (k:=?_);refine t _ ⟨i+1,by omega,?_⟩ (by omega)
     rcases Qc8 i k with g|g
     .exact g
     .have:=c i g d;omega
    .have e:¬(gl l i).N_<f.N_:=by simpa using e
     refine j ?_;rcases Qc8 i k with g|g
     .exact absurd (b i g) e
     .omega
   .have d:¬i<l.length:=by simpa using d
    unfold Dd;exact Z8 rfl (j (by omega))
  .refine U3 (by simpa using h1) ?_
   rw[Qa2 h1]
 .refine U3 (by simpa using h) ?_
  rw[Qa2 h]
theorem Q1f{l:List A2_}{f g:A2_}:g∈JD l f↔g=f\/g∈l:=by
 unfold JD;constructor
 .intro h
  rcases Qb2.1 h with h|h
  .rcases Qb2.1 h with h|h
   .exact .inr (Qh5 h)
   .exact .inl (Qb1.1 h)
  .exact .inr (Qo3 h)
 .rintro (rfl|h)
  .simp
  .rw [<-Qh2 (ZB l f.N_) l]at h
   rcases Qb2.1 h with h|h
   .simp [h]
   .simp [h]
theorem Z2d{l:List A2_}{f:A2_}(hl:VL l)(hf:Yh f=0)(hn:¬(ZB l f.N_<l.length/\(gl l (ZB l f.N_)).N_=f.N_))(h60:l.length≠60):VL (JD l f):=by
 obtain⟨a,b,c⟩:=yI hl.asc f.N_;have p:=hl.len
 refine⟨by simp[JD];omega,λg h=>?_,?_⟩
 .rcases Q1f.1 h with rfl|h
  .exact hf
  .exact hl.one g h
 .unfold JD
  generalize ZB l f.N_=k at *;have t:∀g∈l.take k,g.N_<f.N_:=by
   intro g h;obtain⟨j,n,rfl⟩:=Qc3 h
   have d : j<k:=by simp at n;omega
   have:=b j d
   rw[y7 (by omega)]at this;simpa using this
  have q:∀g∈l.drop k,f.N_<g.N_:=by
   intro g h;obtain⟨j,n,rfl⟩:=Qc3 h
   have d : k+j<l.length:=by simp at n;omega
   have s:=c (k+j) (by omega) d;rw[y7 d]at s
   have A:(l[k+j]).N_≠f.N_:=by
    intro e;rcases Qj8 j with rfl|m
    .exact hn ⟨by omega,by rw[y7 (by omega)];exact e⟩
    .have r:=c k (Qb3 _) (by omega)
     rw[y7 (by omega)]at r;have z:=Qd6.1 hl.asc k (k+j) (by omega) d (by omega)
     omega
   simp only[List.getElem_drop];omega
  have m:=hl.asc;rw[<-Qh2 k l,Qe8]at m
  obtain⟨v,w,u⟩:=m;rw[Qh8,Qe8]
  refine⟨v,Qd5.2 ⟨q,w⟩,λx o y i=>?_⟩;rcases Qb2.1 i with i|i
  .rw [Qb1.1 i];exact t x o
  .exact u x o y i
structure LayT (l:List A2_):Prop where
 vl:VL l
 fea:∀f∈l,FeaT f/\1<=f.N_/\f.N_<=12
theorem Z1x(hF:Q7<=F)(ht:TOk t)(m1:0<=most)(m2:most<=50):∃t' l,TH F t most=some (t',l)/\TOk t' /\ LayT l/\(l.length:Int)<=most:=by
 have d:=hF;unfold Q7 at hF
 obtain⟨H,c,G,E,K,N⟩:=Qz (F:=F) ht (n:=most+1) (by omega) (by omega);have r:∀(k f:Nat) (t:Tape) (l:List A2_),k<f->TOk t->LayT l->(l.length:Int)+k<=most->∃t' l',Y3 (λagain (z:List A2_×Int×List Int×Int)=>XA F again z.1 z.2.1 z.2.2.1 z.2.2.2) f (l,(k:Int),t.l_,t.at_)=some (t',l')/\TOk t' /\ LayT l' /\ (l'.length:Int)<=most:=by
  intro k
  induction k with
  |zero=>
   intro f t l h ht e C
   cases f with
   |zero=>omega
   |succ f=>exact⟨⟨t.l_,t.at_⟩,l,rfl,ht,e,by omega⟩
  |succ k ih=>
   intro f t l h ht e C
   cases f with
   |zero=>omega
   |succ f=>
    obtain⟨M,n,u,J,L,n2⟩:=ZR (F:=F) ht (lo:=1) (hi:=12) (by omega) (by omega) (by omega);obtain⟨B,g,y,v,w,I⟩:=Z1I d J n
    have o:=w.one (by omega) (by omega);have D:=(Hz l).2 e.vl
    have A:((k+1:Nat):Int)-1=(k:Int):=by omega
    by_cases hadd:(Gn l g).2=0
    .have i:LayT (Gn l g).1/\(Gn l g).1.length=l.length+1:=by
      unfold Gn at hadd⊢;rw[Qa1 (by simp[D]),Qa1 (by simp[o])]at hadd⊢
      by_cases a:ZB l g.N_<l.length/\(gl l (ZB l g.N_)).N_=g.N_
      .rw [Qa2 a]at hadd;cases hadd
      .rw [Qa1 a]at hadd⊢
       by_cases b:l.length=60
       .rw [Qa2 b]at hadd;cases hadd
       .rw [Qa1 b]
        refine⟨⟨Z2d e.vl o a b,λx q=>?_⟩,?_⟩
        .rcases Q1f.1 q with rfl|q
         .exact ⟨w,by omega,by omega⟩
         .exact e.fea x q
        .have:=(yI e.vl.asc g.N_).1
         simp[JD];omega
     obtain⟨p,s,a,b,j,m⟩:=ih f B (Gn l g).1 (by omega) v i.1 (by omega);refine⟨p,s,?_,b,j,m⟩
     show XA F _ l ((k+1:Nat):Int) t.l_ t.at_=_;unfold XA
     refine U3 (by simp) ?_;refine Q4 u (Q4 y (Q4 (bE d l g) ?_))
     refine U3 (by simpa using hadd) ?_;unfold DG
     refine Z4 (k:=?_);rw[A];exact a
    .obtain ⟨p,s,a,b,j,m⟩:=ih f B l (by omega) v e (by omega)
     refine⟨p,s,?_,b,j,m⟩;show XA F _ l ((k+1:Nat):Int) t.l_ t.at_=_
     unfold XA;refine U3 (by simp) ?_
     refine Q4 u (Q4 y (Q4 (bE d l g) ?_));refine Z8 (by simpa using hadd) ?_
     unfold DG;refine Z4 (k:=?_)
     rw[A];exact a
 obtain⟨t',l,a,b,j,m⟩:=r c.toNat F H [] (by omega) E ⟨⟨by simp,λf h=>(Qg0 h).elim,.nil⟩,λf h=>(Qg0 h).elim⟩ (by simp;omega);refine⟨t',l,?_,b,j,m⟩
 unfold TH;refine Z4 (k:=?_)
 refine Q4 G ?_;have:(c.toNat:Int)=c:=by omega
 rw[this]at a;exact a
theorem Z1S(F:Nat)(l:List Int):∃t,Cb F l=some t/\TOk t:=by
 unfold Cb;have h:y6 ((l.length:Nat):Int) 400=((min l.length 400:Nat):Int):=by unfold y6;split<;>omega
 rw[h];refine⟨⟨l.take (min l.length 400),0⟩,?_,by simp only;omega,by simp;omega⟩
 refine Z4 (k:=?_);simp
theorem vG{R:Type}{body:(Int->Option R)->Int->Option R}{y:Option R}(N:Nat)(step:∀again (i:Nat),i<N->again ((i:Int)+1)=y->body again (i:Int)=y)(stop:∀again,body again (N:Int)=y)(hF:N<F):Y3 body F 0=y:=by
 refine Qa (λz:Int=>∃i:Nat,z=i/\i<=N) (λz=>N-z.toNat) (λagain z a b=>?_) ⟨0,rfl,Qc2 _⟩ (by simp;omega);obtain⟨i,rfl,c⟩:=a
 rcases Qc8 i N with h|h
 .exact step again i h (b _ ⟨i+1,by omega,h⟩ (by omega))
 .have:i=N:=by omega
  subst this;exact stop again
theorem Runs.len{α:Type}{l:List (Rn α)}(h:Runs l):∀{a:Int},a<=n->(∀r∈l,a<=r.lo/\r.hi<=n)->(l.length:Int)<=n-a:=by
 induction l with
 |nil=>intro a d _;simp;omega
 |cons r l ih=>
  intro a d b;have f:=b r (by simp)
  have e:=h.pos r (by simp);have:=ih h.tail (a:=r.hi) (by omega) λq c=>⟨(h.head q c).1,(b q (by simp[c])).2⟩
  rw[Qb0];omega
theorem Q2R(h:Fin S):cn S=[]↔∀x y,S x y=false:=by
 constructor
 .intro e x y
  rw[<-Yj h,e];rfl
 .intro e
  exact XX (l:=[]) ⟨.nil,λb a=>(Qg0 a).elim,λb a=>(Qg0 a).elim⟩ λx y=>(e x y).symm
def Jz(r s:Rect):Bool:=decide (r.L_<s.R_)&&(decide (s.L_<r.R_)&&(decide (r.w_<s.H_)&&decide (s.w_<r.H_)))
theorem Q8E(F:Nat)(r s:Rect):RM F r s=some (Jz r s):=by
 unfold RM;rw[Ys (Jm F),Ys (Jm F),Ys (Jm F)]
 rfl
def KM(a b:List Rect):Bool:=a.any λr=>b.any λs=>Jz r s
theorem Q0t{s:Rect}(hr:QS r=true)(hs:QS s=true):Jz r s=true↔∃x y,r.has x y=true/\s.has x y=true:=by
 rw[Wc]at hr hs;simp only[ZZ]
 constructor
 .intro h
  simp only[Jz,Qa4,Qb7]at h;refine⟨max r.L_ s.L_,max r.w_ s.w_,?_⟩
  omega
 .rintro ⟨x,y,h⟩
  simp only[Jz,Qa4,Qb7];omega
theorem Va(l:List Rect)(x y:Int):Q8 l x y=true↔∃r∈l,r.has x y=true:=by unfold Q8;rw[Qd3]
theorem ym(ha:∀r∈a,QS r=true)(hb:∀r∈b,QS r=true):KM a b=true↔∃x y,Q8 a x y=true/\Q8 b x y=true:=by
 simp only[KM,Qd3,Va];constructor
 .rintro ⟨r,c,s,d,h⟩
  obtain⟨x,y,f,e⟩:=(Q0t (ha r c) (hb s d)).1 h;exact⟨x,y,⟨r,c,f⟩,⟨s,d,e⟩⟩
 .rintro ⟨x,y,⟨r,c,f⟩,⟨s,d,e⟩⟩
  exact⟨r,c,s,d,(Q0t (ha r c) (hb s d)).2 ⟨x,y,f,e⟩⟩
theorem Z0t:KM a b=KM b a:=by
 rw[Qd0];simp only[KM,Qd3,Jz,Qa4,Qb7]
 constructor<;>(rintro⟨r,d,s,g,h,c,e,f⟩;exact⟨s,g,r,d,c,h,f,e⟩)
noncomputable def Zm(a b:Re_):Bool:=Qr a.t_&&(Qr b.t_&&KM a.t_ b.t_)
theorem Z0T(a b:Re_):Zm a b=Zm b a:=by
 unfold Zm;rw[Z0t]
 cases Qr a.t_<;>cases Qr b.t_<;>rfl
theorem cJ(hF:Q7<=F)(a b:Re_):Bl F a b=some (Zm a b):=by
 unfold Bl Zm;refine Q4 (Vw hF a) ?_
 refine Z9 (λh=>?_) (λh=>by rw[h];rfl);refine Q4 (Vw hF b) ?_
 refine Z9 (λc=>?_) (λc=>by rw[h,c];rfl);have e:=((Wh _).1 h).1
 have d:=((Wh _).1 c).1;refine Q4 (Jf (α:=Rect) hF (λr=>b.t_.any λs=>Jz r s) (by omega) λr _=>?_) ?_
 .unfold qX
  refine Q4 (Jf (α:=Rect) hF (λs=>Jz r s) (by omega) λs _=>?_) rfl;unfold qW
  rw[Q8E];rfl
 .rw [h,c];rfl
theorem Q9N(hF:Q7<=F)(a b:Re_):SS F a b=some (Zm a b):=by
 unfold SS Zm;refine Q4 (Dg hF a) ?_
 refine Z9 (λh=>?_) (λh=>by rw[h];rfl);refine Q4 (Dg hF b) ?_
 refine Z9 (λf=>?_) (λf=>by rw[h,f];rfl);have i:=(Wh _).1 h
 have c:=(Wh _).1 f;have m:=i.1
 have l:=c.1;refine Q4 (bY hF (by omega)) ?_
 unfold Dh;rw[h,f]
 show some _=some (KM a.t_ b.t_);congr 1
 rw[Qd0,Qj5,ym i.2.1 c.2.1];have j:=Q2R (Ub a.t_ b.t_ 2)
 have e:∀x y,Qn (Q8 a.t_ x y) (Q8 b.t_ x y) 2=true↔Q8 a.t_ x y=true/\Q8 b.t_ x y=true:=λx y=>by simp[Qn]
 constructor
 .intro d
  refine Qt5 λk=>?_
  have:cn (λx y=>Qn (Q8 a.t_ x y) (Q8 b.t_ x y) 2)=[]:=j.2 λx y=>by
   rw[<-Qf7,e];exact λg=>k ⟨x,y,g⟩
  rw[this]at d;simp at d
 .rintro ⟨x,y,g⟩
  rcases Qj8 (cn λx y=>Qn (Q8 a.t_ x y) (Q8 b.t_ x y) 2).length with d|d
  .have:=j.1 (Qd9 d) x y
   rw[(e x y).2 g]at this;cases this
  .omega
theorem qZ(F:Nat)(l:List Rect):Ko F l=some (if 120<l.length then(⟨[]⟩,1)else(⟨l⟩,0)):=by
 unfold Ko;refine Z9 (λh=>?_) (λh=>?_)
 .have h:120<l.length:=by simp at h;omega
  rw[Qa2 h]
 .have h:¬120<l.length:=by simp at h;omega
  rw[Qa1 h]
theorem za(hF:Q7<=F)(hl:l.length<=32768)(hpos:∀r∈l,r.L_<r.R_):Uw F l=some (if 120<(cn (Q8 l)).length then(⟨[]⟩,1)else(⟨cn (Q8 l)⟩,0)):=by
 unfold Uw;refine Q4 (qM hF hl hpos) ?_
 exact Q4 (qZ F _) rfl
def Ze(L:List A2_)(d:Int)(p:Int->Bool):List Rect:=(L.filter λf=>GA f d&&p f.k_).flatMap λf=>f.g_.t_
theorem yb(f:A2_)(L:List A2_)(d:Int)(p:Int->Bool):Ze (f::L) d p=(if(GA f d&&p f.k_)=true then f.g_.t_ else[])++Ze L d p:=by
 unfold Ze;rw[Qi7]
 split
 .rw [Qm7]
 .rfl
theorem Z0Q{d:Int}{p:Int->Bool}(h:r∈Ze L d p):∃f∈L,r∈f.g_.t_:=by
 obtain⟨f,b,a⟩:=Qc1.1 h;exact⟨f,(Qe6.1 b).1,a⟩
theorem Q9Y(h:∀f∈L,f.g_.t_.length<=120)(d:Int)(p:Int->Bool):(Ze L d p).length<=120*L.length:=by
 induction L with
 |nil=>simp[Ze]
 |cons f L ih=>
  have b:=ih λg a=>h g (by simp[a])
  have c:=h f (by simp);rw[yb,Qb5,Qb0]
  split
  .omega
  .simp;omega
theorem Q1O(hF:Q7<=F)(hl:L.length<=10000)(hr:∀ f ∈ L,f.g_.t_.length<=120)(d:Int){q:Int->Option Bool}(p:Int->Bool)(hq:∀ f ∈ L,q f.k_=some (p f.k_)):
  DY F L d q=some (Ze L d p):=by
 unfold Q7 at hF;unfold DY
 refine KJ (l:=L) (I:=λl s=>s.length+120*l.length<=2000000/\∀f∈l,f.g_.t_.length<=120) (λl s=>some (s++Ze l d p)) (λa i s o g n=>?_) (λa s _=>?_) (by omega) ⟨by simp;omega,hr⟩
 .obtain ⟨g,c⟩:=g
  have r:=c _ (Qg5 ..);rw[Qb0]at g
  have j:∀b:Bool,b=(GA (gl L i) d&&p (gl L i).k_)->DX F L i s a b=some (s++Ze (gl L i::L.drop (i+1)) d p):=by
   intro b m;unfold DX
   rw[yb];refine Z9 (λh=>?_) (λh=>?_)
   .rw [<-m,Qa2 h]
    simp only[Qa3];refine Q9 (by unfold Y6;omega) ?_
    unfold DW;refine Z4 (k:=?_)
    rw[n _ ⟨by rw[Qb5];omega,λf e=>c f (Qf9 _ e)⟩,Qh8]
   .rw [<-m,Qa1 (by simp[h])]
    unfold DW;refine Z4 (k:=?_)
    rw[n _ ⟨by omega,λf e=>c f (Qf9 _ e)⟩];rfl
  unfold CG;refine U3 (WX o) ?_
  refine Z4 (k:=?_);simp only[Qa3]
  refine Q4 (Q1L F _ d) ?_;refine Z9 (λh=>?_) (λh=>?_)
  .refine Q4 (hq _ (J9 o)) ?_
   exact j _ (by rw[h];rfl)
  .exact j _ (by rw[h];rfl)
 .show CG F L d q a (L.length:Int) s=_
  unfold CG vV;refine Z8 (VV _) ?_
  simp[Ze]
theorem qf{α:Type}[Emb α](hF:Q7<=F){a b:List α}(ha:a.length<=1000000)(hb:b.length<=1000000):Jg F [a,b]=some (a++b):=by
 unfold Q7 at hF;obtain⟨m,rfl⟩:∃m,F=m+3:=⟨F-3,by omega⟩
 have c:gl [a,b] (0:Int).toNat=a:=rfl;have d:gl [a,b] (1:Int).toNat=b:=rfl
 have k1:GL (m+3) [a,b] (((a.length:Nat):Int)+((b.length:Nat):Int))=some (a++b):=by
  unfold GL;refine Q4 (a:=[]) (by unfold KV;rw[Qa2 (by unfold Y6;omega)]) ?_
  show Kd (m+3) [a,b] _ 0 []=_;unfold Kd
  refine U3 rfl ?_;rw[c]
  refine Z4 (k:=?_);refine Q9 (by simp[Y6];omega) ?_
  refine Z4 (k:=?_);show Kd (m+3) [a,b] _ 1 ([]++a)=_
  unfold Kd;refine U3 rfl ?_
  rw[d];refine Z4 (k:=?_)
  refine Q9 (by simp[Y6];omega) ?_;refine Z4 (k:=?_)
  show Kd (m+3) [a,b] _ 2 (([]++a)++b)=_;unfold Kd
  refine Z8 rfl ?_;unfold PT
  simp
 show Ke (m+3) [a,b] _ 0 0=_;unfold Ke
 refine U3 rfl ?_;rw[c]
 refine Z4 (k:=?_);refine Z4 (k:=?_)
 refine Z8 (by simp<;>omega) ?_;refine Z4 (k:=?_)
 show Ke (m+3) [a,b] _ (0+((a.length:Nat):Int)) 1=_;unfold Ke
 refine U3 rfl ?_;rw[d]
 refine Z4 (k:=?_);refine Z4 (k:=?_)
 refine Z8 (by simp<;>omega) ?_;refine Z4 (k:=?_)
 show Ke (m+3) [a,b] _ (0+((a.length:Nat):Int)+((b.length:Nat):Int)) 2=_;unfold Ke
 refine Z8 rfl ?_;rw[Int.zero_add]
 exact k1
theorem cv(hF:Q7<=F){l:List Span}(hl:l.length<=1000000)(x:Int):Bf F l x=some (K8 l x):=by
 unfold Q7 at hF;have c:∃i:Int,Wr F l (λa=>Jn F a x)=some i/\(0<=i↔K8 l x=true):=by
  have m:∀s:Span,Jn F s x=some (s.has x):=λs=>by
   unfold Jn;rw[Ys (RQ F)];rfl
  have d:∀(n i:Nat),i<=l.length->l.length-i<n->∃r:Int,Y3 (λagain (z:Int)=>Wi F l (λa=>Jn F a x) again z) n (i:Int)=some r/\(0<=r↔K8 (l.drop i) x=true):=by
   intro n
   induction n with
   |zero=>intro i _ h;omega
   |succ n ih=>
    intro i p q;show ∃r:Int,Wi F l (λa=>Jn F a x) (Y3 (λagain (z:Int)=>Wi F l (λa=>Jn F a x) again z) n) (i:Int)=some r/\_
    by_cases h:i<l.length
    .have e:K8 (l.drop i) x=((gl l i).has x||K8 (l.drop (i+1)) x):=xV h λs=>s.has x
     rw[e]
     by_cases b:(gl l i).has x=true
     .refine ⟨i,?_,by rw[b];simp⟩
      unfold Wi;refine U3 (WX h) ?_
      refine Z4 (k:=?_);exact Q4 (m _) (U3 b rfl)
     .have b:(gl l i).has x=false:=by simpa using b
      obtain⟨r,o,j⟩:=ih (i+1) h (by omega);refine⟨r,?_,by rw[j,b];simp⟩
      unfold Wi;refine U3 (WX h) ?_
      refine Z4 (k:=?_);refine Q4 (m _) (Z8 b ?_)
      refine Z4 (k:=?_);exact o
    .have:i=l.length:=by omega
     subst this;refine⟨-1,?_,by simp[K8]⟩
     unfold Wi;exact Z8 (VV _) rfl
  obtain⟨r,g,f⟩:=d F 0 (Qc2 _) (by omega);exact⟨r,g,by simpa using f⟩
 obtain⟨i,g,f⟩:=c;unfold Bf ZN
 refine Q4 (Q4 g rfl) ?_;congr 1
 rw[Qd0, <-f,Qj5]
theorem Z0P(hF:Q7<=F){a b:List Span}(ha:a.length<=1000000)(hb:b.length<=1000000){es:List Int}{f:Int->Bool}{k:Bool->Bool->Bool}(hq:∀u v,q u v=some (k u v))(hst:Step false es f)(hf:∀x,f x=k (K8 a x) (K8 b x))(hes:es.length<=8000000):Y3 (λagain (z:Int×List Span)=>Be F a b q es again z.1 z.2) F ((1:Int),([]:List Span))=some (QR f):=by
 have r:=hF;unfold Q7 at hF
 by_cases h0:es.length=0
 .obtain ⟨m,rfl⟩:∃m,F=m+1:=⟨F-1,by omega⟩
  show Be (m+1) a b q es _ 1 []=_;unfold Be RN
  refine Z8 (by simp[h0]) ?_;rw[MI (hst.empty h0)]
 .refine Qa (λz:Int×List Span=>∃(i:Nat) (e:List Span),z=(((i+1:Nat):Int),e)/\i+1<=es.length/\Bst false f (e.map Span.rn) (gl es i)/\e.length<=i) (λz=>es.length-z.1.toNat) (λagain z G E=>?_) ⟨0,[],rfl,by omega,hst.start (by omega),by simp⟩ (by simp;omega)
  obtain⟨i,e,rfl,H,g,l⟩:=G;simp only
  unfold Be;refine Z9 (λh=>?_) (λh=>?_)
  .have h:i+1<es.length:=by simp at h;omega
   have A:(((i+1:Nat):Int)-1).toNat=i:=by omega
   have B:((i+1:Nat):Int).toNat=i+1:=by omega
   have j:=hst.asc.at_lt (show i<i+1 by omega) h;refine Z4 (k:=?_)
   refine Z4 (k:=?_);rw[A]
   refine Q4 (cv r ha _) ?_;refine Q4 (cv r hb _) ?_
   refine Q4 (hq _ _) ?_;rw[<-hf]
   have d:∀c : List Span,Bst false f (c.map Span.rn) (gl es (i+1))->c.length<=i+1->GS F ((i+1:Nat):Int) again c=some (QR f):=by
    intro c p o;unfold GS
    refine Z4 (k:=?_);exact E _ ⟨i+1,c,by simp,h,p,o⟩ (by simp;omega)
   cases hfe:f (gl es i)with
   |false=>
    refine U3 rfl ?_;exact d e (g.skip (by omega) λt p o=>(hst.gap i h t p o).trans hfe) (by omega)
   |true=>
    refine Z8 rfl ?_;rcases Qj2 e with rfl|⟨n,s,y⟩
    .refine Z8 rfl ?_
     unfold Bd;refine Z8 rfl ?_
     rw[A,B];refine Z4 (k:=?_)
     refine Q9 (by simp[Y6]) ?_;refine d _ ?_ (by simp)
     have:=g.add j (hst.gap i h) (λa ha=>by simp at ha)
     rw[hfe]at this;exact this
    .rw [Qj3]at y
     subst y;have C:(((n ++ [s]).length:Nat):Int)-1=((n.length:Nat):Int):=by simp
     have w:(((n.length:Nat):Int)).toNat=n.length:=by omega
     refine U3 (by simp<;>omega) ?_;rw[C,w]
     refine Z4 (k:=?_);refine Q9 (by simp<;>omega) ?_
     rw[KW n s rfl];unfold Bd
     by_cases hs:s.R_=gl es i
     .refine U3 (by simp[hs]) ?_
      rw[C,w,B];refine Z4 (k:=?_)
      refine Z4 (k:=?_);refine Q9 (by simp<;>omega) ?_
      rw[KW n s rfl,Rg n s _ rfl];refine d _ ?_ (by simp at l⊢;omega)
      rw[Qe0]at g;have:=g.grow (a:=s.rn) hs j λt p o=>(hst.gap i h t p o).trans hfe
      rw[Qe0];exact this
     .refine Z8 (by simpa using hs) ?_
      rw[A,B];refine Z4 (k:=?_)
      refine Q9 (by simp[Y6]at l⊢;omega) ?_;refine d _ ?_ (by simp at l⊢;omega)
      have:=g.add j (hst.gap i h) (λa ha D=>by
       rw[Qe0]at ha;simp at ha
       subst ha;exact absurd D hs)
      rw[hfe]at this;rw[Qe0];exact this
  .have h:i+1=es.length:=by simp at h;omega
   unfold RN;congr 1
   refine(Ka (.of_runs g.runs) λx=>?_).symm;rw[DJ];exact hst.done h g x
def Ge(l:List Span):List Int:=l.flatMap λs=>[s.L_,s.R_]
theorem xy(l:List Span):(Ge l).length=2*l.length:=by
 induction l with
 |nil=>rfl
 |cons s l ih=>unfold Ge at ih⊢;rw[Qm7,Qb5,ih];simp;omega
theorem Q1g{l:List Span}{c:List Int}(hc:Yd c)(hm:∀s∈l,s.L_∈c/\s.R_∈c)(hi:i+1<c.length){t:Int}(h1:gl c i<=t)(h2:t<gl c (i+1)):K8 l t=K8 l (gl c i):=by
 unfold K8
 induction l with
 |nil=>rfl
 |cons s l ih=>
  rw[Qk5,Qk5,ih λq e=>hm q (by simp[e])];congr 1
  obtain⟨a,f⟩:=hm s (by simp);have d:=hc.gap hi h1 h2 a
  have g:=hc.gap hi h1 h2 f;unfold Span.has
  have d1:decide (s.L_<=t)=decide (s.L_<=gl c i):=by simp only[d]
  have b:decide (t<s.R_)=decide (gl c i<s.R_):=by rw[Qq5];omega
  rw[d1,b]
theorem Q1h{l:List Span}{t:Int}(h:∀s∈l,¬(s.L_<=t/\t<s.R_)):K8 l t=false:=by
 unfold K8;rw[Qf0]
 intro s a;have:=h s a
 simp only[Span.has,Qa4,Qb7];exact this
theorem Q8G(hF:Q7<=F){a b:List Span}(ha:a.length<=1000000)(hb:b.length<=1000000){k:Bool->Bool->Bool}(hk:k false false=false)(hq:∀ u v,q u v=some (k u v)):
  RP F a b q=some (QR λx=>k (K8 a x) (K8 b x)):=by
 have h:=hF;unfold Q7 at hF
 unfold RP;refine Q4 (qf h ha hb) ?_
 have K:(a++b).length<=2000000:=by rw[Qb5];omega
 refine KJ (l:=a++b) (I:=λl s=>s++Ge l=Ge (a++b)) (λ_ _=>some (QR λx=>k (K8 a x) (K8 b x))) (λd i s o n G=>?_) (λd s n=>?_) (by omega) rfl
 .have p:=xy (a++b)
  have M:s.length+2<=(Ge (a++b)).length:=by
   rw[<-n,Qb5,xy];simp;omega
  unfold RO;refine U3 (WX o) ?_
  refine Z4 (k:=?_);simp only[Qa3]
  refine Q9 (by simp[Y6];omega) ?_;refine Z4 (k:=?_)
  refine G _ ?_;rw[<-n,Qh8];rfl
 .have B:s=Ge (a++b):=by rw[<-n];simp[Ge]
  show RO F a b q (a++b) d (((a++b).length:Nat):Int) s=_;unfold RO
  refine Z8 (VV _) ?_;unfold qK
  have p:=xy (a++b);obtain⟨r,J,C,w,A⟩:=Q6a (l:=s) (by rw[B];unfold Y6;omega)
  refine Q4 J ?_;have H:r.length<=4000000:=by rw[A,B];omega
  refine Q4 (jv h (by unfold Y6;omega)) ?_;have L:=xz r
  have g:=xA r C;have c:∀l,l=a\/l=b->∀s∈l,s.L_∈dd r/\s.R_∈dd r:=by
   intro l m q y;have:q∈a++b:=by rcases m with rfl|rfl<;>simp[y]
   have j:∀v,v∈[q.L_,q.R_]->v∈dd r:=λv E=>(Ts r v).2 ((w v).2 (by rw[B];exact Qc1.2 ⟨q,this,E⟩))
   exact⟨j _ (by simp),j _ (by simp)⟩
  refine Z0P h ha hb hq (f:=λx=>k (K8 a x) (K8 b x)) ⟨g,λi o t D j=>?_,λt z=>?_,λt z=>?_⟩ (λ_=>rfl) (by omega)
  .simp only[Q1g g (c a (.inl rfl)) o D j,Q1g g (c b (.inr rfl)) o D j]
  .have e:∀l,l=a\/l=b->K8 l t=false:=λl m=>Q1h λq hq=>by have:=z _ (c l m q hq).1;omega
   simp only[e a (.inl rfl),e b (.inr rfl),hk]
  .have e:∀l,l=a\/l=b->K8 l t=false:=λl m=>Q1h λq hq=>by have:=z _ (c l m q hq).2;omega
   simp only[e a (.inl rfl),e b (.inr rfl),hk]
theorem Bn(hF:Q7<=F)(hl:a.length+b.length<=16000)(ha:∀ r ∈ a,r.L_<r.R_)(hb:∀ r ∈ b,r.L_<r.R_){k:Bool->Bool->Bool}(hk:k false false=false)(hq:∀ u v,q u v=some (k u v)):
  ZG F a b q=some (cn λx y=>k (Q8 a x y) (Q8 b x y)):=by
 unfold ZG;have d:Grid (QY b (QY a [])) (Vd [a,b]) λx y=>k (Q8 a x y) (Q8 b x y):=
  Grid.of (VF b (VF a .nil)) (Q2B _) (λr c=>⟨(ZC b _ _).2 (.inl ((ZC a _ _).2 (.inr ⟨r,c,.inl rfl⟩))),(ZC b _ _).2 (.inl ((ZC a _ _).2 (.inr ⟨r,c,.inr rfl⟩)))⟩)
   (λr c=>⟨(ZC b _ _).2 (.inr ⟨r,c,.inl rfl⟩),(ZC b _ _).2 (.inr ⟨r,c,.inr rfl⟩)⟩) (xD _ (by simp)) (xD _ (by simp)) hk
 have e:=yu a (ls:=[a,b]) (by simp);have f:=yu b (ls:=[a,b]) (by simp)
 have h:Wp [a,b]=a.length+b.length:=by simp[Wp]
 have g:=Q2A [a,b];have j:=Q2D (a:=a) (b:=b)
 refine Q4 (zc hF (by omega) (by simp)) ?_;refine Q4 (cL hF d.rows d.step (by omega) (λy=>?_) (λy=>?_)) rfl
 .unfold zi
  have o:=(e.x y).spn_len;have i:=(f.x y).spn_len
  have m:=Fw (l:=a);have n:=Fw (l:=b)
  refine Q4 (RV hF (by omega) ha y) ?_;refine Q4 (RV hF (by omega) hb y) ?_
  refine Q4 (Q8G hF (by omega) (by omega) hk hq) ?_;congr 2
  funext x
  rw[(e.rows.sp y).2 x,(f.rows.sp y).2 x]
 .have:=(d.x y).spn_len
  omega
def Sm(r:Rect):Prop:= -1000000<=r.L_/\r.L_<=1000000 /\ -1000000<=r.w_/\r.w_<=1000000 /\ -1000000<=r.R_/\r.R_<=1000000 /\ -1000000<=r.H_/\r.H_<=1000000
theorem Q6G(h:QS r=true):Sm r:=by
 rw[Wc]at h;unfold Sm;omega
def KO(a b:Rect):Int:=y3 0 (y6 a.H_ b.H_-y3 a.w_ b.w_)
def JC(a b:Rect):Int:=y3 0 (y6 a.R_ b.R_-y3 a.L_ b.L_)
def jD(a b:Rect):Bool:=a.R_==b.L_||b.R_==a.L_
def Rc(a b:Rect):Bool:=a.H_==b.w_||b.H_==a.w_
def xF(a b:Rect):Int:=(if jD a b=true then KO a b else 0)+(if Rc a b=true then JC a b else 0)
theorem Z1m{a b:Rect}(ha:Sm a)(hb:Sm b):0<=KO a b/\KO a b<=2000000 /\ -2000000<=y6 a.H_ b.H_-y3 a.w_ b.w_/\y6 a.H_ b.H_-y3 a.w_ b.w_<=2000000:=by
 unfold Sm at ha hb;unfold KO y3 y6
 repeat' split
 all_goals omega
theorem Z1n{a b:Rect}(ha:Sm a)(hb:Sm b):0<=JC a b/\JC a b<=2000000 /\ -2000000<=y6 a.R_ b.R_-y3 a.L_ b.L_/\y6 a.R_ b.R_-y3 a.L_ b.L_<=2000000:=by
 unfold Sm at ha hb;unfold JC y3 y6
 repeat' split
 all_goals omega
theorem Q2K{a b:Rect}(ha:Sm a)(hb:Sm b)(h1:0<=v)(h2:v<=2000000)(c:Bool):PX F a b v c=some (v+if c=true then JC a b else 0):=by
 obtain⟨e,g,f,d⟩:=Z1n ha hb;unfold PX
 cases c with
 |true=>
  refine U3 rfl ?_;refine Q9 (Y8 (by omega) (by omega)) ?_
  show gd (Q5 (v+JC a b)) _=_;refine Q9 (Y8 (by omega) (by omega)) ?_
  rfl
 |false=>
  refine Z8 rfl ?_;show some v=some (v+0)
  rw[Int.add_zero]
theorem Q2L{a b:Rect}(ha:Sm a)(hb:Sm b)(h1:0<=v)(h2:v<=2000000):GM F a b v=some (v+if Rc a b=true then JC a b else 0):=by
 unfold GM;rw[Q2K ha hb h1 h2,Q2K ha hb h1 h2]
 unfold Rc
 cases a.H_==b.w_<;>rfl
theorem Q2M{a b:Rect}(ha:Sm a)(hb:Sm b)(c:Bool):PY F a b c=some ((if c=true then KO a b else 0)+if Rc a b=true then JC a b else 0):=by
 obtain⟨e,g,f,d⟩:=Z1m ha hb;unfold PY
 cases c with
 |true=>
  refine U3 rfl ?_;refine Q9 (Y8 (by omega) (by omega)) ?_
  show gd (Q5 (0+KO a b)) _=_;refine Q9 (Y8 (by omega) (by omega)) ?_
  show GM F a b (0+KO a b)=_;rw[Q2L ha hb (by omega) (by omega)]
  simp
 |false=>
  refine Z8 rfl ?_;rw[Q2L ha hb (by omega) (by omega)]
  rfl
theorem Q7p(F:Nat){a b:Rect}(ha:Sm a)(hb:Sm b):Rd F a b=some (xF a b):=by
 unfold Rd;rw[Q2M ha hb,Q2M ha hb]
 unfold xF jD
 cases a.R_==b.L_<;>rfl
def Zf(a b:Rect):Bool:=decide (0<xF a b)
theorem jH{F:Nat}{q:List Rect}{r:Rect}{i:Nat}(hi:i<q.length)(hl:q.length<=1000000)(hq:∀ s ∈ q,Sm s)(hr:Sm r):
  PZ F r q i=some (if Zf (gl q i) r=true then q++[r]else q,Zf (gl q i) r):=by
 unfold PZ;refine Q9 (by omega) ?_
 simp only[Qa3];refine Q4 (Q7p F (hq _ (J9 hi)) hr) ?_
 show Re F r q (Zf (gl q i) r)=_;unfold Re
 cases Zf (gl q i) r with
 |true=>
  refine U3 rfl ?_;refine Q9 (by simp[Y6];omega) rfl
 |false=>exact Z8 rfl rfl
theorem Z2e(hF:Q7<=F){q:List Rect}(hk:k<q.length)(hl:l.length<=900000)(hql:q.length<=900000)(hq:∀ s ∈ q,Sm s)(hr:∀ r ∈ l,Sm r):
  MQ F l q k=some (l,if l.any (Zf (gl q k))=true then q++[gl l (l.findIdx (Zf (gl q k)))]else q,Yk (Zf (gl q k)) l):=by
 unfold Q7 at hF;unfold MQ
 refine Qa (λz:Int×List Rect=>∃i:Nat,z=((i:Int),q)/\i<=l.length/\∀j,j<i->Zf (gl q k) (gl l j)=false) (λz=>l.length-z.1.toNat) (λd z g e=>?_) ⟨0,rfl,by omega,λj m=>by omega⟩ (by simp;omega);obtain⟨i,rfl,n,c⟩:=g
 simp only at e⊢;unfold ji
 refine Z9 (λh=>?_) (λh=>?_)
 .have h:i<l.length:=by simpa using h
  refine Z4 (k:=?_);simp only[Qa3]
  refine Q4 (jH hk (by omega) hq (hr _ (J9 h))) ?_;simp only
  refine Z9 (λa=>?_) (λa=>?_)
  .have b:l.any (Zf (gl q k))=true:=Qd3.2 ⟨_,J9 h,a⟩
   rw[Qa2 a,Yk,Qa2 b,Qa2 b,vP h c a]
  .rw [a,Qa1 (by simp)]
   refine Z4 (k:=?_);refine e _ ⟨i+1,rfl,h,λj m=>?_⟩ (by simp only;omega)
   rcases Qc8 j i with f|f
   .exact c j f
   .have:j=i:=by omega
    subst this;exact a
 .have h:¬i<l.length:=by simpa using h
  have:i=l.length:=by omega
  subst this;have b:=FN c
  rw[Yk,b];rfl
theorem Z4a(hF:Q7<=F){q:List Rect}(hk:k<q.length)(hl:l.length+q.length<=900000)(hq:∀ s ∈ q,Sm s)(hr:∀ r ∈ l,Sm r):
  MU F l q k=some (q++l.filter (Zf (gl q k)),l.filter λr=> !Zf (gl q k) r):=by
 have J:=hF;unfold Q7 at hF
 unfold MU;refine Q4 (Z2e J hk (by omega) (by omega) hq hr) ?_
 generalize a:Zf (gl q k)=p;simp only
 by_cases f:l.any p=true
 .obtain ⟨x,e,D⟩:=Qd3.1 f
  have d:l.findIdx p<l.length:=Qm0 ⟨x,e,D⟩;have u:p (gl l (l.findIdx p))=true:=by rw[y7 d];exact Qr4 (w:=d)
  have A:∀j,j<l.findIdx p->p (gl l j)=false:=by
   intro j t;rw[y7 (by omega)]
   simpa using Qw0 t
  rw[Yk,Qa2 f,Qa2 f];refine Z8 (by simp) ?_
  refine Z4 (k:=?_);generalize l.findIdx p=i0 at *
  have G:(l.take i0).filter (λr=> !p r)=l.take i0:=by
   rw[Qm1];intro x e
   obtain⟨j,t,rfl⟩:=Qc3 e;have o : j<i0:=by simp at t;omega
   have:=A j o
   rw[y7 (by omega)]at this;simp[this]
  have E:(l.take i0).filter p=[]:=by
   rw[Qp9];intro x e
   obtain⟨j,t,rfl⟩:=Qc3 e;have o : j<i0:=by simp at t;omega
   have:=A j o
   rw[y7 (by omega)]at this;simp[this]
  have O:(l.take (i0+1)).filter (λr=> !p r)=l.take i0:=by
   rw[QB d,Qg3,G];simp[u]
  have I:(l.take (i0+1)).filter p=[gl l i0]:=by
   rw[QB d,Qg3,E];simp[u]
  refine Qa (λz:Int×Int×List Rect×List Rect=>∃(i j:Nat) (b:List Rect),z=((i:Int),(j:Int),b,q++(l.take j).filter p)/\i<j/\j<=l.length/\b.length=l.length/\(∀m,j<=m->gl b m=gl l m)/\b.take i=(l.take j).filter λr=> !p r)
   (λz=>l.length-z.2.1.toNat) (λC z M H=>?_) ⟨i0,i0+1,l,by rw[I];rfl,by omega,by omega,rfl,λ_ _=>rfl,O.symm⟩ (by simp only;omega)
  obtain⟨i,j,b,rfl,P,t,c,g,n⟩:=M;simp only at H⊢
  unfold jq;rw[c]
  have Q:((l.take j).filter p).length<=j:=by
   have:=Qh7 p (l.take j)
   simp at this;omega
  have K:gl (q++(l.take j).filter p) k=gl q k:=by simp[gl,Qa0,Qf8,hk]
  refine Z9 (λh=>?_) (λh=>?_)
  .have h:j<l.length:=by simpa using h
   refine Z4 (k:=?_);simp only[Qa3]
   rw[g j (Qb3 _)];refine Q4 (jH (by simp;omega) (by simp;omega) (λs y=>?_) (hr _ (J9 h))) ?_
   .rcases Qb2.1 y with y|y
    .exact hq s y
    .exact hr s (Qh5 (Qe6.1 y).1)
   rw[K,a];have B:(l.take (j+1)).filter (λr=> !p r)=(l.take j).filter (λr=> !p r)++(if p (gl l j)=true then[]else[gl l j]):=by
    rw[QB h,Qg3]
    by_cases a:p (gl l j)=true
    .rw [Qa2 a];simp[a]
    .rw [Qa1 a];simp[a]
   have v:(l.take (j+1)).filter p=(l.take j).filter p++(if p (gl l j)=true then[gl l j]else[]):=by
    rw[QB h,Qg3]
    by_cases a:p (gl l j)=true
    .rw [Qa2 a];simp[a]
    .rw [Qa1 a];simp[a]
   simp only
   refine Z9 (λa=>?_) (λa=>?_)
   .have a:p (gl l j)=false:=by simpa using a
    refine Z4 (k:=?_);refine Z4 (k:=?_)
    unfold PR;refine Z4 (k:=?_)
    rw[a,Qa1 (by simp)];refine H _ ⟨i+1,j+1,b.set i (gl l j),?_,by omega,by omega,by simp[c],λm L=>?_,?_⟩ (by simp only;omega)
    .rw [v,a,Qa1 (by simp),Qi2];rfl
    .rw [XI _ _ _ _ (by omega),Qa1 (by omega)];exact g m (by omega)
    .rw [B,Qa1 (by rw[a];simp), <-n,QB (by simp;omega),LI _ _ _ _ (Qb3 _),XI _ _ _ _ (by omega),Qa2 rfl]
   .have a:p (gl l j)=true:=by simpa using a
    unfold PR;refine Z4 (k:=?_)
    rw[a,Qa2 rfl];refine H _ ⟨i,j+1,b,?_,by omega,by omega,c,λm L=>g m (by omega),?_⟩ (by simp only;omega)
    .rw [v,a,Qa2 rfl, <-Qh8];rfl
    .rw [B,Qa2 a,Qi2,n]
  .have h:¬j<l.length:=by simpa using h
   have N:j=l.length:=by omega
   unfold qd;simp only[Qa3,xH,c]
   refine Z4 (k:=?_);refine Z4 (k:=?_)
   rw[LJ _ _ _ (by omega),n,Qj6 (by omega)]
 .have f:l.any p=false:=by simpa using f
  rw[Yk,f];refine U3 rfl ?_
  have G:l.filter p=[]:=by
   rw[Qp9];intro x e
   have:=Qf0.1 f x e
   simpa using this
  have E:l.filter (λr=> !p r)=l:=by
   rw[Qm1];intro x e
   have:=Qf0.1 f x e
   simpa using this
  rw[G,E];simp
def jn:Nat->List Rect->Nat->List Rect->List Rect×List Rect
 |0,q,_,rest=>(q,rest)
 |n+1,q,k,rest=>if k<q.length then jn n (q++rest.filter (Zf (gl q k))) (k+1) (rest.filter λr=> !Zf (gl q k) r)else(q,rest)
def VD:List Rect->List Rect×List Rect
 |[]=>([],[])
 |a::l=>jn (l.length+2) [a] 0 l
theorem Q1J{α:Type}(p:α->Bool)(l:List α):(l.filter p).length+(l.filter λr=> !p r).length=l.length:=by
 induction l with
 |nil=>rfl
 |cons a l ih=>by_cases h:p a=true<;>simp[h]<;>omega
theorem Z5W(h:l.length<=Y6):Ra F l=some l:=by
 unfold Ra
 cases h:l with
 |nil=>
  show XK _ _=_;unfold XK
  exact @Q9 _ _ (Classical.propDecidable _) _ _ rfl rfl
 |cons a l' =>
  have:(a::l').length=l'.length+1:=rfl
  show(gd _ _)=_;rw[<-h]
  refine Z4 (k:=?_);simp
theorem Q7r(hF:Q7<=F)(hne:l≠[])(hl:l.length<=400000)(hs:∀r∈l,Sm r):Rf F l=some (VD l):=by
 have g:=hF;unfold Q7 at hF
 cases l with
 |nil=>exact absurd rfl hne
 |cons a l=>
  simp only[Qb0]at hl;unfold Rf
  refine Q9 (by simp only[Qb0];omega) ?_;refine Q9 (by simp only[Qb0];omega) ?_
  have m:(1:Int).toNat=1:=rfl;rw[m]
  refine Q4 (Z5W (by simp[Y6];omega)) ?_;simp only[List.drop_succ_cons,Qj9,List.take_succ_cons,Qn7]
  refine Qa (λz:List Rect×Int×List Rect=>∃(n k:Nat) (q b:List Rect),z=(b,(k:Int),q)/\k<=q.length/\q.length+b.length=l.length+1/\(∀r∈q++b,Sm r)/\l.length+2<=n+k/\jn n q k b=VD (a::l))
   (λz=>l.length+2-z.2.1.toNat) (λf z o i=>?_) ⟨l.length+2,0,[a],l,rfl,by simp,by simp;omega,λr c=>hs r (by simpa using c),by omega,rfl⟩ (by simp;omega)
  obtain⟨n,k,q,b,rfl,p,j,d,u,e⟩:=o;simp only at i⊢
  unfold jF qo
  cases n with
  |zero=>omega
  |succ n=>
  rw[jn]at e;refine Z9 (λh=>?_) (λh=>?_)
  .have h:k<q.length:=by simpa using h
   rw[Qa2 h]at e;refine Q4 (Z4a g h (by omega) (λs hs=>d s (by simp[hs])) (λs hs=>d s (by simp[hs]))) ?_
   refine Z4 (k:=?_);have t:=Q1J (Zf (gl q k)) b
   refine i _ ⟨n,k+1,_,_,rfl,by simp;omega,by simp;omega,λr c=>d r ?_,by omega,e⟩ (by simp only;omega);simp only[Qb2,Qe6]at c⊢
   rcases c with (c|c)|c
   .exact .inl c
   .exact .inr c.1
   .exact .inr c.1
  .have h:¬k<q.length:=by simpa using h
   rw[Qa1 h]at e;unfold qn
   rw[e]
def Q3Q(q:List Rect):Prop:=∀i,0<i->i<q.length->∃j,j<i/\Zf (gl q j) (gl q i)=true
structure JnOk (q rest q' rest' : List Rect):Prop where
 perm:(q' ++ rest').Perm (q++rest)
 chain:Q3Q q'
 pre:q <+: q'
 apart:∀r∈q',∀s∈rest',Zf r s=false
theorem Z0n{α:Type}(p:α->Bool)(l:List α):(l.filter p++l.filter λr=> !p r).Perm l:=List.filter_append_perm p l
theorem Z1V:∀(n:Nat) (q:List Rect) (k:Nat) (rest:List Rect),q.length+rest.length<n+k->k<=q.length->Q3Q q->(∀i,i<k->∀s∈rest,Zf (gl q i) s=false)->JnOk q rest (jn n q k rest).1 (jn n q k rest).2:=by
 intro n
 induction n with
 |zero=>intro q k rest p o;omega
 |succ n ih=>
  intro q k rest p o g m;rw[jn]
  by_cases hk:k<q.length
  .rw [Qa2 hk]
   have x:=Q1J (Zf (gl q k)) rest;have c:∀i,i<q.length->gl (q++rest.filter (Zf (gl q k))) i=gl q i:=λi a=>by simp[gl,Qa0,Qf8,a]
   have h:=ih (q++rest.filter (Zf (gl q k))) (k+1) (rest.filter λr=> !Zf (gl q k) r) (by simp;omega) (by simp;omega) (λi a f=>?_) (λi a s e=>?_)
   .refine ⟨h.perm.trans ?_,h.chain,?_,h.apart⟩
    .rw [Qh8]
     exact(Z0n _ rest).append_left q
    .exact (List.prefix_append _ _).trans h.pre
   .by_cases hiq:i<q.length
    .obtain ⟨j,v,w⟩:=g i a hiq
     exact⟨j,v,by rw[c i hiq,c j (by omega)];exact w⟩
    .refine ⟨k,by omega,?_⟩
     rw[c k hk];have t:gl (q++rest.filter (Zf (gl q k))) i∈rest.filter (Zf (gl q k)):=by
      have b : i-q.length<(rest.filter (Zf (gl q k))).length:=by simp at f;omega
      have:gl (q++rest.filter (Zf (gl q k))) i=gl (rest.filter (Zf (gl q k))) (i-q.length):=by
       simp[gl,Qa0,Qf8,hiq]
      rw[this];exact J9 b
     exact(Qe6.1 t).2
   .have d:=Qe6.1 e
    rcases Qc8 i k with l|l
    .rw [c i (by omega)];exact m i l s d.1
    .have:i=k:=by omega
     subst this;rw[c i hk];simpa using d.2
  .rw [Qa1 hk]
   refine⟨Qs2 _,g,List.prefix_refl _,λr u s e=>?_⟩;obtain⟨i,a,rfl⟩:=Qc3 u
   have:=m i (by simp only at a;omega) s e
   rwa [y7 a]at this
theorem Q1d(a:Rect)(l:List Rect):JnOk [a] l (VD (a::l)).1 (VD (a::l)).2:=
 Z1V (l.length+2) [a] 0 l (by simp;omega) (by simp) (λi c b=>by simp at b;omega) (λi c=>by omega)
def KK:Nat->List Rect->List (List Rect)
 |0,_=>[]
 |_+1,[]=>[]
 |n+1,a::l=>(VD (a::l)).1::KK n (VD (a::l)).2
def KL(l:List Rect):List (List Rect):=KK l.length l
theorem JnOk.lens{a:Rect}{q r:List Rect}(h:JnOk [a] l q r):q≠[]/\r.length<=l.length:=by
 have b:=h.perm.length_eq;simp at b
 obtain⟨t,c⟩:=h.pre;have:1<=q.length:=by rw[<-c];simp
 exact⟨λd=>by rw[d]at this;simp at this,by omega⟩
theorem Z0q:∀(n:Nat) (l:List Rect),l.length<=n->(KK n l).flatten.Perm l:=by
 intro n
 induction n with
 |zero=>intro l b;have:l=[]:=Qd9 (by omega);subst this;exact Qs2 _
 |succ n ih=>
  intro l b
  cases l with
  |nil=>exact Qs2 _
  |cons a l=>
   have h:=Q1d a l;have:=h.lens.2
   simp only[KK,Qt1];simp only[Qb0]at b
   exact((ih _ (by omega)).append_left _).trans h.perm
theorem Q0r(l:List Rect):(KL l).flatten.Perm l:=Z0q _ l (Qb3 _)
def Dz(a b:Int×Int):Prop:=a.1<b.1\/(a.1=b.1/\a.2<b.2)
theorem Z1d{a b:Int×Int}(h:a≠b):Dz a b\/Dz b a:=by
 unfold Dz;have:a.1≠b.1\/a.2≠b.2:=by
  rcases Int.decEq a.1 b.1 with c|c
  .exact .inl c
  .right;intro d;exact h (Prod.ext c d)
 omega
theorem Z0p{p:List Rect}(hp:p∈KL l)(hr:r∈p):r∈l:=(Q0r l).mem_iff.1 (List.mem_flatten.2 ⟨p,hp,hr⟩)
theorem Q2T(F:Nat)(hF:Q7<=F)(u v:Int):XZ F [u,v]=some (if u≠0 then u else v):=by
 unfold Q7 at hF;obtain⟨F,rfl⟩:∃G,F=G+3:=⟨F-3,by omega⟩
 unfold XZ;show Gi _ [u,v] _ 0=_
 unfold Gi;refine U3 (by simp) ?_
 refine Q9 (by simp) ?_;have b:gl [u,v] (0:Int).toNat=u:=rfl
 rw[b]
 by_cases hu:u=0
 .subst hu
  refine Z8 (by simp) ?_;refine Q9 (Y8 (by omega) (by omega)) ?_
  rw[Qa1 (by simp)];show Gi _ [0,v] _ (0+1)=_
  unfold Gi;refine U3 (by simp) ?_
  refine Q9 (by simp) ?_;have a:gl [0,v] ((0:Int)+1).toNat=v:=rfl
  rw[a]
  by_cases hv:v=0
  .subst hv
   refine Z8 (by simp) ?_;refine Q9 (Y8 (by omega) (by omega)) ?_
   show Gi _ [0,0] _ (0+1+1)=_;unfold Gi
   exact Z8 (by simp) rfl
  .exact U3 (by simpa using hv) rfl
 .rw [Qa2 hu]
  exact U3 (by simpa using hu) rfl
theorem Q8P(hF:Q7<=F)(hl:l.length<=120)(hp:∀r∈l,QS r=true):Bk F l=some (if 120<(cn (Q8 l)).length then(⟨[]⟩,1)else(⟨cn (Q8 l)⟩,0)):=by
 unfold Bk;refine Z8 (by simp;omega) ?_
 refine Q4 (Jf (α:=Rect) hF (λr=> !QS r) (by omega) (λr _=>by unfold qV;rw[ct];rfl)) ?_;refine Z8 ?_ ?_
 .rw [Qf0]
  intro r a;rw[hp r a];simp
 .refine Q4 (qM hF (by omega) (λr a=>((Wc r).1 (hp r a)).2.1)) ?_
  refine Q4 (qZ F _) ?_;rfl
theorem Cy(a b:List Rect):Fin λx y=>Q8 a x y && !Q8 b x y:=Ub a b 3
section
theorem Me(h:QS r=true):K7 [r]:=by
 have b:=(Wc r).1 h;exact⟨by simp,λs a=>by rw[Qb1.1 a];exact h,xJ (by omega) (by omega)⟩
theorem Q2Q(h:QS r=true):cn (Q8 [r])=[r]:=(Gl _).1 (Me h).2.2
section
variable {F:Nat} {a:Re_} {z1:Tape×Re_} {x1 k:Int} {x y:Int}
end
end
theorem Q1C{B:List (Rn (List Span))}{N:Nat}(h:∀b∈B,b.v.length<=N):(flat B).length<=B.length*N:=by
 induction B with
 |nil=>simp[flat]
 |cons c B ih=>
  have e:flat (c::B)=Qb c++flat B:=rfl;have:=ih λd f=>h d (by simp[f])
  have g:=h c (by simp);rw[e,Qb5,YN,Qb0,Qg8]
  omega
noncomputable def Gx(a b:Re_):Bool:=Qr a.t_&&(Qr b.t_&&decide (cn (λx y=>Qn (Q8 a.t_ x y) (Q8 b.t_ x y) 3)=[]))
theorem Q4o{a b:Re_}(ha:K7 a.t_)(hb:K7 b.t_):Gx a b=true↔∀x y,Q8 a.t_ x y=true->Q8 b.t_ x y=true:=by
 unfold Gx;rw[WN ha,WN hb,Qc6,Qc6,Qb7,Q2R (Ub _ _ _)]
 constructor
 .intro h x y c
  have:=h x y
  simp only[Qn]at this;rw[c]at this
  simpa using this
 .intro h x y
  simp only[Qn]
  cases c:Q8 a.t_ x y with
  |false=>rfl
  |true=>rw[h x y c];rfl
theorem Q5i{l:List Int}{M:Int}(h:∀x∈l,0<=x/\x<=M):0<=l.sum/\l.sum<=M*l.length:=by
 induction l with
 |nil=>simp
 |cons x l ih=>
  have d:=h x (by simp);have c:=ih λy b=>h y (by simp[b])
  simp only[List.sum_cons,Qb0];have e:M*((l.length+1:Nat):Int)=M*l.length+M:=by rw[Int.natCast_add,Int.mul_add];simp
  omega
theorem gA{f:Rect->Int}{j:Nat}(h:j<l.length):((l.take (j+1)).map f).sum=((l.take j).map f).sum+f (gl l j):=by
 rw[QB h,Qe0,Qv4];simp
def Ww(r:Rect):Int:=(r.R_-r.L_)*(r.H_-r.w_)
def Wn(l:List Rect):Int:=(l.map Ww).sum
theorem Q3p(h:QS r=true):0<=Ww r/\Ww r<=268435456:=by
 rw[Wc]at h;unfold Ww
 have c:0<=r.R_-r.L_/\r.R_-r.L_<=16384:=by omega
 have b:0<=r.H_-r.w_/\r.H_-r.w_<=16384:=by omega
 refine⟨Qs3 c.1 b.1,?_⟩;have:=Qw3 c.2 b.2 b.1 (by omega)
 omega
theorem SpOk.half{n:Int}:∀{l:List Span},SpOk l->∀{a:Int},a<=n+1->(∀s∈l,a<=s.L_/\s.R_<=n)->2*(l.length:Int)<=n+1-a
 |[],_,a,ha,_=>by simp;omega
 |s::l,h,a,ha,hb=>by
  have e:=hb s (by simp);have d:=h.pos s (by simp)
  have c:SpOk l:=⟨λq b=>h.pos q (by simp[b]),(Qd5.1 h.ch).2⟩;have:=SpOk.half (n:=n) c (a:=s.R_+1) (by omega) λq b=>⟨by have:=(Qd5.1 h.ch).1 q b;omega,(hb q (by simp[b])).2⟩
  rw[Qb0];omega
theorem YC.half(hc:YC l){n:Nat}(hb:QN n l):l.length<=n*((n+1) / 2):=by
 obtain⟨b,g,rfl⟩:=hc;have f:∀c∈b,∃s,s∈c.v:=λc hc=>Qt6 _ (g.ne c hc)
 have d:∀c∈b,∀s∈c.v,(⟨s.L_,c.lo,s.R_,c.hi⟩:Rect)∈flat b:=λc hc s e=>Qc1.2 ⟨c,hc,Qc7.2 ⟨s,e,rfl⟩⟩
 have j:(b.length:Int)<=n-0:=g.runs.len (by omega) λc hc=>by
  obtain⟨s,e⟩:=f c hc;have:=hb _ (d c hc s e)
  simp only at this;omega
 have h:∀c∈b,c.v.length<=(n+1) / 2:=λc hc=>by
  have:=(g.sp c hc).half (n:=n) (a:=0) (by omega) λs e=>by
   have:=hb _ (d c hc s e)
   simp only at this⊢;omega
  omega
 have m:=Q1C h;have i:b.length*((n+1) / 2)<=n*((n+1) / 2):=Qb4 _ (by omega)
 omega
section
def Ok{R:Type}(x:Option R)(G:R->Prop):Prop:=∃r,x=some r/\G r
theorem K2{R:Type}{r:R}{G:R->Prop}(h:G r):Ok (some r) G:=⟨r,rfl,h⟩
theorem V9{R:Type}{p:Prop}[Decidable p]{x:Option R}{G:R->Prop}(h:p)(k:Ok x G):Ok (gd p x) G:=by unfold gd;rw[Qa2 h];exact k
theorem G5{α R:Type}{x:Option α}{f:α->Option R}{a:α}{G:R->Prop}(h:x=some a)(k:Ok (f a) G):Ok (x.bind f) G:=by rw[h];exact k
theorem V7{R:Type}{b:Bool}{x y:Option R}{G:R->Prop}(ht:b=true->Ok x G)(hf:b=false->Ok y G):Ok (br b x y) G:=by cases b;exact hf rfl;exact ht rfl
theorem Zb{σ R:Type}{body:(σ->Option R)->σ->Option R}{G:R->Prop}(I:σ->Prop)(μ:σ->Nat)(round:∀again z,I z->(∀z',I z' -> μ z' < μ z->Ok (again z') G)->Ok (body again z) G):∀{n:Nat} {z:σ},I z->μ z<n->Ok (Y3 body n z) G:=by
 intro n
 induction n with
 |zero=>intro z _ h;omega
 |succ n ih=>
  intro z b h;exact round _ z b λz' c d=>ih c (by omega)
section
variable (R:List Rect)
end
variable {F:Nat} {a:Re_}
end
theorem qQ(hF:Q7<=F)(hl:l.length<=1000000)(hp:∀r∈l,QS r=true):GU F l=some (Wn l):=by
 unfold Q7 at hF;have b:∀j,0<=((l.take j).map Ww).sum/\((l.take j).map Ww).sum<=268435456*1000000:=λj=>by
  have:=Q5i (l:=(l.take j).map Ww) (M:=268435456) (λx f=>by
   obtain⟨s,m,rfl⟩:=Qc7.1 f;exact Q3p (hp s (Qh5 m)))
  simp only[Qg1,Qd1]at this;omega
 unfold GU;refine Qa (λz:Int×Int=>∃j:Nat,z=(((l.take j).map Ww).sum,(j:Int))/\j<=l.length) (λz=>l.length-z.2.toNat) (λc z i d=>?_) ⟨0,by simp,by omega⟩ (by simp;omega)
 obtain⟨j,rfl,n⟩:=i;simp only at d⊢
 have o:=b j;have e:=b (j+1)
 unfold cz;refine Z9 (λh=>?_) (λh=>?_)
 .have h:j<l.length:=by simpa using h
  refine Z4 (k:=?_);simp only[Qa3]
  have g:=(Wc _).1 (hp _ (J9 h));have p:=Q3p (hp _ (J9 h))
  rw[gA h]at e;refine Q9 (Y8 (by omega) (by omega)) ?_
  refine Q9 (Y8 (by omega) (by omega)) ?_;show gd (Q5 (Ww (gl l j))) _=_
  refine Q9 (Y8 (by omega) (by omega)) ?_;show gd (Q5 (((l.take j).map Ww).sum+Ww (gl l j))) _=_
  refine Q9 (Y8 (by omega) (by omega)) ?_;refine Z4 (k:=?_)
  refine d _ ⟨j+1,?_,h⟩ (by simp only;omega);rw[gA h];rfl
 .have h:¬j<l.length:=by simpa using h
  have:j=l.length:=by omega
  subst this;rw[Qe5]
  rfl
theorem DD(ht:TOk t)(h1:1<=n)(h2:n<=1099511627776):∃t' b,UG F t n=some (t',b)/\TOk t':=by
 obtain⟨d,k,c,e,_,_⟩:=Qz (F:=F) ht h1 h2;refine⟨d,k==n-1,?_,e⟩
 unfold UG;refine Q4 c ?_
 refine Q9 (Y8 (by omega) (by omega)) rfl
section
def zs(k:Int):Int:=if 0<=k/\k<=7 then 0 else if 8<=k/\k<=11 then 1 else 2
theorem Q3W(F:Nat)(k:Int):HY F k=some (zs k):=by
 have j:WL F k true=some 0:=rfl;have l:UV F true=some 1:=rfl
 have m:UV F false=some 2:=rfl;have e:∀n:Int,(k==n)=decide (k=n):=λn=>by rw[Qd0];simp
 unfold HY;simp only[e]
 by_cases h:0<=k/\k<=7
 .have f:zs k=0:=by unfold zs;rw[Qa2 h]
  rw[f];have b:∀{n:Int} {x:Option Int},(k≠n->x=some 0)->br (decide (k=n)) (WL F k (decide (k=n))) x=some 0:=λ{n x} hx=>by
   refine Z9 (λd=>by rw[d];exact j) (λd=>hx (by simpa using d))
  refine b λq=>b λo=>b λr=>b λs=>b λv=>b λu=>b λt=>?_
  rw[show decide (k=7)=true by rw[Qb7];omega];exact j
 .have c:∀n:Int,0<=n->n<=7->decide (k=n)=false:=λn p g=>by rw[Qe2];omega
  rw[c 0 (by omega) (by omega),c 1 (by omega) (by omega),c 2 (by omega) (by omega),c 3 (by omega) (by omega),c 4 (by omega) (by omega),c 5 (by omega) (by omega),c 6 (by omega) (by omega),c 7 (by omega) (by omega)];simp only[br]
  unfold WL;simp only[br,e]
  by_cases g:8<=k/\k<=11
  .have f:zs k=1:=by unfold zs;rw[Qa1 h,Qa2 g]
   rw[f];have b:∀{n:Int} {x:Option Int},(k≠n->x=some 1)->br (decide (k=n)) (UV F (decide (k=n))) x=some 1:=λ{n x} hx=>by
    refine Z9 (λd=>by rw[d];exact l) (λd=>hx (by simpa using d))
   refine b λq=>b λo=>b λr=>?_
   rw[show decide (k=11)=true by rw[Qb7];omega];exact l
  .have f:zs k=2:=by unfold zs;rw[Qa1 h,Qa1 g]
   rw[f];have i:∀n:Int,8<=n->n<=11->decide (k=n)=false:=λn p g=>by rw[Qe2];omega
   rw[i 8 (by omega) (by omega),i 9 (by omega) (by omega),i 10 (by omega) (by omega),i 11 (by omega) (by omega)];exact m
def zp(w:Int)(k:Int):Bool:=zs k==w
theorem Q3Y(F:Nat)(k w:Int):HZ F k w=some (zp w k):=by
 unfold HZ;exact Q4 (Q3W F k) rfl
structure LB (n:Nat) (L:List A2_):Prop where
 vl:VL L
 box:∀f∈L,QN n f.g_.t_
 n15:n<=15
theorem Z2y(hc:YC l){n:Nat}(hb:QN n l)(hn:n<=15):l.length<=120:=by
 have b:=hc.half hb;have c:n*((n+1) / 2)<=15*8:=Qn1 hn (by omega)
 omega
theorem Ll(hf:Fin S){n:Nat}(hn:n<=15)(hb:∀x y,S x y=true->0<=x/\x<n/\0<=y/\y<n):K7 (cn S)/\QN n (cn S):=by
 have h:=Q3g (n:=(n:Int)) hf hb;exact⟨⟨Z2y (US hf) h hn,h.prop (by omega),US hf⟩,h⟩
variable {F n:Nat} {L:List A2_} {d:Int}
theorem LB.rbox(hL:LB n L)(d:Int)(p:Int->Bool):QN n (Ze L d p):=λr b=>by
 obtain⟨f,c,b⟩:=Z0Q b;exact hL.box f c r b
theorem LB.rval(hL:LB n L)(d:Int)(p:Int->Bool):K7 (cn (Q8 (Ze L d p)))/\QN n (cn (Q8 (Ze L d p))):=Ll (QX _) hL.n15 λx y h=>(hL.rbox d p).in h
theorem kF(hF:Q7<=F)(hL:LB n L)(d w:Int):Pp F L d w=some (⟨cn (Q8 (Ze L d (zp w)))⟩,0):=by
 have c:=hL.vl.len;unfold Pp
 refine Q4 (Q1O hF (by omega) (λf b=>hL.vl.rlen b) d (zp w) (λf _=>Q3Y F f.k_ w)) ?_;have g:=Q9Y (L:=L) (λf b=>hL.vl.rlen b) d (zp w)
 refine Q4 (za hF (by omega) λr e=>?_) ?_
 .have:=hL.rbox d (zp w) r e
  omega
 .have:=(hL.rval d (zp w)).1.1
  rw[Qa1 (by omega)]
theorem Lc(hF:Q7<=F)(hv:VL L)(d1:0<=d)(d2:d<=36864){a:Re_}(ha:K7 a.t_){m:Int}(m1:0<=m)(m2:m<=268435456):Gv F L d m a=some 0:=by
 unfold Gv;refine Q4 (Q1Q hF L d) ?_
 rw[Qa1 (by simp[(Hz L).2 hv]),Qa1 (by omega)];refine Z8 rfl ?_
 refine Q4 (Vw hF a) ?_;rw[WN ha]
 refine Z8 rfl ?_;refine Z8 (by rw[Qe2];omega) ?_
 rw[show decide ((268435456:Int)<m)=false by rw[Qe2];omega];rfl
theorem Q4d(hF:Q7<=F)(hL:LB n L)(d1:0<=d)(d2:d<=36864):Mb F L d=some (⟨cn (Q8 (Ze L d (zp 0)))⟩,0):=by
 unfold Mb;refine Q4 (Lc hF hL.vl d1 d2 K7.nil (by omega) (by omega)) ?_
 refine Z8 rfl ?_;exact Q4 (kF hF hL d 0) rfl
noncomputable def VN(L:List A2_)(d:Int)(a:List Rect):List Rect:=cn λx y=>Q8 (Ze L d (zp 1)) x y&&Q8 a x y
noncomputable def Vo(L:List A2_)(d m:Int)(a:List Rect):List Rect:=((KL (VN L d a)).filter λp=>decide (m<Wn p)).flatten
theorem Z2R(a b:List Rect):Fin λx y=>Q8 a x y&&Q8 b x y:=Ub a b 2
theorem gT(hL:LB n L)(d:Int)(a:List Rect):K7 (VN L d a)/\QN n (VN L d a):=Ll (Z2R _ _) hL.n15 λx y h=>(hL.rbox d (zp 1)).in (Qa4 _ _ ▸ h).1
theorem Q6i{m:Int}(h:r∈Vo L d m a):r∈VN L d a:=by
 obtain⟨p,b,c⟩:=List.mem_flatten.1 h;exact Z0p (Qe6.1 b).1 c
theorem gV(hL:LB n L)(d m:Int)(a:List Rect):QN n (Vo L d m a):=λr b=>(gT hL d a).2 r (Q6i b)
theorem gU(hL:LB n L)(d m:Int)(a:List Rect):K7 (cn (Q8 (Vo L d m a)))/\QN n (cn (Q8 (Vo L d m a))):=Ll (QX _) hL.n15 λx y h=>(gV hL d m a).in h
theorem Q1D{p:List Rect->Bool}:∀Q:List (List Rect),(Q.filter p).flatten.length<=Q.flatten.length
 |[]=>Qb3 _
 |q::Q=>by
  have:=Q1D (p:=p) Q
  rw[Qi7,Qt1,Qb5];split
  .rw [Qt1,Qb5];omega
  .omega
theorem Q4a(hF:Q7<=F)(hL:LB n L)(d1:0<=d)(d2:d<=36864){a:Re_}(ha:K7 a.t_){m:Int}(m1:0<=m)(m2:m<=268435456):Ma F L d m a=some (⟨cn (Q8 (Vo L d m a.t_))⟩,0):=by
 have f:=hF;unfold Q7 at hF
 have D:=gT hL d a.t_;have s:=D.1.1
 have K:=ha.1;have E:=hL.rval d (zp 1)
 have O:=E.1.1;unfold Ma
 refine Q4 (Lc f hL.vl d1 d2 ha m1 m2) ?_;refine Z8 rfl ?_
 refine Q4 (kF f hL d 1) ?_;refine Z8 rfl ?_
 refine Q4 (Bn f (by omega) (λr c=>(E.1.2.2.pos c).1) (λr c=>(ha.2.2.pos c).1) (k:=λu v=>u&&v) rfl (λu v=>by cases u<;>cases v<;>rfl)) ?_;have e:(cn λx y=>Q8 (cn (Q8 (Ze L d (zp 1)))) x y&&Q8 a.t_ x y)=VN L d a.t_:=by
  unfold VN;congr 1
  funext x y
  rw[Yj (QX _)]
 rw[e];refine Z8 (by rw[Qe2];omega) ?_
 have N:=(Q0r (VN L d a.t_)).length_eq;refine Qa (λz:List Rect×List Rect=>∃(k:Nat) (Q:List (List Rect)),Q++KK k z.1=KL (VN L d a.t_)/\z.1.length<=k/\z.1.length<=120/\z.2=(Q.filter λp=>decide (m<Wn p)).flatten/\∀r∈z.1,r∈VN L d a.t_) (λz=>z.1.length) (λi z M H=>?_) ⟨_,[],rfl,Qb3 _,s,rfl,λ_ h=>h⟩ (by simp only;omega)
 obtain⟨l,S⟩:=z;obtain⟨k,Q,j,A,G,rfl,w⟩:=M
 simp only at j A G w H⊢;have I:Q.flatten.length<=120:=by
  have:=congrArg (λq=>(List.flatten q).length) j
  simp only[List.flatten_append,Qb5]at this;omega
 have V:=Q1D (p:=λp=>decide (m<Wn p)) Q;unfold kG
 cases l with
 |nil=>
  refine Z8 (by simp) ?_;unfold Le
  have P:KK k []=[]:=by cases k<;>rfl
  rw[P,Qi2]at j;subst j
  refine Q4 (za f (by omega) λr c=>?_) ?_
  .have:=gV hL d m a.t_ r c
   omega
  .have:=(gU hL d m a.t_).1.1
   unfold Vo at this;rw[Qa1 (by omega)];rfl
 |cons b l=>
  refine U3 (by simp) ?_;refine Q4 (Q7r f (by simp) (by omega) (λr c=>Q6G (D.1.2.1 r (w r c)))) ?_
  cases k with
  |zero=>simp at A
  |succ k=>
  simp only[KK]at j;have t:=Q1d b l
  have B:=t.perm.length_eq;simp only[Qb5,Qb0,Qb6]at B A G
  have J:∀r∈(VD (b::l)).1,r∈VN L d a.t_:=λr c=>w r (t.perm.mem_iff.1 (Qb2.2 (.inl c)))
  have T:1<=(VD (b::l)).1.length:=by
   have:=t.lens.1
   exact List.length_pos_iff.2 this
  refine Q4 (qQ f (by omega) λr c=>D.1.2.1 r (J r c)) ?_;have g:∀o,o=(((Q++[(VD (b::l)).1])).filter λp=>decide (m<Wn p)).flatten->i ((VD (b::l)).2,o)=some (⟨cn (Q8 (Vo L d m a.t_))⟩,0):=λo U=>by
   refine H _ ⟨k,Q++[(VD (b::l)).1],by rw[<-j,Qh8];rfl,by simp only;omega,by simp only;omega,U,λr c=>w r (t.perm.mem_iff.1 (Qb2.2 (.inr c)))⟩ (by simp only[Qb0];omega)
  refine Z9 (λC=>?_) (λC=>?_)
  .refine Q9 (by simp only[Y6];omega) ?_
   refine g _ ?_;rw[Qg3,Qi7,C];simp
  .refine g _ ?_
   rw[Qg3,Qi7,C];simp
noncomputable def UM(L:List A2_)(d m:Int)(a:List Rect)(x y:Int):Bool:=Q8 a x y && !(Q8 (Ze L d (zp 0)) x y||Q8 (Vo L d m a) x y)
theorem vS(L:List A2_)(d m:Int)(a:List Rect):Fin (UM L d m a):=by
 have:=Cy a (Ze L d (zp 0)++Vo L d m a)
 simp only[Ch]at this;exact this
end
section
theorem Q0G{a b:Re_}(ha:K7 a.t_)(hb:K7 b.t_)(h:∀x y,Q8 a.t_ x y=true->Q8 b.t_ x y=true->False):Zm a b=false:=by
 rw[<-Qf7];intro c
 unfold Zm at c;rw[WN ha,WN hb,Qc6,Qc6,ym ha.2.1 hb.2.1]at c
 obtain⟨x,y,e,f⟩:=c;exact h x y e f
theorem LayT.lb(h:LayT L):LB 9 L:=⟨h.vl,λf b=>(h.fea f b).1.reg.box,by omega⟩
variable {F n:Nat} {L:List A2_} {d:Int}
theorem Q4D{w n:Int}(h0:0<=w)(hn:0<n):0<=w.tmod n/\w.tmod n<n:=⟨Int.tmod_nonneg _ h0,Int.tmod_lt_of_pos _ hn⟩
end
section
variable {F n:Nat} {L:List A2_} {d:Int}
end
section
variable {F:Nat}
end
section
variable {F n:Nat} {L:List A2_} {d:Int}
end
section
variable {F:Nat} {L:List A2_} {d:Int}
theorem xR:∀{l:List Int},Yd l->∀{lo hi:Int},(∀v∈l,lo<=v/\v<=hi)->lo<=hi+1->(l.length:Int)<=hi+1-lo
 |[],_,lo,hi,_,h=>by simp;omega
 |a::l,h,lo,hi,hb,h2=>by
  have b:=Qd5.1 h;have e:=hb a (by simp)
  have:=xR (l:=l) b.2 (lo:=a+1) (hi:=hi) (λv c=>by have:=b.1 v c;have:=hb v (by simp[c]);omega) (by omega)
  rw[Qb0];omega
theorem SX(hF:Q7<=F)(ha:a.length<=200000)(hb:b.length<=200000)(pa:∀r∈a,QS r=true)(pb:∀r∈b,QS r=true):Wk F a b how=some (cn λx y=>Qn (Q8 a x y) (Q8 b x y) how):=by
 refine Q0a hF ha hb ?_ ?_
 .have:=xR (VF b (VF a (f:=Rect.L_) (g:=Rect.R_) .nil)) (lo:=0) (hi:=16384) (fun v e=>by
   rcases(ZC b _ _).1 e with h|⟨r,c,h⟩
   .rcases (ZC a _ _).1 h with h|⟨r,c,h⟩
    .cases h
    .have h:v=r.L_\/v=r.R_:=h
     have:=(Wc r).1 (pa r c);omega
   .have h:v=r.L_\/v=r.R_:=h
    have:=(Wc r).1 (pb r c);omega) (by omega)
  unfold QY;omega
 .have:=xR (VF b (VF a (f:=Rect.w_) (g:=Rect.H_) .nil)) (lo:=0) (hi:=16384) (fun v e=>by
   rcases(ZC b _ _).1 e with h|⟨r,c,h⟩
   .rcases (ZC a _ _).1 h with h|⟨r,c,h⟩
    .cases h
    .have h:v=r.w_\/v=r.H_:=h
     have:=(Wc r).1 (pa r c);omega
   .have h:v=r.w_\/v=r.H_:=h
    have:=(Wc r).1 (pb r c);omega) (by omega)
  unfold Zu;omega
end
section
def Yw(r:Rg_):Int:=
 if r.year_<0\/100<r.year_ then 18 else if r.c_<0\/40<=r.c_ then 13 else if r.g_.t_.length=0\/Qr r.g_.t_=false then 7 else 0
theorem KI(r:Rg_):Yw r=0↔0<=r.year_/\r.year_<=100/\0<=r.c_/\r.c_<40/\r.g_.t_.length≠0/\K7 r.g_.t_:=by
 unfold Yw;rw[<-Wh]
 by_cases h1:r.year_<0\/100<r.year_
 .rw [Qa2 h1];simp;omega
 .rw [Qa1 h1]
  by_cases h2:r.c_<0\/40<=r.c_
  .rw [Qa2 h2];simp;omega
  .rw [Qa1 h2]
   by_cases b:r.g_.t_.length=0\/Qr r.g_.t_=false
   .rw [Qa2 b]
    constructor
    .intro h;cases h
    .rintro ⟨_,_,_,_,e,c⟩
     rcases b with b|b
     .exact absurd b e
     .rw [c]at b;cases b
   .rw [Qa1 b]
    refine⟨λ_=>?_,λ_=>rfl⟩;have e:r.g_.t_.length≠0:=λh=>b (.inl h)
    have c:Qr r.g_.t_=true:=by
     cases hv:Qr r.g_.t_ with
     |true=>rfl
     |false=>exact absurd (.inr hv) b
    exact⟨by omega,by omega,by omega,by omega,e,c⟩
theorem Z2m(hF:Q7<=F)(r:Rg_):Ck F r=some (Yw r):=by
 unfold Ck Yw;rw[Yg (DM F r)]
 unfold DM;refine Z9 (λh=>by rw[Qa2 (by simpa using h)]) (λh=>?_)
 rw[Qa1 (by simpa using h),Yg (DK F r)];unfold DK
 refine Z9 (λh=>by rw[Qa2 (by simpa using h)]) (λh=>?_);rw[Qa1 (by simpa using h)]
 refine Z9 (λh=>?_) (λh=>?_)
 .have h:r.g_.t_.length=0:=by simpa using h
  rw[Qa2 (.inl h)];rfl
 .have h:r.g_.t_.length≠0:=by simpa using h
  refine Q4 (Vw hF _) ?_;unfold Cj
  refine Z9 (λb=>?_) (λb=>?_)
  .rw [Qa2 (.inr (by simpa using b))]
  .rw [Qa1 (by rintro(h3|h3);exact h h3;rw[h3]at b;cases b)]
def Qs(f g:Rg_):Bool:=decide (f.year_<g.year_)||(decide (f.year_=g.year_)&&decide (f.c_<g.c_))
theorem VB(f g:Rg_):Qs f g=true↔f.year_<g.year_\/(f.year_=g.year_/\f.c_<g.c_):=by unfold Qs;simp
theorem yE{g h:Rg_}(h1:Qs f g=true)(h2:Qs g h=true):Qs f h=true:=by
 rw[VB]at *;omega
theorem Z2o(hF:Q7<=F)(f g:Rg_):∃c,Cl F f g=some c/\(c<0↔Qs f g=true)/\(0<c↔Qs g f=true):=by
 refine⟨if(if f.year_<g.year_ then(-1:Int)else if g.year_<f.year_ then 1 else 0)≠0 then(if f.year_<g.year_ then(-1:Int)else if g.year_<f.year_ then 1 else 0)else(if f.c_<g.c_ then(-1:Int)else if g.c_<f.c_ then 1 else 0),?_,?_⟩
 .unfold Cl
  exact Q4 (Hx _ _ _) (Q4 (Hx _ _ _) (Q4 (Q2T F hF _ _) rfl))
 .rw [VB,VB]
  by_cases h1:f.year_<g.year_
  .simp [h1];omega
  .by_cases h2:g.year_<f.year_
   .simp [h1,h2];omega
   .by_cases h3:f.c_<g.c_
    .simp [h1,h2,h3];omega
    .by_cases h4:g.c_<f.c_
     .simp [h1,h2,h3,h4];omega
     .simp [h1,h2,h3,h4]
def Yp:Option Rg_->List Rg_->Int
 |_,[]=>0
 |p,f::l=>if Yw f≠0 then Yw f else if p.any (λg=> !Qs g f)then 3 else Yp (some f) l
def NX(l:List Rg_):Prop:=l.Pairwise λf g=>f.year_=g.year_->Zm f.g_ g.g_=false
open Classical in
def Zo(l:List Rg_):Int:=if 200<l.length then 1 else if Yp none l≠0 then Yp none l else if NX l then 0 else 11
def WU(l:List Rg_)(i:Nat):Option Rg_:=if i=0 then none else some (gl l (i-1))
theorem Q0n(l:List Rg_)(i:Nat):WU l (i+1)=some (gl l i):=by simp[WU]
theorem Q3F{l:List Rg_}:NX l↔∀j,j<l.length->∀i,i<j->(gl l i).year_=(gl l j).year_->Zm (gl l i).g_ (gl l j).g_=false:=by
 unfold NX;rw[Qd6]
 constructor
 .intro h j b i f c
  rw[y7 b,y7 (by omega)]at *;exact h i j (by omega) b f c
 .intro h i j f b e c
  have:=h j b i e
  rw[y7 b,y7 (by omega)]at this;exact this c
theorem Q9t(hF:Q7<=F){l:List Rg_}(hl:l.length<=200)(h0:NX l->y=0)(h1:¬NX l->y=11):BQ F l=some y:=by
 have w:=hF;unfold Q7 at hF
 unfold BQ;refine Qa (λz:Int=>∃i:Nat,z=i/\i<=l.length/\∀j,j<i->∀a,a<j->(gl l a).year_=(gl l j).year_->Zm (gl l a).g_ (gl l j).g_=false) (λz=>l.length-z.toNat) (λu z v D=>?_) ⟨0,rfl,by omega,λj r=>absurd r (Qd7 j)⟩ (by simp;omega)
 obtain⟨i,rfl,G,C⟩:=v;unfold bp
 refine Z9 (λh=>?_) (λh=>?_)
 .have h:i<l.length:=by simpa using h
  refine Z4 (k:=?_);refine Z4 (k:=?_)
  refine Qa (λz:Int=>∃j:Nat,z=j/\j<=i/\∀a,a<j->(gl l a).year_=(gl l i).year_->Zm (gl l a).g_ (gl l i).g_=false) (λz=>i-z.toNat) (λg z v t=>?_) ⟨0,rfl,by omega,λj r=>absurd r (Qd7 j)⟩ (by simp;omega);obtain⟨j,rfl,r,B⟩:=v
  unfold bn;simp only[Qa3]
  have p:(l.take i).length=i:=by rw[Qd1];omega
  simp only[p];refine Z9 (λf=>?_) (λf=>?_)
  .have f:j<i:=by simpa using f
   have e:gl (l.take i) j=gl l j:=by simp[gl,Qa0,f]
   rw[e];refine Z4 (k:=?_)
   have A:∀b:Bool,b=(decide ((gl l j).year_=(gl l i).year_)&&Zm (gl l j).g_ (gl l i).g_)->BP F j g b=some y:=by
    intro b m;unfold BP
    refine Z9 (λc=>?_) (λc=>?_)
    .rw [c,Qx7,Qa4,Qb7]at m
     rw[h1 λE=>by rw[Q3F.1 E i h j f m.1]at m;cases m.2]
    .rw [c]at m
     refine Z4 (k:=?_);refine t _ ⟨j+1,by omega,f,λa s o=>?_⟩ (by omega)
     rcases Qc8 a j with q|q
     .exact B a q o
     .have:a=j:=by omega
      subst this;rw[Qa5 o,Qc6]at m
      exact m.symm
   refine Z9 (λc=>?_) (λc=>?_)
   .refine Q4 (Q9N w _ _) (A _ ?_)
    have c:(gl l j).year_=(gl l i).year_:=by simpa using c
    rw[Qa5 c,Qc6]
   .refine A _ ?_
    have c:¬(gl l j).year_=(gl l i).year_:=by simpa using c
    rw[Qa7 c,Qn8]
  .have f:j=i:=by
    have:¬j<i:=by simpa using f
    omega
   subst f;unfold zN
   refine Z4 (k:=?_);refine D _ ⟨j+1,by omega,h,λb m a s o=>?_⟩ (by omega)
   rcases Qc8 b j with q|q
   .exact C b q a s o
   .have:b=j:=by omega
    subst this;exact B a s o
 .have h:i=l.length:=by
   have:¬i<l.length:=by simpa using h
   omega
  subst h;rw[h0 (Q3F.2 C)];rfl
theorem Q9v(hF:Q7<=F)(l:List Rg_):SF F l=some (Zo l):=by
 have B:=hF;unfold Q7 at hF
 unfold SF;refine Z9 (λh=>?_) (λh=>?_)
 .have h:200<l.length:=by simp at h;omega
  rw[Zo,Qa2 h]
 .have h:¬200<l.length:=by simp at h;omega
  have C:Yp none l=0->BQ F l=some (Zo l):=λp=>by
   refine Q9t B (by omega) (λD=>?_) (λD=>?_)
   .rw [Zo,Qa1 h,Qa1 (by simp[p]),Qa2 D]
   .rw [Zo,Qa1 h,Qa1 (by simp[p]),Qa1 D]
  have A:Yp none l≠0->Zo l=Yp none l:=λp=>by rw[Zo,Qa1 h,Qa2 p]
  refine Qa (λz:Int=>∃i:Nat,z=i/\i<=l.length/\Yp none l=Yp (WU l i) (l.drop i)) (λz=>l.length-z.toNat) (λe z I H=>?_) ⟨0,rfl,by omega,rfl⟩ (by simp;omega);obtain⟨i,rfl,J,m⟩:=I
  unfold bq;refine Z9 (λs=>?_) (λs=>?_)
  .have s:i<l.length:=by simpa using s
   rw[Yc s,Yp]at m;refine Z4 (k:=?_)
   simp only[Qa3];have t:∀c:Int,Yw (gl l i)=c->c≠0->Zo l=c:=λc r q=>by
    rw[Qa2 (by rw[r];exact q),r]at m;rw[A (by rw[m];exact q),m]
   have f:Yw (gl l i)=0->∀b:Bool,b=(WU l i).any (λg=> !Qs g (gl l i))->KD F i e b=some (Zo l):=by
    intro r b u;rw[Qa1 (by simp[r])]at m
    unfold KD;refine Z9 (λq=>?_) (λq=>?_)
    .rw [Qa2 (u ▸ q)]at m
     rw[A (by rw[m];decide),m]
    .rw [Qa1 (by rw[<-u,q];simp)]at m
     refine Z4 (k:=?_);refine H _ ⟨i+1,by omega,s,?_⟩ (by omega)
     rw[m,Q0n]
   rw[Yg (BT F l i e)];unfold BT
   refine Z9 (λr=>?_) (λr=>?_)
   .rw [t 18 (by unfold Yw;rw[Qa2 (by simpa using r)]) (by decide)]
   .rw [Yg (BS F l i e)]
    unfold BS;refine Z9 (λq=>?_) (λq=>?_)
    .rw [t 13 (by unfold Yw;rw[Qa1 (by simpa using r),Qa2 (by simpa using q)]) (by decide)]
    .refine Q4 (Dg B _) ?_
     rw[Yg (BR F l i e)];unfold BR
     refine Z9 (λj=>?_) (λj=>?_)
     .have j:(gl l i).g_.t_.length=0\/Qr (gl l i).g_.t_=false:=by
       rw[Qi4]at j;rcases j with o|o
       .exact .inr (by simpa using o)
       .exact .inl (by simpa using o)
      rw[t 7 (by unfold Yw;rw[Qa1 (by simpa using r),Qa1 (by simpa using q),Qa2 j]) (by decide)]
     .have j:¬ ((gl l i).g_.t_.length=0\/Qr (gl l i).g_.t_=false):=by
       rw[Qd4]at j;simp only[Qa3]at j
       rintro(o|o)
       .rw [o]at j;simp at j
       .rw [o]at j;simp at j
      have o:Yw (gl l i)=0:=by unfold Yw;rw[Qa1 (by simpa using r),Qa1 (by simpa using q),Qa1 j]
      refine Z9 (λp=>?_) (λp=>?_)
      .have p:0<i:=by simpa using p
       refine Z4 (k:=?_);refine Z4 (k:=?_)
       have G:((i:Int)-1).toNat=i-1:=by omega
       rw[G];have E:(WU l i).any (λg=> !Qs g (gl l i))=!Qs (gl l (i-1)) (gl l i):=by simp[WU,show i≠0 from by omega]
       refine Z9 (λw=>?_) (λw=>?_)
       .refine f o _ ?_
        have w:(gl l i).year_<(gl l (i-1)).year_:=by simpa using w
        rw[E,Qx7,Qh9, <-Qf7,VB];omega
       .have w:¬(gl l i).year_<(gl l (i-1)).year_:=by simpa using w
        refine Z4 (k:=?_);refine Z4 (k:=?_)
        refine Z9 (λv=>?_) (λv=>?_)
        .have v:(gl l i).year_=(gl l (i-1)).year_:=by simpa using v
         refine Z4 (k:=?_);refine Z4 (k:=?_)
         refine f o _ ?_;rw[E,Qd0,Qh9, <-Qf7,VB,Qb7]
         simp only[Qa3];omega
        .have v:¬(gl l i).year_=(gl l (i-1)).year_:=by simpa using v
         refine f o _ ?_;rw[E,Qx7,Ql4,VB];omega
      .have p:i=0:=by simp at p;omega
       exact f o _ (by simp[WU,p])
  .have s:¬i<l.length:=by simpa using s
   rw[Qf1 (by omega)]at m;exact C m
end
structure GrpOf (gs:List (Int×List Rg_)) (l:List Rg_):Prop where
 nd:(gs.map (·.1)).Nodup
 row:∀e∈gs,e.2=l.filter λf=>decide (f.year_=e.1)
 key:∀f∈l,∃e∈gs,e.1=f.year_
theorem GrpOf.nil:GrpOf [] []:=⟨by simp,λe c=>by simp at c,λf b=>by simp at b⟩
theorem GrpOf.gRow{l:List Rg_}(h:GrpOf gs l)(y:Int):gRow y gs=l.filter λf=>decide (f.year_=y):=by
 unfold Go.Ab.gRow;rcases JF y gs with ⟨m,q,i,j⟩|⟨o,c⟩
 .rw [i]
  simp only
  rw[h.row q (Qf2 i),j]
 .rw [o,Qh0 (Qb3 _)]
  simp only
  symm
  rw[Qp9];intro f r g
  obtain⟨e,p,b⟩:=h.key f r;exact c e p (by rw[b];exact Qa6 g)
theorem GrpOf.app{l:List Rg_}(h:GrpOf gs l)(f:Rg_):GrpOf (gApp f.year_ [f] gs) (l++[f]):=by
 obtain⟨q,z,J,C,D⟩:=Cu (y:=f.year_) (m:=[f]) (gs:=gs);have u:=Q1u (y:=f.year_) (m:=[f]) h.nd
 have A:(gApp f.year_ [f] gs)[z5 f.year_ gs]?=some q:=by rw[C,Ds D,Qa2 rfl]
 have r:∀e∈gApp f.year_ [f] gs,e=q\/(e∈gs/\e.1≠f.year_):=by
  intro e o;obtain⟨j,c⟩:=Qo2 o
  by_cases b:j=z5 f.year_ gs
  .rw [b,A]at c;cases c;exact .inl rfl
  .right
   have v:=c;rw[C,Ds D,Qa1 b]at v
   refine⟨Qf2 v,λw=>b ?_⟩;exact yy u c A (by rw[w,z])
 refine⟨u,λe o=>?_,λg p=>?_⟩
 .rcases r e o with rfl|⟨I,E⟩
  .rw [J,h.gRow,Qg3,z];simp
  .rw [h.row e I,Qg3]
   have:([f].filter λg=>decide (g.year_=e.1))=[]:=by simp;exact λH=>E H.symm
   rw[this,Qi2]
 .rcases Qb2.1 p with p|p
  .obtain ⟨e,o,t⟩:=h.key g p
   by_cases w:e.1=f.year_
   .exact ⟨q,Qf2 A,by rw[z, <-t,w]⟩
   .obtain ⟨j,c⟩:=Qo2 o
    have b:j≠z5 f.year_ gs:=by
     rintro rfl;rcases JF f.year_ gs with ⟨_,K,s,B⟩|⟨G,_⟩
     .rw [c]at s;cases s;exact w B
     .rw [G,Qh0 (Qb3 _)]at c;cases c
    refine⟨e,Qf2 (i:=j) ?_,t⟩;rw[C,Ds D,Qa1 b];exact c
  .have:g=f:=by simpa using p
   subst this;exact⟨q,Qf2 A,z⟩
theorem Z2J(y:Int)(m:List Rg_)(gs:List (Int×List Rg_)):(gApp y m gs).length<=gs.length+1:=by
 obtain⟨q,_,_,h,b⟩:=Cu (y:=y) (m:=m) (gs:=gs);rw[h,Dr b]
 split<;>omega
theorem Z2k(hF:Q7<=F){l:List Rg_}(hl:l.length<=200):∃gs,vm F l=some gs/\GrpOf gs l/\gs.length<=l.length:=by
 unfold Q7 at hF;have c:∀(n i:Nat) (gs:List (Int×List Rg_)),i<=l.length->l.length-i<n->GrpOf gs (l.take i)->gs.length<=i->∃r,Y3 (λagain (z:Int×(List (Int×(List Rg_))))=>XH F l again z.1 z.2) n ((i:Int),gs)=some r/\GrpOf r l/\r.length<=l.length:=by
  intro n
  induction n with
  |zero=>intro i gs _ h;omega
  |succ n ih=>
   intro i gs o p b e
   by_cases h:i<l.length
   .obtain ⟨r,j,g⟩:=ih (i+1) (gApp (gl l i).year_ [gl l i] gs) h (by omega) (by rw[QB h];exact b.app _) (by have:=Z2J (gl l i).year_ [gl l i] gs;omega)
    refine⟨r,?_,g⟩;show XH F l _ (i:Int) gs=_
    unfold XH;simp only[Qa3]
    refine U3 (by simpa using h) ?_;refine Z4 (k:=?_)
    refine Q9 ?_ ?_
    .rw [b.gRow]
     have:=Qh7 (λf:Rg_=>decide (f.year_=(gl l i).year_)) (l.take i)
     have m:(l.take i).length<=200:=by rw[Qd1];omega
     simp only[Y6,Qb0,Qb6];omega
    .refine Z4 (k:=?_)
     exact j
   .have:i=l.length:=by omega
    subst this;refine⟨gs,?_,by rw[Qe5]at b;exact b,e⟩
    show XH F l _ _ gs=_;unfold XH
    exact Z8 (by simp) rfl
 exact c F 0 [] (Qc2 _) (by omega) (by rw[Qn7];exact GrpOf.nil) (Qc2 _)
def Um(e:Int×List Rg_):Prop:=¬e.2.Pairwise λf g=>Zm f.g_ g.g_=false
theorem Q3k{l:List Rg_}(h:GrpOf gs l):NX l↔∀e∈gs,¬Um e:=by
 unfold NX Um;constructor
 .intro o e c q
  refine q ?_;rw[h.row e c,Qr5]
  exact o.imp λ{f g} hh h1 h2=>hh (by simp at h1 h2;omega)
 .intro o
  rw[Qd6];intro i j s r m p
  obtain⟨e,c,b⟩:=h.key l[i] (Qf6 _);have:=Qt2.1 (o e c)
  rw[h.row e c,Qr5,Qd6]at this;exact this i j s r m (by simp[b]) (by simp[b,p])
theorem Q3l{e:Int×List Rg_}:¬Um e↔∀j,j<e.2.length->∀i,i<j->Zm (gl e.2 i).g_ (gl e.2 j).g_=false:=by
 unfold Um;rw[Qt2,Qd6]
 constructor
 .intro h j b i f
  rw[y7 b,y7 (by omega)];exact h i j (by omega) b f
 .intro h i j f b c
  have:=h j b i c
  rw[y7 b,y7 (by omega)]at this;exact this
theorem Z2t(hF:Q7<=F){e:Int×List Rg_}(hl:e.2.length<=200){rest:List (Int×List Rg_)}{ag:List (Int×List Rg_)->Option Int}(hb:Um e->y=11)(hg:¬ Um e->ag rest=some y):
  Y3 (λagain (z:Int)=>vo F e rest ag again z) F (0:Int)=some y:=by
 have b:=hF;unfold Q7 at hF
 refine Qa (λz:Int=>∃i:Nat,z=i/\i<=e.2.length/\∀j,j<i->∀a,a<j->Zm (gl e.2 a).g_ (gl e.2 j).g_=false) (λz=>e.2.length-z.toNat) (λagain z u t=>?_) ⟨0,rfl,by omega,λj q=>absurd q (Qd7 j)⟩ (by simp;omega);obtain⟨i,rfl,A,p⟩:=u
 unfold vo;simp only[Qa3]
 refine Z9 (λh=>?_) (λh=>?_)
 .have h:i<e.2.length:=by simpa using h
  refine Z4 (k:=?_);refine Z4 (k:=?_)
  refine Q4 (Jf (α:=Rg_) b (λf=>Zm f.g_ (gl e.2 i).g_) (by rw[Qd1];omega) (λr _=>by unfold vp;exact Q4 (cJ b _ _) rfl)) ?_;refine Z9 (λc=>?_) (λc=>?_)
  .rw [hb λw=>?_]
   .obtain ⟨f,s,m⟩:=Qd3.1 c
    obtain⟨a,l,rfl⟩:=Qc3 s;have g:a<i:=by rw[Qd1]at l;omega
    have:=Q3l.1 (Qt2.2 w) i h a g
    rw[Qk4]at m;rw[y7 (show a<e.2.length by omega)]at this
    rw[this]at m;cases m
  .refine Z4 (k:=?_)
   refine t _ ⟨i+1,by omega,h,λj q a l=>?_⟩ (by omega);rcases Qc8 j i with o|o
   .exact p j o a l
   .have:j=i:=by omega
    subst this;have v:=Qf0.1 c (gl e.2 a) (by
     rw[y7 (show a<e.2.length by omega)];have:e.2[a]=(e.2.take j)[a]'(by rw[Qd1];omega):=by rw[Qk4]
     rw[this];exact Qf6 _)
    simpa using v
 .have h:i=e.2.length:=by
   have:¬i<e.2.length:=by simpa using h
   omega
  subst h;exact hg (Q3l.2 p)
theorem Q0D{α:Type}{l:List α}(hi:i<l.length)(p:α->Prop):(∀e∈l,p e)↔p l[i]/\∀e∈l.eraseIdx i,p e:=by
 constructor
 .exact λh=>⟨h _ (Qf6 _),λe b=>h e (Qu6 b)⟩
 .rintro ⟨g,c⟩ e b
  obtain⟨j,f,rfl⟩:=Qc3 b
  by_cases hij:j=i
  .subst hij;exact g
  .exact c _ (List.mem_eraseIdx_iff_getElem.2 ⟨j,f,hij,rfl⟩)
theorem Z2u{F:Nat}(hF:Q7<=F):∀ (n:Nat) (gs:List (Int×List Rg_)) (y:Int),gs.length<n->(∀ e ∈ gs,e.2.length<=200)->((∀ e ∈ gs,¬ Um e)->y=0)->((¬ ∀ e ∈ gs,¬ Um e)->y=11) ->
  Y3 (λagain (z:(List (Int×(List Rg_))))=>Co F again z) n gs=some y:=by
 intro n
 induction n with
 |zero=>intro gs y h;omega
 |succ n ih=>
  intro gs y r c p q;show Co F _ gs=_
  unfold Co
  cases gs with
  |nil=>
   rw[Z0M,p (λe f=>by simp at f)];rfl
  |cons g l=>
   refine Z0L (by simp) λi m=>?_
   refine Z2t hF (c _ (Qf6 _)) (λj=>q λb=>b _ (Qf6 _) j) (λj=>?_);refine ih _ y (by rw[List.length_eraseIdx];rw[Qa2 m];simp at r⊢;omega) (λe f=>c e (Qu6 f)) (λb=>p ?_) (λo=>q λb=>o ?_)
   .exact (Q0D m (λe=>¬Um e)).2 ⟨j,b⟩
   .exact ((Q0D m (λe=>¬Um e)).1 b).2
theorem Z2s(hF:Q7<=F)(l:List Rg_):Cp F l=some (Zo l):=by
 have p:=hF;unfold Q7 at hF
 unfold Cp;refine Z9 (λh=>?_) (λh=>?_)
 .have h:200<l.length:=by simp at h;omega
  rw[Zo,Qa2 h]
 .have h:¬200<l.length:=by simp at h;omega
  have w:Yp none l=0->Cn F l=some (Zo l):=λm=>by
   unfold Cn;obtain⟨E,A,B,J⟩:=Z2k p (l:=l) (by omega)
   refine Q4 A ?_;have o:E.length<F:=by omega
   refine Z2u p F E _ o (λe j=>?_) (λD=>?_) (λD=>?_)
   .rw [B.row e j]
    have:=Qh7 (λf:Rg_=>decide (f.year_=e.1)) l
    omega
   .rw [Zo,Qa1 h,Qa1 (by simp[m]),Qa2 ((Q3k B).2 D)]
   .rw [Zo,Qa1 h,Qa1 (by simp[m]),Qa1 λH=>D ((Q3k B).1 H)]
  have v:Yp none l≠0->Zo l=Yp none l:=λm=>by rw[Zo,Qa1 h,Qa2 m]
  refine Qa (λz:Int=>∃i:Nat,z=i/\i<=l.length/\Yp none l=Yp (WU l i) (l.drop i)) (λz=>l.length-z.toNat) (λt z I G=>?_) ⟨0,rfl,by omega,rfl⟩ (by simp;omega);obtain⟨i,rfl,P,j⟩:=I
  unfold Q1m;refine Z9 (λs=>?_) (λs=>?_)
  .have s:i<l.length:=by simpa using s
   rw[Yc s,Yp]at j;refine Z4 (k:=?_)
   simp only[Qa3];refine Q4 (Z2m p _) ?_
   refine Z9 (λq=>?_) (λq=>?_)
   .have q:Yw (gl l i)≠0:=by simpa using q
    rw[Qa2 q]at j;rw[v (by rw[j];exact q),j]
   .have q:Yw (gl l i)=0:=by simpa using q
    rw[Qa1 (by simp[q])]at j;have r:∀b:Bool,b=(WU l i).any (λg=> !Qs g (gl l i))->DP F i t b=some (Zo l):=by
     intro b u;unfold DP
     refine Z9 (λC=>?_) (λC=>?_)
     .rw [Qa2 (u ▸ C)]at j
      rw[v (by rw[j];decide),j]
     .rw [Qa1 (by rw[<-u,C];simp)]at j
      refine Z4 (k:=?_);refine G _ ⟨i+1,by omega,s,?_⟩ (by omega)
      rw[j,Q0n]
    refine Z9 (λm=>?_) (λm=>?_)
    .have m:0<i:=by simpa using m
     refine Z4 (k:=?_);refine Z4 (k:=?_)
     have A:((i:Int)-1).toNat=i-1:=by omega
     rw[A];obtain⟨c,K,M,O⟩:=Z2o p (gl l (i-1)) (gl l i)
     refine Q4 K (r _ ?_);have N:(WU l i).any (λg=> !Qs g (gl l i))=!Qs (gl l (i-1)) (gl l i):=by simp[WU,show i≠0 from by omega]
     rw[N,Qd0,Qh9, <-Qf7, <-M,Qb7];omega
    .have m:i=0:=by simp at m;omega
     exact r _ (by simp[WU,m])
  .have s:¬i<l.length:=by simpa using s
   rw[Qf1 (by omega)]at j;exact w j
structure HL (l:List Rg_):Prop where
 len:l.length<=200
 one:∀f∈l,Yw f=0
 asc:l.Pairwise λf g=>Qs f g=true
 nx:NX l
theorem vq:∀(l:List Rg_) (p:Option Rg_),Yp p l=0↔(∀f∈l,Yw f=0)/\l.Pairwise (λf g=>Qs f g=true)/\∀n,p=some n->∀f∈l,Qs n f=true
 |[],p=>by simp[Yp]
 |f::l,p=>by
  have o:=vq l (some f);unfold Yp
  by_cases h1:Yw f=0
  .rw [Qa1 (by simp[h1])]
   by_cases i:p.any (λg=> !Qs g f)=true
   .rw [Qa2 i]
    constructor
    .intro h;cases h
    .rintro ⟨_,_,h⟩
     cases p with
     |none=>simp at i
     |some n=>
      have i:Qs n f=false:=by simpa using i
      rw[h n rfl f (by simp)]at i;cases i
   .rw [Qa1 i,o]
    constructor
    .rintro ⟨a,b,c⟩
     refine⟨λg e=>?_,Qd5.2 ⟨λg e=>c _ rfl g e,b⟩,λn j g e=>?_⟩
     .rcases Qe1.1 e with rfl|e
      .exact h1
      .exact a g e
     .subst j
      have i:Qs n f=true:=by simpa using i
      rcases Qe1.1 e with rfl|e
      .exact i
      .exact yE i (c _ rfl g e)
    .rintro ⟨a,b,c⟩
     obtain⟨q,m⟩:=Qd5.1 b;exact⟨λg e=>a g (by simp[e]),m,λn j g e=>by cases j;exact q g e⟩
  .rw [Qa2 h1]
   constructor
   .intro h;exact absurd h h1
   .rintro ⟨a,_,_⟩;exact absurd (a f (by simp)) h1
theorem FA(l:List Rg_):Zo l=0↔HL l:=by
 unfold Zo
 by_cases h:200<l.length
 .rw [Qa2 h]
  exact⟨λh=>(by cases h),λc=>by have:=c.len;omega⟩
 .rw [Qa1 h]
  by_cases h2:Yp none l=0
  .rw [Qa1 (by simp[h2])]
   obtain⟨a,b,_⟩:=(vq l none).1 h2
   by_cases h3:NX l
   .rw [Qa2 h3];exact⟨λ_=>⟨by omega,a,b,h3⟩,λ_=>rfl⟩
   .rw [Qa1 h3];exact⟨λh=>(by cases h),λc=>absurd c.nx h3⟩
  .rw [Qa2 h2]
   exact⟨λh=>absurd h h2,λc=>absurd ((vq l none).2 ⟨c.one,c.asc,λn e=>by cases e⟩) h2⟩
section
variable {F:Nat} {L:List A2_} {d:Int}
end
section
variable {F n:Nat} {L:List A2_} {d:Int}
end
section
variable {F:Nat} {L:List A2_} {d:Int}
theorem Q1q(hc:YC l)(hl:l.length<=120)(ha:∀r∈a,QS r=true)(hs:∀x y,Q8 l x y=true->Q8 a x y=true):K7 l:=by
 have e:QN (16384:Int) l:=hc.box λx y h=>by
  obtain⟨r,c,b⟩:=(Va _ _ _).1 (hs x y h);have:=(Wc r).1 (ha r c)
  rw[ZZ]at b;omega
 exact⟨hl,e.prop (by omega),hc⟩
end
section
variable {F:Nat} {L:List A2_} {d:Int}
end
def Zk(y c:Int)(f:Rg_):Bool:=decide (f.year_=y)&&decide (f.c_=c)
def YQ(y:Int)(a:List Rect)(f:Rg_):Rg_:=if f.year_=y then⟨f.year_,f.c_,⟨cn λu v=>Q8 f.g_.t_ u v && !Q8 a u v⟩⟩else f
def QP(l:List Rg_)(y c:Int)(a:List Rect):List Rg_:=(l.filter λf=> !Zk y c f).map (YQ y a)
def vA(l:List Rg_)(y c:Int)(a:List Rect):List Rect:=match l.find? (Zk y c)with|some f=>cn λu v=>Q8 f.g_.t_ u v||Q8 a u v|none=>a
def Zg(f:Rg_):Bool:= !decide (f.g_.t_.length=0)
def WB(l:List Rg_):Bool:=decide (200<l.length)||l.any λf=>decide (120<f.g_.t_.length)
def YR(l:List Rg_)(r:Rg_):Nat:=l.countP λf=>Qs f r
def XG(l:List Rg_)(r:Rg_):List Rg_:=l.take (YR l r)++[r]++l.drop (YR l r)
def YU(l:List Rg_)(y c:Int)(a:List Rect):List Rg_:=
 if(vA l y c a).length=0 then(QP l y c a).filter Zg else XG ((QP l y c a).filter Zg) ⟨y,c,⟨vA l y c a⟩⟩
def addH(l:List Rg_)(y c:Int)(a:Re_):List Rg_×Int:=
 if Zo l≠0 then([],Zo l)else if y<0\/100<y then([],18)else if c<0\/40<=c then([],13)else if Qr a.t_=false then([],7)
 else if WB (YU l y c a.t_)=true then([],1)else(YU l y c a.t_,0)
theorem Q8v(l:List Rg_)(x:Rg_)(y c:Int)(a:List Rect):QP (l++[x]) y c a=QP l y c a++(if Zk y c x=true then[]else[YQ y a x]):=by
 unfold QP;rw[Qg3,Qe0]
 congr 1
 cases h:Zk y c x with
 |true=>simp[h]
 |false=>simp[h]
theorem Q4r(l:List Rg_)(x:Rg_)(y c:Int)(a:List Rect)(h:Zk y c x=true->∀f∈l,Zk y c f=false):vA (l++[x]) y c a=if Zk y c x=true then cn (λu v=>Q8 x.g_.t_ u v||Q8 a u v)else vA l y c a:=by
 unfold vA;rw[List.find?_append]
 cases hx:Zk y c x with
 |true=>
  have:l.find? (Zk y c)=none:=Qg9.2 λf b=>by rw[h hx f b];simp
  rw[this];simp[hx]
 |false=>simp[hx]
theorem Q4s(l:List Rg_)(y c:Int)(a:List Rect)(h:∀f∈l,Zk y c f=false):vA l y c a=a:=by
 unfold vA;have:l.find? (Zk y c)=none:=Qg9.2 λf b=>by rw[h f b];simp
 rw[this]
theorem jT{l:List Rg_}(h:l.Pairwise λf g=>Qs f g=true)(hi:i<l.length)(hs:Zk y c (gl l i)=true):∀f∈l.take i,Zk y c f=false:=by
 intro f m;obtain⟨j,e,rfl⟩:=Qc3 m
 have b:j<i:=by rw[Qd1]at e;omega
 rw[Qk4];have:=Qd6.1 h j i (by omega) hi b
 rw[VB]at this;rw[y7 hi]at hs
 unfold Zk at hs⊢;rw[Qa4,Qb7,Qb7]at hs
 rw[<-Qf7,Qa4,Qb7,Qb7];omega
theorem HL.val{l:List Rg_}(h:HL l)(hf:f∈l):K7 f.g_.t_:=((KI f).1 (h.one f hf)).2.2.2.2.2
theorem Q9y(hF:Q7<=F){l:List Rg_}(h:HL l){a:Re_}(ha:K7 a.t_){r:List Rg_×Int}(hk:BU F y c (vA l y c a.t_) ((QP l y c a.t_).filter Zg)=some r):
  Y3 (λagain (z:(List Rect)×Int×(List Rg_))=>zO F l y c a again z.1 z.2.1 z.2.2) F (a.t_,(0:Int),([]:List Rg_))=some r:=by
 have s:=hF;unfold Q7 at hF
 have H:=h.len;refine Qa (λz:(List Rect)×Int×(List Rg_)=>∃i:Nat,z=(vA (l.take i) y c a.t_,(i:Int),(QP (l.take i) y c a.t_).filter Zg)/\i<=l.length) (λz=>l.length-z.2.1.toNat) (λagain z O C=>?_) ⟨0,by rw[Qn7];rfl,by omega⟩ (by simp only;omega)
 obtain⟨i,rfl,P⟩:=O;simp only at C⊢
 unfold zO;simp only[Qa3]
 refine Z9 (λg=>?_) (λg=>?_)
 .have g:i<l.length:=by simpa using g
  have t:=h.val (J9 g);have N:((QP (l.take i) y c a.t_).filter Zg).length<=200:=by
   have D:=Qh7 Zg (QP (l.take i) y c a.t_);unfold QP at D⊢
   rw[Qg1]at D;have:=Qh7 (λf=> !Zk y c f) (l.take i)
   have e:(l.take i).length<=l.length:=by rw[Qd1];omega
   omega
  have j:∀(v:List Rect) (q:List Rg_),v=vA (l.take (i+1)) y c a.t_->q=(QP (l.take (i+1)) y c a.t_).filter Zg->Xj F i again v q=some r:=by
   rintro v q rfl rfl;unfold Xj
   refine Z4 (k:=?_);exact C _ ⟨i+1,rfl,g⟩ (by simp only;omega)
  have A:=Q4r (l.take i) (gl l i) y c a.t_ (jT h.asc g);have B:=Q8v (l.take i) (gl l i) y c a.t_
  rw[<-QB g]at A B;have J:∀w:List Rect,Zk y c (gl l i)=false->(⟨(gl l i).year_,(gl l i).c_,⟨w⟩⟩:Rg_)=YQ y a.t_ (gl l i)->BV F l (vA (l.take i) y c a.t_) i ((QP (l.take i) y c a.t_).filter Zg) again w=some r:=by
   intro w m M;unfold BV
   simp only[Qa3];have K:(QP (l.take (i+1)) y c a.t_).filter Zg=(QP (l.take i) y c a.t_).filter Zg++[(⟨(gl l i).year_,(gl l i).c_,⟨w⟩⟩:Rg_)].filter Zg:=by
    rw[B,Qa1 (by rw[m];simp),Qg3,M]
   have G:vA (l.take i) y c a.t_=vA (l.take (i+1)) y c a.t_:=by rw[A,Qa1 (by rw[m];simp)]
   refine Z9 (λo=>?_) (λo=>?_)
   .have o:w.length≠0:=by simp at o;omega
    refine Z4 (k:=?_);refine j _ _ G ?_
    rw[K];congr 1
    simp[Zg,o]
   .have o:w.length=0:=by simp at o;simp[o]
    refine j _ _ G ?_;rw[K]
    simp[Zg,o]
  refine Z4 (k:=?_);have E:∀b:Bool,b=Zk y c (gl l i)->BW F l y a (vA (l.take i) y c a.t_) i ((QP (l.take i) y c a.t_).filter Zg) again b=some r:=by
   intro b I;unfold BW
   simp only[Qa3];refine Z9 (λe=>?_) (λe=>?_)
   .have m:Zk y c (gl l i)=true:=by rw[<-I,e]
    rw[Q4s _ y c a.t_ (jT h.asc g m)];refine Q4 (SX s (by have:=ha.1;omega) (by have:=t.1;omega) ha.2.1 t.2.1) (j _ _ ?_ ?_)
    .rw [A,Qa2 m]
     congr 1
     funext u v
     simp[Qn,Bool.or_comm]
    .rw [B,Qa2 m,Qi2]
   .have m:Zk y c (gl l i)=false:=by rw[<-I,e]
    refine Z9 (λp=>?_) (λp=>?_)
    .have p:(gl l i).year_=y:=by simpa using p
     refine Q4 (SX s (by have:=t.1;omega) (by have:=ha.1;omega) t.2.1 ha.2.1) (J _ m ?_);unfold YQ;rw[Qa2 p]
     simp[Qn]
    .have p:¬(gl l i).year_=y:=by simpa using p
     refine J _ m ?_;unfold YQ;rw[Qa1 p]
  refine Z9 (λe=>?_) (λe=>?_)
  .have e:(gl l i).year_=y:=by simpa using e
   refine E _ ?_;unfold Zk
   rw[Qa5 e,Qc6];rfl
  .have e:¬(gl l i).year_=y:=by simpa using e
   refine E _ ?_;unfold Zk
   rw[Qa7 e,Qn8]
 .have g:i=l.length:=by
   have:¬i<l.length:=by simpa using g
   omega
  subst g;rw[Qe5]
  exact hk
def VZ(f:Rg_):Int×Int:=(f.year_,f.c_)
theorem Tu{g:Rg_}:Dz (VZ f) (VZ g)↔Qs f g=true:=by rw[VB];unfold Dz VZ;exact Iff.rfl
theorem Q2P{l:List Rg_}(h:l.Pairwise λf g=>Qs f g=true)(r:Rg_):YR l r<=l.length/\(∀j,j<YR l r->Qs (gl l j) r=true)/\∀j,YR l r<=j->j<l.length->Qs (gl l j) r=false:=by
 induction l with
 |nil=>exact⟨Qb3 _,λj i=>by simp[YR]at i,λj _ i=>by simp at i⟩
 |cons f l ih=>
  obtain⟨t,q⟩:=Qd5.1 h;obtain⟨a,b,c⟩:=ih q
  cases hf:Qs f r with
  |true=>
   have e:YR (f::l) r=YR l r+1:=by simp[YR,hf]
   rw[e];refine⟨by simp;exact a,λj i=>?_,λj i o=>?_⟩
   .cases j with
    |zero=>exact hf
    |succ j=>exact b j (by omega)
   .cases j with
    |zero=>omega
    |succ j=>exact c j (by omega) (by simpa using o)
  |false=>
   have m:∀g∈l,Qs g r=false:=λg p=>by
    rw[<-Qf7];intro s
    rw[yE (t g p) s]at hf;cases hf
   have e:YR (f::l) r=0:=by
    unfold YR;rw[Qx0]
    intro g p;rcases Qe1.1 p with rfl|p
    .rw [hf];simp
    .rw [m g p];simp
   rw[e];refine⟨Qc2 _,λj i=>absurd i (Qd7 j),λj _ o=>?_⟩
   cases j with
   |zero=>exact hf
   |succ j=>
    have i:j<l.length:=by simpa using o
    exact m _ (J9 i)
theorem Z2b(l:List Rg_)(r:Rg_):(XG l r).Perm (l++[r]):=by
 unfold XG;have b:(l.take (YR l r)++[r]++l.drop (YR l r)).Perm (l.take (YR l r)++(l.drop (YR l r)++[r])):=by
  rw[Qh8];exact List.Perm.append_left _ List.perm_append_comm
 rw[<-Qh8,Qh2]at b;exact b
theorem Z2c{l:List Rg_}(h:l.Pairwise λf g=>Qs f g=true){r:Rg_}(hr:∀f∈l,VZ f≠VZ r):(XG l r).Pairwise λf g=>Qs f g=true:=by
 obtain⟨a,b,c⟩:=Q2P h r;unfold XG
 generalize YR l r=k at *;have t:∀f∈l.take k,Qs f r=true:=λf e=>by
  obtain⟨j,q,rfl⟩:=Qc3 e;have i:j<k:=by rw[Qd1]at q;omega
  have:=b j i
  rw[y7 (show j<l.length by omega)]at this;rw[Qk4];exact this
 have s:∀f∈l.drop k,Qs r f=true:=λf e=>by
  obtain⟨j,q,rfl⟩:=Qc3 e;have i:k+j<l.length:=by rw[Qk8]at q;omega
  have p:=c (k+j) (by omega) i;rw[y7 i]at p
  rw[List.getElem_drop];have u:=hr _ (Qf6 i)
  rcases Z1d u with o|o
  .rw [Tu.1 o]at p;cases p
  .exact Tu.1 o
 rw[Qe8,Qe8];refine⟨⟨h.sublist (List.take_sublist _ _),Qf4 _ _,λf e g m=>?_⟩,h.sublist (List.drop_sublist _ _),λf e g m=>?_⟩
 .rw [Qb1]at m;subst m;exact t f e
 .rcases Qb2.1 e with e|e
  .exact yE (t f e) (s g m)
  .rw [Qb1]at e;subst e;exact s g m
theorem XR(y:Int)(a:List Rect)(f:Rg_):VZ (YQ y a f)=VZ f:=by unfold YQ;split<;>rfl
theorem Z1c(y:Int)(a:List Rect)(f g:Rg_):Qs (YQ y a f) (YQ y a g)=Qs f g:=by
 rw[Qd0, <-Tu, <-Tu,XR,XR]
theorem qE{l:List Rg_}(h:l.Pairwise λf g=>Qs f g=true)(y c:Int)(a:List Rect):((QP l y c a).filter Zg).Pairwise λf g=>Qs f g=true:=by
 refine Qr6 _ ?_;unfold QP
 rw[Qm8];refine List.Pairwise.imp (λ{f g} hh=>?_) (Qr6 _ h)
 rw[Z1c];exact hh
theorem Q8u{l:List Rg_}{v:List Rect}:∀f∈(QP l y c a).filter Zg,VZ f≠VZ ⟨y,c,⟨v⟩⟩:=by
 intro f h e;have h:=(Qe6.1 h).1
 unfold QP at h;obtain⟨g,j,rfl⟩:=Qc7.1 h
 have b:=(Qe6.1 j).2;rw[XR]at e
 unfold VZ at e;have m:g.year_=y:=congrArg Prod.fst e
 have i:g.c_=c:=congrArg Prod.snd e;unfold Zk at b
 simp[m,i]at b
theorem Z4V{l:List Rg_}(h:l.Pairwise λf g=>Qs f g=true)(y c:Int)(a:List Rect):(YU l y c a).Pairwise λf g=>Qs f g=true:=by
 unfold YU;split
 .exact qE h y c a
 .exact Z2c (qE h y c a) Q8u
theorem xX(l:List Rg_)(y c:Int)(a:List Rect):((QP l y c a++[(⟨y,c,⟨vA l y c a⟩⟩:Rg_)]).filter Zg).Perm (YU l y c a):=by
 rw[Qg3];unfold YU
 split
 .rename_i h
  have:[(⟨y,c,⟨vA l y c a⟩⟩:Rg_)].filter Zg=[]:=by simp[Zg,h]
  rw[this,Qi2]
 .rename_i h
  have:[(⟨y,c,⟨vA l y c a⟩⟩:Rg_)].filter Zg=[⟨y,c,⟨vA l y c a⟩⟩]:=by simp[Zg,h]
  rw[this];exact(Z2b _ _).symm
theorem co(l:List Rg_)(y c:Int)(a:List Rect):(QP l y c a).length<=l.length:=by
 unfold QP;rw[Qg1]
 exact Qh7 _ _
theorem bu(hF:Q7<=F){L:List Rg_}(hl:L.length<=201):BX F L=some (if WB L=true then([],1)else(L,0)):=by
 unfold Q7 at hF;unfold BX
 refine Z9 (λh=>?_) (λh=>?_)
 .have h:200<L.length:=by have:=Qa6 h;omega
  rw[Qa2 (by unfold WB;rw[Qa5 h,Qx3])]
 .have h:¬200<L.length:=by have:=Qa8 h;omega
  refine Qa (λz:Int=>∃i:Nat,z=i/\i<=L.length/\∀j,j<i->¬120<(gl L j).g_.t_.length) (λz=>L.length-z.toNat) (λg z o q=>?_) ⟨0,rfl,by omega,λj e=>absurd e (Qd7 j)⟩ (by simp;omega);obtain⟨i,rfl,r,m⟩:=o
  unfold bw;simp only[Qa3]
  refine Z9 (λb=>?_) (λb=>?_)
  .have b:i<L.length:=by simpa using b
   refine Z4 (k:=?_);refine Z9 (λc=>?_) (λc=>?_)
   .have c:120<(gl L i).g_.t_.length:=by have:=Qa6 c;omega
    rw[Qa2];unfold WB
    rw[Qi4];exact .inr (Qd3.2 ⟨_,J9 b,Qa5 c⟩)
   .have c:¬120<(gl L i).g_.t_.length:=by have:=Qa8 c;omega
    refine Z4 (k:=?_);refine q _ ⟨i+1,by omega,b,λj e=>?_⟩ (by omega)
    rcases Qc8 j i with l|l
    .exact m j l
    .have:j=i:=by omega
     subst this;exact c
  .have b:i=L.length:=by
    have:¬i<L.length:=by simpa using b
    omega
   subst b;rw[Qa1]
   .rfl
   .unfold WB
    rw[Qa7 h,Qj7,FN (p:=λf:Rg_=>decide (120<f.g_.t_.length)) λj e=>Qa7 (m j e)];simp
theorem Q9z(hF:Q7<=F){l:List Rg_}(h:HL l):
  BU F y c (vA l y c a) ((QP l y c a).filter Zg)=some (if WB (YU l y c a)=true then([],1)else(YU l y c a,0)):=by
 have s:=hF;unfold Q7 at hF
 have u:=h.len;have B:((QP l y c a).filter Zg).length<=200:=by
  have j:=co l y c a;have f:=Qh7 Zg (QP l y c a)
  omega
 have r:=qE h.asc y c a;unfold BU YU
 generalize (QP l y c a).filter Zg=R at *;generalize vA l y c a=v at *
 refine Z9 (λj=>?_) (λj=>?_)
 .have j:v.length≠0:=by have:=Qa6 j;omega
  rw[Qa1 j];obtain⟨k1,k2,C⟩:=Q2P r ⟨y,c,⟨v⟩⟩
  unfold XG;generalize YR R ⟨y,c,⟨v⟩⟩=k at *
  refine Qa (λz:Int=>∃i:Nat,z=i/\i<=k) (λz=>R.length-z.toNat) (λq z D A=>?_) ⟨0,rfl,by omega⟩ (by simp;omega);obtain⟨i,rfl,E⟩:=D
  have t:i=k->SG F y c v R (i:Int)=some (if WB (R.take k++[(⟨y,c,⟨v⟩⟩:Rg_)]++R.drop k)=true then([],1)else(R.take k++[⟨y,c,⟨v⟩⟩]++R.drop k,0)):=by
   rintro rfl;unfold SG
   simp only[Qa3];refine Q9 (by omega) (Q9 (by omega) (Q9 (by simp only[Y6];omega) (Q9 (by simp only[Y6,Qb0,Qb6];omega) (Q9 (by omega) (Q9 (by omega) (Q9 (by simp only[Y6,Qb0,Qb6];omega) ?_))))))
   have e:((([]:List Rg_)++((R.drop 0).take i))++([(⟨y,c,(⟨v⟩:Re_)⟩:Rg_)]:List Rg_))++((R.drop (0+i)).take (R.length-i))=R.take i++[⟨y,c,⟨v⟩⟩]++R.drop i:=by
    rw[Qk2,Qj9,Qd2,Qj6 (l:=R.drop i) (by rw[Qk8];omega)]
   rw[e];refine bu s ?_
   simp only[Qb5,Qd1,Qk8,Qb0,Qb6];omega
  have g:∀b:Bool,(b=true↔i<R.length/\Qs (gl R i) ⟨y,c,⟨v⟩⟩=true)->KE F y c v R i q b=some (if WB (R.take k++[(⟨y,c,⟨v⟩⟩:Rg_)]++R.drop k)=true then([],1)else(R.take k++[⟨y,c,⟨v⟩⟩]++R.drop k,0)):=by
   intro b w;unfold KE
   refine Z9 (λf=>?_) (λf=>?_)
   .obtain ⟨p,m⟩:=w.1 f
    have o:i<k:=by
     rcases Qc8 i k with o|o
     .exact o
     .rw [C i o p]at m;cases m
    refine Z4 (k:=?_);exact A _ ⟨i+1,by omega,o⟩ (by omega)
   .refine t ?_
    rcases Qc8 i k with o|o
    .have:=w.2 ⟨by omega,k2 i o⟩
     rw[f]at this;cases this
    .omega
  unfold bv;simp only[Qa3]
  refine Z9 (λf=>?_) (λf=>?_)
  .have f:i<R.length:=by simpa using f
   refine Z4 (k:=?_);refine Z9 (λp=>?_) (λp=>?_)
   .refine g _ ?_
    have p:=Qa6 p;rw[VB];simp;omega
   .have p:=Qa8 p
    refine Z4 (k:=?_);refine Z9 (λm=>?_) (λm=>?_)
    .have m:(gl R i).year_=y:=by simpa using m
     refine Z4 (k:=?_);refine g _ ?_
     rw[VB,Qb7];simp only;omega
    .have m:¬(gl R i).year_=y:=by simpa using m
     refine g _ ?_;rw[VB];simp;omega
  .have f:¬i<R.length:=by simpa using f
   refine g _ ?_;simp;omega
 .have j:v.length=0:=by have:=Qa8 j;omega
  rw[Qa2 j];exact bu s (by omega)
theorem Q9x(hF:Q7<=F)(l:List Rg_)(y c:Int)(a:Re_):SH F l y c a=some (addH l y c a):=by
 unfold SH addH;refine Q4 (Q9v hF l) ?_
 refine Z9 (λh=>?_) (λh=>?_)
 .rw [Qa2 (by simpa using h)]
 .have h:Zo l=0:=by simpa using h
  rw[Qa1 (by simp[h]),Yg (BZ F l y c a)];unfold BZ
  refine Z9 (λf=>by rw[Qa2 (by simpa using f)]) (λf=>?_);rw[Qa1 (by simpa using f),Yg (BY F l y c a)]
  unfold BY;refine Z9 (λe=>by rw[Qa2 (by simpa using e)]) (λe=>?_)
  rw[Qa1 (by simpa using e)];refine Q4 (Dg hF _) ?_
  refine Z9 (λb=>by rw[Qa2 (by simpa using b)]) (λb=>?_);have b:Qr a.t_=true:=by simpa using b
  rw[Qa1 (by rw[b];simp)];exact Q9y hF ((FA l).1 h) ((Wh _).1 b) (Q9z hF ((FA l).1 h))
theorem Q0F{a b:Re_}(h:∀x y,Q8 a.t_ x y=true->Q8 b.t_ x y=true->False):Zm a b=false:=by
 by_cases ha:K7 a.t_
 .by_cases hb:K7 b.t_
  .exact Q0G ha hb h
  .unfold Zm
   have:Qr b.t_=false:=by rw[<-Qf7,Wh];exact hb
   rw[this];simp
 .unfold Zm
  have:Qr a.t_=false:=by rw[<-Qf7,Wh];exact ha
  rw[this];rfl
theorem yC{a b:Re_}(ha:K7 a.t_)(hb:K7 b.t_)(h:Zm a b=false):∀x y,Q8 a.t_ x y=true->Q8 b.t_ x y=true->False:=by
 intro x y c e;unfold Zm at h
 rw[WN ha,WN hb,Qc6,Qc6]at h;have:=(ym ha.2.1 hb.2.1).2 ⟨x,y,c,e⟩
 rw[this]at h;cases h
theorem Z2i(a b:List Rect)(x y:Int):Q8 (a++b) x y=(Q8 a x y||Q8 b x y):=by
 rw[Qd0,Qi4,Va,Va,Va];constructor
 .rintro ⟨r,c,h⟩
  rcases Qb2.1 c with c|c
  .exact .inl ⟨r,c,h⟩
  .exact .inr ⟨r,c,h⟩
 .rintro (⟨r,c,h⟩|⟨r,c,h⟩)
  .exact ⟨r,Qo0 _ c,h⟩
  .exact ⟨r,Qn5 _ c,h⟩
theorem Hv(f:Rg_)(y:Int)(a:List Rect)(h:Q8 (YQ y a f).g_.t_ u v=true):Q8 f.g_.t_ u v=true/\(f.year_=y->Q8 a u v=false):=by
 unfold YQ at h;split at h
 .rename_i b
  simp only at h;rw[Yj (Cy _ _),Qa4,Qh9]at h
  exact⟨h.1,λ_=>h.2⟩
 .rename_i b
  exact⟨h,λc=>absurd c b⟩
theorem kP{l:List Rg_}:Q8 (vA l y c a) u v=true↔Q8 a u v=true\/∃f,l.find? (Zk y c)=some f/\Q8 f.g_.t_ u v=true:=by
 unfold vA;split
 .rename_i f b
  have:=Ub f.g_.t_ a 1
  simp only[Qn,Qi8]at this;rw[Yj this,Qi4]
  constructor
  .rintro (h|h)
   .exact .inr ⟨f,b,h⟩
   .exact .inl h
  .rintro (h|⟨g,hg,h⟩)
   .exact .inr h
   .rw [b]at hg;cases hg;exact .inl h
 .rename_i b
  constructor
  .exact λh=>.inl h
  .rintro (h|⟨g,hg,h⟩)
   .exact h
   .rw [b]at hg;cases hg
theorem xY{l:List Rg_}:f∈YU l y c a↔(f∈QP l y c a\/f=⟨y,c,⟨vA l y c a⟩⟩)/\f.g_.t_.length≠0:=by
 rw[<-(xX l y c a).mem_iff,Qe6,Qb2,Qb1];unfold Zg
 simp
theorem jW(y c:Int)(f:Rg_):Zk y c f=true↔f.year_=y/\f.c_=c:=by unfold Zk;simp
theorem RJ{l:List Rg_}:f∈QP l y c a↔∃g∈l,Zk y c g=false/\f=YQ y a g:=by
 unfold QP;rw[Qc7]
 constructor
 .rintro ⟨g,b,rfl⟩
  have:=Qe6.1 b
  exact⟨g,this.1,by simpa using this.2,rfl⟩
 .rintro ⟨g,b,e,rfl⟩
  exact⟨g,Qe6.2 ⟨b,by simpa using e⟩,rfl⟩
theorem Q4B{l:List Rg_}(h:WB l=false):l.length<=200/\∀f∈l,f.g_.t_.length<=120:=by
 unfold WB at h;rw[Qd4]at h
 refine⟨by have:=Qa8 h.1;omega,λf b=>?_⟩;have:=Qf0.1 h.2 f b
 simp at this;exact this
theorem HL.apart{l:List Rg_}(h:HL l){g:Rg_}(hf:f∈l)(hg:g∈l)(hy:f.year_=g.year_)(hc:f.c_≠g.c_):∀x y,Q8 f.g_.t_ x y=true->Q8 g.g_.t_ x y=true->False:=by
 obtain⟨i,e,rfl⟩:=Qc3 hf;obtain⟨j,c,rfl⟩:=Qc3 hg
 have m:=Qd6.1 h.nx;rcases Qp6 i j with b|b|b
 .exact yC (h.val hf) (h.val hg) (m i j e c b hy)
 .subst b;exact absurd rfl hc
 .exact λx y p o=>yC (h.val hg) (h.val hf) (m j i c e b hy.symm) x y o p
theorem HL.add{l:List Rg_}(h:HL l)(hy:0<=y/\y<=100)(hc:0<=c/\c<40)(ha:K7 a)(ht:WB (YU l y c a)=false):HL (YU l y c a):=by
 obtain⟨Z,S⟩:=Q4B ht;have Q:∀g∈l,∀x G,Q8 (YQ y a g).g_.t_ x G=true->Q8 g.g_.t_ x G=true:=λg _ x G q=>(Hv g y a q).1
 refine⟨Z,λf s=>?_,Z4V h.asc y c a,?_⟩
 .have b:=S f s
  obtain⟨s,o⟩:=xY.1 s;rcases s with s|rfl
  .obtain ⟨g,t,H,rfl⟩:=RJ.1 s
   obtain⟨V,W,U,T,g5,Y⟩:=(KI g).1 (h.one g t);unfold YQ at o b⊢
   split at o<;>rename_i z
   .rw [Qa2 z]at b⊢
    rw[KI];simp only at b o⊢
    exact⟨V,W,U,T,o,Q1q (US (Cy _ _)) b Y.2.1 λu v q=>by rw[Yj (Cy _ _),Qa4]at q;exact q.1⟩
   .rw [Qa1 z];exact h.one g t
  .rw [KI]
   simp only at b o⊢;refine⟨hy.1,hy.2,hc.1,hc.2,o,?_⟩
   unfold vA at b o⊢;split at o<;>rename_i N
   .rename_i g
    rw[N]at b;simp only at b
    have p:=Ub g.g_.t_ a 1;simp only[Qn,Qi8]at p
    refine Q1q (US p) b (a:=g.g_.t_++a) (λr A=>?_) λu v q=>?_
    .rcases Qb2.1 A with A|A
     .exact (h.val (Qk0 N)).2.1 r A
     .exact ha.2.1 r A
    .rw [Yj p]at q
     rw[Z2i];exact q
   .exact ha
 .unfold NX
  have B:∀{f g:Rg_},(f.year_=g.year_->Zm f.g_ g.g_=false)->(g.year_=f.year_->Zm g.g_ f.g_=false):=λ{f g} q m=>by rw[Z0T];exact q m.symm
  refine((xX l y c a).pairwise_iff B).1 (Qr6 _ ?_);rw[Qe8]
  refine⟨?_,Qf4 _ _,λf s g t m=>?_⟩
  .unfold QP
   rw[Qm8,Qr5];have hn:=Qd6.1 h.nx
   rw[Qd6];intro i j P O K _ _ m
   have e:∀f:Rg_,(YQ y a f).year_=f.year_:=λf=>congrArg Prod.fst (XR y a f)
   rw[e,e]at m;have:=yC (h.val (Qf6 P)) (h.val (Qf6 O)) (hn i j P O K m)
   exact Q0F λu v E D=>this u v (Hv _ y a E).1 (Hv _ y a D).1
  .rw [Qb1]at t
   subst t;obtain⟨g,t,H,rfl⟩:=RJ.1 s
   have e:(YQ y a g).year_=g.year_:=congrArg Prod.fst (XR y a g);rw[e]at m
   simp only at m;refine Q0F λu v E D=>?_
   obtain⟨X,h4⟩:=Hv _ y a E;rcases kP.1 D with C|⟨k,M,C⟩
   .rw [h4 m]at C;cases C
   .have I:=Qk0 M
    have w:=(jW y c k).1 (Qv2 M);refine h.apart t I (by rw[m,w.1]) (λJ=>?_) u v X C
    rw[<-Qf7,jW]at H;exact H ⟨m,by rw[J,w.2]⟩
theorem HL.nil:HL []:=⟨by simp,λf b=>by simp at b,.nil,.nil⟩
def Yy(n:Int):Bool:=decide (97<=n)&&decide (n<=122)
def Ug(n:Int):Bool:=decide (48<=n)&&decide (n<=57)
def QV(s:ByteArray):Bool:=decide (1<=s.size)&&decide (s.size<=12)&&decide (∀i,i<s.size->(Yy (K9 s (i:Nat))||(!decide (i=0)&&Ug (K9 s (i:Nat))))=true)
theorem Li{s:ByteArray}(hs:s.size<F)(hs2:s.size<=4294967296):Pw F s=some (QV s):=by
 unfold Pw;refine Qa (λz:Int=>∃i:Nat,z=i/\i<=s.size/\∀j,j<i->(Yy (K9 s (j:Nat))||(!decide (j=0)&&Ug (K9 s (j:Nat))))=true) (λz=>s.size-z.toNat) (λe z w v=>?_) ⟨0,rfl,by omega,λj u=>absurd u (Qd7 j)⟩ (by simp;omega)
 obtain⟨i,rfl,A,t⟩:=w;unfold kN
 refine Z9 (λh=>?_) (λh=>?_)
 .have h:i<s.size:=by simpa using h
  refine Z4 (k:=?_);have q:∀b:Bool,b=!(Yy (K9 s (i:Nat))||(!decide (i=0)&&Ug (K9 s (i:Nat))))->Gw F i e b=some (QV s):=by
   intro b p;unfold Gw
   refine Z9 (λc=>?_) (λc=>?_)
   .rw [c,Qx7,Qh9]at p
    congr 1
    symm
    unfold QV;rw[Bool.and_eq_false_iff]
    right
    rw[Qe2];intro o
    rw[o i h]at p;cases p
   .rw [c,Qx7,Ql4]at p
    refine Z4 (k:=?_);refine v _ ⟨i+1,by omega,h,λj u=>?_⟩ (by omega)
    rcases Qc8 j i with f|f
    .exact t j f
    .have:j=i:=by omega
     subst this;exact p
  have k2:∀l r:Bool,l=Yy (K9 s (i:Nat))->r=Ug (K9 s (i:Nat))->Pu F i l e r=some (QV s):=by
   intro l r c f;unfold Pu
   rw[c,f];refine Z9 (λg=>?_) (λg=>?_)
   .have g:Yy (K9 s (i:Nat))=false:=by simpa using g
    refine Z9 (λm=>?_) (λm=>?_)
    .have m:i=0:=by simpa using m
     refine q _ ?_;rw[g,m];rfl
    .have m:i≠0:=by simpa using m
     refine q _ ?_;rw[g,Qa7 m];simp
   .have g:Yy (K9 s (i:Nat))=true:=by simpa using g
    refine q _ ?_;rw[g];rfl
  have k1:∀l:Bool,l=Yy (K9 s (i:Nat))->Pv F s i e l=some (QV s):=by
   intro l c;unfold Pv
   refine Z4 (k:=?_);refine Z9 (λf=>?_) (λf=>?_)
   .refine Z4 (k:=?_)
    refine k2 _ _ c ?_;unfold Ug;rw[f,Qc6]
   .refine k2 _ _ c ?_
    unfold Ug;rw[f,Qn8]
  refine Z9 (λc=>?_) (λc=>?_)
  .refine Z4 (k:=?_)
   refine k1 _ ?_;unfold Yy;rw[c,Qc6]
  .refine k1 _ ?_
   unfold Yy;rw[c,Qn8]
 .have h:i=s.size:=by
   have:¬i<s.size:=by simpa using h
   omega
  subst h;unfold Lj
  refine Z9 (λc=>?_) (λc=>?_)
  .unfold Pt
   congr 1
   unfold QV;have c:1<=s.size:=by have:=Qa6 c;omega
   rw[Qa5 c,Qa5 t,Qc6,Bool.and_true,Qd0,Qb7,Qb7];omega
  .unfold Pt
   congr 1
   unfold QV;have c:¬1<=s.size:=by have:=Qa8 c;omega
   rw[Qa7 c];rfl
def Yq:List ByteArray:=[(ByteArray.mk #[98,97,114,108,101,121]),(ByteArray.mk #[99,108,111,118,101,114]),(ByteArray.mk #[103,114,97,115,115]),(ByteArray.mk #[109,97,105,122,101]),(ByteArray.mk #[111,97,116,115]),(ByteArray.mk #[114,121,101]),(ByteArray.mk #[118,101,116,99,104]),(ByteArray.mk #[119,104,101,97,116])]
theorem Q2H:∀i,i<8->QV (gl Yq i)=true/\(gl Yq i).size<=12:=by decide +kernel
theorem Z4h:∀i,i<8->0<i->(Vu (gl Yq i) (gl Yq (i-1))||Zl (gl Yq i) (gl Yq (i-1)))=false:=by decide +kernel
structure CropT (l:List Crop):Prop where
 len:3<=l.length/\l.length<=8
 one:∀i,i<l.length->(gl l i).n_=gl Yq i/\0<=(gl l i).f_/\(gl l i).f_<=2/\0<=(gl l i).m_/\(gl l i).m_<=31
theorem Z4g(hF:Q7<=F){l:List Crop}(h:CropT l):XV F l=some 0:=by
 have p:=hF;unfold Q7 at hF
 obtain⟨s,r⟩:=h.len;unfold XV
 refine Z8 (Qa7 (by omega)) ?_;refine vG l.length (λb i f o=>?_) (λb=>?_) (by omega)
 .obtain ⟨c,n2,n3,q,t⟩:=h.one i f
  unfold XU;simp only[Qa3]
  refine U3 (by simpa using f) ?_;refine Z4 (k:=?_)
  obtain⟨j,u⟩:=Q2H i (by omega);refine Q4 (Li (by rw[c];omega) (by rw[c];omega)) ?_
  rw[c,j];refine Z8 rfl (Z8 (Qa7 (by omega)) ?_)
  unfold Gh;simp only[Qa3]
  refine Z8 (Qa7 (by omega)) (Z8 (Qa7 (by omega)) ?_);unfold Gg
  simp only[Qa3];have g:Gf F i b false=some 0:=by
   unfold Gf;refine Z8 rfl ?_
   refine Z4 (k:=?_);exact o
  refine Z8 (Qa7 (by omega)) (Z9 (λe=>?_) (λe=>g));have e:0<i:=by simpa using e
  refine Z4 (k:=?_);refine Z4 (k:=?_)
  have m:((i:Int)-1).toNat=i-1:=by omega
  rw[m,c,(h.one (i-1) (by omega)).1,Z4h i (by omega) e];exact g
 .unfold XU
  exact Z8 (by simp) rfl
theorem Z1M(hF:Q7<=F)(ht:TOk t):∃t' l,TX F t=some (t',l)/\TOk t' /\ CropT l:=by
 unfold Q7 at hF;obtain⟨m,n,J,I,Q,n2⟩:=ZR (F:=F) ht (lo:=3) (hi:=8) (by omega) (by omega) (by omega)
 have h:(Yq.take n.toNat).length=n.toNat:=by rw[Qd1];simp[Yq];omega
 have s:∀ (k f i:Nat) (t:Tape) (c:List Crop),i+k=n.toNat->k<f->TOk t->c.length=i->(∀ j,j<i->(gl c j).n_=gl Yq j/\0<=(gl c j).f_/\(gl c j).f_<=2/\0<=(gl c j).m_/\(gl c j).m_<=31) ->
   ∃t' l,Y3 (λagain (z:Int×(List Int)×Int×(List Crop))=>XC F (m,n) again z.1 z.2.1 z.2.2.1 z.2.2.2) f ((i:Int),t.l_,t.at_,c)=some (t',l)/\TOk t' /\ CropT l:=by
  intro k
  induction k with
  |zero=>
   intro f i t c v B ht u g
   cases f with
   |zero=>omega
   |succ f=>
    refine⟨⟨t.l_,t.at_⟩,c,?_,ht,⟨by omega,λj r=>g j (by omega)⟩⟩;show XC F (m,n) _ (i:Int) t.l_ t.at_ c=_
    unfold XC;refine Z8 ?_ rfl
    show decide ((i:Int)<(((Yq.take n.toNat).length:Nat):Int))=false;rw[h];exact Qa7 (by omega)
  |succ k ih=>
   intro f i t c v B ht u g
   cases f with
   |zero=>omega
   |succ f=>
    obtain⟨S,a,C,N,K,P⟩:=Qz (F:=F) ht (n:=3) (by omega) (by omega);obtain⟨O,b,M,E,T,U⟩:=Qz (F:=F) N (n:=8) (by omega) (by omega)
    have D:∀j,j<8->0<=gl ([0,0,0,2,20,8,1,31]:List Int) j/\gl ([0,0,0,2,20,8,1,31]:List Int) j<=31:=by decide
    have p:gl (Yq.take n.toNat) i=gl Yq i:=by simp[gl,Qa0,show i<n.toNat from by omega]
    obtain⟨t',l,o,w,q⟩:=ih f (i+1) O (c++[⟨gl (Yq.take n.toNat) i,a,gl ([0,0,0,2,20,8,1,31]:List Int) b.toNat⟩]) (by omega) (by omega) E (by simp[u]) (λj r=>by
     rcases Qc8 j i with A|A
     .have e:gl (c++[(⟨gl (Yq.take n.toNat) i,a,gl ([0,0,0,2,20,8,1,31]:List Int) b.toNat⟩:Crop)]) j=gl c j:=by simp[gl,Qa0,Qh4 (show j<c.length by omega)]
      rw[e];exact g j A
     .have:j=c.length:=by omega
      subst this;have e:gl (c++[(⟨gl (Yq.take n.toNat) i,a,gl ([0,0,0,2,20,8,1,31]:List Int) b.toNat⟩:Crop)]) c.length=⟨gl (Yq.take n.toNat) i,a,gl ([0,0,0,2,20,8,1,31]:List Int) b.toNat⟩:=by simp[gl,Qa0]
      rw[e];obtain⟨G,H⟩:=D b.toNat (by omega)
      refine⟨by simp only;rw[p,u],K,by simp only;omega,G,H⟩)
    refine⟨t',l,?_,w,q⟩;show XC F (m,n) _ (i:Int) t.l_ t.at_ c=_
    unfold XC;refine U3 ?_ (Q9 ?_ (Q4 C (Q4 M (Q9 ?_ (Q9 ?_ (Q9 (Y8 (by omega) (by omega)) ?_))))))
    .show decide ((i:Int)<(((Yq.take n.toNat).length:Nat):Int))=true
     rw[h];exact Qa5 (by omega)
    .show 0<=(i:Int)/\(i:Int)<(((Yq.take n.toNat).length:Nat):Int)
     rw[h];omega
    .simp only[Qb0,Qb6];omega
    .simp only[Y6,Qb0,Qb6];omega
    .exact o
 obtain⟨t',l,o,w,q⟩:=s n.toNat F 0 m [] (by omega) (by omega) I rfl (λj r=>absurd r (Qd7 j));refine⟨t',l,?_,w,q⟩
 unfold TX;refine Q4 J (Q9 ?_ o)
 simp only[Qb0,Qb6];omega
structure HisT (K:Int) (l:List Rg_):Prop where
 hl:HL l
 box:∀f∈l,QN 9 f.g_.t_
 crop:∀f∈l,f.c_<K
theorem HisT.nil(K:Int):HisT K []:=⟨HL.nil,λf b=>by simp at b,λf b=>by simp at b⟩
theorem xO(hb:QN n l)(h:Q8 l u v=true):0<=u/\u<n/\0<=v/\v<n:=by
 obtain⟨r,b,c⟩:=(Va _ _ _).1 h;have:=hb r b
 rw[ZZ]at c;omega
theorem HisT.add{K:Int}{l:List Rg_}(h:HisT K l)(hy:0<=y/\y<=100)(hc:0<=c/\c<40)(hk:c<K)(ha:K7 a)(hb:QN 9 a)(ht:WB (YU l y c a)=false):HisT K (YU l y c a):=by
 have o:=h.hl.add hy hc ha ht;refine⟨o,λf b=>?_,λf b=>?_⟩
 .refine (o.val b).2.2.box λu v i=>?_
  obtain⟨b,_⟩:=xY.1 b;rcases b with b|rfl
  .obtain ⟨g,j,_,rfl⟩:=RJ.1 b
   exact xO (h.box g j) (Hv g y a i).1
  .rcases kP.1 i with m|⟨g,j,m⟩
   .exact xO hb m
   .exact xO (h.box g (Qk0 j)) m
 .obtain ⟨b,_⟩:=xY.1 b
  rcases b with b|rfl
  .obtain ⟨g,j,_,rfl⟩:=RJ.1 b
   have:=congrArg Prod.snd (XR y a g)
   have e:(YQ y a g).c_=g.c_:=this;rw[e];exact h.crop g j
  .exact hk
theorem Q3w{l:List Rg_}(h:HL l)(hy:0<=y/\y<=100)(hc:0<=c/\c<40){a:Re_}(ha:K7 a.t_):addH l y c a=if WB (YU l y c a.t_)=true then([],1)else(YU l y c a.t_,0):=by
 unfold addH;rw[Qa1 (by rw[(FA _).2 h];simp),Qa1 (by omega),Qa1 (by omega),Qa1 (by rw[WN ha];simp)]
theorem HisT.addH{K:Int}{l:List Rg_}(h:HisT K l)(hy:0<=y/\y<=100)(hc:0<=c/\c<40)(hk:c<K){a:Re_}(ha:RegT 9 a):HisT K (addH l y c a).1:=by
 rw[Q3w h.hl hy hc ha.val];split
 .exact HisT.nil K
 .rename_i b
  exact h.add hy hc hk ha.val ha.box (by simpa using b)
def Zj(l:List Rg_)(y:Int)(p:Int->Bool):List Rect:=(l.filter λf=>decide (f.year_=y)&&p f.c_).flatMap λf=>f.g_.t_
theorem Lh(l:List Rg_)(x:Rg_)(y:Int)(p:Int->Bool):Zj (l++[x]) y p=Zj l y p++(if(decide (x.year_=y)&&p x.c_)=true then x.g_.t_ else[]):=by
 unfold Zj;rw[Qg3,Qr9]
 congr 1
 cases h:(decide (x.year_=y)&&p x.c_)with
 |true=>simp[h]
 |false=>simp[h]
theorem Q4i{l:List Rg_}(h:HL l)(y:Int)(p:Int->Bool):∀i,i<=l.length->(Zj (l.take i) y p).length<=120*i:=by
 intro i
 induction i with
 |zero=>intro _;rw[Qn7];exact Qb3 _
 |succ i ih=>
  intro c;rw[QB (show i<l.length by omega),Lh,Qb5]
  have:=ih (by omega)
  have b:=(h.val (J9 (show i<l.length by omega))).1;split
  .omega
  .simp only[Qb6];omega
theorem Z2q(hF:Q7<=F){l:List Rg_}(h:HL l)(y:Int){q:Int->Option Bool}(p:Int->Bool)(hq:∀f∈l,q f.c_=some (p f.c_)):Cm F l y q=some (Zj l y p):=by
 have w:=hF;unfold Q7 at hF
 have s:=h.len;unfold Cm
 refine Qa (λz:Int×List Rect=>∃i:Nat,z=((i:Int),Zj (l.take i) y p)/\i<=l.length) (λz=>l.length-z.1.toNat) (λg z v r=>?_) ⟨0,rfl,by omega⟩ (by simp only;omega);obtain⟨i,rfl,B⟩:=v
 simp only at r⊢;unfold Q1k
 simp only[Qa3];refine Z9 (λj=>?_) (λj=>?_)
 .have j:i<l.length:=by simpa using j
  refine Z4 (k:=?_);have A:=(h.val (J9 j)).1
  have u:=Q4i h y p i (by omega);have e:=Lh (l.take i) (gl l i) y p
  rw[<-QB j]at e;have m:∀o,o=Zj (l.take (i+1)) y p->DN F i g o=some (Zj l y p):=by
   rintro o rfl;unfold DN
   refine Z4 (k:=?_);exact r _ ⟨i+1,rfl,j⟩ (by simp only;omega)
  have k1:∀b:Bool,b=(decide ((gl l i).year_=y)&&p (gl l i).c_)->DO F l i (Zj (l.take i) y p) g b=some (Zj l y p):=by
   intro b t;unfold DO
   simp only[Qa3];refine Z9 (λc=>?_) (λc=>?_)
   .refine Q9 (by simp only[Y6];omega) (m _ ?_)
    rw[e,Qa2 (by rw[<-t,c])]
   .refine m _ ?_
    rw[e,Qa1 (by rw[<-t,c];simp),Qi2]
  refine Z9 (λc=>?_) (λc=>?_)
  .have c:(gl l i).year_=y:=by simpa using c
   refine Q4 (hq _ (J9 j)) (k1 _ ?_);rw[Qa5 c,Qc6]
  .have c:¬(gl l i).year_=y:=by simpa using c
   refine k1 _ ?_;rw[Qa7 c,Qn8]
 .have j:i=l.length:=by
   have:¬i<l.length:=by simpa using j
   omega
  subst j;unfold vn
  rw[Qe5]
end
end Go.Ab
