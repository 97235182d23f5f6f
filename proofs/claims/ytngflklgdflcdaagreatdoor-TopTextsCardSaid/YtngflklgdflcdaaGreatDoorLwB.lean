/- What the plain programs compute, up to the law itself. -/
import Derived.Test.YtngflklgdflcdaaGreatDoorLwA
import Derived.Test.YtngflklgdflcdaaGreatDoorPuC
set_option maxRecDepth 20000
set_option linter.all false
noncomputable section
namespace Go.Ab
variable {s:ByteArray}{K M d lo x:Int}{S:Int->Int->Bool}{row:Int->Option ψ}{e:Int×ν}{gs rest:List (Int×ν)}{B:List (Rn ψ)}{cs es xs ys:θ}{L:ω}{F N j:Nat}{z1:aD×aE}
section
variable {i k:Nat}{l m a b out:ζ}{f:aC}{g:aa->Int}{v y n how most c u:Int}{ag:(Int×ζ×ζ)->Θ}{r:aa}{q:Bool->Bool->π}{t:aD}
def put:θ->Int->θ
 |[],n=>[n]
 |a::l,n=>if a<n then a::put l n else if a=n then a::l else n::a::l
theorem Z3t(n:Int)(l:θ)(i:Nat)(h:i<l.length)(hlt:gl l i<n):put (l.drop i) n=gl l i::put (l.drop (i+1)) n:=by
 rw[YP h,put,av hlt]
theorem CH(hF:Q6<=F){l:θ}(hl:l.length<=1048576)(n:Int):GS F l n=some (put l n):=by
 unfold Q6 at hF;unfold GS
 refine z5 (λz:Int=>∃i:Nat,z=i/\i<=l.length/\put l n=l.take i++put (l.drop i) n) (λz=>l.length-z.toNat) (λd z g e=>?_) ⟨0,rfl,by simp,by simp⟩ (by simp;omega);obtain⟨i,rfl,j,b⟩:=g
 have k2:(∀h:i<l.length,n<=gl l i)->CI F l n (i:Int)=some (put l n):=by
  intro c;unfold CI
  refine Z9 (λh=>?_) (λh=>?_)
  .have h:i<l.length:=by simpa using h
   have c:=c h;refine Z7 (k:=?_)
   unfold HR;rw[YP h,put]at b
   refine Z9 (λa=>?_) (λa=>?_)
   .have a:gl l i=n:=by simpa using a
    rw[b,an (by omega),av a, <-YP h,iR]
   .have a:gl l i≠n:=by simpa using a
    repeat(refine Z7 (k:=?_))
    rw[b,an (by omega),an a, <-YP h];simp
  .have h:¬i<l.length:=by simpa using h
   unfold HR;refine Z4 rfl ?_
   repeat(refine Z7 (k:=?_))
   have:i=l.length:=by omega
   subst this;simp[put]at b
   simp[b]
 unfold rX;refine Z9 (λh=>?_) (λh=>?_)
 .have h:i<l.length:=by simpa using h
  refine Z7 (k:=?_);unfold HS
  refine Z9 (λa=>?_) (λa=>?_)
  .have a:gl l i<n:=by simpa using a
   refine Z7 (k:=?_);refine e _ ⟨i+1,by omega,h,?_⟩ (by omega)
   rw[b,Z3t n l i h a,Za h,fR];rfl
  .exact k2 λ_=>by simpa using a
 .unfold HS
  exact Z4 rfl (k2 λf=>absurd f (by simpa using h))
def Zj(r:aa):Bool:=decide (0<=r.L_)&&(decide (r.L_<r.R_)&&(decide (r.R_<=16384)&&(decide (0<=r.w_)&&(decide (r.w_<r.H_)&&decide (r.H_<=16384)))))
theorem Wy(r:aa):Zj r=true↔0<=r.L_/\r.L_<r.R_/\r.R_<=16384/\0<=r.w_/\r.w_<r.H_/\r.H_<=16384:=by simp[Zj]
theorem rj(F:Nat)(r:aa):PQ F r=some (Zj r):=by
 unfold PQ;rw[YS (VE F),YS (VE F),YS (VE F),YS (VE F),YS (VE F)]
 rfl
def Qp(a b:Bool)(how:Int):Bool:=if how=1 then a||b else if how=2 then a&&b else a && !b
theorem Z2P(F:Nat)(a b:Bool)(how:Int):Cu F a b how=some (Qp a b how):=by
 unfold Cu Qp;rw[r9,r9]
 by_cases h1:how=1
 .subst h1;cases a<;>cases b<;>rfl
 .by_cases h2:how=2
  .subst h2;cases a<;>cases b<;>rfl
  .have c:(how==1)=false:=by simpa using h1
   have d:(how==2)=false:=by simpa using h2
   rw[c,d,an h1,an h2]
   cases a<;>cases b<;>rfl
theorem uI(hF:Q6<=F)(hl:l.length<=Y2)(x y:Int):HJ F l x y=some (Q8 l x y):=by
 unfold Q6 at hF;unfold Y2 at hl
 unfold HJ;refine vE (l:=l) (λm=>some (Q8 m x y)) (λa i d b=>?_) (λa=>?_) (by omega)
 .unfold vr
  refine Y8 (Vo d) ?_;refine Z7 (k:=?_)
  rw[YS (Ju F i a),YS (Ju F i a),YS (Ju F i a)];unfold Ju
  have e:Q8 (gl l i::l.drop (i+1)) x y=((gl l i).has x y||Q8 (l.drop (i+1)) x y):=rfl;rw[e]
  have c:(decide ((gl l i).L_<=x)&&(decide (x<(gl l i).R_)&&(decide ((gl l i).w_<=y)&&decide (y<(gl l i).H_))))=(gl l i).has x y:=by
   simp only[aa.has,mD]
  show br (decide ((gl l i).L_<=x)&&(decide (x<(gl l i).R_)&&(decide ((gl l i).w_<=y)&&decide (y<(gl l i).H_)))) _ _=_;rw[c]
  refine Z9 (λh=>by rw[h];rfl) (λh=>?_);refine Z7 (k:=?_)
  rw[b,h,iP]
 .unfold vr
  exact Z4 (Uo _) rfl
def Ui:ζ->ζ->Bool
 |[],[]=>true
 |a::l,b::m=>(a.L_==b.L_&&a.R_==b.R_)&&Ui l m
 |_,_=>false
theorem tX:∀{l m:ζ},Ui l m=true->l.length=m.length
 |[],[],_=>rfl
 |[],_::_,h=>by cases h
 |_::_,[],h=>by cases h
 |a::l,b::m,h=>by
  simp only[Ui,dc]at h;simp[tX h.2]
theorem Z1a:∀(l m:ζ),l.length=m.length->∀i,i<=l.length->Ui (l.drop i) (m.drop i)=if h:i<l.length then(((gl l i).L_==(gl m i).L_&&(gl l i).R_==(gl m i).R_)&&Ui (l.drop (i+1)) (m.drop (i+1)))else true:=by
 intro l m h i b;split
 .rename_i a
  rw[YP a,YP (l:=m) (by omega)];rfl
 .have:i=l.length:=by omega
  rw[iz (by omega),iz (by omega)];rfl
theorem Z2N(hF:Q6<=F)(hl:l.length<=Y2):Ct F l m=some (Ui l m):=by
 unfold Q6 at hF;unfold Y2 at hl
 unfold Ct;refine Z9 (λh=>?_) (λh=>?_)
 .have h:l.length≠m.length:=by simp at h;omega
  cases hs:Ui l m with
  |false=>rfl
  |true=>exact absurd (tX hs) h
 .have h:l.length=m.length:=by simp at h;omega
  refine z5 (λz:Int=>∃i:Nat,z=i/\i<=l.length/\Ui l m=Ui (l.drop i) (m.drop i)) (λz=>l.length-z.toNat) (λf z j g=>?_) ⟨0,rfl,by simp,by simp⟩ (by simp;omega);obtain⟨i,rfl,n,a⟩:=j
  rw[Z1a l m h i n]at a;unfold AY
  refine Z9 (λb=>?_) (λb=>?_)
  .have b:i<l.length:=by simpa using b
   rw[lf b]at a;refine Z7 (k:=?_)
   refine Z7 (k:=?_);have o:i<m.length:=by omega
   refine Z9 (λd=>?_) (λd=>?_)
   .unfold HI
    refine Y8 rfl ?_;have d:(gl l i).L_≠(gl m i).L_:=by simpa using d
    have e:((gl l i).L_==(gl m i).L_)=false:=by simpa using d
    rw[a,e];rfl
   .repeat (refine Z7 (k:=?_))
    have d:(gl l i).L_=(gl m i).L_:=by simpa using d
    have e:((gl l i).L_==(gl m i).L_)=true:=by simpa using d
    rw[e,eN]at a;unfold HI
    refine Z9 (λc=>?_) (λc=>?_)
    .have c:(gl l i).R_≠(gl m i).R_:=by simpa using c
     have e:((gl l i).R_==(gl m i).R_)=false:=by simpa using c
     rw[a,e];rfl
    .have c:(gl l i).R_=(gl m i).R_:=by simpa using c
     have e:((gl l i).R_==(gl m i).R_)=true:=by simpa using c
     rw[e,eN]at a;refine Z7 (k:=?_)
     exact g _ ⟨i+1,by omega,b,a⟩ (by omega)
  .have b:¬i<l.length:=by simpa using b
   rw[dif_neg b]at a;rw[a];rfl
theorem xe(l:θ)(n v:Int):v∈put l n↔v=n\/v∈l:=by
 induction l with
 |nil=>simp[put]
 |cons a l ih=>
  unfold put;split
  .rw [dY,ih,dY]
   constructor
   .rintro (h|h|h);exact .inr (.inl h);exact .inl h;exact .inr (.inr h)
   .rintro (h|h|h);exact .inr (.inl h);exact .inl h;exact .inr (.inr h)
  .split
   .rename_i h;subst h
    rw[dY];constructor
    .intro h;exact .inr h
    .rintro (h|h);exact .inl h;exact h
   .rw [dY]
theorem r8{l:θ}(h:Yx l)(n:Int):Yx (put l n):=by
 induction l with
 |nil=>exact iF _ _
 |cons a l ih=>
  obtain⟨d,e⟩:=fu.1 h;unfold put
  split
  .rename_i c
   refine fu.2 ⟨λv b=>?_,ih e⟩;rcases(xe l n v).1 b with rfl|b
   .exact c
   .exact d v b
  .split
   .exact h
   .refine fu.2 ⟨λv b=>?_,h⟩
    rcases dY.1 b with rfl|b
    .omega
    .have:=d v b;omega
theorem Bd(l:θ)(n:Int):(put l n).length<=l.length+1:=by
 induction l with
 |nil=>simp[put]
 |cons a l ih=>
  unfold put;split
  .simp;omega
  .split<;>simp
def Zp(l:ζ)(xs:θ):θ:=l.foldl (λxs r=>put (put xs r.L_) r.R_) xs
def ZQ(l:ζ)(ys:θ):θ:=l.foldl (λys r=>put (put ys r.w_) r.H_) ys
theorem Uw{f:aa->Int}(l:ζ):∀{xs:θ},Yx xs->Yx (l.foldl (λxs r=>put (put xs (f r)) (g r)) xs):=by
 induction l with
 |nil=>intro xs h;exact h
 |cons r l ih=>intro xs h;exact ih (r8 (r8 h _) _)
theorem ZX{f:aa->Int}(l:ζ):∀(xs:θ) (v:Int),v∈l.foldl (λxs r=>put (put xs (f r)) (g r)) xs↔v∈xs\/∃r∈l,v=f r\/v=g r:=by
 induction l with
 |nil=>intro xs v;simp
 |cons r l ih=>
  intro xs v;rw[mm,ih,xe,xe]
  constructor
  .rintro ((h|h|h)|⟨q,a,h⟩)
   .exact .inr ⟨r,by simp,.inr h⟩
   .exact .inr ⟨r,by simp,.inl h⟩
   .exact .inl h
   .exact .inr ⟨q,by simp[a],h⟩
  .rintro (h|⟨q,a,h⟩)
   .exact .inl (.inr (.inr h))
   .rcases dY.1 a with rfl|a
    .rcases h with h|h
     .exact .inl (.inr (.inl h))
     .exact .inl (.inl h)
    .exact .inr ⟨q,a,h⟩
theorem Bw{f:aa->Int}(l:ζ):∀(xs:θ),(l.foldl (λxs r=>put (put xs (f r)) (g r)) xs).length<=xs.length+2*l.length:=by
 induction l with
 |nil=>intro xs;simp
 |cons r l ih=>
  intro xs;have b:=ih (put (put xs (f r)) (g r))
  have a:=Bd (put xs (f r)) (g r);have c:=Bd xs (f r)
  simp only[mm,dz];omega
theorem ue(hF:Q6<=F)(hv:0<=v/\v<=1)(hl:gl [a,b] v.toNat=l){ag:(θ×θ×Int)->Θ}{y:Θ}(hx:xs.length+2*l.length<=1000000)(hy:ys.length+2*l.length<=1000000)(h:ag (Zp l xs,ZQ l ys,v+1)=y):Y4 (λagain (z:θ×θ×Int)=>vz F a b v ag again z.1 z.2.1 z.2.2) F (xs,ys,0)=y:=by
 have d:=hF;unfold Q6 at hF
 refine z5 (λz:θ×θ×Int=>∃j:Nat,z.2.2=j/\j<=l.length/\Zp (l.drop j) z.1=Zp l xs/\ZQ (l.drop j) z.2.1=ZQ l ys/\z.1.length+2*(l.length-j)<=1000000/\z.2.1.length+2*(l.length-j)<=1000000)
  (λz=>l.length-z.2.2.toNat) (λagain z p n=>?_) ⟨0,rfl,by omega,by simp,by simp,by simpa using hx,by simpa using hy⟩ (by simp;omega)
 obtain⟨i,g,x⟩:=z;obtain⟨j,m,q,e,f,o,r⟩:=p
 simp only at m e f o r;subst m
 unfold vz;simp only[hl,dh]
 refine Z9 (λc=>?_) (λc=>?_)
 .have c:j<l.length:=by simpa using c
  refine Z7 (k:=?_);have w:=Bd i (gl l j).L_
  have t:=Bd (put i (gl l j).L_) (gl l j).R_;have s:=Bd g (gl l j).w_
  have u:=Bd (put g (gl l j).w_) (gl l j).H_;refine Q3 (CH d (by omega) _) ?_
  refine Q3 (CH d (by omega) _) ?_;refine Q3 (CH d (by omega) _) ?_
  refine Q3 (CH d (by omega) _) ?_;refine Z7 (k:=?_)
  refine n _ ⟨j+1,rfl,by omega,?_,?_,by simp only;omega,by simp only;omega⟩ (by simp only;omega)
  .rw [<-e,YP c];rfl
  .rw [<-f,YP c];rfl
 .have c:¬j<l.length:=by simpa using c
  have:j=l.length:=by omega
  subst this;rw[lE]at e f
  unfold vv;refine Z7 (k:=?_)
  have e:i=Zp l xs:=e;have f:g=ZQ l ys:=f
  rw[e,f];exact h
theorem kp(lo hi:Int):Qg ⟨lo,hi,[]⟩=[]:=rfl
theorem Lf(lo hi:Int)(l:ψ)(s:aq):Qg ⟨lo,hi,l++[s]⟩=Qg ⟨lo,hi,l⟩++[⟨s.L_,lo,s.R_,hi⟩]:=by simp[Qg]
theorem Wg(b:Rn ψ):(Qg b).length=b.v.length:=by simp[Qg]
theorem Xm{α:Type}[aN α](l:List α)(x:α){n:Nat}(h:n=l.length):gl (l++[x]) n=x:=by subst h;simp[gl,aY]
theorem SX{α:Type}(l:List α)(x y:α){n:Nat}(h:n=l.length):(l++[x]).set n y=l++[y]:=by subst h;simp
theorem Z7E(hF:Q6<=F){ag:(Int×ζ)->Θ}{y:Θ}(hk:k+1<xs.length)(hx:xs.length<=65536)(hm:m.length<=65536)(h:ag ((k:Int)+1,m++[⟨r.L_,r.w_,gl xs (k+1),r.H_⟩])=y):KD F xs ys i k (m++[r]) ag true=y:=by
 unfold Q6 at hF;unfold KD
 refine Y8 rfl ?_;have a:(m++[r]).length=m.length+1:=by simp
 simp only[a];have b:(((m.length+1:Nat):Int)-1).toNat=m.length:=by omega
 have c:((k:Int)+1).toNat=k+1:=by omega
 rw[b,Xm _ _ rfl,SX _ _ _ rfl,c]
 repeat(refine Z7 (k:=?_))
 exact h
theorem Z7F(hF:Q6<=F){ag:(Int×ζ)->Θ}{y:Θ}(hk:k+1<xs.length)(hi:i+1<ys.length)(hx:xs.length<=65536)(hy:ys.length<=65536)(hm:m.length<=65536)(h:ag ((k:Int)+1,m++[⟨gl xs k,gl ys i,gl xs (k+1),gl ys (i+1)⟩])=y):KD F xs ys i k m ag false=y:=by
 unfold Q6 at hF;unfold KD
 refine Z4 rfl ?_;have a:((k:Int)+1).toNat=k+1:=by omega
 have b:((i:Int)+1).toNat=i+1:=by omega
 rw[a,b];simp only[dh]
 repeat(refine Z7 (k:=?_))
 exact h
theorem Z7H(hF:Q6<=F)(hi:i+1<ys.length)(hx:xs.length<=65536)(hy:ys.length<=65536)(ha:a.length<=Y2)(hb:b.length<=Y2)(hst:ep false xs fun x=>Qp (Q8 a x (gl ys i)) (Q8 b x (gl ys i)) how){last:ζ}{y:Θ}(h:∀ l:ψ,dL l->(∀ x,K8 l x=Qp (Q8 a x (gl ys i)) (Q8 b x (gl ys i)) how)->l.length<=65536->HN F ys i out last ag (Qg ⟨gl ys i,gl ys (i+1),l⟩)=y):
  Y4 (λagain (z:Int×ζ)=>vx F a b how xs ys i out last ag again z.1 z.2) F (0,[])=y:=by
 have j:=hF;unfold Q6 at hF
 refine z5 (λz:Int×ζ=>∃(k:Nat) (l:ψ),z=((k:Int),Qg ⟨gl ys i,gl ys (i+1),l⟩)/\l.length<=k/\(k+1<=xs.length\/k=0)/\(0<xs.length->fK false (λx=>Qp (Q8 a x (gl ys i)) (Q8 b x (gl ys i)) how) (l.map aq.rn) (gl xs k)))
  (λz=>xs.length-z.1.toNat) (λagain z H v=>?_) ⟨0,[],rfl,di _,.inr rfl,λC=>hst.start C⟩ (by simp;omega)
 obtain⟨k,l,rfl,E,K,g⟩:=H;simp only at v⊢
 unfold vx;refine Z7 (k:=?_)
 refine Z9 (λc=>?_) (λc=>?_)
 .have c:k+1<xs.length:=by simp at c;omega
  have g:=g (by omega);have p:=hst.asc.at_lt (show k<k+1 by omega) c
  simp only[dh]
  repeat(refine Z7 (k:=?_))
  refine Q3 (uI j ha _ _) ?_
  repeat(refine Z7 (k:=?_))
  refine Q3 (uI j hb _ _) ?_;refine Q3 (Z2P _ _ _ _) ?_
  have e:=hst.gap k c;refine Z9 (λn=>?_) (λn=>?_)
  .have n:Qp (Q8 a (gl xs k) (gl ys i)) (Q8 b (gl xs k) (gl ys i)) how=false:=by simpa using n
   unfold HO;refine Z7 (k:=?_)
   exact v _ ⟨k+1,l,rfl,by omega,.inl (by omega),λ_=>g.skip (by omega) λt A w=>(e t A w).trans n⟩ (by simp only;omega)
  .have n:Qp (Q8 a (gl xs k) (gl ys i)) (Q8 b (gl xs k) (gl ys i)) how=true:=by simpa using n
   have d:(∀s,l.getLast?=some s->s.R_≠gl xs k)->KD F xs ys i k (Qg ⟨gl ys i,gl ys (i+1),l⟩) again false=y:=by
    intro D;refine Z7F j c hi hx hy (by rw[Wg];simp only;omega) (v _ ⟨k+1,l++[⟨gl xs k,gl xs (k+1)⟩],by rw[Lf];rfl,by simp;omega,.inl (by omega),λ_=>?_⟩ (by simp only;omega))
    have:=g.add p e (λq m I=>by
     rw[List.getLast?_map]at m
     cases f:l.getLast? with
     |none=>rw[f]at m;cases m
     |some s=>rw[f]at m;cases m;exact absurd I (D s f))
    simp only[n]at this;rw[fe];exact this
   rcases lF l with rfl|⟨o,s,r⟩
   .refine Z4 (by simp[kp]) ?_
    exact d λs f=>by simp at f
   .rw [lK]at r
    subst r;rw[Lf]at d⊢
    have u:(Qg ⟨gl ys i,gl ys (i+1),o⟩++[(⟨s.L_,gl ys i,s.R_,gl ys (i+1)⟩:aa)]).length=o.length+1:=by simp[Wg]
    have J:o.length+1<=k:=by simpa using E
    simp only[u];have G:(((o.length+1:Nat):Int)-1).toNat=o.length:=by omega
    rw[G,Xm _ _ (by rw[Wg])];refine Y8 (by simp) ?_
    repeat(refine Z7 (k:=?_))
    by_cases f:s.R_=gl xs k
    .have B:(s.R_==gl xs k)=true:=by simpa using f
     simp only[B];refine Z7E j c hx (by rw[Wg];simp only;omega) (v _ ⟨k+1,o ++ [⟨s.L_,gl xs (k+1)⟩],by rw[Lf];rfl,by simp only[dK,dz,eg];omega,.inl (by omega),λ_=>?_⟩ (by simp only;omega))
     rw[fe]at g;have:=g.grow (a:=s.rn) f p λt A w=>(e t A w).trans n
     rw[fe];exact this
    .have B:(s.R_==gl xs k)=false:=by simpa using f
     simp only[B];exact d λq m=>by simp at m;subst m;exact f
 .have c:¬k+1<xs.length:=by simp at c;omega
  by_cases C:xs.length=0
  .have:k=0:=by omega
   subst this;have:l=[]:=iH (by omega)
   subst this;exact h [] .nil (λx=>(hst.empty C x).symm) (by simp)
  .have g:=g (by omega)
   exact h l (.of_runs g.runs) (λx=>by rw[Mp];exact hst.done (by omega) g x) (by omega)
theorem T2{α:Type}[aN α](l m:List α)(x:α){n:Nat}(h:n=l.length):gl (l++x::m) n=x:=by subst h;simp[gl,aY]
theorem Nm{α:Type}(l m:List α)(x y:α){n:Nat}(h:n=l.length):(l++x::m).set n y=l++y::m:=by subst h;simp
theorem I5(hF:Q6<=F)(hi:i+1<ys.length)(hy:ys.length<=65536){hi':Int}{l:ψ}(hl:l.length<=65536){y:Θ}(h:ag ((i:Int)+1,out,Qg ⟨lo,gl ys (i+1),l⟩)=y):
  Y4 (λagain (z:Int×ζ)=>vy F ys i out (Qg ⟨lo,hi',l⟩) ag again z.1 z.2) F (0,Qg ⟨lo,hi',l⟩)=y:=by
 unfold Q6 at hF;refine z5 (λz:Int×ζ=>∃j:Nat,z=((j:Int),Qg ⟨lo,gl ys (i+1),l.take j⟩++Qg ⟨lo,hi',l.drop j⟩)/\j<=l.length) (λz=>l.length-z.1.toNat) (λagain z g c=>?_) ⟨0,by simp[Qg],by omega⟩ (by simp;omega)
 obtain⟨j,rfl,n⟩:=g;simp only at c⊢
 have m:((i:Int)+1).toNat=i+1:=by omega
 unfold vy;rw[Wg]
 simp only
 refine Z9 (λa=>?_) (λa=>?_)
 .have a:j<l.length:=by simpa using a
  refine Z7 (k:=?_);refine Z7 (k:=?_)
  have f:l.drop j=l[j]::l.drop (j+1):=lL a;have b:(Qg ⟨lo,gl ys (i+1),l.take j⟩++Qg ⟨lo,hi',l.drop j⟩).length=l.length:=by
   rw[dK,Wg,Wg];simp;omega
  refine Q5 (by rw[b];omega) ?_;refine Z7 (k:=?_)
  rw[m];simp only[dh]
  have e:Qg ⟨lo,hi',l.drop j⟩=(⟨(l[j]).L_,lo,(l[j]).R_,hi'⟩:aa)::Qg ⟨lo,hi',l.drop (j+1)⟩:=by rw[f];rfl
  have d:j=(Qg ⟨lo,gl ys (i+1),l.take j⟩).length:=by rw[Wg];simp;omega
  rw[e,T2 _ _ _ d,Nm _ _ _ _ d];refine c _ ⟨j+1,?_,a⟩ (by simp only;omega)
  rw[Av a,Lf];simp
 .have a:¬j<l.length:=by simpa using a
  have:j=l.length:=by omega
  subst this;unfold vw HP
  refine Z7 (k:=?_);rw[fG,lE,kp,fW]
  exact h
structure iM (rowf:Int->ψ) (c:Int) (n:Nat) (out last:ζ):Prop where
 ex:∃acc,fK [] rowf acc c/\(∀r∈acc,r.v≠[])/\((last=[]/\out=flat acc/\∀r∈acc,r.hi<c)\/∃acc' b,acc=acc' ++ [b]/\b.hi=c/\last=Qg b/\out=flat acc' /\ b.v.length<=65536)
 len:out.length+last.length<=n*65536
theorem uZ(a b:List (Rn ψ)):flat (a++b)=flat a++flat b:=by simp[flat]
theorem tN(b:Rn ψ):flat [b]=Qg b:=by simp[flat]
theorem rG(lo hi lo' hi' : Int):∀(l m:ψ),Ui (Qg ⟨lo,hi,l⟩) (Qg ⟨lo',hi',m⟩)=decide (l=m)
 |[],[]=>rfl
 |[],b::m=>rfl
 |a::l,[]=>rfl
 |a::l,b::m=>by
  have f:=rG lo hi lo' hi' l m;have g:Qg ⟨lo,hi,a::l⟩=(⟨a.L_,lo,a.R_,hi⟩:aa)::Qg ⟨lo,hi,l⟩:=rfl
  have i:Qg ⟨lo',hi',b::m⟩=(⟨b.L_,lo',b.R_,hi'⟩:aa)::Qg ⟨lo',hi',m⟩:=rfl;rw[g,i,Ui,f]
  cases a;cases b
  rw[eV];constructor
  .intro h
   rw[dc,dc]at h;obtain⟨⟨d,c⟩,e⟩:=h
   have d:=eq_of_beq d;have c:=eq_of_beq c
   have e:=dO e;simp only at d c
   rw[d,c,e];exact aZ rfl
  .intro h
   have h:=dO h
   injection h with d c
   injection d with e h4
   subst c;subst e;subst h4
   rw[dc,dc];exact⟨⟨nZ _,nZ _⟩,aZ rfl⟩
theorem Z7D(hF:Q6<=F)(hi:i+1<ys.length)(hy:ys.length<=65536){rowf:Int->ψ}(hst:ep [] ys rowf){last:ζ}(hR:iM rowf (gl ys i) i out last){y:Θ}(hlen:(rowf (gl ys i)).length<=65536)(h:∀ out' last',iM rowf (gl ys (i+1)) (i+1) out' last' -> ag ((i:Int)+1,out',last')=y):
  HN F ys i out last ag (Qg ⟨gl ys i,gl ys (i+1),rowf (gl ys i)⟩)=y:=by
 have o:=hF;unfold Q6 at hF
 obtain⟨⟨e,C,f,l⟩,w⟩:=hR;have A:=hst.asc.at_lt (show i<i+1 by omega) hi
 have d:=hst.gap i hi;have H:i*65536<=65536*65536:=eu _ (by omega)
 generalize hv:rowf (gl ys i)=v at *;have g:(∀a,e.getLast?=some a->a.hi=gl ys i->a.v≠v)->flat e=out++last->CA F i out last (Qg ⟨gl ys i,gl ys (i+1),v⟩) ag=y:=by
  intro G s;unfold CA HP
  refine Z7 (k:=?_);refine Z7 (k:=?_)
  refine h _ _ ⟨?_,?_⟩
  .by_cases hv0:v=[]
   .subst hv0
    exact⟨e,C.skip (by omega) λt q p=>d t q p,f,.inl ⟨kp _ _,s.symm,λr c=>by have:=C.le r c;omega⟩⟩
   .refine ⟨e++[⟨gl ys i,gl ys (i+1),v⟩],?_,λr c=>?_,.inr ⟨e,_,rfl,rfl,rfl,s.symm,hlen⟩⟩
    .have:=C.add A (λt q p=>(d t q p).trans hv.symm) (λa m E=>by rw[hv];exact G a m E)
     rw[hv]at this;exact this
    .rcases dv.1 c with c|c
     .exact f r c
     .rw [dI.1 c];exact hv0
  .rw [dK,Wg,fQ];simp only;omega
 unfold HN;rcases l with ⟨rfl,rfl,D⟩|⟨j,b,rfl,z,rfl,rfl,x⟩
 .refine Z4 rfl ?_
  unfold GR;refine Z4 rfl ?_
  exact g (λa m E=>by have:=D a (List.mem_of_getLast? m);omega) (by simp)
 .have B:b.v≠[]:=f b (by simp)
  have u:0<b.v.length:=by
   cases hh:b.v with
   |nil=>exact absurd hh B
   |cons _ _=>simp
  have I:Qg b=Qg ⟨b.lo,b.hi,b.v⟩:=rfl;refine Y8 (by rw[Wg];simpa using u) ?_
  refine Q3 (Z2N o (by rw[Wg];unfold Y2;omega)) ?_;rw[I,rG]
  refine Z9 (λn=>?_) (λn=>?_)
  .have n:b.v=v:=dO n
   refine Q5 (by rw[Wg];simp only;omega) ?_;refine Z7 (k:=?_)
   have J:((gl (Qg ⟨b.lo,b.hi,b.v⟩) (0:Int).toNat).H_==gl ys (i:Int).toNat)=true:=by
    have:gl (Qg ⟨b.lo,b.hi,b.v⟩) (0:Int).toNat=(⟨(b.v[0]).L_,b.lo,(b.v[0]).R_,b.hi⟩:aa):=by
     have:0<(Qg ⟨b.lo,b.hi,b.v⟩).length:=by rw[Wg];exact u
     show gl (Qg ⟨b.lo,b.hi,b.v⟩) 0=_;rw[G8 this];simp[Qg]
    rw[this];simpa using z
   rw[J];unfold GR
   refine Y8 rfl ?_;refine I5 o hi hy x ?_
   have K:=C.grow z A λt q p=>(d t q p).trans n.symm
   refine h _ _ ⟨⟨j ++ [⟨b.lo,gl ys (i+1),b.v⟩],K,λr c=>?_,.inr ⟨j,_,rfl,rfl,rfl,rfl,x⟩⟩,?_⟩
   .rcases dv.1 c with c|c
    .exact f r (by simp[c])
    .rw [dI.1 c];exact B
   .rw [Wg]at w⊢;rw[fQ];exact dP w (oh _ _)
  .have n:b.v≠v:=ej n
   unfold GR;refine Z4 rfl ?_
   exact g (λa m E=>by rw[List.getLast?_append]at m;simp at m;subst m;exact n) (by rw[uZ,tN])
theorem Z7G(hF:Q6<=F)(hx:xs.length<=65536)(hy:ys.length<=65536)(ha:a.length<=Y2)(hb:b.length<=Y2)(hG:fc xs ys λx y=>Qp (Q8 a x y) (Q8 b x y) how):Cy F a b how xs ys=some (cn λx y=>Qp (Q8 a x y) (Q8 b x y) how):=by
 have h:=hF;unfold Q6 at hF
 unfold Cy;have d:=hG.step
 have f:=hG.rows;refine z5 (λz:Int×ζ×ζ=>∃(i:Nat),z.1=(i:Int)/\((ys.length=0/\i=0/\z.2.1=[]/\z.2.2=[])\/(i+1<=ys.length/\iM (λy=>Zh λx=>Qp (Q8 a x y) (Q8 b x y) how) (gl ys i) i z.2.1 z.2.2)))
  (λz=>ys.length-z.1.toNat) (λg z L C=>?_) ⟨0,rfl,?_⟩ (by simp;omega)
 .obtain ⟨N,J,B⟩:=z
  obtain⟨i,n,e⟩:=L;simp only at n e C⊢
  subst n;unfold D4
  refine Z7 (k:=?_);rcases e with ⟨j,rfl,rfl,rfl⟩|⟨n,D⟩
  .refine Z4 (by simp[j]) ?_
   unfold Cz;refine Z7 (k:=?_)
   have:=Rk f d .nil (λt=>(d.empty j t).symm) (λb hb=>by cases hb)
   rw[this.1];rfl
  .refine Z9 (λc=>?_) (λc=>?_)
   .have c:i+1<ys.length:=by simp at c;omega
    refine Z7H h c hx hy ha hb (hG.x _) λl K H o=>?_
    have w:Zh (λx=>Qp (Q8 a x (gl ys i)) (Q8 b x (gl ys i)) how)=l:=Gm K H;have:=Z7D h c hy d D (ag:=g) (y:=some (cn λx y=>Qp (Q8 a x y) (Q8 b x y) how)) (by rw[w];exact o) λv s q=>C _ ⟨i+1,rfl,.inr ⟨by omega,q⟩⟩ (by simp only;omega)
    rw[w]at this;exact this
   .have c:¬i+1<ys.length:=by simp at c;omega
    unfold Cz;obtain⟨⟨I,E,p,M⟩,A⟩:=D
    have u:i*65536<=65536*65536:=eu _ (by omega);refine Z7 (k:=?_)
    have:=Rk f d E.runs (λt=>d.done (by omega) E t) p
    rw[this.1];rcases M with ⟨rfl,rfl,_⟩|⟨G,O,rfl,_,rfl,rfl,_⟩
    .simp
    .rw [uZ,tN]
 .by_cases j:ys.length=0
  .exact .inl ⟨j,rfl,rfl,rfl⟩
  .exact .inr ⟨by omega,⟨⟨[],d.start (by omega),λr m=>(by cases m),.inl ⟨rfl,rfl,λr m=>(by cases m)⟩⟩,by simp⟩⟩
theorem A5(a b:ζ)(how:Int):fc (Zp b (Zp a [])) (ZQ b (ZQ a [])) λx y=>Qp (Q8 a x y) (Q8 b x y) how:=
 fc.of (Uw b (Uw a .nil)) (Uw b (Uw a .nil))
  (λr c=>⟨(ZX b _ _).2 (.inl ((ZX a _ _).2 (.inr ⟨r,c,.inl rfl⟩))),(ZX b _ _).2 (.inl ((ZX a _ _).2 (.inr ⟨r,c,.inr rfl⟩)))⟩)
  (λr c=>⟨(ZX b _ _).2 (.inr ⟨r,c,.inl rfl⟩),(ZX b _ _).2 (.inr ⟨r,c,.inr rfl⟩)⟩)
  (λr c=>⟨(ZX b _ _).2 (.inl ((ZX a _ _).2 (.inr ⟨r,c,.inl rfl⟩))),(ZX b _ _).2 (.inl ((ZX a _ _).2 (.inr ⟨r,c,.inr rfl⟩)))⟩)
  (λr c=>⟨(ZX b _ _).2 (.inr ⟨r,c,.inl rfl⟩),(ZX b _ _).2 (.inr ⟨r,c,.inr rfl⟩)⟩)
  (k:=λp q=>Qp p q how) (by show Qp false false how=false;unfold Qp;split;rfl;split<;>rfl)
theorem C9(hF:Q6<=F)(ha:a.length<=200000)(hb:b.length<=200000)(hx:(Zp b (Zp a [])).length<=65536)(hy:(ZQ b (ZQ a [])).length<=65536):
  WJ F a b how=some (cn λx y=>Qp (Q8 a x y) (Q8 b x y) how):=by
 have d:=hF;unfold Q6 at hF
 have o:=A5 a b how;have h:=Z7G d hx hy (by unfold Y2;omega) (by unfold Y2;omega) o
 have i:=Bw (f:=aa.L_) (g:=aa.R_) a [];have j:=Bw (f:=aa.w_) (g:=aa.H_) a []
 have m:∀c:(θ×θ×Int)->Θ,HQ F a b how c (Zp b (Zp a [])) (ZQ b (ZQ a [])) 2=some (cn λx y=>Qp (Q8 a x y) (Q8 b x y) how):=λc=>by
  unfold HQ;exact Z4 rfl h
 have p:(Zp a []).length<=2*a.length:=by have:=i;simpa[Zp]using this
 have q:(ZQ a []).length<=2*a.length:=by have:=j;simpa[ZQ]using this
 unfold WJ;refine z5 (λz:θ×θ×Int=>z=([],[],0)\/z=(Zp a [],ZQ a [],1)\/z=(Zp b (Zp a []),ZQ b (ZQ a []),2)) (λz=>2-z.2.2.toNat) (λc z n e=>?_) (.inl rfl) (by simp;omega)
 rcases n with rfl|rfl|rfl
 .simp only
  unfold HQ;refine Y8 rfl ?_
  refine Z7 (k:=?_);refine ue d (l:=a) (by omega) rfl (by simp;omega) (by simp;omega) ?_
  exact e _ (.inr (.inl rfl)) (by simp)
 .simp only
  unfold HQ;refine Y8 rfl ?_
  refine Z7 (k:=?_);refine ue d (l:=b) (by omega) rfl (xs:=Zp a []) (ys:=ZQ a []) (by omega) (by omega) ?_
  exact e _ (.inr (.inr rfl)) (by simp)
 .exact m c
theorem Z5R(h:fc xs ys S):Fin S:=by
 have d:=h.step
 by_cases h0:ys.length=0
 .exact (Rk h.rows d .nil (λt=>(d.empty h0 t).symm) (λb u=>by cases u)).2
 .have q:∀ i,i+1<=ys.length->∃ g,fK [] (fun y=>Zh fun x=>S x y) g (gl ys i)/\∀ r ∈ g,r.v≠[]:=by
   intro i
   induction i with
   |zero=>intro _;exact⟨[],d.start (by omega),λr c=>by cases c⟩
   |succ i ih=>
    intro z;obtain⟨g,l,f⟩:=ih (by omega)
    have k:=d.asc.at_lt (show i<i+1 by omega) (by omega);have e:=d.gap i (by omega)
    by_cases hv:Zh (λx=>S x (gl ys i))=[]
    .exact ⟨g,l.skip (by omega) λt o n=>(e t o n).trans hv,f⟩
    .rcases lF g with rfl|⟨s,b,j⟩
     .refine ⟨_,l.add k e (λa m=>by simp at m),λr c=>?_⟩
      simp at c;rw[c];exact hv
     .rw [lK]at j
      subst j
      by_cases hm:b.hi=gl ys i/\b.v=Zh λx=>S x (gl ys i)
      .refine ⟨_,l.grow hm.1 k λt o n=>(e t o n).trans hm.2.symm,λr c=>?_⟩
       rcases dv.1 c with c|c
       .exact f r (by simp[c])
       .rw [dI.1 c];exact f b (by simp)
      .refine ⟨_,l.add k e (λa m w p=>?_),λr c=>?_⟩
       .simp at m;subst m;exact hm ⟨w,p⟩
       .rcases dv.1 c with c|c
        .exact f r c
        .rw [dI.1 c];exact hv
  obtain⟨g,l,f⟩:=q (ys.length-1) (by omega);exact(Rk h.rows d l.runs (λt=>d.done (by omega) l t) f).2
theorem UU(a b:ζ)(how:Int):Fin λx y=>Qp (Q8 a x y) (Q8 b x y) how:=Z5R (A5 a b how)
theorem pg(l:ζ):(λx y=>Qp (Q8 l x y) (Q8 [] x y) 1)=Q8 l:=by
 funext x y;simp[Qp,Q8]
theorem Zo(l:ζ):Fin (Q8 l):=by have:=UU l [] 1;rwa [pg]at this
theorem XE(l:ζ):Wb l↔cn (Q8 l)=l:=⟨λh=>h.eq_cn.symm,λh=>by rw[<-h];exact Gb (Zo l)⟩
theorem LI:(Zp l []).length<=2*l.length:=by have:=Bw (f:=aa.L_) (g:=aa.R_) l [];simpa[Zp]using this
theorem X6:(ZQ l []).length<=2*l.length:=by have:=Bw (f:=aa.w_) (g:=aa.H_) l [];simpa[ZQ]using this
theorem tt:(Zp b (Zp a [])).length<=2*a.length+2*b.length:=by
 have c:=Bw (f:=aa.L_) (g:=aa.R_) b (Zp a []);have d:=LI (l:=a)
 have c:(Zp b (Zp a [])).length<=(Zp a []).length+2*b.length:=c;omega
theorem NZ:(ZQ b (ZQ a [])).length<=2*a.length+2*b.length:=by
 have c:=Bw (f:=aa.w_) (g:=aa.H_) b (ZQ a []);have d:=X6 (l:=a)
 have c:(ZQ b (ZQ a [])).length<=(ZQ a []).length+2*b.length:=c;omega
theorem sP(hF:Q6<=F)(h:a.length+b.length<=32768):WJ F a b how=some (cn λx y=>Qp (Q8 a x y) (Q8 b x y) how):=
 C9 hF (by omega) (by omega) (by have:=tt (a:=a) (b:=b);omega) (by have:=NZ (a:=a) (b:=b);omega)
theorem ui(hF:Q6<=F)(h:l.length<=32768):WJ F l [] 1=some (cn (Q8 l)):=by
 rw[sP hF (by simpa using h),pg]
theorem xn{α:Type}[aN α][DecidableEq α](l m:List α)(h:l.length=m.length)(i:Nat)(hi:i<l.length):decide (l.drop i=m.drop i)=(decide (gl l i=gl m i)&&decide (l.drop (i+1)=m.drop (i+1))):=by
 rw[YP hi,YP (l:=m) (by omega)];rw[eV,dc,lq,lq,lq,lB]
theorem sX(r s:aa):((r.L_==s.L_)&&((r.w_==s.w_)&&((r.R_==s.R_)&&((r.H_==s.H_)&&true))))=decide (r=s):=by
 cases r;cases s
 rw[eV,lq];simp
theorem Es(hF:Q6<=F)(hm:m.length<=Y2):Cv F l m=some (decide (l=m)):=by
 unfold Q6 at hF;unfold Y2 at hm
 unfold Cv;refine Z9 (λh=>?_) (λh=>?_)
 .have h:l.length≠m.length:=by simp at h;omega
  rw[dg λe=>h (by rw[e])]
 .have h:l.length=m.length:=by simp at h;omega
  refine z5 (λz:Int=>∃i:Nat,z=i/\i<=l.length/\decide (l=m)=decide (l.drop i=m.drop i)) (λz=>l.length-z.toNat) (λd z g f=>?_) ⟨0,rfl,by omega,by simp⟩ (by simp;omega);obtain⟨i,rfl,j,c⟩:=g
  unfold An;refine Z9 (λb=>?_) (λb=>?_)
  .have b:i<l.length:=by simpa using b
   rw[xn l m h i b]at c;refine Z7 (k:=?_)
   refine Z7 (k:=?_);rw[sX]
   refine Z9 (λa=>?_) (λa=>?_)
   .have a:decide (gl l i=gl m i)=false:=by simpa using a
    rw[c,a];rfl
   .have a:decide (gl l i=gl m i)=true:=by simpa using a
    rw[a,eN]at c;refine Z7 (k:=?_)
    exact f _ ⟨i+1,by omega,b,c⟩ (by omega)
  .have b:¬i<l.length:=by simpa using b
   have:i=l.length:=by omega
   rw[c,iz (by omega),iz (by omega),aZ rfl];rfl
def K7(l:ζ):Prop:=l.length<=120/\(∀r∈l,Zj r=true)/\Wb l
open Classical in
def Qx(l:ζ):Bool:=decide (K7 l)
theorem WH(l:ζ):Qx l=true↔K7 l:=by unfold Qx;exact @decide_eq_true_iff (K7 l) (Classical.propDecidable _)
theorem XX(h:¬K7 l):Qx l=false:=by rw[<-gk,WH];exact h
theorem Vz(h:K7 l):Qx l=true:=(WH l).2 h
theorem O9{α:Type}[aN α]{l:List α}{p:α->Prop}(h:i<l.length):(∀x∈l.drop i,p x)↔p (gl l i)/\∀x∈l.drop (i+1),p x:=by rw[YP h];simp
theorem HK(hF:Q6<=F)(a:aE):KC F a=some (Qx a.t_):=by
 have d:=hF;unfold Q6 at hF
 obtain⟨l⟩:=a;simp only
 unfold KC;refine Z9 (λh=>?_) (λh=>?_)
 .have h:120<l.length:=by simp at h;omega
  rw[XX λe=>by have:=e.1;omega]
 .have h:l.length<=120:=by simp at h;omega
  refine z5 (λz:Int=>∃i:Nat,z=i/\i<=l.length/\((∀r∈l,Zj r=true)↔∀r∈l.drop i,Zj r=true)) (λz=>l.length-z.toNat) (λg z m j=>?_) ⟨0,rfl,by omega,by simp⟩ (by simp;omega);obtain⟨i,rfl,n,f⟩:=m
  unfold y2;simp only
  refine Z9 (λc=>?_) (λc=>?_)
  .have c:i<l.length:=by simpa using c
   rw[O9 (p:=λr=>Zj r=true) c]at f;refine Z7 (k:=?_)
   refine Q3 (rj _ _) ?_;refine Z9 (λb=>?_) (λb=>?_)
   .have b:Zj (gl l i)=false:=by simpa using b
    rw[XX λe=>by have:=(f.1 e.2.1).1;rw[b]at this;cases this]
   .have b:Zj (gl l i)=true:=by simpa using b
    refine Z7 (k:=?_);exact j _ ⟨i+1,by omega,c,f.trans ⟨λh=>h.2,λh=>⟨b,h⟩⟩⟩ (by omega)
  .have c:¬i<l.length:=by simpa using c
   rw[iz (by omega)]at f;unfold vt
   refine Q3 (ui d (by simp only;omega)) ?_;refine Q3 (Es d (by unfold Y2;simp only;omega)) ?_
   simp only
   by_cases hc:cn (Q8 l)=l
   .rw [aZ hc,Vz ⟨h,f.2 (by simp),(XE l).2 hc⟩]
   .rw [dg hc,XX λe=>hc ((XE l).1 e.2.2)]
theorem H7(l:ζ):CC F l=some (if 120<l.length then(⟨[]⟩,1)else(⟨l⟩,0)):=by
 unfold CC;refine Z9 (λh=>?_) (λh=>?_)
 .have h:120<l.length:=by simp at h;omega
  rw[av h]
 .have h:¬120<l.length:=by simp at h;omega
  rw[an h]
theorem Z2T(hF:Q6<=F)(hl:l.length<=120)(hp:∀r∈l,Zj r=true):Cw F l=some (if 120<(cn (Q8 l)).length then(⟨[]⟩,1)else(⟨cn (Q8 l)⟩,0)):=by
 have b:=hF;unfold Q6 at hF
 unfold Cw;refine Z4 (by simp;omega) ?_
 refine z5 (λz:Int=>∃i:Nat,z=i/\i<=l.length) (λz=>l.length-z.toNat) (λc z e d=>?_) ⟨0,rfl,by omega⟩ (by simp;omega);obtain⟨i,rfl,f⟩:=e
 unfold uj;refine Z9 (λa=>?_) (λa=>?_)
 .have a:i<l.length:=by simpa using a
  refine Z7 (k:=?_);refine Q3 (rj _ _) ?_
  refine Z4 (by rw[dh,hp _ (y3 a)];rfl) ?_;refine Z7 (k:=?_)
  exact d _ ⟨i+1,by omega,a⟩ (by omega)
 .unfold vu
  refine Q3 (ui b (by omega)) ?_;refine Q3 (H7 _) ?_
  rfl
section
open Go.Sort
def gP(l:θ):Prop:=l.Pairwise (· <= ·)
theorem Q9p{l:θ}(hl:l.length<=Y2):∃r,UI l=some r/\gP r/\(∀v,v∈r↔v∈l)/\r.length=l.length:=by
 refine⟨l.mergeSort λx y=>decide (x<=y),by unfold UI;rw[av hl],?_,λv=>List.mem_mergeSort,mA l⟩;have:=tF (le:=λx y:Int=>decide (x<=y)) (λa b c e d=>by simp at *;omega) (λa b=>by simp;omega) l
 exact this.imp λh=>by simpa using h
def dd:θ->θ
 |[]=>[]
 |[a]=>[a]
 |a::b::l=>if a=b then dd (b::l)else a::dd (b::l)
theorem LH(l:θ)(x:Int):dd (l++[x])=if l.getLast?=some x then dd l else dd l++[x]:=by
 match l with
 |[]=>simp[dd]
 |[a]=>by_cases h:a=x<;>simp[dd,h]
 |a::b::l=>
  have c:=LH (b::l) x;have e:(a::b::l).getLast?=(b::l).getLast?:=by simp[List.getLast?_cons]
  rw[e]
  by_cases h:a=b
  .simp only[iC,dd,h,fJ]at c⊢
   exact c
  .simp only[iC,dd,h,fC]at c⊢
   rw[c];split<;>rfl
theorem CY(l:θ)(v:Int):v∈dd l↔v∈l:=by
 match l with
 |[]=>simp[dd]
 |[a]=>simp[dd]
 |a::b::l=>
  have c:=CY (b::l) v;unfold dd
  split
  .rename_i h;subst h;rw[c];simp
  .rw [dY,c,dY (a:=v) (b:=a)]
theorem kQ(l:θ)(h:gP l):Yx (dd l):=by
 match l with
 |[]=>exact .nil
 |[a]=>exact iF _ _
 |a::b::l=>
  obtain⟨f,e⟩:=fu.1 h;have d:=kQ (b::l) e
  unfold dd;split
  .exact d
  .rename_i g
   refine fu.2 ⟨λv c=>?_,d⟩;rw[CY]at c
   have:=f b (by simp)
   rcases dY.1 c with rfl|c
   .omega
   .have:=(fu.1 e).1 v c;omega
theorem kP(l:θ):(dd l).length<=l.length:=by
 match l with
 |[]=>simp[dd]
 |[a]=>simp[dd]
 |a::b::l=>
  have c:=kP (b::l);unfold dd
  split
  .simp at c⊢;omega
  .simp at c⊢;omega
theorem su{l:θ}(h:i<l.length):(l.take (i+1)).getLast?=some (gl l i):=by rw[Za h];simp
theorem Bq{α:Type}[aN α](l:List α)(i j:Nat)(x:α)(h:i<l.length):gl (l.set i x) j=if i=j then x else gl l j:=by
 simp only[gl,aY,mT]
 by_cases hij:i=j
 .subst hij;simp[h]
 .simp [hij]
theorem zy{α:Type}(l:List α)(i n:Nat)(x:α)(h:n<=i):(l.set i x).take n=l.take n:=by
 apply List.ext_getElem?;intro j
 simp only[lx,mT];split
 .rw [an (by omega)]
 .rfl
theorem zA{α:Type}[aN α](l:List α)(k n:Nat)(h:k<=l.length):(clr l (0+k) n).take k=l.take k:=by
 apply List.ext_getElem?;intro j
 simp only[lx,clr];split
 .rename_i a
  have:j<l.length:=by omega
  simp only[lN,m8 this,iU];rw[an (by omega),G8 this,eG this]
 .rfl
theorem gi{α:Type}[aN α](l:List α)(lo n:Nat):(clr l lo n).length=l.length:=by simp[clr]
theorem vd(hF:Q6<=F){l:θ}(hl:l.length<=Y2):DN F l=some (dd l):=by
 have E:=hF;unfold Q6 at hF;unfold Y2 at hl
 unfold DN;refine Z9 (λh=>?_) (λh=>?_)
 .have h:l.length<2:=by simp at h;omega
  match l,h with
  |[],_=>rfl
  |[a],_=>rfl
 .have h:2<=l.length:=by simp at h;omega
  refine z5 (λz:Int=>∃k:Nat,z=k/\1<=k/\k<=l.length/\dd (l.take k)=l.take k) (λz=>l.length-z.toNat) (λB z y D=>?_) ⟨1,rfl,by omega,by omega,?_⟩ (by simp;omega)
  .obtain ⟨k,rfl,J,M,v⟩:=y
   unfold C8;refine Z9 (λm=>?_) (λm=>?_)
   .have m:k<l.length:=by simpa using m
    refine Z7 (k:=?_);refine Z7 (k:=?_)
    refine Z7 (k:=?_);have C:((k:Int)-1).toNat=k-1:=by omega
    rw[C];simp only[dh]
    have f:(l.take k).getLast?=some (gl l (k-1)):=by
     have:=su (l:=l) (i:=k-1) (by omega)
     rwa [show k-1+1=k from by omega]at this
    refine Z9 (λp=>?_) (λp=>?_)
    .have p:gl l k=gl l (k-1):=by simpa using p
     refine Z7 (k:=?_);have x:dd (l.take (k+1))=l.take k:=by rw[Za m,LH,f,av (by rw[p]),v]
     refine z5 (λz:Int×Int×θ=>∃(q r:Nat) (c:θ),z=((q:Int),(r:Int),c)/\1<=r/\k+r<=l.length/\q+1<=k+r/\1<=q/\c.length=l.length/\(∀j,q<=j->gl c j=gl l j)/\c.take q=dd (l.take (k+r)))
      (λz=>l.length-z.2.1.toNat) (λw z y o=>?_) ⟨k,1,l,rfl,by omega,by omega,by omega,by omega,rfl,λ_ _=>rfl,x.symm⟩ (by simp only;omega)
     obtain⟨q,r,c,rfl,L,G,K,H,s,g,n⟩:=y;simp only at o⊢
     unfold pE;simp only[dh,eH]
     refine Z9 (λt=>?_) (λt=>?_)
     .have t:r<l.length-k:=by simp at t;omega
      refine Z7 (k:=?_);refine Z7 (k:=?_)
      refine Z7 (k:=?_);refine Z7 (k:=?_)
      have I:((r:Int)-1).toNat=r-1:=by omega
      rw[I];refine Z7 (k:=?_)
      rw[g (k+r) (by omega),g (k+(r-1)) (by omega)];have A:(l.take (k+r)).getLast?=some (gl l (k+(r-1))):=by
       have:=su (l:=l) (i:=k+(r-1)) (by omega)
       rwa [show k+(r-1)+1=k+r from by omega]at this
      have u:dd (l.take (k+r+1))=if gl l (k+(r-1))=gl l (k+r)then dd (l.take (k+r))else dd (l.take (k+r))++[gl l (k+r)]:=by
       rw[Za (by omega),LH,A];simp
      refine Z9 (λd=>?_) (λd=>?_)
      .have d:gl l (k+r)≠gl l (k+(r-1)):=by simpa using d
       repeat(refine Z7 (k:=?_))
       refine o _ ⟨q+1,r+1,c.set q (gl l (k+r)),rfl,by omega,by omega,by omega,by omega,by simp[s],λj N=>?_,?_⟩ (by simp only;omega)
       .rw [Bq _ _ _ _ (by omega),an (by omega)];exact g j (by omega)
       .rw [show k+(r+1)=k+r+1 from rfl,u,an (λe=>d e.symm), <-n,Za (by simp;omega),zy _ _ _ _ (di _),Bq _ _ _ _ (by omega),av rfl]
      .have d:gl l (k+r)=gl l (k+(r-1)):=by simpa using d
       unfold SO;refine Z7 (k:=?_)
       refine o _ ⟨q,r+1,c,rfl,by omega,by omega,by omega,by omega,s,g,?_⟩ (by simp only;omega);rw[show k+(r+1)=k+r+1 from rfl,u,av d.symm,n]
     .have t:¬r<l.length-k:=by simp at t;omega
      unfold zQ;simp only[dh,gi]
      refine Z7 (k:=?_);refine Z7 (k:=?_)
      rw[zA _ _ _ (by omega),n,lz (by omega)]
    .have p:gl l k≠gl l (k-1):=by simpa using p
     unfold zP;refine Z7 (k:=?_)
     refine D _ ⟨k+1,by omega,by omega,m,?_⟩ (by omega);rw[Za m,LH,f,an (λe=>p (by simpa using e.symm)),v]
   .have m:¬k<l.length:=by simpa using m
    have:k=l.length:=by omega
    subst this;rw[fG]at v
    unfold zO;rw[v]
  .match l,h with
   |a::b::l,_=>rfl
end
section
open Go.Sort
def UP(l:ζ):θ:=l.flatMap λr=>[r.w_,r.H_]
def VK(ls:List ζ):θ:=ls.flatMap UP
def VS(ls:List ζ):θ:=dd ((VK ls).mergeSort λx y=>decide (x<=y))
theorem Q8Y(l:θ):gP (l.mergeSort λx y=>decide (x<=y)):=by
 have:=tF (le:=λx y:Int=>decide (x<=y)) (λa b c d e=>by simp at *;omega) (λa b=>by simp;omega) l
 exact this.imp λh=>by simpa using h
theorem Am(ls:List ζ):Yx (VS ls):=kQ _ (Q8Y _)
theorem so(ls:List ζ)(v:Int):v∈VS ls↔∃l∈ls,∃r∈l,v=r.w_\/v=r.H_:=by
 unfold VS;rw[CY,List.mem_mergeSort]
 simp[VK,UP]
theorem NJ(l:ζ):(UP l).length=2*l.length:=by
 induction l with
 |nil=>rfl
 |cons r l ih=>
  have:(UP (r::l)).length=2+(UP l).length:=by simp[UP];omega
  rw[this,ih,dz];omega
def WP(ls:List ζ):Nat:=(ls.map List.length).sum
theorem Z4w(ls:List ζ):(VK ls).length=2*WP ls:=by
 induction ls with
 |nil=>rfl
 |cons l ls ih=>
  have:(VK (l::ls)).length=(UP l).length+(VK ls).length:=by simp[VK]
  rw[this,ih,NJ];simp[WP];omega
theorem wi(ls:List ζ):(VS ls).length<=2*WP ls:=by
 unfold VS;have:=kP ((VK ls).mergeSort λx y=>decide (x<=y))
 rw[mA,Z4w]at this;exact this
theorem yQ(hF:Q6<=F){ls:List ζ}(h:WP ls<=1000000000)(hn:ls.length<=1000000):GD F ls=some (VS ls):=by
 have f:=hF;unfold Q6 at hF
 unfold GD;refine(GU (l:=ls) (σ:=θ) (λb a=>a.length+2*WP b<=2000000000) (λb a=>some (dd ((a++VK b).mergeSort λx y=>decide (x<=y))))
  (λe i a q d m=>?_) (λe a d=>?_) (by omega) (by simp;omega)).trans rfl
 .unfold yU
  refine Y8 (Vo q) ?_;refine Z7 (k:=?_)
  simp only[dh];generalize hl:gl ls i=l at *
  have n:WP (l::ls.drop (i+1))=l.length+WP (ls.drop (i+1)):=by simp[WP]
  rw[n]at d;refine(GU (l:=l) (σ:=θ) (λb a=>a.length+2*b.length+2*WP (ls.drop (i+1))<=2000000000) (λb a=>some (dd ((a++UP b++VK (ls.drop (i+1))).mergeSort λx y=>decide (x<=y))))
   (λc j a o d g=>?_) (λc a d=>?_) (by omega) (by omega)).trans ?_
  .simp only
   unfold yT;simp only[dh,hl]
   refine Y8 (Vo o) ?_;simp only[dz]at d
   refine Z7 (k:=?_);refine Z7 (k:=?_)
   refine Z7 (k:=?_);rw[g _ (by simp only[dK,dz,eg];omega)]
   simp[UP]
  .simp only
   unfold yT;simp only[dh,hl]
   refine Z4 (Uo _) ?_;unfold yS
   refine Z7 (k:=?_);rw[m _ (by simp only[eg]at d;omega)]
   simp[UP]
  .simp [VK]
 .simp only
  unfold yU;refine Z4 (Uo _) ?_
  unfold yR;have d:a.length<=2000000000:=by simp[WP]at d;omega
  have p:UI a=some (a.mergeSort λx y=>decide (x<=y)):=by unfold UI;rw[av (by unfold Y2;omega)]
  refine Q3 p ?_;refine Q3 (vd f (by rw[mA];unfold Y2;omega)) ?_
  simp[VK]
theorem MV(F:Nat)(a b:Int):Vb F a b=some (if a<b then -1 else if b<a then 1 else 0):=by
 unfold Vb LS;refine Q3 rfl (Q3 rfl ?_)
 refine Z4 (by simp) (Z4 (by simp) ?_);refine Z9 (λh=>?_) (λh=>?_)
 .have h:a<b:=by simpa using h
  rw[av h]
 .have h:¬a<b:=by simpa using h
  rw[an h];refine Z9 (λh=>?_) (λh=>?_)
  .have h:b<a:=by simpa using h
   rw[av h]
  .have h:¬b<a:=by simpa using h
   rw[an h]
def XC(a b:aq):Int:=if a.L_<b.L_ then -1 else if b.L_<a.L_ then 1 else 0
theorem Fb(a b:aq):ZH XC a b=decide (a.L_<b.L_):=by
 unfold ZH XC
 by_cases h:a.L_<b.L_
 .simp [h]
 .by_cases h2:b.L_<a.L_<;>simp[h,h2]
theorem cL:SWO (ZH XC) where
 irrefl x:=by rw[Fb];simp
 trans x y z h1 h2:=by rw[Fb]at *;simp at *;omega
 ntrans x y z h1 h2:=by rw[Fb]at *;simp at *;omega
theorem ri{α:Type}[aN α](cf:α->α->Int)(hO:SWO (ZH cf))(l:List α):(ZV cf l).Perm l/\(ZV cf l).Pairwise λa b=>ZH cf b a=false:=by
 letI inst:Inhabited α:=⟨aN.d⟩
 have h:=pdq_sorts (ZH cf) hO l.toArray 0 l.length (Lib.bitLen l.length) true true (dW _) (by simp) (.inl rfl);have c:(pdq (ZH cf) l.toArray 0 l.length (Lib.bitLen l.length) true true).size=l.length:=by simpa using h.1.1
 constructor
 .have:=h.1.2.2
  simp only[List.extract_toArray,u7,mb,lJ,fG]at this;have e:((pdq (ZH cf) l.toArray 0 l.length (Lib.bitLen l.length) true true).extract 0 l.length).toList=ZV cf l:=by
   unfold ZV;generalize pdq (ZH cf) l.toArray 0 l.length (Lib.bitLen l.length) true true=d at c
   rw[<-c];simp
  rw[e]at this;exact this
 .rw [ie]
  intro i j n m g;have k : i<(pdq (ZH cf) l.toArray 0 l.length (Lib.bitLen l.length) true true).size:=by simpa[ZV]using n
  have f : j<(pdq (ZH cf) l.toArray 0 l.length (Lib.bitLen l.length) true true).size:=by simpa[ZV]using m
  have:=h.2 i j (dW _) g (by omega)
  rw[lV _ j f,lV _ i k]at this;simpa[ZV]using this
def WB(l:ζ)(y:Int):ψ:=(l.filter λr=>decide (r.w_<=y)&&decide (y<r.H_)).map λr=>⟨r.L_,r.R_⟩
theorem wP(r:aa)(l:ζ)(y:Int):WB (r::l) y=if(decide (r.w_<=y)&&decide (y<r.H_))=true then⟨r.L_,r.R_⟩::WB l y else WB l y:=by
 unfold WB;rw[iX]
 split<;>rfl
theorem Z5t(l:ζ)(x y:Int):K8 (WB l y) x=Q8 l x y:=by
 induction l with
 |nil=>rfl
 |cons r l ih=>
  have e:Q8 (r::l) x y=(r.has x y||Q8 l x y):=rfl;rw[wP,e, <-ih]
  split
  .rename_i h
   simp only[dc,dT]at h;simp[K8,aq.has,aa.has,h.1,h.2]
  .rename_i h
   have:r.has x y=false:=Mv (by simp at h;omega)
   rw[this,iP]
theorem M9(l:ζ)(y:Int):(WB l y).length<=l.length:=by
 unfold WB;rw[fL];exact iQ _ _
theorem Oc(h:∀r∈l,r.L_<r.R_)(y:Int):∀s∈WB l y,s.L_<s.R_:=by
 intro s b;obtain⟨r,a,rfl⟩:=eF.1 b
 exact h r (fD.1 a).1
theorem FK(l m:ψ)(x:Int):K8 (l++m) x=(K8 l x||K8 m x):=by simp[K8]
theorem IK{l m:ψ}(h:l.Perm m)(x:Int):K8 l x=K8 m x:=by
 rw[eV];simp only[K8,fA]
 constructor
 .rintro ⟨s,a,b⟩;exact⟨s,h.mem_iff.1 a,b⟩
 .rintro ⟨s,a,b⟩;exact⟨s,h.mem_iff.2 a,b⟩
theorem Z5S(a b:Int):y9 a b=if a<b then b else a:=rfl
theorem ON(hF:Q6<=F){S:ψ}(hl:S.length<=1000000000)(hpos:∀ s ∈ S,s.L_<s.R_)(hs:S.Pairwise fun a b=>a.L_<=b.L_):
  Y4 (λagain (z:Int×ψ)=>yH F S again z.1 z.2) F (0,[])=some (Zh λx=>K8 S x):=by
 unfold Q6 at hF;refine z5 (λz:Int×ψ=>∃(i:Nat) (d:ψ),z=((i:Int),d)/\i<=S.length/\d.length<=i/\dL d/\(∀x,K8 d x=K8 (S.take i) x)/\∀o∈d,∀j,i<=j->j<S.length->o.L_<=(gl S j).L_)
  (λz=>S.length-z.1.toNat) (λagain z O w=>?_) ⟨0,[],rfl,by omega,di _,.nil,λx=>by simp,λo c=>by cases c⟩ (by simp only;omega)
 obtain⟨i,d,rfl,Q,A,f,u,l⟩:=O;simp only at w⊢
 unfold yH;refine Z9 (λh=>?_) (λh=>?_)
 .have h:i<S.length:=by simpa using h
  refine Z7 (k:=?_);simp only[dh]
  have J:=hpos _ (y3 h);have r:∀j,i+1<=j->j<S.length->(gl S i).L_<=(gl S j).L_:=by
   intro j y g;rw[G8 h,G8 g]
   exact ie.1 hs i j h g (by omega)
  have p : ∀x,K8 (S.take (i+1)) x=(K8 d x||(gl S i).has x):=by
   intro x;rw[Za h,FK,u];simp[K8]
  have m:(∀o,d.getLast?=some o->o.R_<(gl S i).L_)->PC F S i d again false=some (Zh λx=>K8 S x):=by
   intro q;unfold PC
   refine Z4 rfl ?_;refine Z7 (k:=?_)
   unfold Hd;refine Z7 (k:=?_)
   simp only[dh];refine w _ ⟨i+1,d++[gl S i],rfl,h,by simp;omega,⟨λs hs=>?_,?_⟩,λx=>?_,λo c j y g=>?_⟩ (by simp only;omega)
   .rcases dv.1 hs with hs|hs
    .exact f.pos s hs
    .rw [dI.1 hs];exact J
   .refine il.2 ⟨f.ch,iF _ _,λo c b C=>?_⟩
    rw[dI.1 C];rcases lF d with D|⟨t,e,v⟩
    .rw [D]at c;cases c
    .rw [lK]at v
     subst v;have I:=q e (by simp)
     rcases dv.1 c with c|c
     .have P:=(il.1 f.ch).2.2 o c e (by simp)
      have R:=f.pos e (by simp);omega
     .rw [dI.1 c];exact I
   .rw [p,FK];simp[K8]
   .rcases dv.1 c with c|c
    .exact l o c j (by omega) g
    .rw [dI.1 c];exact r j y g
  rcases lF d with D|⟨t,e,v⟩
  .subst D
   refine Z4 rfl ?_;exact m λo c=>by simp at c
  .rw [lK]at v
   subst v;have n:(t ++ [e]).length=t.length+1:=by simp
   have E:(((t.length+1:Nat):Int)-1).toNat=t.length:=by omega
   rw[n]at A⊢;refine Y8 (by simp) ?_
   refine Z7 (k:=?_);refine Z7 (k:=?_)
   rw[E,Xm _ _ rfl]
   by_cases hc:(gl S i).L_<=e.R_
   .have B:decide ((gl S i).L_<=e.R_)=true:=by simpa using hc
    rw[B];unfold PC
    refine Y8 rfl ?_;simp only[n]
    refine Z7 (k:=?_);refine Z7 (k:=?_)
    refine Z7 (k:=?_);refine Z7 (k:=?_)
    rw[E,Xm _ _ rfl,SX _ _ _ rfl];unfold Hd
    refine Z7 (k:=?_);simp only[dh]
    have L:e.L_<=(gl S i).L_:=l e (by simp) i (di _) h;have K:=f.pos e (by simp)
    have N:e.R_<=y9 e.R_ (gl S i).R_/\(gl S i).R_<=y9 e.R_ (gl S i).R_/\(y9 e.R_ (gl S i).R_=e.R_\/y9 e.R_ (gl S i).R_=(gl S i).R_):=by
     rw[Z5S];split<;>omega
    refine w _ ⟨i+1,t ++ [⟨e.L_,y9 e.R_ (gl S i).R_⟩],rfl,h,by simp;omega,⟨λs hs=>?_,?_⟩,λx=>?_,λo c j y g=>?_⟩ (by simp only;omega)
    .rcases dv.1 hs with hs|hs
     .exact f.pos s (by simp[hs])
     .rw [dI.1 hs];simp only;omega
    .obtain ⟨M,_,H⟩:=il.1 f.ch
     refine il.2 ⟨M,iF _ _,λo c b C=>?_⟩;rw[dI.1 C]
     exact H o c e (by simp)
    .rw [p,FK,FK,Bool.or_assoc]
     congr 1
     have G:∀(s:aq) x,K8 [s] x=s.has x:=λs x=>by simp[K8]
     rw[G,G,eV];simp only[aq.has,ip,dc,dT]
     omega
    .rcases dv.1 c with c|c
     .exact l o (by simp[c]) j (by omega) g
     .rw [dI.1 c];exact l e (by simp) j (by omega) g
   .have B:decide ((gl S i).L_<=e.R_)=false:=by simpa using hc
    rw[B];exact m λo c=>by simp at c;subst c;omega
 .have h:¬i<S.length:=by simpa using h
  have:i=S.length:=by omega
  subst this;unfold yG
  rw[Gm f λx=>by rw[u,fG]]
theorem TN(hF:Q6<=F)(hl:l.length<=1000000000)(hpos:∀r∈l,r.L_<r.R_)(y:Int):Ul F l y=some (Zh λx=>Q8 l x y):=by
 have j:=hF;unfold Q6 at hF
 unfold Ul;have m:∀c:ψ,c=WB l y->TO F c=some (Zh λx=>Q8 l x y):=by
  rintro c rfl;unfold TO
  have u:=M9 l y;have o:UJ (WB l y) (λv t=>TP F v t)=some (ZV XC (WB l y)):=
   bj XC (by unfold Y2;omega) cL λa b=>by unfold TP;rw[MV];rfl
  refine Q3 o ?_;obtain⟨p,n⟩:=ri XC cL (WB l y)
  have e:(λx=>Q8 l x y)=λx=>K8 (ZV XC (WB l y)) x:=by funext x;rw[IK p,Z5t]
  rw[e];refine ON j (by rw[p.length_eq];omega) (λs n=>Oc hpos y s (p.mem_iff.1 n)) (n.imp λ{a b} h=>?_)
  rw[Fb]at h;simp at h;exact h
 refine(GU (l:=l) (σ:=ψ) (λd c=>c.length+d.length<=1000000000/\c++WB d y=WB l y) (λd c=>some (Zh λx=>Q8 l x y))
  (λf i c w g q=>?_) (λf c g=>?_) (by omega) ⟨by simp;omega,rfl⟩)
 .simp only
  unfold yI;refine Y8 (Vo w) ?_
  refine Z7 (k:=?_);rw[YS (Hf F l i c f)]
  simp only[dh];rw[wP]at g
  simp only[dz]at g;unfold Hf
  refine Z9 (λh=>?_) (λh=>?_)
  .rw [av h]at g
   refine Z7 (k:=?_);unfold He
   refine Z7 (k:=?_);simp only[dh]
   exact q _ ⟨by simp only[dK,dz,eg];omega,by rw[<-g.2];simp⟩
  .rw [h]at g
   unfold He;refine Z7 (k:=?_)
   exact q _ ⟨by omega,by simpa using g.2⟩
 .simp only
  unfold yI;refine Z4 (Uo _) ?_
  exact m c (by have:=g.2;simpa[WB]using this)
end
theorem Q9l(r s:aq):((r.L_==s.L_)&&((r.R_==s.R_)&&true))=decide (r=s):=by
 cases r;cases s
 rw[eV,lq];simp
theorem Iq(hF:Q6<=F){l m:ψ}(hm:m.length<=Y2):SG F l m=some (decide (l=m)):=by
 unfold Q6 at hF;unfold Y2 at hm
 unfold SG;refine Z9 (λh=>?_) (λh=>?_)
 .have h:l.length≠m.length:=by simp at h;omega
  rw[dg λe=>h (by rw[e])]
 .have h:l.length=m.length:=by simp at h;omega
  refine z5 (λz:Int=>∃i:Nat,z=i/\i<=l.length/\decide (l=m)=decide (l.drop i=m.drop i)) (λz=>l.length-z.toNat) (λd z g f=>?_) ⟨0,rfl,by omega,by simp⟩ (by simp;omega);obtain⟨i,rfl,j,c⟩:=g
  unfold bQ;refine Z9 (λb=>?_) (λb=>?_)
  .have b:i<l.length:=by simpa using b
   rw[xn l m h i b]at c;refine Z7 (k:=?_)
   refine Z7 (k:=?_);rw[Q9l]
   refine Z9 (λa=>?_) (λa=>?_)
   .have a:decide (gl l i=gl m i)=false:=by simpa using a
    rw[c,a];rfl
   .have a:decide (gl l i=gl m i)=true:=by simpa using a
    rw[a,eN]at c;refine Z7 (k:=?_)
    exact f _ ⟨i+1,by omega,b,c⟩ (by omega)
  .have b:¬i<l.length:=by simpa using b
   have:i=l.length:=by omega
   rw[c,iz (by omega),iz (by omega),aZ rfl];rfl
theorem OB(hF:Q6<=F)(hm:m.length<=Y2):SH F l m=some (decide (l=m)):=by
 unfold Q6 at hF;unfold Y2 at hm
 unfold SH;refine Z9 (λh=>?_) (λh=>?_)
 .have h:l.length≠m.length:=by simp at h;omega
  rw[dg λe=>h (by rw[e])]
 .have h:l.length=m.length:=by simp at h;omega
  refine z5 (λz:Int=>∃i:Nat,z=i/\i<=l.length/\decide (l=m)=decide (l.drop i=m.drop i)) (λz=>l.length-z.toNat) (λd z g f=>?_) ⟨0,rfl,by omega,by simp⟩ (by simp;omega);obtain⟨i,rfl,j,c⟩:=g
  unfold bW;refine Z9 (λb=>?_) (λb=>?_)
  .have b:i<l.length:=by simpa using b
   rw[xn l m h i b]at c;refine Z7 (k:=?_)
   refine Z7 (k:=?_);rw[sX]
   refine Z9 (λa=>?_) (λa=>?_)
   .have a:decide (gl l i=gl m i)=false:=by simpa using a
    rw[c,a];rfl
   .have a:decide (gl l i=gl m i)=true:=by simpa using a
    rw[a,eN]at c;refine Z7 (k:=?_)
    exact f _ ⟨i+1,by omega,b,c⟩ (by omega)
  .have b:¬i<l.length:=by simpa using b
   have:i=l.length:=by omega
   rw[c,iz (by omega),iz (by omega),aZ rfl];rfl
def dp.rn(b:dp):Rn ψ:=⟨b.w_,b.H_,b.cx⟩
def fl(l:List dp):ζ:=flat (l.map dp.rn)
theorem kq(b:dp)(l:List dp):fl (b::l)=Qg b.rn++fl l:=rfl
theorem Nn(l:List dp)(N:Nat)(h:∀b∈l,b.cx.length<=N):(fl l).length<=l.length*N:=by
 induction l with
 |nil=>simp[fl,flat]
 |cons b l ih=>
  have d:=ih λc a=>h c (by simp[a])
  have e:=h b (by simp);rw[kq,dK,Wg,dz,fQ]
  simp only[dp.rn];omega
theorem T6(hF:Q6<=F){l:List dp}(hl:l.length<=1000000000)(hn:(fl l).length<=Y2)(hs:∀b∈l,b.cx.length<=1000000000):TA F l=some (fl l):=by
 unfold Q6 at hF;unfold Y2 at hn
 unfold TA;refine(GU (l:=l) (σ:=ζ) (λc a=>a.length+(fl c).length<=4294967296) (λc a=>some (a++fl c)) (λf i a m e n=>?_) (λf a e=>?_) (by omega) (by simp;omega)).trans (by simp)
 .unfold yy
  refine Y8 (Vo m) ?_;refine Z7 (k:=?_)
  simp only[dh];have g:=hs _ (y3 m)
  rw[kq,dK,Wg]at e;rw[kq]
  generalize hb:gl l i=b at e g⊢;have e:a.length+(b.cx.length+(fl (l.drop (i+1))).length)<=4294967296:=e
  refine(GU (l:=b.cx) (σ:=ζ) (λc a=>a.length+c.length+(fl (l.drop (i+1))).length<=4294967296) (λc a=>some (a++(c.map (λs=>(⟨s.L_,b.w_,s.R_,b.H_⟩:aa))++fl (l.drop (i+1)))))
   (λd j a o e h=>?_) (λd a e=>?_) (by omega) (by omega)).trans rfl
  .unfold yx
   simp only[dh,hb];refine Y8 (Vo o) ?_
   simp only[dz]at e;refine Z7 (k:=?_)
   refine Z7 (k:=?_);refine Z7 (k:=?_)
   rw[h _ (by simp only[dK,dz,eg];omega)];simp
  .unfold yx
   simp only[dh,hb];refine Z4 (Uo _) ?_
   unfold yw;refine Z7 (k:=?_)
   rw[n _ (by simpa using e)];simp
 .unfold yy
  refine Z4 (Uo _) ?_;simp[yv,fl,flat]
theorem p9(hF:Q6<=F)(hS:Rp S)(hst:ep [] cs λy=>Zh λx=>S x y)(hc:cs.length<=65536)(hrow:∀y,row y=some (Zh λx=>S x y))(hlen:∀y,(Zh λx=>S x y).length<=65536):Hl F cs row=some (cn S):=by
 have E:=hF;unfold Q6 at hF
 unfold Hl;have D:∀c:List dp,dJ (c.map dp.rn)->(∀t,G9 [] (c.map dp.rn) t=Zh λx=>S x t)->c.length<=cs.length->(∀b∈c,b.cx.length<=65536)->TU F c=some (cn S):=by
  intro c U n H f;unfold TU
  have L:=Nn c 65536 f;have K:c.length*65536<=65536*65536:=eu _ (by omega)
  refine Q3 (T6 E (by omega) (by unfold Y2;omega) (λb d=>by have:=f b d;omega)) ?_;have N:=(Rk hS hst (acc:=(c.map dp.rn).filter λr=> !r.v.isEmpty) (U.filter _) (λt=>by
   rw[U.atR_filter _ (λr _ V=>by simpa using V)];exact n t) (λb d=>by
   have:=(fD.1 d).2
   intro C;rw[C]at this;simp at this)).1
  rw[N];congr 1
  have:∀l:List (Rn ψ),flat l=flat (l.filter λr=> !r.v.isEmpty):=by
   intro l
   induction l with
   |nil=>rfl
   |cons a l B=>
    rw[iX];have e:flat (a::l)=Qg a++flat l:=rfl
    cases n:a.v with
    |nil=>
     have:Qg a=[]:=by simp[Qg,n]
     rw[e,this,iL,B];simp
    |cons s v=>
     simp only[List.isEmpty_cons,Bool.not_false,fJ];have M:flat (a::l.filter λr=> !r.v.isEmpty)=Qg a++flat (l.filter λr=> !r.v.isEmpty):=rfl
     rw[e,M, <-B]
  exact this _
 refine z5 (λz:Int×List dp=>∃(i:Nat) (c:List dp),z=((i:Int)+1,c)/\c.length<=i/\(∀b∈c,b.cx.length<=65536)/\((cs.length=0/\i=0)\/(i+1<=cs.length/\fK [] (λy=>Zh λx=>S x y) (c.map dp.rn) (gl cs i))))
  (λz=>cs.length+1-z.1.toNat) (λA z X B=>?_) ⟨0,[],rfl,di _,λb d=>(fF d).elim,?_⟩ (by simp;omega)
 .obtain ⟨i,c,rfl,H,f,u⟩:=X
  simp only at B⊢;unfold wQ
  rcases u with ⟨I,rfl⟩|⟨Y,G⟩
  .have Q:c=[]:=iH (by omega)
   subst Q;refine Z4 (by simp;omega) ?_
   exact D [] .nil (λt=>(hst.empty I t).symm) (by simp) (λb d=>by cases d)
  .refine Z9 (λg=>?_) (λg=>?_)
   .have g:i+1<cs.length:=by simp at g;omega
    have J:=hst.asc.at_lt (show i<i+1 by omega) g;have p:=hst.gap i g
    have R:((i:Int)+1-1).toNat=i:=by omega
    have M:((i:Int)+1).toNat=i+1:=by omega
    rw[R];refine Z7 (k:=?_)
    refine Z7 (k:=?_);refine Z7 (k:=?_)
    refine Z7 (k:=?_);refine Z7 (k:=?_)
    refine Q3 (hrow _) ?_;generalize n:(Zh λx=>S x (gl cs i))=v at *
    have P:v.length<=65536:=by rw[<-n];exact hlen _
    have h:(∀q,(c.map dp.rn).getLast?=some q->q.hi=gl cs i->q.v≠v)->GE F cs ((i:Int)+1) c v A false=some (cn S):=by
     intro j;unfold GE
     refine Z4 rfl ?_;rw[R,M]
     refine Z7 (k:=?_);unfold Hk
     refine Z7 (k:=?_);refine B _ ⟨i+1,c++[⟨gl cs i,gl cs (i+1),v⟩],by simp,by simp;omega,λb d=>?_,.inr ⟨by omega,?_⟩⟩ (by simp only;omega)
     .rcases dv.1 d with d|d
      .exact f b d
      .rw [dI.1 d];exact P
     .rw [fe]
      have:=G.add J (λt L K=>(p t L K).trans n.symm) (λa W C=>by rw[n];exact j a W C)
      rw[n]at this;exact this
    rcases lF c with I|⟨w,e,C⟩
    .subst I
     refine Z4 rfl ?_;exact h λq j=>by simp at j
    .rw [lK]at C
     subst C;have m:(w ++ [e]).length=w.length+1:=by simp
     have T:(((w.length+1:Nat):Int)-1).toNat=w.length:=by omega
     rw[m]at H⊢;have o:gl (w ++ [e]) w.length=e:=Xm _ _ rfl
     refine Y8 (by simp) ?_;refine Z7 (k:=?_)
     refine Z7 (k:=?_);rw[T,o]
     by_cases hh:e.H_=gl cs i
     .refine Y8 (by simpa using hh) ?_
      refine Z7 (k:=?_);refine Z7 (k:=?_)
      refine Q3 (Iq E (by unfold Y2;omega)) ?_
      by_cases hvv:e.cx=v
      .rw [aZ hvv]
       unfold GE;refine Y8 rfl ?_
       simp only[m];refine Z7 (k:=?_)
       refine Z7 (k:=?_);rw[T,o,SX _ _ _ rfl,M]
       unfold Hk;refine Z7 (k:=?_)
       refine B _ ⟨i+1,w ++ [⟨e.w_,gl cs (i+1),e.cx⟩],by simp,by simp;omega,λb d=>?_,.inr ⟨by omega,?_⟩⟩ (by simp only;omega)
       .rcases dv.1 d with d|d
        .exact f b (by simp[d])
        .rw [dI.1 d];exact f e (by simp)
       .rw [fe]at G⊢
        exact G.grow (a:=e.rn) hh J λt L K=>(p t L K).trans hvv.symm
      .rw [dg hvv]
       exact h λq j _=>by rw[fe]at j;simp at j;subst j;exact hvv
     .refine Z4 (by simpa using hh) ?_
      exact h λq j O=>by rw[fe]at j;simp at j;subst j;exact absurd O hh
   .have g:¬i+1<cs.length:=by simp at g;omega
    exact D c G.runs (λt=>hst.done (by omega) G t) (by omega) f
 .by_cases I:cs.length=0
  .exact .inl ⟨I,rfl⟩
  .exact .inr ⟨by omega,hst.start (by omega)⟩
theorem ge(ls:List ζ)(h:l∈ls):JP (VS ls) l:=λr a=>⟨(so ls _).2 ⟨l,h,r,a,.inl rfl⟩,(so ls _).2 ⟨l,h,r,a,.inr rfl⟩⟩
theorem vU(l:ζ){ls:List ζ}(h:l∈ls):fc (Zp l []) (VS ls) (Q8 l):=by
 have:=fc.of (xs:=Zp l []) (ys:=VS ls) (a:=l) (b:=[]) (Uw l .nil) (Am ls)
  (λr c=>⟨(ZX l _ _).2 (.inr ⟨r,c,.inl rfl⟩),(ZX l _ _).2 (.inr ⟨r,c,.inr rfl⟩)⟩) (λr c=>by cases c) (ge ls h) (λr c=>by cases c) (k:=λp q=>p||q) rfl
 have e:(λx y=>Q8 l x y||Q8 [] x y)=Q8 l:=by funext x y;simp[Q8]
 rwa [e]at this
theorem yB(hF:Q6<=F)(hl:l.length<=32768)(hpos:∀r∈l,r.L_<r.R_):Pz F l=some (cn (Q8 l)):=by
 unfold Pz;have a:=vU l (ls:=[l]) (by simp)
 have d:WP [l]=l.length:=by simp[WP]
 have b:=wi [l];refine Q3 (yQ hF (by omega) (by simp)) ?_
 refine Q3 (p9 hF a.rows a.step (by omega) (λy=>?_) (λy=>?_)) rfl
 .unfold yC
  exact Q3 (TN hF (by omega) hpos y) rfl
 .have:=(a.x y).spn_len
  have c:=LI (l:=l);omega
theorem Z0f{α:Type}[aN α](hF:Q6<=F){l:List α}{q:α->π}(p:α->Bool)(hl:l.length<=1000000000)(hq:∀r∈l,q r=some (p r)):∃i:Int,WU F l q=some i/\(0<=i↔l.any p=true):=by
 unfold Q6 at hF;have c:∀(n i:Nat),i<=l.length->l.length-i<n->∃r:Int,Y4 (λagain (z:Int)=>WI F l q again z) n (i:Int)=some r/\(0<=r↔(l.drop i).any p=true):=by
  intro n
  induction n with
  |zero=>intro i _ h;omega
  |succ n ih=>
   intro i m j;have e:Y4 (λagain (z:Int)=>WI F l q again z) (n+1) (i:Int)=WI F l q (Y4 (λagain (z:Int)=>WI F l q again z) n) (i:Int):=rfl
   rw[e]
   by_cases h:i<l.length
   .rw [gI h]
    by_cases a:p (gl l i)=true
    .refine ⟨i,?_,by rw[a];simp⟩
     unfold WI;refine Y8 (Vo h) ?_
     refine Z7 (k:=?_);exact Q3 (hq _ (y3 h)) (Y8 a rfl)
    .have a:p (gl l i)=false:=by simpa using a
     obtain⟨r,d,b⟩:=ih (i+1) h (by omega);refine⟨r,?_,by rw[b,a];simp⟩
     unfold WI;refine Y8 (Vo h) ?_
     refine Z7 (k:=?_);refine Q3 (hq _ (y3 h)) (Z4 a ?_)
     refine Z7 (k:=?_);exact d
   .have:i=l.length:=by omega
    subst this;refine⟨-1,?_,by simp⟩
    unfold WI;exact Z4 (Uo _) rfl
 obtain⟨r,g,f⟩:=c F 0 (dW _) (by omega);exact⟨r,g,by simpa using f⟩
theorem Kg{α:Type}[aN α](hF:Q6<=F){l:List α}{q:α->π}(p:α->Bool)(hl:l.length<=1000000000)(hq:∀r∈l,q r=some (p r)):Yk F l q=some (l.any p):=by
 obtain⟨i,a,b⟩:=Z0f hF p hl hq;unfold Yk
 refine Q3 a ?_;congr 1
 rw[eV, <-b,lq]
theorem rM(F:Nat)(r:aa):DY F r=some (Zj r):=by
 unfold DY;rw[YS (VD F),YS (VD F),YS (VD F),YS (VD F),YS (VD F)]
 rfl
theorem Uk(hF:Q6<=F)(a:aE):Wv F a=some (Qx a.t_):=by
 obtain⟨l⟩:=a;simp only
 unfold Wv;have b:=hF
 unfold Q6 at hF;refine Z9 (λh=>?_) (λh=>?_)
 .have h:120<l.length:=by simp at h;omega
  rw[XX λd=>by have:=d.1;omega];rfl
 .have h:l.length<=120:=by simp at h;omega
  refine Q3 (Kg (α:=aa) b (λr=> !Zj r) (by simp only;omega) (λr _=>by unfold yD;rw[rM];rfl)) ?_;unfold TM
  refine Z9 (λe=>?_) (λe=>?_)
  .rw [XX λd=>?_]
   simp only[fA]at e;obtain⟨r,c,g⟩:=e
   rw[d.2.1 r c]at g;cases g
  .have f:∀ r ∈ l,Zj r=true:=by
    intro r c;have:=fZ.1 e r c
    simpa using this
   refine Q3 (yB b (by simp only;omega) (λr c=>((Wy r).1 (f r c)).2.1)) ?_;refine Q3 (OB b (by unfold Y2;simp only;omega)) ?_
   simp only
   by_cases hc:cn (Q8 l)=l
   .rw [aZ hc,Vz ⟨h,f,(XE l).2 hc⟩]
   .rw [dg hc,XX λd=>hc ((XE l).1 d.2.2)]
def YF{α:Type}(p:α->Bool)(l:List α):Int:=if l.any p then(l.findIdx p:Int)else -1
theorem kr{α:Type}[aN α]{l:List α}{p:α->Bool}(h:i<l.length)(hb:∀j,j<i->p (gl l j)=false)(hi:p (gl l i)=true):l.findIdx p=i:=by
 induction l generalizing i with
 |nil=>simp at h
 |cons a l ih=>
  rw[List.findIdx_cons]
  cases i with
  |zero=>
   have:p a=true:=hi
   rw[this];rfl
  |succ i=>
   have b:p a=false:=hb 0 (by omega);rw[b]
   have:=ih (i:=i) (by simpa using h) (λj c=>hb (j+1) (by omega)) hi
   simp[this]
theorem qp{α:Type}[aN α]{l:List α}{p:α->Bool}(h:∀j,j<l.length->p (gl l j)=false):l.any p=false:=by
 rw[fZ];intro x b
 obtain⟨j,a,rfl⟩:=eZ b;have:=h j a
 rw[G8 a]at this;simpa using this
theorem bM{α:Type}[aN α](hF:Q6<=F){l:List α}{q:α->π}(p:α->Bool)(hl:l.length<=1000000000)(hq:∀r∈l,q r=some (p r)):WU F l q=some (YF p l):=by
 unfold Q6 at hF;unfold WU
 refine z5 (λz:Int=>∃i:Nat,z=i/\i<=l.length/\∀j,j<i->p (gl l j)=false) (λz=>l.length-z.toNat) (λd z m f=>?_) ⟨0,rfl,by omega,λj g=>by omega⟩ (by simp;omega);obtain⟨i,rfl,n,b⟩:=m
 unfold WI;refine Z9 (λh=>?_) (λh=>?_)
 .have h:i<l.length:=by simpa using h
  refine Z7 (k:=?_);refine Q3 (hq _ (y3 h)) ?_
  simp only[dh];refine Z9 (λa=>?_) (λa=>?_)
  .have c:l.any p=true:=fA.2 ⟨_,y3 h,a⟩
   rw[YF,av c,kr h b a]
  .refine Z7 (k:=?_)
   refine f _ ⟨i+1,by omega,h,λj g=>?_⟩ (by omega);rcases eK j i with e|e
   .exact b j e
   .have:j=i:=by omega
    subst this;exact a
 .have h:¬i<l.length:=by simpa using h
  have:i=l.length:=by omega
  subst this;have c:=qp b
  rw[YF,c];rfl
theorem Z0o(hF:Q6<=F){l:ω}{q:aP->π}(p:aP->Bool)(hl:l.length<=1000000000)(hq:∀r∈l,q r=some (p r)):SJ F l q=some (l.filter λr=> !p r):=by
 have u:=hF;unfold Q6 at hF
 unfold SJ;refine Q3 (bM (α:=aP) u p hl hq) ?_
 by_cases g:l.any p=true
 .obtain ⟨x,o,B⟩:=fA.1 g
  have e:l.findIdx p<l.length:=nN ⟨x,o,B⟩;have v:p (gl l (l.findIdx p))=true:=by rw[G8 e];exact oJ (w:=e)
  have y:∀j,j<l.findIdx p->p (gl l j)=false:=by
   intro j s;rw[G8 (by omega)]
   simpa using rN s
  rw[YF,av g];refine Z4 (by simp) ?_
  refine Z7 (k:=?_);generalize l.findIdx p=i0 at *
  have H:(l.take (i0+1)).filter (λr=> !p r)=l.take i0:=by
   rw[Za e,ig];have E:(l.take i0).filter (λr=> !p r)=l.take i0:=by
    rw[mg];intro x o
    obtain⟨j,s,rfl⟩:=eZ o;have A : j<i0:=by simp at s;omega
    have:=y j A
    rw[G8 (by omega)]at this;simp[this]
   rw[E];simp[v]
  refine z5 (λz:Int×Int×ω=>∃(i j:Nat) (a:ω),z=((i:Int),(j:Int),a)/\i<j/\j<=l.length/\a.length=l.length/\(∀m,j<=m->gl a m=gl l m)/\a.take i=(l.take j).filter λr=> !p r)
   (λz=>l.length-z.2.1.toNat) (λC z G t=>?_) ⟨i0,i0+1,l,rfl,by omega,by omega,rfl,λ_ _=>rfl,H.symm⟩ (by simp only;omega)
  obtain⟨i,j,a,rfl,I,s,c,f,d⟩:=G;simp only at t⊢
  unfold bY;rw[c]
  refine Z9 (λh=>?_) (λh=>?_)
  .have h:j<l.length:=by simpa using h
   refine Z7 (k:=?_);simp only[dh]
   rw[f j (di _)];refine Q3 (hq _ (y3 h)) ?_
   have n:(l.take (j+1)).filter (λr=> !p r)=(l.take j).filter (λr=> !p r)++(if p (gl l j)=true then[]else[gl l j]):=by
    rw[Za h,ig]
    by_cases b:p (gl l j)=true
    .rw [av b];simp[b]
    .rw [an b];simp[b]
   refine Z9 (λb=>?_) (λb=>?_)
   .have b:p (gl l j)=false:=by simpa using b
    refine Z7 (k:=?_);refine Z7 (k:=?_)
    unfold DK;refine Z7 (k:=?_)
    refine t _ ⟨i+1,j+1,a.set i (gl l j),rfl,by omega,by omega,by simp[c],λm D=>?_,?_⟩ (by simp only;omega)
    .rw [Bq _ _ _ _ (by omega),an (by omega)];exact f m (by omega)
    .rw [n,an (by rw[b];simp), <-d,Za (by simp;omega),zy _ _ _ _ (di _),Bq _ _ _ _ (by omega),av rfl]
   .have b:p (gl l j)=true:=by simpa using b
    unfold DK;refine Z7 (k:=?_)
    refine t _ ⟨i,j+1,a,rfl,by omega,by omega,c,λm D=>f m (by omega),?_⟩ (by simp only;omega);rw[n,av b,fW,d]
  .have h:¬j<l.length:=by simpa using h
   unfold zM;simp only[dh,gi,c]
   refine Z7 (k:=?_);refine Z7 (k:=?_)
   rw[zA _ _ _ (by omega),d,lz (by omega)]
 .have g:l.any p=false:=by simpa using g
  rw[YF,g];refine Y8 rfl ?_
  congr 1
  symm
  rw[mg];intro x o
  have:=fZ.1 g x o
  simpa using this
theorem wN(hl:l.length<=Y2):DO F l=some l:=by
 unfold DO
 cases h:l with
 |nil=>
  show Xn _ _=_;unfold Xn
  exact @Q5 _ _ (Classical.propDecidable _) _ _ rfl rfl
 |cons a l' =>
  have:(a::l').length=l'.length+1:=rfl
  show(gd _ _)=_;rw[<-h]
  refine Z7 (k:=?_);simp
def YC(f:aP):Int:=
 if f.N_<1\/1073741824<f.N_ then 2 else if f.k_<0\/15<f.k_ then 14 else if f.F_<0\/f.u_<=f.F_\/36865<f.u_ then 9
 else if f.g_.t_.length=0\/Qx f.g_.t_=false then 7 else 0
theorem rm(hF:Q6<=F)(f:aP):HE F f=some (YC f):=by
 have g:∀b:Bool,(b=true↔f.g_.t_.length=0\/Qx f.g_.t_=false)->PP F b=some (if f.g_.t_.length=0\/Qx f.g_.t_=false then 7 else 0):=by
  intro b a;unfold PP
  refine Z9 (λh=>by rw[av (a.1 h)]) (λh=>by rw[an λc=>by rw[a.2 c]at h;cases h])
 have d:∀b:Bool,(b=true↔f.F_<0\/f.u_<=f.F_\/36865<f.u_)->KA F f b=some (if f.F_<0\/f.u_<=f.F_\/36865<f.u_ then 9 else if f.g_.t_.length=0\/Qx f.g_.t_=false then 7 else 0):=by
  intro b a;unfold KA
  refine Z9 (λh=>by rw[av (a.1 h)]) (λh=>?_);rw[an λc=>by rw[a.2 c]at h;cases h]
  refine Q3 (HK hF _) ?_;rw[YB (PP F)]
  exact g _ (by simp[or_comm])
 have e:∀b:Bool,(b=true↔f.k_<0\/15<f.k_)->KB F f b=some (if f.k_<0\/15<f.k_ then 14 else if f.F_<0\/f.u_<=f.F_\/36865<f.u_ then 9 else if f.g_.t_.length=0\/Qx f.g_.t_=false then 7 else 0):=by
  intro b a;unfold KB
  refine Z9 (λh=>by rw[av (a.1 h)]) (λh=>?_);rw[an λc=>by rw[a.2 c]at h;cases h]
  rw[YB (KA F f),YB (KA F f)];exact d _ (by simp)
 unfold HE Cp YC;rw[YB (λb=>br b (some (2:Int)) (br (decide (f.k_<(0:Int))) (KB F f true) (KB F f (decide ((15:Int)<f.k_)))))]
 refine Z9 (λh=>by rw[av (by simpa using h)]) (λh=>?_);rw[an (by simpa using h),YB (KB F f)]
 exact e _ (by simp)
theorem Z6m(hF:Q6<=F)(f:aP):Lk F f=some (YC f):=by
 have e:∀b:Bool,(b=true↔f.g_.t_.length=0\/Qx f.g_.t_=false)->Mz F b=some (if f.g_.t_.length=0\/Qx f.g_.t_=false then 7 else 0):=by
  intro b c;unfold Mz
  refine Z9 (λh=>by rw[av (c.1 h)]) (λh=>by rw[an λd=>by rw[c.2 d]at h;cases h])
 have g:∀b:Bool,(b=true↔f.F_<0\/f.u_<=f.F_\/36865<f.u_)->KM F f b=some (if f.F_<0\/f.u_<=f.F_\/36865<f.u_ then 9 else if f.g_.t_.length=0\/Qx f.g_.t_=false then 7 else 0):=by
  intro b c;unfold KM
  refine Z9 (λh=>by rw[av (c.1 h)]) (λh=>?_);rw[an λd=>by rw[c.2 d]at h;cases h]
  refine Z9 (λa=>?_) (λa=>?_)
  .have a:f.g_.t_.length=0:=by simp at a;simp[a]
   exact e _ (by simp[a])
  .have a:f.g_.t_.length≠0:=by simp at a;simpa using a
   exact Q3 (Uk hF _) (e _ (by simp[a]))
 have i:∀b:Bool,(b=true↔f.k_<0\/15<f.k_)->KN F f b=some (if f.k_<0\/15<f.k_ then 14 else if f.F_<0\/f.u_<=f.F_\/36865<f.u_ then 9 else if f.g_.t_.length=0\/Qx f.g_.t_=false then 7 else 0):=by
  intro b c;unfold KN
  refine Z9 (λh=>by rw[av (c.1 h)]) (λh=>?_);rw[an λd=>by rw[c.2 d]at h;cases h]
  rw[YB (KM F f),YB (KM F f)];exact g _ (by simp)
 unfold Lk Lj YC;rw[YB (λb=>br b (some (2:Int)) (br (decide (f.k_<(0:Int))) (KN F f true) (KN F f (decide ((15:Int)<f.k_)))))]
 refine Z9 (λh=>by rw[av (by simpa using h)]) (λh=>?_);rw[an (by simpa using h),YB (KN F f)]
 exact i _ (by simp)
def Vt:φ->ω->Int
 |_,[]=>0
 |p,f::l=>if YC f≠0 then YC f else if p.any (λn=>decide (f.N_<=n))then 3 else Vt (some f.N_) l
def ZJ(l:ω):Int:=if 60<l.length then 1 else Vt none l
def UO(l:ω)(i:Nat):φ:=if i=0 then none else some (gl l (i-1)).N_
theorem AG(l:ω)(i:Nat):UO l (i+1)=some (gl l i).N_:=by simp[UO]
theorem Z2L(hF:Q6<=F)(l:ω):Cq F l=some (ZJ l):=by
 have j:=hF;unfold Q6 at hF
 unfold Cq ZJ;refine Z9 (λh=>?_) (λh=>?_)
 .have h:60<l.length:=by simp at h;omega
  rw[av h]
 .have h:¬60<l.length:=by simp at h;omega
  rw[an h];refine z5 (λz:Int=>∃i:Nat,z=i/\i<=l.length/\Vt none l=Vt (UO l i) (l.drop i)) (λz=>l.length-z.toNat) (λe z r p=>?_) ⟨0,rfl,by omega,rfl⟩ (by simp;omega)
  obtain⟨i,rfl,s,a⟩:=r;unfold rf
  refine Z9 (λc=>?_) (λc=>?_)
  .have c:i<l.length:=by simpa using c
   rw[YP c,Vt]at a;refine Z7 (k:=?_)
   simp only[dh];refine Q3 (rm j _) ?_
   refine Z9 (λd=>?_) (λd=>?_)
   .have d:YC (gl l i)≠0:=by simpa using d
    rw[a,av d]
   .have d:YC (gl l i)=0:=by simpa using d
    rw[an (by simp[d])]at a;have o:∀b:Bool,b=(UO l i).any (λn=>decide ((gl l i).N_<=n))->HF F i e b=some (Vt none l):=by
     intro b g;unfold HF
     refine Z9 (λm=>?_) (λm=>?_)
     .rw [a,av (g ▸ m)]
     .rw [an (by rw[<-g,m];simp)]at a
      refine Z7 (k:=?_);refine p _ ⟨i+1,by omega,c,?_⟩ (by omega)
      rw[a,AG]
    refine Z9 (λf=>?_) (λf=>?_)
    .have f:0<i:=by simpa using f
     refine Z7 (k:=?_);refine Z7 (k:=?_)
     have q:((i:Int)-1).toNat=i-1:=by omega
     rw[q];exact o _ (by simp[UO,show i≠0 from by omega])
    .have f:i=0:=by simp at f;omega
     exact o _ (by simp[UO,f])
  .have c:¬i<l.length:=by simpa using c
   rw[iz (by omega)]at a;rw[a];rfl
theorem O2(hF:Q6<=F)(l:ω):Lp F l=some (ZJ l):=by
 have j:=hF;unfold Q6 at hF
 unfold Lp ZJ;refine Z9 (λh=>?_) (λh=>?_)
 .have h:60<l.length:=by simp at h;omega
  rw[av h]
 .have h:¬60<l.length:=by simp at h;omega
  rw[an h];refine z5 (λz:Int=>∃i:Nat,z=i/\i<=l.length/\Vt none l=Vt (UO l i) (l.drop i)) (λz=>l.length-z.toNat) (λe z r p=>?_) ⟨0,rfl,by omega,rfl⟩ (by simp;omega)
  obtain⟨i,rfl,s,a⟩:=r;unfold AQ
  refine Z9 (λc=>?_) (λc=>?_)
  .have c:i<l.length:=by simpa using c
   rw[YP c,Vt]at a;refine Z7 (k:=?_)
   simp only[dh];refine Q3 (Z6m j _) ?_
   refine Z9 (λd=>?_) (λd=>?_)
   .have d:YC (gl l i)≠0:=by simpa using d
    rw[a,av d]
   .have d:YC (gl l i)=0:=by simpa using d
    rw[an (by simp[d])]at a;have o:∀b:Bool,b=(UO l i).any (λn=>decide ((gl l i).N_<=n))->MF F i e b=some (Vt none l):=by
     intro b g;unfold MF
     refine Z9 (λm=>?_) (λm=>?_)
     .rw [a,av (g ▸ m)]
     .rw [an (by rw[<-g,m];simp)]at a
      refine Z7 (k:=?_);refine p _ ⟨i+1,by omega,c,?_⟩ (by omega)
      rw[a,AG]
    refine Z9 (λf=>?_) (λf=>?_)
    .have f:0<i:=by simpa using f
     refine Z7 (k:=?_);refine Z7 (k:=?_)
     have q:((i:Int)-1).toNat=i-1:=by omega
     rw[q];exact o _ (by simp[UO,show i≠0 from by omega])
    .have f:i=0:=by simp at f;omega
     exact o _ (by simp[UO,f])
  .have c:¬i<l.length:=by simpa using c
   rw[iz (by omega)]at a;rw[a];rfl
structure VL (l:ω):Prop where
 len:l.length<=60
 one:∀f∈l,YC f=0
 asc:l.Pairwise λf g=>f.N_<g.N_
theorem po:∀(l:ω) (p:φ),Vt p l=0↔(∀f∈l,YC f=0)/\l.Pairwise (λf g=>f.N_<g.N_)/\∀n,p=some n->∀f∈l,n<f.N_
 |[],p=>by simp[Vt]
 |f::l,p=>by
  have j:=po l (some f.N_);unfold Vt
  by_cases h1:YC f=0
  .rw [an (by simp[h1])]
   by_cases e:p.any (λn=>decide (f.N_<=n))=true
   .rw [av e]
    constructor
    .intro h;cases h
    .rintro ⟨_,_,h⟩
     cases p with
     |none=>simp at e
     |some n=>
      have e:f.N_<=n:=by simpa using e
      have:=h n rfl f (by simp)
      omega
   .rw [an e,j]
    constructor
    .rintro ⟨a,b,c⟩
     refine⟨λg d=>?_,fu.2 ⟨λg d=>c _ rfl g d,b⟩,λn i g d=>?_⟩
     .rcases dY.1 d with rfl|d
      .exact h1
      .exact a g d
     .subst i
      have e:n<f.N_:=by simpa using e
      rcases dY.1 d with rfl|d
      .exact e
      .have:=c _ rfl g d;omega
    .rintro ⟨a,b,c⟩
     obtain⟨k,m⟩:=fu.1 b;exact⟨λg d=>a g (by simp[d]),m,λn i g d=>by cases i;exact k g d⟩
  .rw [av h1]
   constructor
   .intro h;exact absurd h h1
   .rintro ⟨a,_,_⟩;exact absurd (a f (by simp)) h1
theorem MW(l:ω):ZJ l=0↔VL l:=by
 unfold ZJ
 by_cases h:60<l.length
 .rw [av h]
  exact⟨λh=>(by cases h),λc=>by have:=c.len;omega⟩
 .rw [an h,po]
  exact⟨λ⟨a,b,_⟩=>⟨by omega,a,b⟩,λc=>⟨c.one,c.asc,λn d=>by cases d⟩⟩
theorem vW(f:aP):YC f=0↔1<=f.N_/\f.N_<=1073741824/\0<=f.k_/\f.k_<=15/\0<=f.F_/\f.F_<f.u_/\f.u_<=36865/\f.g_.t_.length≠0/\K7 f.g_.t_:=by
 unfold YC;rw[<-WH]
 by_cases h1:f.N_<1\/1073741824<f.N_
 .rw [av h1];simp;omega
 .rw [an h1]
  by_cases h2:f.k_<0\/15<f.k_
  .rw [av h2];simp;omega
  .rw [an h2]
   by_cases h3:f.F_<0\/f.u_<=f.F_\/36865<f.u_
   .rw [av h3];simp;omega
   .rw [an h3]
    by_cases a:f.g_.t_.length=0\/Qx f.g_.t_=false
    .rw [av a]
     constructor
     .intro h;cases h
     .rintro ⟨_,_,_,_,_,_,_,c,b⟩
      rcases a with a|a
      .exact absurd a c
      .rw [b]at a;cases a
    .rw [an a]
     refine⟨λ_=>?_,λ_=>rfl⟩;have c:f.g_.t_.length≠0:=λh=>a (.inl h)
     have b:Qx f.g_.t_=true:=by
      cases hv:Qx f.g_.t_ with
      |true=>rfl
      |false=>exact absurd (.inr hv) a
     refine⟨by omega,by omega,by omega,by omega,by omega,by omega,by omega,c,b⟩
theorem Z6q{f:aP}(h:f.g_.t_.length<=Y2):Lm F f=some f:=by
 unfold Lm;exact Q3 (wN h) rfl
theorem VL.rlen{l:ω}(h:VL l){f:aP}(hf:f∈l):f.g_.t_.length<=120:=((vW f).1 (h.one f hf)).2.2.2.2.2.2.2.2.1
theorem Z6s(hF:Q6<=F){l:ω}(h:VL l):Ln F l=some l:=by
 unfold Q6 at hF;have d:=h.len
 unfold Ln;refine z5 (λz:Int×ω=>∃i:Nat,z=((i:Int),l.take i)/\i<=l.length) (λz=>l.length-z.1.toNat) (λb z e c=>?_) ⟨0,rfl,by omega⟩ (by simp only;omega)
 obtain⟨i,rfl,f⟩:=e;simp only at c⊢
 unfold sq;refine Z9 (λa=>?_) (λa=>?_)
 .have a:i<l.length:=by simpa using a
  refine Z7 (k:=?_);simp only[dh]
  refine Q3 (Z6q (by have:=h.rlen (y3 a);unfold Y2;omega)) ?_;refine Z7 (k:=?_)
  refine Z7 (k:=?_);exact c _ ⟨i+1,by rw[Za a];rfl,a⟩ (by simp only;omega)
 .have a:¬i<l.length:=by simpa using a
  unfold ky;rw[lz (by omega)]
def Pa(f:aP)(d:Int):Bool:=decide (f.F_<=d)&&decide (d<f.u_)
theorem B6(F:Nat)(f:aP)(d:Int):My F f d=some (Pa f d):=by
 unfold My;rw[YS (Li F)];rfl
theorem S7(hF:Q6<=F)(l:ω)(d:Int):Ll F l d=some (if ZJ l≠0 then ZJ l else if d<0\/36864<d then 9 else 0):=by
 unfold Ll;refine Q3 (O2 hF l) ?_
 refine Z9 (λh=>?_) (λh=>?_)
 .have h:ZJ l≠0:=by simpa using h
  rw[av h]
 .have h:ZJ l=0:=by simpa using h
  rw[an (by simp[h]),YB (MA F)];unfold MA
  refine Z9 (λh=>?_) (λh=>?_)
  .rw [av (by simpa using h)]
  .rw [an (by simpa using h)]
theorem D8(hF:Q6<=F)(l:ω)(d:Int):ME F l d=some (if ZJ l≠0 then([],ZJ l)else if d<0\/36864<d then([],9)else(l.filter λf=>Pa f d,0)):=by
 unfold ME;refine Q3 (S7 hF l d) ?_
 by_cases h:ZJ l=0
 .simp only[h,ne_eq,not_true_eq_false,fC]
  by_cases h2:d<0\/36864<d
  .simp only[h2,fJ]
   exact Y8 rfl rfl
  .simp only[h2,fC]
   refine Z4 rfl ?_;have a:=(MW l).1 h
   refine Q3 (Z6s hF a) ?_;have b:=a.len
   refine Q3 (Z0o hF (λf=> !Pa f d) (by omega) (λf _=>by unfold kA;rw[B6];rfl)) ?_;simp
 .have e:(if ZJ l≠0 then ZJ l else if d<0\/36864<d then 9 else 0)=ZJ l:=av h
  rw[e,av h];refine Y8 (by simpa using h) rfl
def ZW(l:ω)(n:Int):Nat:=l.countP λf=>decide (f.N_<n)
theorem xp{l:ω}(h:l.Pairwise λf g=>f.N_<g.N_)(n:Int):ZW l n<=l.length/\(∀j,j<ZW l n->(gl l j).N_<n)/\∀j,ZW l n<=j->j<l.length->n<=(gl l j).N_:=by
 induction l with
 |nil=>exact⟨di _,λj i=>by simp[ZW]at i,λj _ i=>by simp at i⟩
 |cons f l ih=>
  obtain⟨m,k⟩:=fu.1 h;obtain⟨a,b,c⟩:=ih k
  by_cases hf:f.N_<n
  .have e:ZW (f::l) n=ZW l n+1:=by simp[ZW,hf]
   rw[e];refine⟨by simp;exact a,λj i=>?_,λj i d=>?_⟩
   .cases j with
    |zero=>exact hf
    |succ j=>exact b j (by omega)
   .cases j with
    |zero=>omega
    |succ j=>exact c j (by omega) (by simpa using d)
  .have p:ZW l n=0:=by
    unfold ZW;rw[rQ]
    intro g o;have:=m g o
    simp;omega
   have e:ZW (f::l) n=0:=by
    have:ZW (f::l) n=ZW l n:=by simp[ZW,hf]
    rw[this,p]
   rw[e];refine⟨dW _,λj i=>by omega,λj _ d=>?_⟩
   cases j with
   |zero=>show n<=f.N_;omega
   |succ j=>exact c j (by omega) (by simpa using d)
structure dw (t:aD):Prop where
 aT:0<=t.aT
 len:t.l_.length<=400
theorem Z5i(a:Int)(h1:1<=n)(h2:n<=1099511627776):∃k,Xj F a n=some k/\0<=k/\k<n:=by
 have c:=Int.tmod_lt_of_pos a (show 0<n by omega);have b:=Int.lt_tmod_of_pos a (show 0<n by omega)
 unfold Xj;generalize a.tmod n=m at *
 by_cases h:m<0
 .refine ⟨m+n,?_,by omega,by omega⟩
  refine Z4 (by simp;omega) ?_;refine Z7 (k:=?_)
  refine Y8 (by simpa using h) ?_;refine Z7 (k:=?_)
  rfl
 .refine ⟨m,?_,by omega,by omega⟩
  refine Z4 (by simp;omega) ?_;refine Z7 (k:=?_)
  exact Z4 (by simpa using h) rfl
theorem Zd(ht:dw t)(h1:1<=n)(h2:n<=1099511627776):∃t' k,QK F t n=some (t',k)/\dw t' /\ 0<=k/\k<n:=by
 obtain⟨a,b⟩:=ht;unfold QK
 by_cases h:(t.l_.length:Int)<=t.aT
 .exact ⟨t,0,Y8 (by simpa using h) rfl,⟨a,b⟩,by omega,by omega⟩
 .obtain ⟨k,c,k1,k2⟩:=Z5i (F:=F) (gl t.l_ ((t.aT+1)-1).toNat) h1 h2
  refine⟨⟨t.l_,t.aT+1⟩,k,?_,⟨by simp only;omega,b⟩,k1,k2⟩;refine Z4 (by simpa using h) ?_
  refine Z7 (k:=?_);refine Z7 (k:=?_)
  refine Z7 (k:=?_);exact Q3 c rfl
theorem WX(ht:dw t){hi:Int}(h1:lo<=hi)(h0 : -1099511627<=lo)(h2:hi<=1099511627):∃t' k,YZ F t lo hi=some (t',k)/\dw t' /\ lo<=k/\k<=hi:=by
 obtain⟨t',k,d,a,b,c⟩:=Zd (F:=F) ht (n:=(hi-lo)+1) (by omega) (by omega);refine⟨t',lo+k,?_,a,by omega,by omega⟩
 unfold YZ;refine Z7 (k:=?_)
 refine Z7 (k:=?_);refine Q3 d ?_
 refine Z7 (k:=?_);rfl
def QZ(n:Int)(l:ζ):Prop:=∀r∈l,0<=r.L_/\r.L_<r.R_/\r.R_<=n/\0<=r.w_/\r.w_<r.H_/\r.H_<=n
theorem QZ.prop(h:QZ n l)(hn:n<=16384):∀r∈l,Zj r=true:=λr a=>(Wy r).2 (by have:=h r a;omega)
theorem QZ.in(h:QZ n l)(hx:Q8 l x y=true):0<=x/\x<n/\0<=y/\y<n:=by
 obtain⟨r,a,b⟩:=fA.1 hx;rw[Yv]at b
 have:=h r a
 omega
theorem NE{l:List (Rn ψ)}(h:r∈flat l):∃b∈l,∃s∈b.v,r=⟨s.L_,b.lo,s.R_,b.hi⟩:=by
 obtain⟨b,d,c⟩:=eE.1 h;obtain⟨s,a,rfl⟩:=eF.1 c
 exact⟨b,d,s,a,rfl⟩
theorem Wb.pos(h:Wb l)(hr:r∈l):r.L_<r.R_/\r.w_<r.H_:=by
 obtain⟨b,d,rfl⟩:=h;obtain⟨c,a,s,e,rfl⟩:=NE hr
 exact⟨(d.sp c a).pos s e,d.runs.pos c a⟩
theorem FL(hr:r∈l)(h:r.has x y=true):Q8 l x y=true:=fA.2 ⟨r,hr,h⟩
theorem Wb.box(h:Wb l)(hn:∀x y,Q8 l x y=true->0<=x/\x<n/\0<=y/\y<n):QZ n l:=by
 intro r c;obtain⟨d,e⟩:=h.pos c
 have a:=hn r.L_ r.w_ (FL c ((Yv _ _ _).2 (by omega)));have b:=hn (r.R_-1) (r.H_-1) (FL c ((Yv _ _ _).2 (by omega)))
 omega
theorem pq(hf:Fin S)(hn:∀x y,S x y=true->0<=x/\x<n/\0<=y/\y<n):QZ n (cn S):=
 (Gb hf).box λx y h=>hn x y (by rwa [YE hf]at h)
theorem tE:Wb []:=⟨[],⟨.nil,λb a=>(fF a).elim,λb a=>(fF a).elim⟩,rfl⟩
theorem gp(h1:r.L_<r.R_)(h2:r.w_<r.H_):Wb [r]:=
 ⟨[⟨r.w_,r.H_,[⟨r.L_,r.R_⟩]⟩],⟨⟨λb a=>by rw[dI.1 a];exact h2,iF _ _⟩,λb a=>by
  rw[dI.1 a];exact⟨λs c=>by rw[dI.1 c];exact h1,iF _ _⟩,λb a=>by rw[dI.1 a];simp⟩,rfl⟩
theorem x6(n:Int):QZ n []:=λr a=>(fF a).elim
theorem K7.nil:K7 []:=⟨by simp,λr a=>(fF a).elim,tE⟩
theorem xt(ht:dw t)(h1:1<=n)(h2:n<=16384):∃t' r,Xg F t n=some (t',r)/\dw t' /\ QZ n [r]:=by
 obtain⟨w,x,e,i,m,q⟩:=Zd (F:=F) ht (n:=n) (by omega) (by omega);obtain⟨C,y,f,g,l,p⟩:=Zd (F:=F) i (n:=n) (by omega) (by omega)
 obtain⟨z,u,h,b,B,A⟩:=Zd (F:=F) g (n:=n-x) (by omega) (by omega);obtain⟨a,v,j,d,o,s⟩:=Zd (F:=F) b (n:=n-y) (by omega) (by omega)
 refine⟨a,⟨x,y,(x+1)+u,(y+1)+v⟩,?_,d,λr c=>?_⟩
 .unfold Xg
  refine Q3 e ?_;refine Q3 f ?_
  simp only
  refine Z7 (k:=?_);refine Z7 (k:=?_)
  refine Q3 h ?_;simp only
  refine Z7 (k:=?_);refine Z7 (k:=?_)
  refine Z7 (k:=?_);refine Q3 j ?_
  simp only
  refine Z7 (k:=?_);rfl
 .rw [dI.1 c]
  simp only
  omega
structure hJ (n:Int) (a:aE):Prop where
 box:QZ n a.t_
 val:K7 a.t_
theorem s9(hF:Q6<=F)(ht:dw t)(h1:1<=n)(h2:n<=16384)(m1:0<=most)(m2:most<=100):∃t' a R,Bg F t n most=some (t',a)/\dw t' /\ hJ n a/\(List.length (α:=aa) R:Int)<=most/\Q8 a.t_=Q8 R:=by
 have i:=hF;unfold Q6 at hF
 obtain⟨B,c,A,G,I,H⟩:=Zd (F:=F) ht (n:=most+1) (by omega) (by omega);have m:∀(k f:Nat) (t:aD) (l:ζ),k<f->dw t->QZ n l->l.length+k<=100->(l.length:Int)+k<=most->∃t' a R,Y4 (λagain (z:Int×θ×Int×ζ)=>Bf F n again z.1 z.2.1 z.2.2.1 z.2.2.2) f ((k:Int),t.l_,t.aT,l)=some (t',a)/\dw t' /\ hJ n a/\(List.length (α:=aa) R:Int)<=most/\Q8 a.t_=Q8 R:=by
  intro k
  induction k with
  |zero=>
   intro f t l D ht e E w
   cases f with
   |zero=>omega
   |succ f=>
    have o:=Z2T i (l:=l) (by omega) (e.prop h2);refine⟨⟨t.l_,t.aT⟩,(if 120<(cn (Q8 l)).length then((⟨[]⟩:aE),(1:Int))else(⟨cn (Q8 l)⟩,0)).1,(if 120<(cn (Q8 l)).length then[]else l),?_,ht,?_⟩
    .show Bf F n _ 0 t.l_ t.aT l=_
     unfold Bf;refine Z4 rfl ?_
     unfold xr;exact Q3 o rfl
    .split
     .exact ⟨⟨x6 _,K7.nil⟩,by simp;omega,rfl⟩
     .rename_i p
      have b:QZ n (cn (Q8 l)):=pq (Zo l) λx y h=>e.in h
      exact⟨⟨b,by simp only;omega,b.prop h2,Gb (Zo l)⟩,by omega,by funext x y;exact YE (Zo l) x y⟩
  |succ k ih=>
   intro f t l D ht e E w
   cases f with
   |zero=>omega
   |succ f=>
    obtain⟨t',r,s,u,v⟩:=xt (F:=F) ht h1 h2;obtain⟨C,a,Q,g,j,b⟩:=ih f t' (l++[r]) (by omega) u (λq d=>by
     rcases dv.1 d with d|d
     .exact e q d
     .exact v q d) (by simp;omega) (by simp;omega)
    refine⟨C,a,Q,?_,j,b⟩;show Bf F n _ ((k+1:Nat):Int) t.l_ t.aT l=_
    unfold Bf;refine Y8 (by simp) ?_
    refine Q3 s ?_;refine Z7 (k:=?_)
    refine Z7 (k:=?_);have:((k+1:Nat):Int)-1=(k:Int):=by omega
    rw[this];exact g
 obtain⟨t',a,Q,g,j,b⟩:=m c.toNat F B [] (by omega) G (x6 _) (by simp;omega) (by simp;omega);refine⟨t',a,Q,?_,j,b⟩
 unfold Bg;refine Z7 (k:=?_)
 refine Q3 A ?_;have:(c.toNat:Int)=c:=by omega
 rw[this]at g;exact g
theorem A3(hF:Q6<=F)(ht:dw t)(h1:1<=n)(h2:n<=16384)(m1:0<=most)(m2:most<=100):∃t' a,Bg F t n most=some (t',a)/\dw t' /\ hJ n a:=by
 obtain⟨t',a,_,e,o,h,_⟩:=s9 hF ht h1 h2 m1 m2;exact⟨t',a,e,o,h⟩
theorem Z4T(hF:Q6<=F)(ht:dw t)(h1:1<=n)(h2:n<=16384)(m1:1<=most)(m2:most<=100):∃t' a R,Xi F t n most=some (t',a)/\dw t' /\ hJ n a/\a.t_.length≠0/\(List.length (α:=aa) R:Int)<=most/\Q8 a.t_=Q8 R:=by
 obtain⟨c,a,Q,f,d,i,j⟩:=s9 hF ht h1 h2 (by omega) m2;unfold Xi
 by_cases h:a.t_.length=0
 .obtain ⟨e,r,k,l,b⟩:=xt (F:=F) d h1 h2
  have g:=b r (by simp);refine⟨⟨e.l_,e.aT⟩,⟨[r]⟩,[r],?_,l,⟨b,by simp,b.prop h2,gp (by omega) (by omega)⟩,by simp,by simp;omega,rfl⟩
  refine Q3 f ?_;refine Y8 (by simp only[h];rfl) ?_
  exact Q3 k rfl
 .refine ⟨⟨c.l_,c.aT⟩,⟨a.t_⟩,Q,?_,d,i,h,j⟩
  refine Q3 f ?_;exact Z4 (by simpa using h) rfl
theorem Z4V(hF:Q6<=F)(ht:dw t)(h1:1<=n)(h2:n<=16384)(m1:0<=most)(m2:most<=100):∃t' a,Xi F t n most=some (t',a)/\dw t' /\ hJ n a/\a.t_.length≠0:=by
 obtain⟨c,a,f,d,i⟩:=A3 hF ht h1 h2 m1 m2;unfold Xi
 by_cases h:a.t_.length=0
 .obtain ⟨e,r,j,k,b⟩:=xt (F:=F) d h1 h2
  have g:=b r (by simp);refine⟨⟨e.l_,e.aT⟩,⟨[r]⟩,?_,k,⟨b,by simp,b.prop h2,gp (by omega) (by omega)⟩,by simp⟩
  refine Q3 f ?_;refine Y8 (by simp only[h];rfl) ?_
  exact Q3 j rfl
 .refine ⟨⟨c.l_,c.aT⟩,⟨a.t_⟩,?_,d,i,h⟩
  refine Q3 f ?_;exact Z4 (by simpa using h) rfl
structure kk (f:aP):Prop where
 kind:0<=f.k_/\f.k_<=15
 F_:0<=f.F_/\f.F_<20
 u_:f.F_<f.u_/\f.u_<=f.F_+30
 reg:hJ 9 f.g_
 ne:f.g_.t_.length≠0
theorem Z5b(hF:Q6<=F)(ht:dw t)(n:Int):∃t' f,FB F t n=some (t',f)/\dw t' /\ kk f/\f.N_=n:=by
 obtain⟨x,a,j,p,A,w⟩:=Zd (F:=F) ht (n:=20) (by omega) (by omega);obtain⟨z,b,l,m,s,B⟩:=Zd (F:=F) p (n:=16) (by omega) (by omega)
 obtain⟨y,c,o,h,v,u⟩:=WX (F:=F) m (lo:=1) (hi:=30) (by omega) (by omega) (by omega);obtain⟨e,r,q,i,g,d⟩:=Z4V hF h (n:=9) (most:=2) (by omega) (by omega) (by omega) (by omega)
 refine⟨e,⟨n,b,a,a+c,r⟩,?_,i,⟨by simp only;omega,by simp only;omega,by simp only;omega,g,d⟩,rfl⟩;unfold FB
 refine Q3 j ?_;refine Q3 l ?_
 refine Q3 o ?_;simp only
 refine Z7 (k:=?_);exact Q3 q rfl
theorem kk.one{f:aP}(h:kk f)(h1:1<=f.N_)(h2:f.N_<=1073741824):YC f=0:=
 (vW f).2 ⟨h1,h2,h.kind.1,h.kind.2,h.F_.1,h.u_.1,by have:=h.F_;have:=h.u_;omega,h.ne,h.reg.val⟩
def KK(l:ω)(f:aP):ω:=l.take (ZW l f.N_)++[f]++l.drop (ZW l f.N_)
def XI(l:ω)(f:aP):ω×Int:=
 if ZJ l≠0 then([],ZJ l)else if YC f≠0 then([],YC f)else if ZW l f.N_<l.length/\(gl l (ZW l f.N_)).N_=f.N_ then([],6)
 else if l.length=60 then([],1)else(KK l f,0)
theorem oR(hF:Q6<=F)(l:ω)(f:aP):Cs F l f=some (XI l f):=by
 have j:=hF;unfold Q6 at hF
 unfold Cs XI;refine Q3 (Z2L j l) ?_
 by_cases h:ZJ l=0
 .refine Z4 (by simp[h]) ?_
  rw[an (by simp[h])];refine Q3 (rm j f) ?_
  by_cases h1:YC f=0
  .refine Z4 (by simp[h1]) ?_
   rw[an (by simp[h1])];have p:=(MW l).1 h
   have r:=p.len;obtain⟨a,b,c⟩:=xp p.asc f.N_
   unfold KK;generalize ZW l f.N_=k at *
   refine z5 (λz:Int=>∃i:Nat,z=i/\i<=k) (λz=>l.length-z.toNat) (λo z u s=>?_) ⟨0,rfl,by omega⟩ (by simp;omega);obtain⟨i,rfl,v⟩:=u
   have n:i=k->Cr F l f (i:Int)=some (if k<l.length/\(gl l k).N_=f.N_ then([],6)else if l.length=60 then([],1)else(l.take k++[f]++l.drop k,0)):=by
    rintro rfl;unfold Cr
    have m:∀b:Bool,(b=true↔i<l.length/\(gl l i).N_=f.N_)->HG F l f (i:Int) b=some (if i<l.length/\(gl l i).N_=f.N_ then([],6)else if l.length=60 then([],1)else(l.take i++[f]++l.drop i,0)):=by
     intro b q;unfold HG
     refine Z9 (λh=>by rw[av (q.1 h)]) (λh=>?_);rw[an λt=>by rw[q.2 t]at h;cases h]
     refine Z9 (λh=>?_) (λh=>?_)
     .have h:l.length=60:=by simp at h;omega
      rw[av h]
     .have h:l.length≠60:=by simp at h;omega
      rw[an h];simp only[dh]
      refine Z7 (k:=?_);refine Z7 (k:=?_)
      refine Z7 (k:=?_);refine Z7 (k:=?_)
      refine Z7 (k:=?_);simp
    refine Z9 (λd=>?_) (λd=>?_)
    .have d:i<l.length:=by simpa using d
     refine Z7 (k:=?_);exact m _ (by simp[d])
    .have d:¬i<l.length:=by simpa using d
     exact m _ (by simp[d])
   unfold D7;refine Z9 (λd=>?_) (λd=>?_)
   .have d:i<l.length:=by simpa using d
    refine Z7 (k:=?_);unfold HH
    simp only[dh];refine Z9 (λg=>?_) (λg=>?_)
    .have g:(gl l i).N_<f.N_:=by simpa using g
     refine Z7 (k:=?_);refine s _ ⟨i+1,by omega,?_⟩ (by omega)
     rcases eK i k with e|e
     .exact e
     .have:=c i e d;omega
    .have g:¬(gl l i).N_<f.N_:=by simpa using g
     refine n ?_;rcases eK i k with e|e
     .exact absurd (b i e) g
     .omega
   .have d:¬i<l.length:=by simpa using d
    unfold HH;exact Z4 rfl (n (by omega))
  .refine Y8 (by simpa using h1) ?_
   rw[av h1]
 .refine Y8 (by simpa using h) ?_
  rw[av h]
theorem wX{l:ω}{f g:aP}:g∈KK l f↔g=f\/g∈l:=by
 unfold KK;constructor
 .intro h
  rcases dv.1 h with h|h
  .rcases dv.1 h with h|h
   .exact .inr (j9 h)
   .exact .inl (dI.1 h)
  .exact .inr (List.mem_of_mem_drop h)
 .rintro (rfl|h)
  .simp
  .rw [<-iR (ZW l f.N_) l]at h
   rcases dv.1 h with h|h
   .simp [h]
   .simp [h]
theorem Z5q{l:ω}{f:aP}(hl:VL l)(hf:YC f=0)(hn:¬(ZW l f.N_<l.length/\(gl l (ZW l f.N_)).N_=f.N_))(h60:l.length≠60):VL (KK l f):=by
 obtain⟨a,b,c⟩:=xp hl.asc f.N_;have p:=hl.len
 refine⟨by simp[KK];omega,λg h=>?_,?_⟩
 .rcases wX.1 h with rfl|h
  .exact hf
  .exact hl.one g h
 .unfold KK
  generalize ZW l f.N_=k at *;have s:∀g∈l.take k,g.N_<f.N_:=by
   intro g h;obtain⟨j,m,rfl⟩:=eZ h
   have d : j<k:=by simp at m;omega
   have:=b j d
   rw[G8 (by omega)]at this;simpa using this
  have r:∀g∈l.drop k,f.N_<g.N_:=by
   intro g h;obtain⟨j,m,rfl⟩:=eZ h
   have d : k+j<l.length:=by simp at m;omega
   have u:=c (k+j) (by omega) d;rw[G8 d]at u
   have z:(l[k+j]).N_≠f.N_:=by
    intro e;rcases lA j with rfl|n
    .exact hn ⟨by omega,by rw[G8 (by omega)];exact e⟩
    .have w:=c k (di _) (by omega)
     rw[G8 (by omega)]at w;have A:=ie.1 hl.asc k (k+j) (by omega) d (by omega)
     omega
   simp only[List.getElem_drop];omega
  have n:=hl.asc;rw[<-iR k l,il]at n
  obtain⟨t,q,v⟩:=n;rw[fR,il]
  refine⟨t,fu.2 ⟨r,q⟩,λx o y i=>?_⟩;rcases dv.1 i with i|i
  .rw [dI.1 i];exact s x o
  .exact v x o y i
structure ik (l:ω):Prop where
 vl:VL l
 fea:∀f∈l,kk f/\1<=f.N_/\f.N_<=12
theorem Z4Q(hF:Q6<=F)(ht:dw t)(m1:0<=most)(m2:most<=50):∃t' l,Fs F t most=some (t',l)/\dw t' /\ ik l/\(l.length:Int)<=most:=by
 have d:=hF;unfold Q6 at hF
 obtain⟨D,c,C,H,N,M⟩:=Zd (F:=F) ht (n:=most+1) (by omega) (by omega);have q:∀(k f:Nat) (t:aD) (l:ω),k<f->dw t->ik l->(l.length:Int)+k<=most->∃t' l',Y4 (λagain (z:ω×Int×θ×Int)=>Bj F again z.1 z.2.1 z.2.2.1 z.2.2.2) f (l,(k:Int),t.l_,t.aT)=some (t',l')/\dw t' /\ ik l' /\ (l'.length:Int)<=most:=by
  intro k
  induction k with
  |zero=>
   intro f t l i ht e E
   cases f with
   |zero=>omega
   |succ f=>exact⟨⟨t.l_,t.aT⟩,l,rfl,ht,e,by omega⟩
  |succ k ih=>
   intro f t l i ht e E
   cases f with
   |zero=>omega
   |succ f=>
    obtain⟨L,n,A,J,K,n2⟩:=WX (F:=F) ht (lo:=1) (hi:=12) (by omega) (by omega) (by omega);obtain⟨y,g,w,u,B,I⟩:=Z5b d J n
    have o:=B.one (by omega) (by omega);have G:=(MW l).2 e.vl
    have v:((k+1:Nat):Int)-1=(k:Int):=by omega
    by_cases hadd:(XI l g).2=0
    .have j:ik (XI l g).1/\(XI l g).1.length=l.length+1:=by
      unfold XI at hadd⊢;rw[an (by simp[G]),an (by simp[o])]at hadd⊢
      by_cases a:ZW l g.N_<l.length/\(gl l (ZW l g.N_)).N_=g.N_
      .rw [av a]at hadd;cases hadd
      .rw [an a]at hadd⊢
       by_cases b:l.length=60
       .rw [av b]at hadd;cases hadd
       .rw [an b]
        refine⟨⟨Z5q e.vl o a b,λx s=>?_⟩,?_⟩
        .rcases wX.1 s with rfl|s
         .exact ⟨B,by omega,by omega⟩
         .exact e.fea x s
        .have:=(xp e.vl.asc g.N_).1
         simp[KK];omega
     obtain⟨p,r,a,b,h,m⟩:=ih f y (XI l g).1 (by omega) u j.1 (by omega);refine⟨p,r,?_,b,h,m⟩
     show Bj F _ l ((k+1:Nat):Int) t.l_ t.aT=_;unfold Bj
     refine Y8 (by simp) ?_;refine Q3 A (Q3 w (Q3 (oR d l g) ?_))
     refine Y8 (by simpa using hadd) ?_;unfold Ml
     refine Z7 (k:=?_);rw[v];exact a
    .obtain ⟨p,r,a,b,h,m⟩:=ih f y l (by omega) u e (by omega)
     refine⟨p,r,?_,b,h,m⟩;show Bj F _ l ((k+1:Nat):Int) t.l_ t.aT=_
     unfold Bj;refine Y8 (by simp) ?_
     refine Q3 A (Q3 w (Q3 (oR d l g) ?_));refine Z4 (by simpa using hadd) ?_
     unfold Ml;refine Z7 (k:=?_)
     rw[v];exact a
 obtain⟨t',l,a,b,h,m⟩:=q c.toNat F D [] (by omega) H ⟨⟨by simp,λf i=>(fF i).elim,.nil⟩,λf i=>(fF i).elim⟩ (by simp;omega);refine⟨t',l,?_,b,h,m⟩
 unfold Fs;refine Z7 (k:=?_)
 refine Q3 C ?_;have:(c.toNat:Int)=c:=by omega
 rw[this]at a;exact a
theorem Z5g(F:Nat)(l:θ):∃t,FF F l=some t/\dw t:=by
 unfold FF;have h:QL ((l.length:Nat):Int) 400=((min l.length 400:Nat):Int):=by unfold QL;split<;>omega
 rw[h];refine⟨⟨l.take (min l.length 400),0⟩,?_,by simp only;omega,by simp;omega⟩
 refine Z7 (k:=?_);simp
theorem Xp{R:Type}{body:(Int->Option R)->Int->Option R}{y:Option R}(N:Nat)(step:∀again (i:Nat),i<N->again ((i:Int)+1)=y->body again (i:Int)=y)(stop:∀again,body again (N:Int)=y)(hF:N<F):Y4 body F 0=y:=by
 refine z5 (λz:Int=>∃i:Nat,z=i/\i<=N) (λz=>N-z.toNat) (λagain z b a=>?_) ⟨0,rfl,dW _⟩ (by simp;omega);obtain⟨i,rfl,c⟩:=b
 rcases eK i N with h|h
 .exact step again i h (a _ ⟨i+1,by omega,h⟩ (by omega))
 .have:i=N:=by omega
  subst this;exact stop again
theorem dJ.len{α:Type}{l:List (Rn α)}(h:dJ l):∀{a:Int},a<=n->(∀r∈l,a<=r.lo/\r.hi<=n)->(l.length:Int)<=n-a:=by
 induction l with
 |nil=>intro a d _;simp;omega
 |cons r l ih=>
  intro a d b;have f:=b r (by simp)
  have e:=h.pos r (by simp);have:=ih h.tail (a:=r.hi) (by omega) λq c=>⟨(h.head q c).1,(b q (by simp[c])).2⟩
  rw[dz];omega
theorem AR(h:Fin S):cn S=[]↔∀x y,S x y=false:=by
 constructor
 .intro e x y
  rw[<-YE h,e];rfl
 .intro e
  exact BG (l:=[]) ⟨.nil,λb a=>(fF a).elim,λb a=>(fF a).elim⟩ λx y=>(e x y).symm
def KF(r s:aa):Bool:=decide (r.L_<s.R_)&&(decide (s.L_<r.R_)&&(decide (r.w_<s.H_)&&decide (s.w_<r.H_)))
theorem Z1X(F:Nat)(r s:aa):TB F r s=some (KF r s):=by
 unfold TB;rw[YS (Kr F),YS (Kr F),YS (Kr F)]
 rfl
def GY(a b:ζ):Bool:=a.any λr=>b.any λs=>KF r s
theorem sm{s:aa}(hr:Zj r=true)(hs:Zj s=true):KF r s=true↔∃x y,r.has x y=true/\s.has x y=true:=by
 rw[Wy]at hr hs;simp only[Yv]
 constructor
 .intro h
  simp only[KF,dc,dT]at h;refine⟨max r.L_ s.L_,max r.w_ s.w_,?_⟩
  omega
 .rintro ⟨x,y,h⟩
  simp only[KF,dc,dT];omega
theorem VO(l:ζ)(x y:Int):Q8 l x y=true↔∃r∈l,r.has x y=true:=by unfold Q8;rw[fA]
theorem vP(ha:∀r∈a,Zj r=true)(hb:∀r∈b,Zj r=true):GY a b=true↔∃x y,Q8 a x y=true/\Q8 b x y=true:=by
 simp only[GY,fA,VO];constructor
 .rintro ⟨r,c,s,d,h⟩
  obtain⟨x,y,f,e⟩:=(sm (ha r c) (hb s d)).1 h;exact⟨x,y,⟨r,c,f⟩,⟨s,d,e⟩⟩
 .rintro ⟨x,y,⟨r,c,f⟩,⟨s,d,e⟩⟩
  exact⟨r,c,s,d,(sm (ha r c) (hb s d)).2 ⟨x,y,f,e⟩⟩
theorem Z3H:GY a b=GY b a:=by
 rw[eV];simp only[GY,fA,KF,dc,dT]
 constructor<;>(rintro⟨r,c,s,g,e,d,f,h⟩;exact⟨s,g,r,c,d,e,h,f⟩)
def ZG(a b:aE):Bool:=Qx a.t_&&(Qx b.t_&&GY a.t_ b.t_)
theorem Z4i(a b:aE):ZG a b=ZG b a:=by
 unfold ZG;rw[Z3H]
 cases Qx a.t_<;>cases Qx b.t_<;>rfl
theorem pY(hF:Q6<=F)(a b:aE):Hh F a b=some (ZG a b):=by
 unfold Hh ZG;refine Q3 (Uk hF a) ?_
 refine Z9 (λh=>?_) (λh=>by rw[h];rfl);refine Q3 (Uk hF b) ?_
 refine Z9 (λc=>?_) (λc=>by rw[h,c];rfl);have e:=((WH _).1 h).1
 have d:=((WH _).1 c).1;refine Q3 (Kg (α:=aa) hF (λr=>b.t_.any λs=>KF r s) (by omega) λr _=>?_) ?_
 .unfold yL
  refine Q3 (Kg (α:=aa) hF (λs=>KF r s) (by omega) λs _=>?_) rfl;unfold yK
  rw[Z1X];rfl
 .rw [h,c];rfl
theorem Z2X(hF:Q6<=F)(a b:aE):Cx F a b=some (ZG a b):=by
 unfold Cx ZG;refine Q3 (HK hF a) ?_
 refine Z9 (λh=>?_) (λh=>by rw[h];rfl);refine Q3 (HK hF b) ?_
 refine Z9 (λf=>?_) (λf=>by rw[h,f];rfl);have j:=(WH _).1 h
 have c:=(WH _).1 f;have m:=j.1
 have l:=c.1;refine Q3 (sP hF (by omega)) ?_
 unfold HM;rw[h,f]
 show some _=some (GY a.t_ b.t_);congr 1
 rw[eV,lq,vP j.2.1 c.2.1];have i:=AR (UU a.t_ b.t_ 2)
 have e:∀x y,Qp (Q8 a.t_ x y) (Q8 b.t_ x y) 2=true↔Q8 a.t_ x y=true/\Q8 b.t_ x y=true:=λx y=>by simp[Qp]
 constructor
 .intro d
  refine nh λk=>?_
  have:cn (λx y=>Qp (Q8 a.t_ x y) (Q8 b.t_ x y) 2)=[]:=i.2 λx y=>by
   rw[<-gk,e];exact λg=>k ⟨x,y,g⟩
  rw[this]at d;simp at d
 .rintro ⟨x,y,g⟩
  rcases lA (cn λx y=>Qp (Q8 a.t_ x y) (Q8 b.t_ x y) 2).length with d|d
  .have:=i.1 (iH d) x y
   rw[(e x y).2 g]at this;cases this
  .omega
theorem yN(F:Nat)(l:ζ):GC F l=some (if 120<l.length then(⟨[]⟩,1)else(⟨l⟩,0)):=by
 unfold GC;refine Z9 (λh=>?_) (λh=>?_)
 .have h:120<l.length:=by simp at h;omega
  rw[av h]
 .have h:¬120<l.length:=by simp at h;omega
  rw[an h]
theorem yO(hF:Q6<=F)(hl:l.length<=32768)(hpos:∀r∈l,r.L_<r.R_):Js F l=some (if 120<(cn (Q8 l)).length then(⟨[]⟩,1)else(⟨cn (Q8 l)⟩,0)):=by
 unfold Js;refine Q3 (yB hF hl hpos) ?_
 exact Q3 (yN F _) rfl
def Zy(L:ω)(d:Int)(p:Int->Bool):ζ:=(L.filter λf=>Pa f d&&p f.k_).flatMap λf=>f.g_.t_
theorem vC(f:aP)(L:ω)(d:Int)(p:Int->Bool):Zy (f::L) d p=(if(Pa f d&&p f.k_)=true then f.g_.t_ else[])++Zy L d p:=by
 unfold Zy;rw[iX]
 split
 .rw [ir]
 .rfl
theorem T7{p:Int->Bool}(h:r∈Zy L d p):∃f∈L,r∈f.g_.t_:=by
 obtain⟨f,a,b⟩:=eE.1 h;exact⟨f,(fD.1 a).1,b⟩
theorem Z3f(h:∀f∈L,f.g_.t_.length<=120)(d:Int)(p:Int->Bool):(Zy L d p).length<=120*L.length:=by
 induction L with
 |nil=>simp[Zy]
 |cons f L ih=>
  have b:=ih λg a=>h g (by simp[a])
  have c:=h f (by simp);rw[vC,dK,dz]
  split
  .omega
  .simp;omega
theorem pL(hF:Q6<=F)(hl:L.length<=10000)(hr:∀ f ∈ L,f.g_.t_.length<=120)(d:Int){q:Int->π}(p:Int->Bool)(hq:∀ f ∈ L,q f.k_=some (p f.k_)):
  MD F L d q=some (Zy L d p):=by
 unfold Q6 at hF;unfold MD
 refine GU (l:=L) (I:=λl s=>s.length+120*l.length<=2000000/\∀f∈l,f.g_.t_.length<=120) (λl s=>some (s++Zy l d p)) (λa i s o g n=>?_) (λa s _=>?_) (by omega) ⟨by simp;omega,hr⟩
 .obtain ⟨g,c⟩:=g
  have r:=c _ (dZ ..);rw[dz]at g
  have m:∀b:Bool,b=(Pa (gl L i) d&&p (gl L i).k_)->MC F L i s a b=some (s++Zy (gl L i::L.drop (i+1)) d p):=by
   intro b j;unfold MC
   rw[vC];refine Z9 (λh=>?_) (λh=>?_)
   .rw [<-j,av h]
    simp only[dh];refine Q5 (by unfold Y2;omega) ?_
    unfold MB;refine Z7 (k:=?_)
    rw[n _ ⟨by rw[dK];omega,λf e=>c f (eB _ e)⟩,fR]
   .rw [<-j,an (by simp[h])]
    unfold MB;refine Z7 (k:=?_)
    rw[n _ ⟨by omega,λf e=>c f (eB _ e)⟩];rfl
  unfold Lo;refine Y8 (Vo o) ?_
  refine Z7 (k:=?_);simp only[dh]
  refine Q3 (B6 F _ d) ?_;refine Z9 (λh=>?_) (λh=>?_)
  .refine Q3 (hq _ (y3 o)) ?_
   exact m _ (by rw[h];rfl)
  .exact m _ (by rw[h];rfl)
 .show Lo F L d q a (L.length:Int) s=_
  unfold Lo kz;refine Z4 (Uo _) ?_
  simp[Zy]
theorem zN{α:Type}[aN α](hF:Q6<=F){a b:List α}(ha:a.length<=1000000)(hb:b.length<=1000000):Kh F [a,b]=some (a++b):=by
 unfold Q6 at hF;obtain⟨m,rfl⟩:∃m,F=m+3:=⟨F-3,by omega⟩
 have c:gl [a,b] (0:Int).toNat=a:=rfl;have d:gl [a,b] (1:Int).toNat=b:=rfl
 have k1:Pn (m+3) [a,b] (((a.length:Nat):Int)+((b.length:Nat):Int))=some (a++b):=by
  unfold Pn;refine Q3 (a:=[]) (by unfold Xl;rw[av (by unfold Y2;omega)]) ?_
  show Gq (m+3) [a,b] _ 0 []=_;unfold Gq
  refine Y8 rfl ?_;rw[c]
  refine Z7 (k:=?_);refine Q5 (by simp[Y2];omega) ?_
  refine Z7 (k:=?_);show Gq (m+3) [a,b] _ 1 ([]++a)=_
  unfold Gq;refine Y8 rfl ?_
  rw[d];refine Z7 (k:=?_)
  refine Q5 (by simp[Y2];omega) ?_;refine Z7 (k:=?_)
  show Gq (m+3) [a,b] _ 2 (([]++a)++b)=_;unfold Gq
  refine Z4 rfl ?_;unfold DM
  simp
 show Gr (m+3) [a,b] _ 0 0=_;unfold Gr
 refine Y8 rfl ?_;rw[c]
 refine Z7 (k:=?_);refine Z7 (k:=?_)
 refine Z4 (by simp<;>omega) ?_;refine Z7 (k:=?_)
 show Gr (m+3) [a,b] _ (0+((a.length:Nat):Int)) 1=_;unfold Gr
 refine Y8 rfl ?_;rw[d]
 refine Z7 (k:=?_);refine Z7 (k:=?_)
 refine Z4 (by simp<;>omega) ?_;refine Z7 (k:=?_)
 show Gr (m+3) [a,b] _ (0+((a.length:Nat):Int)+((b.length:Nat):Int)) 2=_;unfold Gr
 refine Z4 rfl ?_;rw[Int.zero_add]
 exact k1
theorem rz(hF:Q6<=F){l:ψ}(hl:l.length<=1000000)(x:Int):Hb F l x=some (K8 l x):=by
 unfold Q6 at hF;have c:∃i:Int,WU F l (λa=>Ks F a x)=some i/\(0<=i↔K8 l x=true):=by
  have m:∀s:aq,Ks F s x=some (s.has x):=λs=>by
   unfold Ks;rw[YS (TG F)];rfl
  have j:∀(n i:Nat),i<=l.length->l.length-i<n->∃r:Int,Y4 (λagain (z:Int)=>WI F l (λa=>Ks F a x) again z) n (i:Int)=some r/\(0<=r↔K8 (l.drop i) x=true):=by
   intro n
   induction n with
   |zero=>intro i _ h;omega
   |succ n ih=>
    intro i p q;show ∃r:Int,WI F l (λa=>Ks F a x) (Y4 (λagain (z:Int)=>WI F l (λa=>Ks F a x) again z) n) (i:Int)=some r/\_
    by_cases h:i<l.length
    .have e:K8 (l.drop i) x=((gl l i).has x||K8 (l.drop (i+1)) x):=gI h λs=>s.has x
     rw[e]
     by_cases b:(gl l i).has x=true
     .refine ⟨i,?_,by rw[b];simp⟩
      unfold WI;refine Y8 (Vo h) ?_
      refine Z7 (k:=?_);exact Q3 (m _) (Y8 b rfl)
     .have b:(gl l i).has x=false:=by simpa using b
      obtain⟨r,o,g⟩:=ih (i+1) h (by omega);refine⟨r,?_,by rw[g,b];simp⟩
      unfold WI;refine Y8 (Vo h) ?_
      refine Z7 (k:=?_);refine Q3 (m _) (Z4 b ?_)
      refine Z7 (k:=?_);exact o
    .have:i=l.length:=by omega
     subst this;refine⟨-1,?_,by simp[K8]⟩
     unfold WI;exact Z4 (Uo _) rfl
  obtain⟨r,f,d⟩:=j F 0 (dW _) (by omega);exact⟨r,f,by simpa using d⟩
 obtain⟨i,f,d⟩:=c;unfold Hb Yk
 refine Q3 (Q3 f rfl) ?_;congr 1
 rw[eV, <-d,lq]
theorem IX(hF:Q6<=F){a b:ψ}(ha:a.length<=1000000)(hb:b.length<=1000000){f:Int->Bool}{k:Bool->Bool->Bool}(hq:∀u v,q u v=some (k u v))(hst:ep false es f)(hf:∀x,f x=k (K8 a x) (K8 b x))(hes:es.length<=8000000):Y4 (λagain (z:Int×ψ)=>Ha F a b q es again z.1 z.2) F ((1:Int),([]:ψ))=some (Zh f):=by
 have o:=hF;unfold Q6 at hF
 by_cases h0:es.length=0
 .obtain ⟨m,rfl⟩:∃m,F=m+1:=⟨F-1,by omega⟩
  show Ha (m+1) a b q es _ 1 []=_;unfold Ha TC
  refine Z4 (by simp[h0]) ?_;rw[Sw (hst.empty h0)]
 .refine z5 (λz:Int×ψ=>∃(i:Nat) (e:ψ),z=(((i+1:Nat):Int),e)/\i+1<=es.length/\fK false f (e.map aq.rn) (gl es i)/\e.length<=i) (λz=>es.length-z.1.toNat) (λagain z E D=>?_) ⟨0,[],rfl,by omega,hst.start (by omega),by simp⟩ (by simp;omega)
  obtain⟨i,e,rfl,H,g,n⟩:=E;simp only
  unfold Ha;refine Z9 (λh=>?_) (λh=>?_)
  .have h:i+1<es.length:=by simp at h;omega
   have A:(((i+1:Nat):Int)-1).toNat=i:=by omega
   have B:((i+1:Nat):Int).toNat=i+1:=by omega
   have j:=hst.asc.at_lt (show i<i+1 by omega) h;refine Z7 (k:=?_)
   refine Z7 (k:=?_);rw[A]
   refine Q3 (rz o ha _) ?_;refine Q3 (rz o hb _) ?_
   refine Q3 (hq _ _) ?_;rw[<-hf]
   have d:∀c : ψ,fK false f (c.map aq.rn) (gl es (i+1))->c.length<=i+1->Py F ((i+1:Nat):Int) again c=some (Zh f):=by
    intro c r w;unfold Py
    refine Z7 (k:=?_);exact D _ ⟨i+1,c,by simp,h,r,w⟩ (by simp;omega)
   cases hfe:f (gl es i)with
   |false=>
    refine Y8 rfl ?_;exact d e (g.skip (by omega) λt r w=>(hst.gap i h t r w).trans hfe) (by omega)
   |true=>
    refine Z4 rfl ?_;rcases lF e with rfl|⟨l,s,y⟩
    .refine Z4 rfl ?_
     unfold DZ;refine Z4 rfl ?_
     rw[A,B];refine Z7 (k:=?_)
     refine Q5 (by simp[Y2]) ?_;refine d _ ?_ (by simp)
     have:=g.add j (hst.gap i h) (λa ha=>by simp at ha)
     rw[hfe]at this;exact this
    .rw [lK]at y
     subst y;have C:(((l ++ [s]).length:Nat):Int)-1=((l.length:Nat):Int):=by simp
     have p:(((l.length:Nat):Int)).toNat=l.length:=by omega
     refine Y8 (by simp<;>omega) ?_;rw[C,p]
     refine Z7 (k:=?_);refine Q5 (by simp<;>omega) ?_
     rw[Xm l s rfl];unfold DZ
     by_cases hs:s.R_=gl es i
     .refine Y8 (by simp[hs]) ?_
      rw[C,p,B];refine Z7 (k:=?_)
      refine Z7 (k:=?_);refine Q5 (by simp<;>omega) ?_
      rw[Xm l s rfl,SX l s _ rfl];refine d _ ?_ (by simp at n⊢;omega)
      rw[fe]at g;have:=g.grow (a:=s.rn) hs j λt r w=>(hst.gap i h t r w).trans hfe
      rw[fe];exact this
     .refine Z4 (by simpa using hs) ?_
      rw[A,B];refine Z7 (k:=?_)
      refine Q5 (by simp[Y2]at n⊢;omega) ?_;refine d _ ?_ (by simp at n⊢;omega)
      have:=g.add j (hst.gap i h) (λa ha G=>by
       rw[fe]at ha;simp at ha
       subst ha;exact absurd G hs)
      rw[hfe]at this;rw[fe];exact this
  .have h:i+1=es.length:=by simp at h;omega
   unfold TC;congr 1
   refine(Gm (.of_runs g.runs) λx=>?_).symm;rw[Mp];exact hst.done h g x
def Xv(l:ψ):θ:=l.flatMap λs=>[s.L_,s.R_]
theorem kN(l:ψ):(Xv l).length=2*l.length:=by
 induction l with
 |nil=>rfl
 |cons s l ih=>unfold Xv at ih⊢;rw[ir,dK,ih];simp;omega
theorem se{l:ψ}{c:θ}(hc:Yx c)(hm:∀s∈l,s.L_∈c/\s.R_∈c)(hi:i+1<c.length){t:Int}(h1:gl c i<=t)(h2:t<gl c (i+1)):K8 l t=K8 l (gl c i):=by
 unfold K8
 induction l with
 |nil=>rfl
 |cons s l ih=>
  rw[lh,lh,ih λq e=>hm q (by simp[e])];congr 1
  obtain⟨b,d⟩:=hm s (by simp);have a:=hc.gap hi h1 h2 b
  have g:=hc.gap hi h1 h2 d;unfold aq.has
  have d1:decide (s.L_<=t)=decide (s.L_<=gl c i):=by simp only[a]
  have f:decide (t<s.R_)=decide (gl c i<s.R_):=by rw[nc];omega
  rw[d1,f]
theorem pm{l:ψ}{t:Int}(h:∀s∈l,¬(s.L_<=t/\t<s.R_)):K8 l t=false:=by
 unfold K8;rw[fZ]
 intro s a;have:=h s a
 simp only[aq.has,dc,dT];exact this
theorem Z1Z(hF:Q6<=F){a b:ψ}(ha:a.length<=1000000)(hb:b.length<=1000000){k:Bool->Bool->Bool}(hk:k false false=false)(hq:∀ u v,q u v=some (k u v)):
  TF F a b q=some (Zh λx=>k (K8 a x) (K8 b x)):=by
 have h:=hF;unfold Q6 at hF
 unfold TF;refine Q3 (zN h ha hb) ?_
 have H:(a++b).length<=2000000:=by rw[dK];omega
 refine GU (l:=a++b) (I:=λl s=>s++Xv l=Xv (a++b)) (λ_ _=>some (Zh λx=>k (K8 a x) (K8 b x))) (λg i s n o K=>?_) (λg s o=>?_) (by omega) rfl
 .have y:=kN (a++b)
  have E:s.length+2<=(Xv (a++b)).length:=by
   rw[<-o,dK,kN];simp;omega
  unfold TE;refine Y8 (Vo n) ?_
  refine Z7 (k:=?_);simp only[dh]
  refine Q5 (by simp[Y2];omega) ?_;refine Z7 (k:=?_)
  refine K _ ?_;rw[<-o,fR];rfl
 .have A:s=Xv (a++b):=by rw[<-o];simp[Xv]
  show TE F a b q (a++b) g (((a++b).length:Nat):Int) s=_;unfold TE
  refine Z4 (Uo _) ?_;unfold yz
  have y:=kN (a++b);obtain⟨r,G,C,p,z⟩:=Q9p (l:=s) (by rw[A];unfold Y2;omega)
  refine Q3 G ?_;have M:r.length<=4000000:=by rw[z,A];omega
  refine Q3 (vd h (by unfold Y2;omega)) ?_;have L:=kP r
  have d:=kQ r C;have c:∀l,l=a\/l=b->∀s∈l,s.L_∈dd r/\s.R_∈dd r:=by
   intro l m q B;have:q∈a++b:=by rcases m with rfl|rfl<;>simp[B]
   have j:∀v,v∈[q.L_,q.R_]->v∈dd r:=λv J=>(CY r v).2 ((p v).2 (by rw[A];exact eE.2 ⟨q,this,J⟩))
   exact⟨j _ (by simp),j _ (by simp)⟩
  refine IX h ha hb hq (f:=λx=>k (K8 a x) (K8 b x)) ⟨d,λi n t D j=>?_,λt w=>?_,λt w=>?_⟩ (λ_=>rfl) (by omega)
  .simp only[se d (c a (.inl rfl)) n D j,se d (c b (.inr rfl)) n D j]
  .have e:∀l,l=a\/l=b->K8 l t=false:=λl m=>pm λq hq=>by have:=w _ (c l m q hq).1;omega
   simp only[e a (.inl rfl),e b (.inr rfl),hk]
  .have e:∀l,l=a\/l=b->K8 l t=false:=λl m=>pm λq hq=>by have:=w _ (c l m q hq).2;omega
   simp only[e a (.inl rfl),e b (.inr rfl),hk]
theorem Hj(hF:Q6<=F)(hl:a.length+b.length<=16000)(ha:∀ r ∈ a,r.L_<r.R_)(hb:∀ r ∈ b,r.L_<r.R_){k:Bool->Bool->Bool}(hk:k false false=false)(hq:∀ u v,q u v=some (k u v)):
  Yb F a b q=some (cn λx y=>k (Q8 a x y) (Q8 b x y)):=by
 unfold Yb;have d:fc (Zp b (Zp a [])) (VS [a,b]) λx y=>k (Q8 a x y) (Q8 b x y):=
  fc.of (Uw b (Uw a .nil)) (Am _) (λr c=>⟨(ZX b _ _).2 (.inl ((ZX a _ _).2 (.inr ⟨r,c,.inl rfl⟩))),(ZX b _ _).2 (.inl ((ZX a _ _).2 (.inr ⟨r,c,.inr rfl⟩)))⟩)
   (λr c=>⟨(ZX b _ _).2 (.inr ⟨r,c,.inl rfl⟩),(ZX b _ _).2 (.inr ⟨r,c,.inr rfl⟩)⟩) (ge _ (by simp)) (ge _ (by simp)) hk
 have e:=vU a (ls:=[a,b]) (by simp);have f:=vU b (ls:=[a,b]) (by simp)
 have i:WP [a,b]=a.length+b.length:=by simp[WP]
 have g:=wi [a,b];have m:=tt (a:=a) (b:=b)
 refine Q3 (yQ hF (by omega) (by simp)) ?_;refine Q3 (p9 hF d.rows d.step (by omega) (λy=>?_) (λy=>?_)) rfl
 .unfold yV
  have h:=(e.x y).spn_len;have j:=(f.x y).spn_len
  have o:=LI (l:=a);have n:=LI (l:=b)
  refine Q3 (TN hF (by omega) ha y) ?_;refine Q3 (TN hF (by omega) hb y) ?_
  refine Q3 (Z1Z hF (by omega) (by omega) hk hq) ?_;congr 2
  funext x
  rw[(e.rows.sp y).2 x,(f.rows.sp y).2 x]
 .have:=(d.x y).spn_len
  omega
def Sm(r:aa):Prop:= -1000000<=r.L_/\r.L_<=1000000 /\ -1000000<=r.w_/\r.w_<=1000000 /\ -1000000<=r.R_/\r.R_<=1000000 /\ -1000000<=r.H_/\r.H_<=1000000
theorem NG(h:Zj r=true):Sm r:=by
 rw[Wy]at h;unfold Sm;omega
def Xd(a b:aa):Int:=y9 0 (QL a.H_ b.H_-y9 a.w_ b.w_)
def KJ(a b:aa):Int:=y9 0 (QL a.R_ b.R_-y9 a.L_ b.L_)
def pJ(a b:aa):Bool:=a.R_==b.L_||b.R_==a.L_
def SS(a b:aa):Bool:=a.H_==b.w_||b.H_==a.w_
def gf(a b:aa):Int:=(if pJ a b=true then Xd a b else 0)+(if SS a b=true then KJ a b else 0)
theorem Ij{a b:aa}(ha:Sm a)(hb:Sm b):0<=Xd a b/\Xd a b<=2000000 /\ -2000000<=QL a.H_ b.H_-y9 a.w_ b.w_/\QL a.H_ b.H_-y9 a.w_ b.w_<=2000000:=by
 unfold Sm at ha hb;unfold Xd y9 QL
 repeat' split
 all_goals omega
theorem M4{a b:aa}(ha:Sm a)(hb:Sm b):0<=KJ a b/\KJ a b<=2000000 /\ -2000000<=QL a.R_ b.R_-y9 a.L_ b.L_/\QL a.R_ b.R_-y9 a.L_ b.L_<=2000000:=by
 unfold Sm at ha hb;unfold KJ y9 QL
 repeat' split
 all_goals omega
theorem sw{a b:aa}(ha:Sm a)(hb:Sm b)(h1:0<=v)(h2:v<=2000000)(c:Bool):DQ F a b v c=some (v+if c=true then KJ a b else 0):=by
 obtain⟨f,g,d,e⟩:=M4 ha hb;unfold DQ
 cases c with
 |true=>
  refine Y8 rfl ?_;refine Q5 (U4 (by omega) (by omega)) ?_
  show gd (Q7 (v+KJ a b)) _=_;refine Q5 (U4 (by omega) (by omega)) ?_
  rfl
 |false=>
  refine Z4 rfl ?_;show some v=some (v+0)
  rw[Int.add_zero]
theorem tG{a b:aa}(ha:Sm a)(hb:Sm b)(h1:0<=v)(h2:v<=2000000):Po F a b v=some (v+if SS a b=true then KJ a b else 0):=by
 unfold Po;rw[sw ha hb h1 h2,sw ha hb h1 h2]
 unfold SS
 cases a.H_==b.w_<;>rfl
theorem wW{a b:aa}(ha:Sm a)(hb:Sm b)(c:Bool):DR F a b c=some ((if c=true then Xd a b else 0)+if SS a b=true then KJ a b else 0):=by
 obtain⟨f,g,d,e⟩:=Ij ha hb;unfold DR
 cases c with
 |true=>
  refine Y8 rfl ?_;refine Q5 (U4 (by omega) (by omega)) ?_
  show gd (Q7 (0+Xd a b)) _=_;refine Q5 (U4 (by omega) (by omega)) ?_
  show Po F a b (0+Xd a b)=_;rw[tG ha hb (by omega) (by omega)]
  simp
 |false=>
  refine Z4 rfl ?_;rw[tG ha hb (by omega) (by omega)]
  rfl
theorem Z0D(F:Nat){a b:aa}(ha:Sm a)(hb:Sm b):SU F a b=some (gf a b):=by
 unfold SU;rw[wW ha hb,wW ha hb]
 unfold gf pJ
 cases a.R_==b.L_<;>rfl
def ZA(a b:aa):Bool:=decide (0<gf a b)
theorem o3{F:Nat}{q:ζ}{r:aa}{i:Nat}(hi:i<q.length)(hl:q.length<=1000000)(hq:∀ s ∈ q,Sm s)(hr:Sm r):
  DS F r q i=some (if ZA (gl q i) r=true then q++[r]else q,ZA (gl q i) r):=by
 unfold DS;refine Q5 (by omega) ?_
 simp only[dh];refine Q3 (Z0D F (hq _ (y3 hi)) hr) ?_
 show SV F r q (ZA (gl q i) r)=_;unfold SV
 cases ZA (gl q i) r with
 |true=>
  refine Y8 rfl ?_;refine Q5 (by simp[Y2];omega) rfl
 |false=>exact Z4 rfl rfl
theorem Z5r(hF:Q6<=F){q:ζ}(hk:k<q.length)(hl:l.length<=900000)(hql:q.length<=900000)(hq:∀ s ∈ q,Sm s)(hr:∀ r ∈ l,Sm r):
  SE F l q k=some (l,if l.any (ZA (gl q k))=true then q++[gl l (l.findIdx (ZA (gl q k)))]else q,YF (ZA (gl q k)) l):=by
 unfold Q6 at hF;unfold SE
 refine z5 (λz:Int×ζ=>∃i:Nat,z=((i:Int),q)/\i<=l.length/\∀j,j<i->ZA (gl q k) (gl l j)=false) (λz=>l.length-z.1.toNat) (λd z m e=>?_) ⟨0,rfl,by omega,λj g=>by omega⟩ (by simp;omega);obtain⟨i,rfl,n,c⟩:=m
 simp only at e⊢;unfold bI
 refine Z9 (λh=>?_) (λh=>?_)
 .have h:i<l.length:=by simpa using h
  refine Z7 (k:=?_);simp only[dh]
  refine Q3 (o3 hk (by omega) hq (hr _ (y3 h))) ?_;simp only
  refine Z9 (λa=>?_) (λa=>?_)
  .have b:l.any (ZA (gl q k))=true:=fA.2 ⟨_,y3 h,a⟩
   rw[av a,YF,av b,av b,kr h c a]
  .rw [a,an (by simp)]
   refine Z7 (k:=?_);refine e _ ⟨i+1,rfl,h,λj g=>?_⟩ (by simp only;omega)
   rcases eK j i with f|f
   .exact c j f
   .have:j=i:=by omega
    subst this;exact a
 .have h:¬i<l.length:=by simpa using h
  have:i=l.length:=by omega
  subst this;have b:=qp c
  rw[YF,b];rfl
theorem Z7c(hF:Q6<=F){q:ζ}(hk:k<q.length)(hl:l.length+q.length<=900000)(hq:∀ s ∈ q,Sm s)(hr:∀ r ∈ l,Sm r):
  SI F l q k=some (q++l.filter (ZA (gl q k)),l.filter λr=> !ZA (gl q k) r):=by
 have E:=hF;unfold Q6 at hF
 unfold SI;refine Q3 (Z5r E hk (by omega) (by omega) hq hr) ?_
 generalize a:ZA (gl q k)=p;simp only
 by_cases f:l.any p=true
 .obtain ⟨x,e,J⟩:=fA.1 f
  have d:l.findIdx p<l.length:=nN ⟨x,e,J⟩;have u:p (gl l (l.findIdx p))=true:=by rw[G8 d];exact oJ (w:=d)
  have v:∀j,j<l.findIdx p->p (gl l j)=false:=by
   intro j t;rw[G8 (by omega)]
   simpa using rN t
  rw[YF,av f,av f];refine Z4 (by simp) ?_
  refine Z7 (k:=?_);generalize l.findIdx p=i0 at *
  have C:(l.take i0).filter (λr=> !p r)=l.take i0:=by
   rw[mg];intro x e
   obtain⟨j,t,rfl⟩:=eZ e;have o : j<i0:=by simp at t;omega
   have:=v j o
   rw[G8 (by omega)]at this;simp[this]
  have I:(l.take i0).filter p=[]:=by
   rw[nG];intro x e
   obtain⟨j,t,rfl⟩:=eZ e;have o : j<i0:=by simp at t;omega
   have:=v j o
   rw[G8 (by omega)]at this;simp[this]
  have Q:(l.take (i0+1)).filter (λr=> !p r)=l.take i0:=by
   rw[Za d,ig,C];simp[u]
  have H:(l.take (i0+1)).filter p=[gl l i0]:=by
   rw[Za d,ig,I];simp[u]
  refine z5 (λz:Int×Int×ζ×ζ=>∃(i j:Nat) (b:ζ),z=((i:Int),(j:Int),b,q++(l.take j).filter p)/\i<j/\j<=l.length/\b.length=l.length/\(∀m,j<=m->gl b m=gl l m)/\b.take i=(l.take j).filter λr=> !p r)
   (λz=>l.length-z.2.1.toNat) (λK z P D=>?_) ⟨i0,i0+1,l,by rw[H];rfl,by omega,by omega,rfl,λ_ _=>rfl,Q.symm⟩ (by simp only;omega)
  obtain⟨i,j,b,rfl,M,t,c,n,g⟩:=P;simp only at D⊢
  unfold bX;rw[c]
  have N:((l.take j).filter p).length<=j:=by
   have:=iQ p (l.take j)
   simp at this;omega
  have G:gl (q++(l.take j).filter p) k=gl q k:=by simp[gl,aY,iq,hk]
  refine Z9 (λh=>?_) (λh=>?_)
  .have h:j<l.length:=by simpa using h
   refine Z7 (k:=?_);simp only[dh]
   rw[n j (di _)];refine Q3 (o3 (by simp;omega) (by simp;omega) (λs A=>?_) (hr _ (y3 h))) ?_
   .rcases dv.1 A with A|A
    .exact hq s A
    .exact hr s (j9 (fD.1 A).1)
   rw[G,a];have y:(l.take (j+1)).filter (λr=> !p r)=(l.take j).filter (λr=> !p r)++(if p (gl l j)=true then[]else[gl l j]):=by
    rw[Za h,ig]
    by_cases a:p (gl l j)=true
    .rw [av a];simp[a]
    .rw [an a];simp[a]
   have B:(l.take (j+1)).filter p=(l.take j).filter p++(if p (gl l j)=true then[gl l j]else[]):=by
    rw[Za h,ig]
    by_cases a:p (gl l j)=true
    .rw [av a];simp[a]
    .rw [an a];simp[a]
   simp only
   refine Z9 (λa=>?_) (λa=>?_)
   .have a:p (gl l j)=false:=by simpa using a
    refine Z7 (k:=?_);refine Z7 (k:=?_)
    unfold DJ;refine Z7 (k:=?_)
    rw[a,an (by simp)];refine D _ ⟨i+1,j+1,b.set i (gl l j),?_,by omega,by omega,by simp[c],λm L=>?_,?_⟩ (by simp only;omega)
    .rw [B,a,an (by simp),fW];rfl
    .rw [Bq _ _ _ _ (by omega),an (by omega)];exact n m (by omega)
    .rw [y,an (by rw[a];simp), <-g,Za (by simp;omega),zy _ _ _ _ (di _),Bq _ _ _ _ (by omega),av rfl]
   .have a:p (gl l j)=true:=by simpa using a
    unfold DJ;refine Z7 (k:=?_)
    rw[a,av rfl];refine D _ ⟨i,j+1,b,?_,by omega,by omega,c,λm L=>n m (by omega),?_⟩ (by simp only;omega)
    .rw [B,a,av rfl, <-fR];rfl
    .rw [y,av a,fW,g]
  .have h:¬j<l.length:=by simpa using h
   have O:j=l.length:=by omega
   unfold zL;simp only[dh,gi,c]
   refine Z7 (k:=?_);refine Z7 (k:=?_)
   rw[zA _ _ _ (by omega),g,lz (by omega)]
 .have f:l.any p=false:=by simpa using f
  rw[YF,f];refine Y8 rfl ?_
  have C:l.filter p=[]:=by
   rw[nG];intro x e
   have:=fZ.1 f x e
   simpa using this
  have I:l.filter (λr=> !p r)=l:=by
   rw[mg];intro x e
   have:=fZ.1 f x e
   simpa using this
  rw[C,I];simp
def jn:Nat->ζ->Nat->ζ->ζ×ζ
 |0,q,_,rest=>(q,rest)
 |n+1,q,k,rest=>if k<q.length then jn n (q++rest.filter (ZA (gl q k))) (k+1) (rest.filter λr=> !ZA (gl q k) r)else(q,rest)
def Ut:ζ->ζ×ζ
 |[]=>([],[])
 |a::l=>jn (l.length+2) [a] 0 l
theorem rL{α:Type}(p:α->Bool)(l:List α):(l.filter p).length+(l.filter λr=> !p r).length=l.length:=by
 induction l with
 |nil=>rfl
 |cons a l ih=>by_cases h:p a=true<;>simp[h]<;>omega
theorem Z9T(h:l.length<=Y2):SQ F l=some l:=by
 unfold SQ
 cases h:l with
 |nil=>
  show Xn _ _=_;unfold Xn
  exact @Q5 _ _ (Classical.propDecidable _) _ _ rfl rfl
 |cons a l' =>
  have:(a::l').length=l'.length+1:=rfl
  show(gd _ _)=_;rw[<-h]
  refine Z7 (k:=?_);simp
theorem Nt(hF:Q6<=F)(hne:l≠[])(hl:l.length<=400000)(hs:∀r∈l,Sm r):SW F l=some (Ut l):=by
 have f:=hF;unfold Q6 at hF
 cases l with
 |nil=>exact absurd rfl hne
 |cons a l=>
  simp only[dz]at hl;unfold SW
  refine Q5 (by simp only[dz];omega) ?_;refine Q5 (by simp only[dz];omega) ?_
  have m:(1:Int).toNat=1:=rfl;rw[m]
  refine Q3 (Z9T (by simp[Y2];omega)) ?_;simp only[List.drop_succ_cons,lJ,wd,lG]
  refine z5 (λz:ζ×Int×ζ=>∃(n k:Nat) (q b:ζ),z=(b,(k:Int),q)/\k<=q.length/\q.length+b.length=l.length+1/\(∀r∈q++b,Sm r)/\l.length+2<=n+k/\jn n q k b=Ut (a::l))
   (λz=>l.length+2-z.2.1.toNat) (λg z o i=>?_) ⟨l.length+2,0,[a],l,rfl,by simp,by simp;omega,λr c=>hs r (by simpa using c),by omega,rfl⟩ (by simp;omega)
  obtain⟨n,k,q,b,rfl,p,j,d,t,e⟩:=o;simp only at i⊢
  unfold x9 zY
  cases n with
  |zero=>omega
  |succ n=>
  rw[jn]at e;refine Z9 (λh=>?_) (λh=>?_)
  .have h:k<q.length:=by simpa using h
   rw[av h]at e;refine Q3 (Z7c f h (by omega) (λs hs=>d s (by simp[hs])) (λs hs=>d s (by simp[hs]))) ?_
   refine Z7 (k:=?_);have u:=rL (ZA (gl q k)) b
   refine i _ ⟨n,k+1,_,_,rfl,by simp;omega,by simp;omega,λr c=>d r ?_,by omega,e⟩ (by simp only;omega);simp only[dv,fD]at c⊢
   rcases c with (c|c)|c
   .exact .inl c
   .exact .inr c.1
   .exact .inr c.1
  .have h:¬k<q.length:=by simpa using h
   rw[an h]at e;unfold zX
   rw[e]
def x3(q:ζ):Prop:=∀i,0<i->i<q.length->∃j,j<i/\ZA (gl q j) (gl q i)=true
structure lc (q rest q' rest' : ζ):Prop where
 perm:(q' ++ rest').Perm (q++rest)
 chain:x3 q'
 pre:q <+: q'
 apart:∀r∈q',∀s∈rest',ZA r s=false
theorem OE{α:Type}(p:α->Bool)(l:List α):(l.filter p++l.filter λr=> !p r).Perm l:=List.filter_append_perm p l
theorem T4:∀(n:Nat) (q:ζ) (k:Nat) (rest:ζ),q.length+rest.length<n+k->k<=q.length->x3 q->(∀i,i<k->∀s∈rest,ZA (gl q i) s=false)->lc q rest (jn n q k rest).1 (jn n q k rest).2:=by
 intro n
 induction n with
 |zero=>intro q k rest u t;omega
 |succ n ih=>
  intro q k rest u t l g;rw[jn]
  by_cases hk:k<q.length
  .rw [av hk]
   have x:=rL (ZA (gl q k)) rest;have d:∀i,i<q.length->gl (q++rest.filter (ZA (gl q k))) i=gl q i:=λi a=>by simp[gl,aY,iq,a]
   have h:=ih (q++rest.filter (ZA (gl q k))) (k+1) (rest.filter λr=> !ZA (gl q k) r) (by simp;omega) (by simp;omega) (λi a e=>?_) (λi a s f=>?_)
   .refine ⟨h.perm.trans ?_,h.chain,?_,h.apart⟩
    .rw [fR]
     exact(OE _ rest).append_left q
    .exact (List.prefix_append _ _).trans h.pre
   .by_cases hiq:i<q.length
    .obtain ⟨j,v,w⟩:=l i a hiq
     exact⟨j,v,by rw[d i hiq,d j (by omega)];exact w⟩
    .refine ⟨k,by omega,?_⟩
     rw[d k hk];have o:gl (q++rest.filter (ZA (gl q k))) i∈rest.filter (ZA (gl q k)):=by
      have b : i-q.length<(rest.filter (ZA (gl q k))).length:=by simp at e;omega
      have:gl (q++rest.filter (ZA (gl q k))) i=gl (rest.filter (ZA (gl q k))) (i-q.length):=by
       simp[gl,aY,iq,hiq]
      rw[this];exact y3 b
     exact(fD.1 o).2
   .have c:=fD.1 f
    rcases eK i k with m|m
    .rw [d i (by omega)];exact g i m s c.1
    .have:i=k:=by omega
     subst this;rw[d i hk];simpa using c.2
  .rw [an hk]
   refine⟨nF _,l,List.prefix_refl _,λr p s f=>?_⟩;obtain⟨i,a,rfl⟩:=eZ p
   have:=g i (by simp only at a;omega) s f
   rwa [G8 a]at this
theorem wg(a:aa)(l:ζ):lc [a] l (Ut (a::l)).1 (Ut (a::l)).2:=
 T4 (l.length+2) [a] 0 l (by simp;omega) (by simp) (λi c b=>by simp at b;omega) (λi c=>by omega)
def GW:Nat->ζ->List (ζ)
 |0,_=>[]
 |_+1,[]=>[]
 |n+1,a::l=>(Ut (a::l)).1::GW n (Ut (a::l)).2
def GX(l:ζ):List ζ:=GW l.length l
theorem lc.lens{a:aa}{q r:ζ}(h:lc [a] l q r):q≠[]/\r.length<=l.length:=by
 have b:=h.perm.length_eq;simp at b
 obtain⟨t,d⟩:=h.pre;have:1<=q.length:=by rw[<-d];simp
 exact⟨λc=>by rw[c]at this;simp at this,by omega⟩
theorem Z3D:∀(n:Nat) (l:ζ),l.length<=n->(GW n l).flatten.Perm l:=by
 intro n
 induction n with
 |zero=>intro l b;have:l=[]:=iH (by omega);subst this;exact nF _
 |succ n ih=>
  intro l b
  cases l with
  |nil=>exact nF _
  |cons a l=>
   have h:=wg a l;have:=h.lens.2
   simp only[GW,nW];simp only[dz]at b
   exact((ih _ (by omega)).append_left _).trans h.perm
theorem Aa(l:ζ):(GX l).flatten.Perm l:=Z3D _ l (di _)
def Md(a b:Int×Int):Prop:=a.1<b.1\/(a.1=b.1/\a.2<b.2)
theorem E7{a b:Int×Int}(h:a≠b):Md a b\/Md b a:=by
 unfold Md;have:a.1≠b.1\/a.2≠b.2:=by
  rcases Int.decEq a.1 b.1 with c|c
  .exact .inl c
  .right;intro d;exact h (Prod.ext c d)
 omega
theorem Ir{p:ζ}(hp:p∈GX l)(hr:r∈p):r∈l:=(Aa l).mem_iff.1 (List.mem_flatten.2 ⟨p,hp,hr⟩)
theorem AZ(F:Nat)(hF:Q6<=F)(u v:Int):BI F [u,v]=some (if u≠0 then u else v):=by
 unfold Q6 at hF;obtain⟨F,rfl⟩:∃G,F=G+3:=⟨F-3,by omega⟩
 unfold BI;show XA _ [u,v] _ 0=_
 unfold XA;refine Y8 (by simp) ?_
 refine Q5 (by simp) ?_;have a:gl [u,v] (0:Int).toNat=u:=rfl
 rw[a]
 by_cases hu:u=0
 .subst hu
  refine Z4 (by simp) ?_;refine Q5 (U4 (by omega) (by omega)) ?_
  rw[an (by simp)];show XA _ [0,v] _ (0+1)=_
  unfold XA;refine Y8 (by simp) ?_
  refine Q5 (by simp) ?_;have b:gl [0,v] ((0:Int)+1).toNat=v:=rfl
  rw[b]
  by_cases hv:v=0
  .subst hv
   refine Z4 (by simp) ?_;refine Q5 (U4 (by omega) (by omega)) ?_
   show XA _ [0,0] _ (0+1+1)=_;unfold XA
   exact Z4 (by simp) rfl
  .exact Y8 (by simpa using hv) rfl
 .rw [av hu]
  exact Y8 (by simpa using hu) rfl
theorem Z2i(hF:Q6<=F)(hl:l.length<=120)(hp:∀r∈l,Zj r=true):Hg F l=some (if 120<(cn (Q8 l)).length then(⟨[]⟩,1)else(⟨cn (Q8 l)⟩,0)):=by
 unfold Hg;refine Z4 (by simp;omega) ?_
 refine Q3 (Kg (α:=aa) hF (λr=> !Zj r) (by omega) (λr _=>by unfold yJ;rw[rM];rfl)) ?_;refine Z4 ?_ ?_
 .rw [fZ]
  intro r a;rw[hp r a];simp
 .refine Q3 (yB hF (by omega) (λr a=>((Wy r).1 (hp r a)).2.1)) ?_
  refine Q3 (yN F _) ?_;rfl
theorem Lg(a b:ζ):Fin λx y=>Q8 a x y && !Q8 b x y:=UU a b 3
theorem RK(h:Zj r=true):K7 [r]:=by
 have b:=(Wy r).1 h;exact⟨by simp,λs a=>by rw[dI.1 a];exact h,gp (by omega) (by omega)⟩
theorem B3(h:Zj r=true):cn (Q8 [r])=[r]:=(XE _).1 (RK h).2.2
section
variable {a:aE}{x1 k:Int}{y:Int}
end
theorem sF(h:∀b∈B,b.v.length<=N):(flat B).length<=B.length*N:=by
 induction B with
 |nil=>simp[flat]
 |cons c B ih=>
  have e:flat (c::B)=Qg c++flat B:=rfl;have:=ih λd f=>h d (by simp[f])
  have g:=h c (by simp);rw[e,dK,Wg,dz,fQ]
  omega
def XW(a b:aE):Bool:=Qx a.t_&&(Qx b.t_&&decide (cn (λx y=>Qp (Q8 a.t_ x y) (Q8 b.t_ x y) 3)=[]))
theorem Q7L{a b:aE}(ha:K7 a.t_)(hb:K7 b.t_):XW a b=true↔∀x y,Q8 a.t_ x y=true->Q8 b.t_ x y=true:=by
 unfold XW;rw[Vz ha,Vz hb,eN,eN,dT,AR (UU _ _ _)]
 constructor
 .intro h x y c
  have:=h x y
  simp only[Qp]at this;rw[c]at this
  simpa using this
 .intro h x y
  simp only[Qp]
  cases c:Q8 a.t_ x y with
  |false=>rfl
  |true=>rw[h x y c];rfl
theorem Q8M{l:θ}(h:∀x∈l,0<=x/\x<=M):0<=l.sum/\l.sum<=M*l.length:=by
 induction l with
 |nil=>simp
 |cons x l ih=>
  have d:=h x (by simp);have c:=ih λy b=>h y (by simp[b])
  simp only[iK,dz];have e:M*((l.length+1:Nat):Int)=M*l.length+M:=by rw[Int.natCast_add,Int.mul_add];simp
  omega
theorem cN{f:aa->Int}(h:j<l.length):((l.take (j+1)).map f).sum=((l.take j).map f).sum+f (gl l j):=by
 rw[Za h,fe,mE];simp
def Uy(r:aa):Int:=(r.R_-r.L_)*(r.H_-r.w_)
def KV(l:ζ):Int:=(l.map Uy).sum
theorem tp(h:Zj r=true):0<=Uy r/\Uy r<=268435456:=by
 rw[Wy]at h;unfold Uy
 have c:0<=r.R_-r.L_/\r.R_-r.L_<=16384:=by omega
 have b:0<=r.H_-r.w_/\r.H_-r.w_<=16384:=by omega
 refine⟨Int.mul_nonneg c.1 b.1,?_⟩;have:=Int.mul_le_mul c.2 b.2 b.1 (by omega)
 omega
theorem dL.half{n:Int}:∀{l:ψ},dL l->∀{a:Int},a<=n+1->(∀s∈l,a<=s.L_/\s.R_<=n)->2*(l.length:Int)<=n+1-a
 |[],_,a,ha,_=>by simp;omega
 |s::l,h,a,ha,hb=>by
  have e:=hb s (by simp);have d:=h.pos s (by simp)
  have c:dL l:=⟨λq b=>h.pos q (by simp[b]),(fu.1 h.ch).2⟩;have:=dL.half (n:=n) c (a:=s.R_+1) (by omega) λq b=>⟨by have:=(fu.1 h.ch).1 q b;omega,(hb q (by simp[b])).2⟩
  rw[dz];omega
theorem Wb.half(hc:Wb l){n:Nat}(hb:QZ n l):l.length<=n*((n+1) / 2):=by
 obtain⟨b,g,rfl⟩:=hc;have f:∀c∈b,∃s,s∈c.v:=λc hc=>oV _ (g.ne c hc)
 have d:∀c∈b,∀s∈c.v,(⟨s.L_,c.lo,s.R_,c.hi⟩:aa)∈flat b:=λc hc s e=>eE.2 ⟨c,hc,eF.2 ⟨s,e,rfl⟩⟩
 have j:(b.length:Int)<=n-0:=g.runs.len (by omega) λc hc=>by
  obtain⟨s,e⟩:=f c hc;have:=hb _ (d c hc s e)
  simp only at this;omega
 have h:∀c∈b,c.v.length<=(n+1) / 2:=λc hc=>by
  have:=(g.sp c hc).half (n:=n) (a:=0) (by omega) λs e=>by
   have:=hb _ (d c hc s e)
   simp only at this⊢;omega
  omega
 have m:=sF h;have i:b.length*((n+1) / 2)<=n*((n+1) / 2):=eu _ (by omega)
 omega
section
def Ok{R:Type}(x:Option R)(G:R->Prop):Prop:=∃r,x=some r/\G r
theorem GZ{R:Type}{r:R}{G:R->Prop}(h:G r):Ok (some r) G:=⟨r,rfl,h⟩
theorem Qz{R:Type}{p:Prop}[Decidable p]{x:Option R}{G:R->Prop}(h:p)(k:Ok x G):Ok (gd p x) G:=by unfold gd;rw[av h];exact k
theorem Zz{α R:Type}{x:Option α}{f:α->Option R}{a:α}{G:R->Prop}(h:x=some a)(k:Ok (f a) G):Ok (x.bind f) G:=by rw[h];exact k
theorem Yc{R:Type}{b:Bool}{x y:Option R}{G:R->Prop}(ht:b=true->Ok x G)(hf:b=false->Ok y G):Ok (br b x y) G:=by cases b;exact hf rfl;exact ht rfl
theorem Xa{σ R:Type}{body:(σ->Option R)->σ->Option R}{G:R->Prop}(I:σ->Prop)(μ:σ->Nat)(round:∀again z,I z->(∀z',I z' -> μ z' < μ z->Ok (again z') G)->Ok (body again z) G):∀{n:Nat} {z:σ},I z->μ z<n->Ok (Y4 body n z) G:=by
 intro n
 induction n with
 |zero=>intro z _ h;omega
 |succ n ih=>
  intro z c h;exact round _ z c λz' b d=>ih b (by omega)
section
variable (R:ζ)
end
variable {a:aE}
end
theorem yF(hF:Q6<=F)(hl:l.length<=1000000)(hp:∀r∈l,Zj r=true):PA F l=some (KV l):=by
 unfold Q6 at hF;have b:∀j,0<=((l.take j).map Uy).sum/\((l.take j).map Uy).sum<=268435456*1000000:=λj=>by
  have:=Q8M (l:=(l.take j).map Uy) (M:=268435456) (λx i=>by
   obtain⟨s,f,rfl⟩:=eF.1 i;exact tp (hp s (j9 f)))
  simp only[fL,fE]at this;omega
 unfold PA;refine z5 (λz:Int×Int=>∃j:Nat,z=(((l.take j).map Uy).sum,(j:Int))/\j<=l.length) (λz=>l.length-z.2.toNat) (λc z m d=>?_) ⟨0,by simp,by omega⟩ (by simp;omega)
 obtain⟨j,rfl,p⟩:=m;simp only at d⊢
 have o:=b j;have e:=b (j+1)
 unfold rB;refine Z9 (λh=>?_) (λh=>?_)
 .have h:j<l.length:=by simpa using h
  refine Z7 (k:=?_);simp only[dh]
  have g:=(Wy _).1 (hp _ (y3 h));have n:=tp (hp _ (y3 h))
  rw[cN h]at e;refine Q5 (U4 (by omega) (by omega)) ?_
  refine Q5 (U4 (by omega) (by omega)) ?_;show gd (Q7 (Uy (gl l j))) _=_
  refine Q5 (U4 (by omega) (by omega)) ?_;show gd (Q7 (((l.take j).map Uy).sum+Uy (gl l j))) _=_
  refine Q5 (U4 (by omega) (by omega)) ?_;refine Z7 (k:=?_)
  refine d _ ⟨j+1,?_,h⟩ (by simp only;omega);rw[cN h];rfl
 .have h:¬j<l.length:=by simpa using h
  have:j=l.length:=by omega
  subst this;rw[fG]
  rfl
theorem xv(ht:dw t)(h1:1<=n)(h2:n<=1099511627776):∃t' b,Xh F t n=some (t',b)/\dw t':=by
 obtain⟨c,k,d,e,_,_⟩:=Zd (F:=F) ht h1 h2;refine⟨c,k==n-1,?_,e⟩
 unfold Xh;refine Q3 d ?_
 refine Q5 (U4 (by omega) (by omega)) rfl
section
def zs(k:Int):Int:=if 0<=k/\k<=7 then 0 else if 8<=k/\k<=11 then 1 else 2
theorem Q6E(F:Nat)(k:Int):RC F k=some (zs k):=by
 have j:Vx F k true=some 0:=rfl;have l:JT F true=some 1:=rfl
 have q:JT F false=some 2:=rfl;have e:∀n:Int,(k==n)=decide (k=n):=λn=>by rw[eV];simp
 unfold RC;simp only[e]
 by_cases h:0<=k/\k<=7
 .have f:zs k=0:=by unfold zs;rw[av h]
  rw[f];have b:∀{n:Int} {x:φ},(k≠n->x=some 0)->br (decide (k=n)) (Vx F k (decide (k=n))) x=some 0:=λ{n x} hx=>by
   refine Z9 (λd=>by rw[d];exact j) (λd=>hx (by simpa using d))
  refine b λo=>b λr=>b λp=>b λv=>b λs=>b λu=>b λt=>?_
  rw[show decide (k=7)=true by rw[dT];omega];exact j
 .have c:∀n:Int,0<=n->n<=7->decide (k=n)=false:=λn m g=>by rw[iu];omega
  rw[c 0 (by omega) (by omega),c 1 (by omega) (by omega),c 2 (by omega) (by omega),c 3 (by omega) (by omega),c 4 (by omega) (by omega),c 5 (by omega) (by omega),c 6 (by omega) (by omega),c 7 (by omega) (by omega)];simp only[br]
  unfold Vx;simp only[br,e]
  by_cases g:8<=k/\k<=11
  .have f:zs k=1:=by unfold zs;rw[an h,av g]
   rw[f];have b:∀{n:Int} {x:φ},(k≠n->x=some 1)->br (decide (k=n)) (JT F (decide (k=n))) x=some 1:=λ{n x} hx=>by
    refine Z9 (λd=>by rw[d];exact l) (λd=>hx (by simpa using d))
   refine b λo=>b λr=>b λp=>?_
   rw[show decide (k=11)=true by rw[dT];omega];exact l
  .have f:zs k=2:=by unfold zs;rw[an h,an g]
   rw[f];have i:∀n:Int,8<=n->n<=11->decide (k=n)=false:=λn m g=>by rw[iu];omega
   rw[i 8 (by omega) (by omega),i 9 (by omega) (by omega),i 10 (by omega) (by omega),i 11 (by omega) (by omega)];exact q
def zp(w:Int)(k:Int):Bool:=zs k==w
theorem Im(F:Nat)(k w:Int):RD F k w=some (zp w k):=by
 unfold RD;exact Q3 (Q6E F k) rfl
structure LB (n:Nat) (L:ω):Prop where
 vl:VL L
 box:∀f∈L,QZ n f.g_.t_
 n15:n<=15
theorem Z5L(hc:Wb l){n:Nat}(hb:QZ n l)(hn:n<=15):l.length<=120:=by
 have b:=hc.half hb;have c:n*((n+1) / 2)<=15*8:=lM hn (by omega)
 omega
theorem qP(hf:Fin S){n:Nat}(hn:n<=15)(hb:∀x y,S x y=true->0<=x/\x<n/\0<=y/\y<n):K7 (cn S)/\QZ n (cn S):=by
 have h:=pq (n:=(n:Int)) hf hb;exact⟨⟨Z5L (Gb hf) h hn,h.prop (by omega),Gb hf⟩,h⟩
variable {n:Nat}
theorem LB.rbox(hL:LB n L)(d:Int)(p:Int->Bool):QZ n (Zy L d p):=λr b=>by
 obtain⟨f,c,b⟩:=T7 b;exact hL.box f c r b
theorem LB.rval(hL:LB n L)(d:Int)(p:Int->Bool):K7 (cn (Q8 (Zy L d p)))/\QZ n (cn (Q8 (Zy L d p))):=qP (Zo _) hL.n15 λx y h=>(hL.rbox d p).in h
theorem jo(hF:Q6<=F)(hL:LB n L)(d w:Int):Db F L d w=some (⟨cn (Q8 (Zy L d (zp w)))⟩,0):=by
 have c:=hL.vl.len;unfold Db
 refine Q3 (pL hF (by omega) (λf b=>hL.vl.rlen b) d (zp w) (λf _=>Im F f.k_ w)) ?_;have g:=Z3f (L:=L) (λf b=>hL.vl.rlen b) d (zp w)
 refine Q3 (yO hF (by omega) λr e=>?_) ?_
 .have:=hL.rbox d (zp w) r e
  omega
 .have:=(hL.rval d (zp w)).1.1
  rw[an (by omega)]
theorem qB(hF:Q6<=F)(hv:VL L)(d1:0<=d)(d2:d<=36864){a:aE}(ha:K7 a.t_){m:Int}(m1:0<=m)(m2:m<=268435456):XT F L d m a=some 0:=by
 unfold XT;refine Q3 (D8 hF L d) ?_
 rw[an (by simp[(MW L).2 hv]),an (by omega)];refine Z4 rfl ?_
 refine Q3 (Uk hF a) ?_;rw[Vz ha]
 refine Z4 rfl ?_;refine Z4 (by rw[iu];omega) ?_
 rw[show decide ((268435456:Int)<m)=false by rw[iu];omega];rfl
theorem Q6L(hF:Q6<=F)(hL:LB n L)(d1:0<=d)(d2:d<=36864):RF F L d=some (⟨cn (Q8 (Zy L d (zp 0)))⟩,0):=by
 unfold RF;refine Q3 (qB hF hL.vl d1 d2 K7.nil (by omega) (by omega)) ?_
 refine Z4 rfl ?_;exact Q3 (jo hF hL d 0) rfl
def UK(L:ω)(d:Int)(a:ζ):ζ:=cn λx y=>Q8 (Zy L d (zp 1)) x y&&Q8 a x y
def Ue(L:ω)(d m:Int)(a:ζ):ζ:=((GX (UK L d a)).filter λp=>decide (m<KV p)).flatten
theorem Z6i(a b:ζ):Fin λx y=>Q8 a x y&&Q8 b x y:=UU a b 2
theorem bn(hL:LB n L)(d:Int)(a:ζ):K7 (UK L d a)/\QZ n (UK L d a):=qP (Z6i _ _) hL.n15 λx y h=>(hL.rbox d (zp 1)).in (dc _ _ ▸ h).1
theorem O6{m:Int}(h:r∈Ue L d m a):r∈UK L d a:=by
 obtain⟨p,b,c⟩:=List.mem_flatten.1 h;exact Ir (fD.1 b).1 c
theorem bq(hL:LB n L)(d m:Int)(a:ζ):QZ n (Ue L d m a):=λr b=>(bn hL d a).2 r (O6 b)
theorem bp(hL:LB n L)(d m:Int)(a:ζ):K7 (cn (Q8 (Ue L d m a)))/\QZ n (cn (Q8 (Ue L d m a))):=qP (Zo _) hL.n15 λx y h=>(bq hL d m a).in h
theorem D6{p:ζ->Bool}:∀Q:List ζ,(Q.filter p).flatten.length<=Q.flatten.length
 |[]=>di _
 |q::Q=>by
  have:=D6 (p:=p) Q
  rw[iX,nW,dK];split
  .rw [nW,dK];omega
  .omega
theorem Q6I(hF:Q6<=F)(hL:LB n L)(d1:0<=d)(d2:d<=36864){a:aE}(ha:K7 a.t_){m:Int}(m1:0<=m)(m2:m<=268435456):RE F L d m a=some (⟨cn (Q8 (Ue L d m a.t_))⟩,0):=by
 have f:=hF;unfold Q6 at hF
 have C:=bn hL d a.t_;have s:=C.1.1
 have K:=ha.1;have H:=hL.rval d (zp 1)
 have O:=H.1.1;unfold RE
 refine Q3 (qB f hL.vl d1 d2 ha m1 m2) ?_;refine Z4 rfl ?_
 refine Q3 (jo f hL d 1) ?_;refine Z4 rfl ?_
 refine Q3 (Hj f (by omega) (λr c=>(H.1.2.2.pos c).1) (λr c=>(ha.2.2.pos c).1) (k:=λu v=>u&&v) rfl (λu v=>by cases u<;>cases v<;>rfl)) ?_;have e:(cn λx y=>Q8 (cn (Q8 (Zy L d (zp 1)))) x y&&Q8 a.t_ x y)=UK L d a.t_:=by
  unfold UK;congr 1
  funext x y
  rw[YE (Zo _)]
 rw[e];refine Z4 (by rw[iu];omega) ?_
 have M:=(Aa (UK L d a.t_)).length_eq;refine z5 (λz:ζ×ζ=>∃(k:Nat) (Q:List ζ),Q++GW k z.1=GX (UK L d a.t_)/\z.1.length<=k/\z.1.length<=120/\z.2=(Q.filter λp=>decide (m<KV p)).flatten/\∀r∈z.1,r∈UK L d a.t_) (λz=>z.1.length) (λi z U G=>?_) ⟨_,[],rfl,di _,s,rfl,λ_ h=>h⟩ (by simp only;omega)
 obtain⟨l,P⟩:=z;obtain⟨k,Q,j,A,E,rfl,t⟩:=U
 simp only at j A E t G⊢;have J:Q.flatten.length<=120:=by
  have:=congrArg (λq=>(List.flatten q).length) j
  simp only[List.flatten_append,dK]at this;omega
 have T:=D6 (p:=λp=>decide (m<KV p)) Q;unfold jp
 cases l with
 |nil=>
  refine Z4 (by simp) ?_;unfold qD
  have V:GW k []=[]:=by cases k<;>rfl
  rw[V,fW]at j;subst j
  refine Q3 (yO f (by omega) λr c=>?_) ?_
  .have:=bq hL d m a.t_ r c
   omega
  .have:=(bp hL d m a.t_).1.1
   unfold Ue at this;rw[an (by omega)];rfl
 |cons b l=>
  refine Y8 (by simp) ?_;refine Q3 (Nt f (by simp) (by omega) (λr c=>NG (C.1.2.1 r (t r c)))) ?_
  cases k with
  |zero=>simp at A
  |succ k=>
  simp only[GW]at j;have w:=wg b l
  have B:=w.perm.length_eq;simp only[dK,dz,eg]at B A E
  have S:∀r∈(Ut (b::l)).1,r∈UK L d a.t_:=λr c=>t r (w.perm.mem_iff.1 (dv.2 (.inl c)))
  have N:1<=(Ut (b::l)).1.length:=by
   have:=w.lens.1
   exact fS.2 this
  refine Q3 (yF f (by omega) λr c=>C.1.2.1 r (S r c)) ?_;have g:∀o,o=(((Q++[(Ut (b::l)).1])).filter λp=>decide (m<KV p)).flatten->i ((Ut (b::l)).2,o)=some (⟨cn (Q8 (Ue L d m a.t_))⟩,0):=λo I=>by
   refine G _ ⟨k,Q++[(Ut (b::l)).1],by rw[<-j,fR];rfl,by simp only;omega,by simp only;omega,I,λr c=>t r (w.perm.mem_iff.1 (dv.2 (.inr c)))⟩ (by simp only[dz];omega)
  refine Z9 (λD=>?_) (λD=>?_)
  .refine Q5 (by simp only[Y2];omega) ?_
   refine g _ ?_;rw[ig,iX,D];simp
  .refine g _ ?_
   rw[ig,iX,D];simp
def JI(L:ω)(d m:Int)(a:ζ)(x y:Int):Bool:=Q8 a x y && !(Q8 (Zy L d (zp 0)) x y||Q8 (Ue L d m a) x y)
theorem kw(L:ω)(d m:Int)(a:ζ):Fin (JI L d m a):=by
 have:=Lg a (Zy L d (zp 0)++Ue L d m a)
 simp only[FN]at this;exact this
end
section
theorem wc{a b:aE}(ha:K7 a.t_)(hb:K7 b.t_)(h:∀x y,Q8 a.t_ x y=true->Q8 b.t_ x y=true->False):ZG a b=false:=by
 rw[<-gk];intro c
 unfold ZG at c;rw[Vz ha,Vz hb,eN,eN,vP ha.2.1 hb.2.1]at c
 obtain⟨x,y,f,e⟩:=c;exact h x y f e
theorem ik.lb(h:ik L):LB 9 L:=⟨h.vl,λf b=>(h.fea f b).1.reg.box,by omega⟩
variable {n:Nat}
end
section
variable {n:Nat}
end
section
variable {n:Nat}
end
def YX(r:aC):Int:=
 if r.al<0\/100<r.al then 18 else if r.c_<0\/40<=r.c_ then 13 else if r.g_.t_.length=0\/Qx r.g_.t_=false then 7 else 0
theorem GT(r:aC):YX r=0↔0<=r.al/\r.al<=100/\0<=r.c_/\r.c_<40/\r.g_.t_.length≠0/\K7 r.g_.t_:=by
 unfold YX;rw[<-WH]
 by_cases h1:r.al<0\/100<r.al
 .rw [av h1];simp;omega
 .rw [an h1]
  by_cases h2:r.c_<0\/40<=r.c_
  .rw [av h2];simp;omega
  .rw [an h2]
   by_cases b:r.g_.t_.length=0\/Qx r.g_.t_=false
   .rw [av b]
    constructor
    .intro h;cases h
    .rintro ⟨_,_,_,_,e,c⟩
     rcases b with b|b
     .exact absurd b e
     .rw [c]at b;cases b
   .rw [an b]
    refine⟨λ_=>?_,λ_=>rfl⟩;have e:r.g_.t_.length≠0:=λh=>b (.inl h)
    have c:Qx r.g_.t_=true:=by
     cases hv:Qx r.g_.t_ with
     |true=>rfl
     |false=>exact absurd (.inr hv) b
    exact⟨by omega,by omega,by omega,by omega,e,c⟩
theorem Z5z(hF:Q6<=F)(r:aC):FQ F r=some (YX r):=by
 unfold FQ YX;rw[YB (Mr F r)]
 unfold Mr;refine Z9 (λh=>by rw[av (by simpa using h)]) (λh=>?_)
 rw[an (by simpa using h),YB (Mq F r)];unfold Mq
 refine Z9 (λh=>by rw[av (by simpa using h)]) (λh=>?_);rw[an (by simpa using h)]
 refine Z9 (λh=>?_) (λh=>?_)
 .have h:r.g_.t_.length=0:=by simpa using h
  rw[av (.inl h)];rfl
 .have h:r.g_.t_.length≠0:=by simpa using h
  refine Q3 (Uk hF _) ?_;unfold FP
  refine Z9 (λb=>?_) (λb=>?_)
  .rw [av (.inr (by simpa using b))]
  .rw [an (by rintro(h3|h3);exact h h3;rw[h3]at b;cases b)]
def QA(f g:aC):Bool:=decide (f.al<g.al)||(decide (f.al=g.al)&&decide (f.c_<g.c_))
theorem Uq(f g:aC):QA f g=true↔f.al<g.al\/(f.al=g.al/\f.c_<g.c_):=by unfold QA;simp
theorem xj{g h:aC}(h1:QA f g=true)(h2:QA g h=true):QA f h=true:=by
 rw[Uq]at *;omega
theorem Z5B(hF:Q6<=F)(f g:aC):∃c,FR F f g=some c/\(c<0↔QA f g=true)/\(0<c↔QA g f=true):=by
 refine⟨if(if f.al<g.al then(-1:Int)else if g.al<f.al then 1 else 0)≠0 then(if f.al<g.al then(-1:Int)else if g.al<f.al then 1 else 0)else(if f.c_<g.c_ then(-1:Int)else if g.c_<f.c_ then 1 else 0),?_,?_⟩
 .unfold FR
  exact Q3 (MV _ _ _) (Q3 (MV _ _ _) (Q3 (AZ F hF _ _) rfl))
 .rw [Uq,Uq]
  by_cases h1:f.al<g.al
  .simp [h1];omega
  .by_cases h2:g.al<f.al
   .simp [h1,h2];omega
   .by_cases h3:f.c_<g.c_
    .simp [h1,h2,h3];omega
    .by_cases h4:g.c_<f.c_
     .simp [h1,h2,h3,h4];omega
     .simp [h1,h2,h3,h4]
def YM:Option aC->ν->Int
 |_,[]=>0
 |p,f::l=>if YX f≠0 then YX f else if p.any (λg=> !QA g f)then 3 else YM (some f) l
def NX(l:ν):Prop:=l.Pairwise λf g=>f.al=g.al->ZG f.g_ g.g_=false
open Classical in
def ZI(l:ν):Int:=if 200<l.length then 1 else if YM none l≠0 then YM none l else if NX l then 0 else 11
def VG(l:ν)(i:Nat):Option aC:=if i=0 then none else some (gl l (i-1))
theorem wv(l:ν)(i:Nat):VG l (i+1)=some (gl l i):=by simp[VG]
theorem Az{l:ν}:NX l↔∀j,j<l.length->∀i,i<j->(gl l i).al=(gl l j).al->ZG (gl l i).g_ (gl l j).g_=false:=by
 unfold NX;rw[ie]
 constructor
 .intro h j b i f e
  rw[G8 b,G8 (by omega)]at *;exact h i j (by omega) b f e
 .intro h i j f b c e
  have:=h j b i c
  rw[G8 b,G8 (by omega)]at this;exact this e
theorem S9(hF:Q6<=F){l:ν}(hl:l.length<=200)(h0:NX l->y=0)(h1:¬NX l->y=11):Ht F l=some y:=by
 have s:=hF;unfold Q6 at hF
 unfold Ht;refine z5 (λz:Int=>∃i:Nat,z=i/\i<=l.length/\∀j,j<i->∀a,a<j->(gl l a).al=(gl l j).al->ZG (gl l a).g_ (gl l j).g_=false) (λz=>l.length-z.toNat) (λt z v D=>?_) ⟨0,rfl,by omega,λj r=>absurd r (fy j)⟩ (by simp;omega)
 obtain⟨i,rfl,G,B⟩:=v;unfold pB
 refine Z9 (λh=>?_) (λh=>?_)
 .have h:i<l.length:=by simpa using h
  refine Z7 (k:=?_);refine Z7 (k:=?_)
  refine z5 (λz:Int=>∃j:Nat,z=j/\j<=i/\∀a,a<j->(gl l a).al=(gl l i).al->ZG (gl l a).g_ (gl l i).g_=false) (λz=>i-z.toNat) (λf z v w=>?_) ⟨0,rfl,by omega,λj r=>absurd r (fy j)⟩ (by simp;omega);obtain⟨j,rfl,r,C⟩:=v
  unfold uv;simp only[dh]
  have q:(l.take i).length=i:=by rw[fE];omega
  simp only[q];refine Z9 (λg=>?_) (λg=>?_)
  .have g:j<i:=by simpa using g
   have e:gl (l.take i) j=gl l j:=by simp[gl,aY,g]
   rw[e];refine Z7 (k:=?_)
   have A:∀b:Bool,b=(decide ((gl l j).al=(gl l i).al)&&ZG (gl l j).g_ (gl l i).g_)->Hs F j f b=some y:=by
    intro b m;unfold Hs
    refine Z9 (λc=>?_) (λc=>?_)
    .rw [c,my,dc,dT]at m
     rw[h1 λE=>by rw[Az.1 E i h j g m.1]at m;cases m.2]
    .rw [c]at m
     refine Z7 (k:=?_);refine w _ ⟨j+1,by omega,g,λa u o=>?_⟩ (by omega)
     rcases eK a j with p|p
     .exact C a p o
     .have:a=j:=by omega
      subst this;rw[aZ o,eN]at m
      exact m.symm
   refine Z9 (λc=>?_) (λc=>?_)
   .refine Q3 (Z2X s _ _) (A _ ?_)
    have c:(gl l j).al=(gl l i).al:=by simpa using c
    rw[aZ c,eN]
   .refine A _ ?_
    have c:¬(gl l j).al=(gl l i).al:=by simpa using c
    rw[dg c,lQ]
  .have g:j=i:=by
    have:¬j<i:=by simpa using g
    omega
   subst g;unfold vk
   refine Z7 (k:=?_);refine D _ ⟨j+1,by omega,h,λb m a u o=>?_⟩ (by omega)
   rcases eK b j with p|p
   .exact B b p a u o
   .have:b=j:=by omega
    subst this;exact C a u o
 .have h:i=l.length:=by
   have:¬i<l.length:=by simpa using h
   omega
  subst h;rw[h0 (Az.2 B)];rfl
theorem Z2E(hF:Q6<=F)(l:ν):Cl F l=some (ZI l):=by
 have u:=hF;unfold Q6 at hF
 unfold Cl;refine Z9 (λh=>?_) (λh=>?_)
 .have h:200<l.length:=by simp at h;omega
  rw[ZI,av h]
 .have h:¬200<l.length:=by simp at h;omega
  have A:YM none l=0->Ht F l=some (ZI l):=λq=>by
   refine S9 u (by omega) (λE=>?_) (λE=>?_)
   .rw [ZI,an h,an (by simp[q]),av E]
   .rw [ZI,an h,an (by simp[q]),an E]
  have C:YM none l≠0->ZI l=YM none l:=λq=>by rw[ZI,an h,av q]
  refine z5 (λz:Int=>∃i:Nat,z=i/\i<=l.length/\YM none l=YM (VG l i) (l.drop i)) (λz=>l.length-z.toNat) (λe z I G=>?_) ⟨0,rfl,by omega,rfl⟩ (by simp;omega);obtain⟨i,rfl,J,o⟩:=I
  unfold wG;refine Z9 (λs=>?_) (λs=>?_)
  .have s:i<l.length:=by simpa using s
   rw[YP s,YM]at o;refine Z7 (k:=?_)
   simp only[dh];have t:∀c:Int,YX (gl l i)=c->c≠0->ZI l=c:=λc r p=>by
    rw[av (by rw[r];exact p),r]at o;rw[C (by rw[o];exact p),o]
   have f:YX (gl l i)=0->∀b:Bool,b=(VG l i).any (λg=> !QA g (gl l i))->GO F i e b=some (ZI l):=by
    intro r b v;rw[an (by simp[r])]at o
    unfold GO;refine Z9 (λp=>?_) (λp=>?_)
    .rw [av (v ▸ p)]at o
     rw[C (by rw[o];decide),o]
    .rw [an (by rw[<-v,p];simp)]at o
     refine Z7 (k:=?_);refine G _ ⟨i+1,by omega,s,?_⟩ (by omega)
     rw[o,wv]
   rw[YB (Hw F l i e)];unfold Hw
   refine Z9 (λr=>?_) (λr=>?_)
   .rw [t 18 (by unfold YX;rw[av (by simpa using r)]) (by decide)]
   .rw [YB (Hv F l i e)]
    unfold Hv;refine Z9 (λp=>?_) (λp=>?_)
    .rw [t 13 (by unfold YX;rw[an (by simpa using r),av (by simpa using p)]) (by decide)]
    .refine Q3 (HK u _) ?_
     rw[YB (Hu F l i e)];unfold Hu
     refine Z9 (λj=>?_) (λj=>?_)
     .have j:(gl l i).g_.t_.length=0\/Qx (gl l i).g_.t_=false:=by
       rw[ip]at j;rcases j with m|m
       .exact .inr (by simpa using m)
       .exact .inl (by simpa using m)
      rw[t 7 (by unfold YX;rw[an (by simpa using r),an (by simpa using p),av j]) (by decide)]
     .have j:¬ ((gl l i).g_.t_.length=0\/Qx (gl l i).g_.t_=false):=by
       rw[fP]at j;simp only[dh]at j
       rintro(m|m)
       .rw [m]at j;simp at j
       .rw [m]at j;simp at j
      have m:YX (gl l i)=0:=by unfold YX;rw[an (by simpa using r),an (by simpa using p),an j]
      refine Z9 (λq=>?_) (λq=>?_)
      .have q:0<i:=by simpa using q
       refine Z7 (k:=?_);refine Z7 (k:=?_)
       have H:((i:Int)-1).toNat=i-1:=by omega
       rw[H];have D:(VG l i).any (λg=> !QA g (gl l i))=!QA (gl l (i-1)) (gl l i):=by simp[VG,show i≠0 from by omega]
       refine Z9 (λB=>?_) (λB=>?_)
       .refine f m _ ?_
        have B:(gl l i).al<(gl l (i-1)).al:=by simpa using B
        rw[D,my,iE, <-gk,Uq];omega
       .have B:¬(gl l i).al<(gl l (i-1)).al:=by simpa using B
        refine Z7 (k:=?_);refine Z7 (k:=?_)
        refine Z9 (λw=>?_) (λw=>?_)
        .have w:(gl l i).al=(gl l (i-1)).al:=by simpa using w
         refine Z7 (k:=?_);refine Z7 (k:=?_)
         refine f m _ ?_;rw[D,eV,iE, <-gk,Uq,dT]
         simp only[dh];omega
        .have w:¬(gl l i).al=(gl l (i-1)).al:=by simpa using w
         refine f m _ ?_;rw[D,my,lW,Uq];omega
      .have q:i=0:=by simp at q;omega
       exact f m _ (by simp[VG,q])
  .have s:¬i<l.length:=by simpa using s
   rw[iz (by omega)]at o;exact A o
structure eC (gs:List (Int×ν)) (l:ν):Prop where
 nd:(gs.map (·.1)).Nodup
 row:∀e∈gs,e.2=l.filter λf=>decide (f.al=e.1)
 key:∀f∈l,∃e∈gs,e.1=f.al
theorem eC.nil:eC [] []:=⟨by simp,λe c=>by simp at c,λf b=>by simp at b⟩
theorem eC.gRow{l:ν}(h:eC gs l)(y:Int):gRow y gs=l.filter λf=>decide (f.al=y):=by
 unfold Go.Ab.gRow;rcases KL y gs with ⟨m,q,i,r⟩|⟨j,c⟩
 .rw [i]
  simp only
  rw[h.row q (ii i),r]
 .rw [j,iO (di _)]
  simp only
  symm
  rw[nG];intro f o b
  obtain⟨e,p,g⟩:=h.key f o;exact c e p (by rw[g];exact dO b)
theorem eC.app{l:ν}(h:eC gs l)(f:aC):eC (gApp f.al [f] gs) (l++[f]):=by
 obtain⟨q,w,J,B,C⟩:=Ld (y:=f.al) (m:=[f]) (gs:=gs);have t:=wq (y:=f.al) (m:=[f]) h.nd
 have A:(gApp f.al [f] gs)[z6 f.al gs]?=some q:=by rw[B,HW C,av rfl]
 have s:∀e∈gApp f.al [f] gs,e=q\/(e∈gs/\e.1≠f.al):=by
  intro e v;obtain⟨j,c⟩:=mL v
  by_cases b:j=z6 f.al gs
  .rw [b,A]at c;cases c;exact .inl rfl
  .right
   have p:=c;rw[B,HW C,an b]at p
   refine⟨ii p,λz=>b ?_⟩;exact xa t c A (by rw[z,w])
 refine⟨t,λe v=>?_,λg u=>?_⟩
 .rcases s e v with rfl|⟨G,E⟩
  .rw [J,h.gRow,ig,w];simp
  .rw [h.row e G,ig]
   have:([f].filter λg=>decide (g.al=e.1))=[]:=by simp;exact λI=>E I.symm
   rw[this,fW]
 .rcases dv.1 u with u|u
  .obtain ⟨e,v,r⟩:=h.key g u
   by_cases z:e.1=f.al
   .exact ⟨q,ii A,by rw[w, <-r,z]⟩
   .obtain ⟨j,c⟩:=mL v
    have b:j≠z6 f.al gs:=by
     rintro rfl;rcases KL f.al gs with ⟨_,K,o,D⟩|⟨H,_⟩
     .rw [c]at o;cases o;exact z D
     .rw [H,iO (di _)]at c;cases c
    refine⟨e,ii (i:=j) ?_,r⟩;rw[B,HW C,an b];exact c
  .have:g=f:=by simpa using u
   subst this;exact⟨q,ii A,w⟩
theorem Z5Z(y:Int)(m:ν)(gs:List (Int×ν)):(gApp y m gs).length<=gs.length+1:=by
 obtain⟨q,_,_,h,b⟩:=Ld (y:=y) (m:=m) (gs:=gs);rw[h,HV b]
 split<;>omega
theorem Z5x(hF:Q6<=F){l:ν}(hl:l.length<=200):∃gs,xN F l=some gs/\eC gs l/\gs.length<=l.length:=by
 unfold Q6 at hF;have g:∀(n i:Nat) (gs:List (Int×ν)),i<=l.length->l.length-i<n->eC gs (l.take i)->gs.length<=i->∃r,Y4 (λagain (z:Int×(List (Int×ν)))=>Bp F l again z.1 z.2) n ((i:Int),gs)=some r/\eC r l/\r.length<=l.length:=by
  intro n
  induction n with
  |zero=>intro i gs _ h;omega
  |succ n ih=>
   intro i gs p m b c
   by_cases h:i<l.length
   .obtain ⟨r,j,e⟩:=ih (i+1) (gApp (gl l i).al [gl l i] gs) h (by omega) (by rw[Za h];exact b.app _) (by have:=Z5Z (gl l i).al [gl l i] gs;omega)
    refine⟨r,?_,e⟩;show Bp F l _ (i:Int) gs=_
    unfold Bp;simp only[dh]
    refine Y8 (by simpa using h) ?_;refine Z7 (k:=?_)
    refine Q5 ?_ ?_
    .rw [b.gRow]
     have:=iQ (λf:aC=>decide (f.al=(gl l i).al)) (l.take i)
     have o:(l.take i).length<=200:=by rw[fE];omega
     simp only[Y2,dz,eg];omega
    .refine Z7 (k:=?_)
     exact j
   .have:i=l.length:=by omega
    subst this;refine⟨gs,?_,by rw[fG]at b;exact b,c⟩
    show Bp F l _ _ gs=_;unfold Bp
    exact Z4 (by simp) rfl
 exact g F 0 [] (dW _) (by omega) (by rw[lG];exact eC.nil) (dW _)
def Jc(e:Int×ν):Prop:=¬e.2.Pairwise λf g=>ZG f.g_ g.g_=false
theorem AH{l:ν}(h:eC gs l):NX l↔∀e∈gs,¬Jc e:=by
 unfold NX Jc;constructor
 .intro m e c p
  refine p ?_;rw[h.row e c,oA]
  exact m.imp λ{f g} hh h1 h2=>hh (by simp at h1 h2;omega)
 .intro m
  rw[ie];intro i j s q o r
  obtain⟨e,c,b⟩:=h.key l[i] (fp _);have:=nU.1 (m e c)
  rw[h.row e c,oA,ie]at this;exact this i j s q o (by simp[b]) (by simp[b,r])
theorem wD:¬Jc e↔∀j,j<e.2.length->∀i,i<j->ZG (gl e.2 i).g_ (gl e.2 j).g_=false:=by
 unfold Jc;rw[nU,ie]
 constructor
 .intro h j b i f
  rw[G8 b,G8 (by omega)];exact h i j (by omega) b f
 .intro h i j f b c
  have:=h j b i c
  rw[G8 b,G8 (by omega)]at this;exact this
theorem Z5G(hF:Q6<=F)(hl:e.2.length<=200){ag:List (Int×ν)->φ}(hb:Jc e->y=11)(hg:¬ Jc e->ag rest=some y):
  Y4 (λagain (z:Int)=>xP F e rest ag again z) F (0:Int)=some y:=by
 have b:=hF;unfold Q6 at hF
 refine z5 (λz:Int=>∃i:Nat,z=i/\i<=e.2.length/\∀j,j<i->∀a,a<j->ZG (gl e.2 a).g_ (gl e.2 j).g_=false) (λz=>e.2.length-z.toNat) (λagain z t s=>?_) ⟨0,rfl,by omega,λj o=>absurd o (fy j)⟩ (by simp;omega);obtain⟨i,rfl,A,p⟩:=t
 unfold xP;simp only[dh]
 refine Z9 (λh=>?_) (λh=>?_)
 .have h:i<e.2.length:=by simpa using h
  refine Z7 (k:=?_);refine Z7 (k:=?_)
  refine Q3 (Kg (α:=aC) b (λf=>ZG f.g_ (gl e.2 i).g_) (by rw[fE];omega) (λr _=>by unfold xQ;exact Q3 (pY b _ _) rfl)) ?_;refine Z9 (λg=>?_) (λg=>?_)
  .rw [hb λv=>?_]
   .obtain ⟨f,w,c⟩:=fA.1 g
    obtain⟨a,l,rfl⟩:=eZ w;have m:a<i:=by rw[fE]at l;omega
    have:=wD.1 (nU.2 v) i h a m
    rw[lY]at c;rw[G8 (show a<e.2.length by omega)]at this
    rw[this]at c;cases c
  .refine Z7 (k:=?_)
   refine s _ ⟨i+1,by omega,h,λj o a l=>?_⟩ (by omega);rcases eK j i with q|q
   .exact p j q a l
   .have:j=i:=by omega
    subst this;have u:=fZ.1 g (gl e.2 a) (by
     rw[G8 (show a<e.2.length by omega)];have:e.2[a]=(e.2.take j)[a]'(by rw[fE];omega):=by rw[lY]
     rw[this];exact fp _)
    simpa using u
 .have h:i=e.2.length:=by
   have:¬i<e.2.length:=by simpa using h
   omega
  subst h;exact hg (wD.2 p)
theorem AX{α:Type}{l:List α}(hi:i<l.length)(p:α->Prop):(∀e∈l,p e)↔p l[i]/\∀e∈l.eraseIdx i,p e:=by
 constructor
 .exact λh=>⟨h _ (fp _),λe b=>h e (wT b)⟩
 .rintro ⟨f,c⟩ e b
  obtain⟨j,g,rfl⟩:=eZ b
  by_cases hij:j=i
  .subst hij;exact f
  .exact c _ (List.mem_eraseIdx_iff_getElem.2 ⟨j,g,hij,rfl⟩)
theorem Z5H{F:Nat}(hF:Q6<=F):∀ (n:Nat) (gs:List (Int×ν)) (y:Int),gs.length<n->(∀ e ∈ gs,e.2.length<=200)->((∀ e ∈ gs,¬ Jc e)->y=0)->((¬ ∀ e ∈ gs,¬ Jc e)->y=11) ->
  Y4 (λagain (z:(List (Int×ν)))=>FV F again z) n gs=some y:=by
 intro n
 induction n with
 |zero=>intro gs y h;omega
 |succ n ih=>
  intro gs y r c q p;show FV F _ gs=_
  unfold FV
  cases gs with
  |nil=>
   rw[Z4c,q (λe m=>by simp at m)];rfl
  |cons g l=>
   refine Z4b (by simp) λi o=>?_
   refine Z5G hF (c _ (fp _)) (λf=>p λb=>b _ (fp _) f) (λf=>?_);refine ih _ y (by rw[List.length_eraseIdx];rw[av o];simp at r⊢;omega) (λe m=>c e (wT m)) (λb=>q ?_) (λj=>p λb=>j ?_)
   .exact (AX o (λe=>¬Jc e)).2 ⟨f,b⟩
   .exact ((AX o (λe=>¬Jc e)).1 b).2
theorem N6(hF:Q6<=F)(l:ν):FW F l=some (ZI l):=by
 have p:=hF;unfold Q6 at hF
 unfold FW;refine Z9 (λh=>?_) (λh=>?_)
 .have h:200<l.length:=by simp at h;omega
  rw[ZI,av h]
 .have h:¬200<l.length:=by simp at h;omega
  have v:YM none l=0->FU F l=some (ZI l):=λm=>by
   unfold FU;obtain⟨E,A,D,I⟩:=Z5x p (l:=l) (by omega)
   refine Q3 A ?_;have o:E.length<F:=by omega
   refine Z5H p F E _ o (λe j=>?_) (λB=>?_) (λB=>?_)
   .rw [D.row e j]
    have:=iQ (λf:aC=>decide (f.al=e.1)) l
    omega
   .rw [ZI,an h,an (by simp[m]),av ((AH D).2 B)]
   .rw [ZI,an h,an (by simp[m]),an λN=>B ((AH D).1 N)]
  have w:YM none l≠0->ZI l=YM none l:=λm=>by rw[ZI,an h,av m]
  refine z5 (λz:Int=>∃i:Nat,z=i/\i<=l.length/\YM none l=YM (VG l i) (l.drop i)) (λz=>l.length-z.toNat) (λt z J G=>?_) ⟨0,rfl,by omega,rfl⟩ (by simp;omega);obtain⟨i,rfl,P,j⟩:=J
  unfold B4;refine Z9 (λs=>?_) (λs=>?_)
  .have s:i<l.length:=by simpa using s
   rw[YP s,YM]at j;refine Z7 (k:=?_)
   simp only[dh];refine Q3 (Z5z p _) ?_
   refine Z9 (λr=>?_) (λr=>?_)
   .have r:YX (gl l i)≠0:=by simpa using r
    rw[av r]at j;rw[w (by rw[j];exact r),j]
   .have r:YX (gl l i)=0:=by simpa using r
    rw[an (by simp[r])]at j;have q:∀b:Bool,b=(VG l i).any (λg=> !QA g (gl l i))->Mu F i t b=some (ZI l):=by
     intro b u;unfold Mu
     refine Z9 (λC=>?_) (λC=>?_)
     .rw [av (u ▸ C)]at j
      rw[w (by rw[j];decide),j]
     .rw [an (by rw[<-u,C];simp)]at j
      refine Z7 (k:=?_);refine G _ ⟨i+1,by omega,s,?_⟩ (by omega)
      rw[j,wv]
    refine Z9 (λm=>?_) (λm=>?_)
    .have m:0<i:=by simpa using m
     refine Z7 (k:=?_);refine Z7 (k:=?_)
     have A:((i:Int)-1).toNat=i-1:=by omega
     rw[A];obtain⟨c,K,H,O⟩:=Z5B p (gl l (i-1)) (gl l i)
     refine Q3 K (q _ ?_);have M:(VG l i).any (λg=> !QA g (gl l i))=!QA (gl l (i-1)) (gl l i):=by simp[VG,show i≠0 from by omega]
     rw[M,eV,iE, <-gk, <-H,dT];omega
    .have m:i=0:=by simp at m;omega
     exact q _ (by simp[VG,m])
  .have s:¬i<l.length:=by simpa using s
   rw[iz (by omega)]at j;exact v j
structure HL (l:ν):Prop where
 len:l.length<=200
 one:∀f∈l,YX f=0
 asc:l.Pairwise λf g=>QA f g=true
 nx:NX l
theorem xR:∀(l:ν) (p:Option aC),YM p l=0↔(∀f∈l,YX f=0)/\l.Pairwise (λf g=>QA f g=true)/\∀n,p=some n->∀f∈l,QA n f=true
 |[],p=>by simp[YM]
 |f::l,p=>by
  have m:=xR l (some f);unfold YM
  by_cases h1:YX f=0
  .rw [an (by simp[h1])]
   by_cases i:p.any (λg=> !QA g f)=true
   .rw [av i]
    constructor
    .intro h;cases h
    .rintro ⟨_,_,h⟩
     cases p with
     |none=>simp at i
     |some n=>
      have i:QA n f=false:=by simpa using i
      rw[h n rfl f (by simp)]at i;cases i
   .rw [an i,m]
    constructor
    .rintro ⟨a,b,c⟩
     refine⟨λg e=>?_,fu.2 ⟨λg e=>c _ rfl g e,b⟩,λn j g e=>?_⟩
     .rcases dY.1 e with rfl|e
      .exact h1
      .exact a g e
     .subst j
      have i:QA n f=true:=by simpa using i
      rcases dY.1 e with rfl|e
      .exact i
      .exact xj i (c _ rfl g e)
    .rintro ⟨a,b,c⟩
     obtain⟨o,q⟩:=fu.1 b;exact⟨λg e=>a g (by simp[e]),q,λn j g e=>by cases j;exact o g e⟩
  .rw [av h1]
   constructor
   .intro h;exact absurd h h1
   .rintro ⟨a,_,_⟩;exact absurd (a f (by simp)) h1
theorem LW(l:ν):ZI l=0↔HL l:=by
 unfold ZI
 by_cases h:200<l.length
 .rw [av h]
  exact⟨λh=>(by cases h),λc=>by have:=c.len;omega⟩
 .rw [an h]
  by_cases h2:YM none l=0
  .rw [an (by simp[h2])]
   obtain⟨a,b,_⟩:=(xR l none).1 h2
   by_cases h3:NX l
   .rw [av h3];exact⟨λ_=>⟨by omega,a,b,h3⟩,λ_=>rfl⟩
   .rw [an h3];exact⟨λh=>(by cases h),λc=>absurd c.nx h3⟩
  .rw [av h2]
   exact⟨λh=>absurd h h2,λc=>absurd ((xR l none).2 ⟨c.one,c.asc,λn e=>by cases e⟩) h2⟩
theorem gF:∀{l:θ},Yx l->∀{lo hi:Int},(∀v∈l,lo<=v/\v<=hi)->lo<=hi+1->(l.length:Int)<=hi+1-lo
 |[],_,lo,hi,_,h=>by simp;omega
 |a::l,h,lo,hi,hb,h2=>by
  have c:=fu.1 h;have e:=hb a (by simp)
  have:=gF (l:=l) c.2 (lo:=a+1) (hi:=hi) (λv b=>by have:=c.1 v b;have:=hb v (by simp[b]);omega) (by omega)
  rw[dz];omega
theorem CB(hF:Q6<=F)(ha:a.length<=200000)(hb:b.length<=200000)(pa:∀r∈a,Zj r=true)(pb:∀r∈b,Zj r=true):WJ F a b how=some (cn λx y=>Qp (Q8 a x y) (Q8 b x y) how):=by
 refine C9 hF ha hb ?_ ?_
 .have:=gF (Uw b (Uw a (f:=aa.L_) (g:=aa.R_) .nil)) (lo:=0) (hi:=16384) (fun v e=>by
   rcases(ZX b _ _).1 e with h|⟨r,c,h⟩
   .rcases (ZX a _ _).1 h with h|⟨r,c,h⟩
    .cases h
    .have h:v=r.L_\/v=r.R_:=h
     have:=(Wy r).1 (pa r c);omega
   .have h:v=r.L_\/v=r.R_:=h
    have:=(Wy r).1 (pb r c);omega) (by omega)
  unfold Zp;omega
 .have:=gF (Uw b (Uw a (f:=aa.w_) (g:=aa.H_) .nil)) (lo:=0) (hi:=16384) (fun v e=>by
   rcases(ZX b _ _).1 e with h|⟨r,c,h⟩
   .rcases (ZX a _ _).1 h with h|⟨r,c,h⟩
    .cases h
    .have h:v=r.w_\/v=r.H_:=h
     have:=(Wy r).1 (pa r c);omega
   .have h:v=r.w_\/v=r.H_:=h
    have:=(Wy r).1 (pb r c);omega) (by omega)
  unfold ZQ;omega
section
variable {n:Nat}
end
theorem rq(hc:Wb l)(hl:l.length<=120)(ha:∀r∈a,Zj r=true)(hs:∀x y,Q8 l x y=true->Q8 a x y=true):K7 l:=by
 have e:QZ (16384:Int) l:=hc.box λx y h=>by
  obtain⟨r,b,c⟩:=(VO _ _ _).1 (hs x y h);have:=(Wy r).1 (ha r b)
  rw[Yv]at c;omega
 exact⟨hl,e.prop (by omega),hc⟩
def ZF(y c:Int)(f:aC):Bool:=decide (f.al=y)&&decide (f.c_=c)
def Wi(y:Int)(a:ζ)(f:aC):aC:=if f.al=y then⟨f.al,f.c_,⟨cn λu v=>Q8 f.g_.t_ u v && !Q8 a u v⟩⟩else f
def Zc(l:ν)(y c:Int)(a:ζ):ν:=(l.filter λf=> !ZF y c f).map (Wi y a)
def vA(l:ν)(y c:Int)(a:ζ):ζ:=match l.find? (ZF y c)with|some f=>cn λu v=>Q8 f.g_.t_ u v||Q8 a u v|none=>a
def ZB(f:aC):Bool:= !decide (f.g_.t_.length=0)
def Vh(l:ν):Bool:=decide (200<l.length)||l.any λf=>decide (120<f.g_.t_.length)
def Wj(l:ν)(r:aC):Nat:=l.countP λf=>QA f r
def Bo(l:ν)(r:aC):ν:=l.take (Wj l r)++[r]++l.drop (Wj l r)
def Wo(l:ν)(y c:Int)(a:ζ):ν:=
 if(vA l y c a).length=0 then(Zc l y c a).filter ZB else Bo ((Zc l y c a).filter ZB) ⟨y,c,⟨vA l y c a⟩⟩
def addH(l:ν)(y c:Int)(a:aE):ν×Int:=
 if ZI l≠0 then([],ZI l)else if y<0\/100<y then([],18)else if c<0\/40<=c then([],13)else if Qx a.t_=false then([],7)
 else if Vh (Wo l y c a.t_)=true then([],1)else(Wo l y c a.t_,0)
theorem Ib(l:ν)(x:aC)(y c:Int)(a:ζ):Zc (l++[x]) y c a=Zc l y c a++(if ZF y c x=true then[]else[Wi y a x]):=by
 unfold Zc;rw[ig,fe]
 congr 1
 cases h:ZF y c x with
 |true=>simp[h]
 |false=>simp[h]
theorem M5(l:ν)(x:aC)(y c:Int)(a:ζ)(h:ZF y c x=true->∀f∈l,ZF y c f=false):vA (l++[x]) y c a=if ZF y c x=true then cn (λu v=>Q8 x.g_.t_ u v||Q8 a u v)else vA l y c a:=by
 unfold vA;rw[List.find?_append]
 cases hx:ZF y c x with
 |true=>
  have:l.find? (ZF y c)=none:=iI.2 λf b=>by rw[h hx f b];simp
  rw[this];simp[hx]
 |false=>simp[hx]
theorem Q7O(l:ν)(y c:Int)(a:ζ)(h:∀f∈l,ZF y c f=false):vA l y c a=a:=by
 unfold vA;have:l.find? (ZF y c)=none:=iI.2 λf b=>by rw[h f b];simp
 rw[this]
theorem Ac{l:ν}(h:l.Pairwise λf g=>QA f g=true)(hi:i<l.length)(hs:ZF y c (gl l i)=true):∀f∈l.take i,ZF y c f=false:=by
 intro f e;obtain⟨j,m,rfl⟩:=eZ e
 have b:j<i:=by rw[fE]at m;omega
 rw[lY];have:=ie.1 h j i (by omega) hi b
 rw[Uq]at this;rw[G8 hi]at hs
 unfold ZF at hs⊢;rw[dc,dT,dT]at hs
 rw[<-gk,dc,dT,dT];omega
theorem HL.val{l:ν}(h:HL l)(hf:f∈l):K7 f.g_.t_:=((GT f).1 (h.one f hf)).2.2.2.2.2
theorem Z2H(hF:Q6<=F){l:ν}(h:HL l){a:aE}(ha:K7 a.t_){r:ν×Int}(hk:Hx F y c (vA l y c a.t_) ((Zc l y c a.t_).filter ZB)=some r):
  Y4 (λagain (z:ζ×Int×ν)=>vm F l y c a again z.1 z.2.1 z.2.2) F (a.t_,(0:Int),([]:ν))=some r:=by
 have s:=hF;unfold Q6 at hF
 have K:=h.len;refine z5 (λz:ζ×Int×(ν)=>∃i:Nat,z=(vA (l.take i) y c a.t_,(i:Int),(Zc (l.take i) y c a.t_).filter ZB)/\i<=l.length) (λz=>l.length-z.2.1.toNat) (λagain z M C=>?_) ⟨0,by rw[lG];rfl,by omega⟩ (by simp only;omega)
 obtain⟨i,rfl,P⟩:=M;simp only at C⊢
 unfold vm;simp only[dh]
 refine Z9 (λg=>?_) (λg=>?_)
 .have g:i<l.length:=by simpa using g
  have t:=h.val (y3 g);have N:((Zc (l.take i) y c a.t_).filter ZB).length<=200:=by
   have J:=iQ ZB (Zc (l.take i) y c a.t_);unfold Zc at J⊢
   rw[fL]at J;have:=iQ (λf=> !ZF y c f) (l.take i)
   have e:(l.take i).length<=l.length:=by rw[fE];omega
   omega
  have j:∀(v:ζ) (q:ν),v=vA (l.take (i+1)) y c a.t_->q=(Zc (l.take (i+1)) y c a.t_).filter ZB->PO F i again v q=some r:=by
   rintro v q rfl rfl;unfold PO
   refine Z7 (k:=?_);exact C _ ⟨i+1,rfl,g⟩ (by simp only;omega)
  have A:=M5 (l.take i) (gl l i) y c a.t_ (Ac h.asc g);have B:=Ib (l.take i) (gl l i) y c a.t_
  rw[<-Za g]at A B;have E:∀w:ζ,ZF y c (gl l i)=false->(⟨(gl l i).al,(gl l i).c_,⟨w⟩⟩:aC)=Wi y a.t_ (gl l i)->Hy F l (vA (l.take i) y c a.t_) i ((Zc (l.take i) y c a.t_).filter ZB) again w=some r:=by
   intro w m O;unfold Hy
   simp only[dh];have G:(Zc (l.take (i+1)) y c a.t_).filter ZB=(Zc (l.take i) y c a.t_).filter ZB++[(⟨(gl l i).al,(gl l i).c_,⟨w⟩⟩:aC)].filter ZB:=by
    rw[B,an (by rw[m];simp),ig,O]
   have I:vA (l.take i) y c a.t_=vA (l.take (i+1)) y c a.t_:=by rw[A,an (by rw[m];simp)]
   refine Z9 (λo=>?_) (λo=>?_)
   .have o:w.length≠0:=by simp at o;omega
    refine Z7 (k:=?_);refine j _ _ I ?_
    rw[G];congr 1
    simp[ZB,o]
   .have o:w.length=0:=by simp at o;simp[o]
    refine j _ _ I ?_;rw[G]
    simp[ZB,o]
  refine Z7 (k:=?_);have D:∀b:Bool,b=ZF y c (gl l i)->Hz F l y a (vA (l.take i) y c a.t_) i ((Zc (l.take i) y c a.t_).filter ZB) again b=some r:=by
   intro b H;unfold Hz
   simp only[dh];refine Z9 (λe=>?_) (λe=>?_)
   .have m:ZF y c (gl l i)=true:=by rw[<-H,e]
    rw[Q7O _ y c a.t_ (Ac h.asc g m)];refine Q3 (CB s (by have:=ha.1;omega) (by have:=t.1;omega) ha.2.1 t.2.1) (j _ _ ?_ ?_)
    .rw [A,av m]
     congr 1
     funext u v
     simp[Qp,Bool.or_comm]
    .rw [B,av m,fW]
   .have m:ZF y c (gl l i)=false:=by rw[<-H,e]
    refine Z9 (λp=>?_) (λp=>?_)
    .have p:(gl l i).al=y:=by simpa using p
     refine Q3 (CB s (by have:=t.1;omega) (by have:=ha.1;omega) t.2.1 ha.2.1) (E _ m ?_);unfold Wi;rw[av p]
     simp[Qp]
    .have p:¬(gl l i).al=y:=by simpa using p
     refine E _ m ?_;unfold Wi;rw[an p]
  refine Z9 (λe=>?_) (λe=>?_)
  .have e:(gl l i).al=y:=by simpa using e
   refine D _ ?_;unfold ZF
   rw[aZ e,eN];rfl
  .have e:¬(gl l i).al=y:=by simpa using e
   refine D _ ?_;unfold ZF
   rw[dg e,lQ]
 .have g:i=l.length:=by
   have:¬i<l.length:=by simpa using g
   omega
  subst g;rw[fG]
  exact hk
def US(f:aC):Int×Int:=(f.al,f.c_)
theorem Fc{g:aC}:Md (US f) (US g)↔QA f g=true:=by rw[Uq];unfold Md US;exact Iff.rfl
theorem A6{l:ν}(h:l.Pairwise λf g=>QA f g=true)(r:aC):Wj l r<=l.length/\(∀j,j<Wj l r->QA (gl l j) r=true)/\∀j,Wj l r<=j->j<l.length->QA (gl l j) r=false:=by
 induction l with
 |nil=>exact⟨di _,λj i=>by simp[Wj]at i,λj _ i=>by simp at i⟩
 |cons f l ih=>
  obtain⟨s,q⟩:=fu.1 h;obtain⟨a,b,c⟩:=ih q
  cases hf:QA f r with
  |true=>
   have e:Wj (f::l) r=Wj l r+1:=by simp[Wj,hf]
   rw[e];refine⟨by simp;exact a,λj i=>?_,λj i o=>?_⟩
   .cases j with
    |zero=>exact hf
    |succ j=>exact b j (by omega)
   .cases j with
    |zero=>omega
    |succ j=>exact c j (by omega) (by simpa using o)
  |false=>
   have m:∀g∈l,QA g r=false:=λg p=>by
    rw[<-gk];intro t
    rw[xj (s g p) t]at hf;cases hf
   have e:Wj (f::l) r=0:=by
    unfold Wj;rw[rQ]
    intro g p;rcases dY.1 p with rfl|p
    .rw [hf];simp
    .rw [m g p];simp
   rw[e];refine⟨dW _,λj i=>absurd i (fy j),λj _ o=>?_⟩
   cases j with
   |zero=>exact hf
   |succ j=>
    have i:j<l.length:=by simpa using o
    exact m _ (y3 i)
theorem Z5o(l:ν)(r:aC):(Bo l r).Perm (l++[r]):=by
 unfold Bo;have b:(l.take (Wj l r)++[r]++l.drop (Wj l r)).Perm (l.take (Wj l r)++(l.drop (Wj l r)++[r])):=by
  rw[fR];exact List.Perm.append_left _ List.perm_append_comm
 rw[<-fR,iR]at b;exact b
theorem Z5p{l:ν}(h:l.Pairwise λf g=>QA f g=true){r:aC}(hr:∀f∈l,US f≠US r):(Bo l r).Pairwise λf g=>QA f g=true:=by
 obtain⟨a,b,c⟩:=A6 h r;unfold Bo
 generalize Wj l r=k at *;have t:∀f∈l.take k,QA f r=true:=λf e=>by
  obtain⟨j,p,rfl⟩:=eZ e;have i:j<k:=by rw[fE]at p;omega
  have:=b j i
  rw[G8 (show j<l.length by omega)]at this;rw[lY];exact this
 have s:∀f∈l.drop k,QA r f=true:=λf e=>by
  obtain⟨j,p,rfl⟩:=eZ e;have i:k+j<l.length:=by rw[lu]at p;omega
  have o:=c (k+j) (by omega) i;rw[G8 i]at o
  rw[List.getElem_drop];have u:=hr _ (fp i)
  rcases E7 u with q|q
  .rw [Fc.1 q]at o;cases o
  .exact Fc.1 q
 rw[il,il];refine⟨⟨h.sublist (List.take_sublist _ _),iF _ _,λf e g m=>?_⟩,h.sublist (List.drop_sublist _ _),λf e g m=>?_⟩
 .rw [dI]at m;subst m;exact t f e
 .rcases dv.1 e with e|e
  .exact xj (t f e) (s g m)
  .rw [dI]at e;subst e;exact s g m
theorem Bx(y:Int)(a:ζ)(f:aC):US (Wi y a f)=US f:=by unfold Wi;split<;>rfl
theorem EN(y:Int)(a:ζ)(f g:aC):QA (Wi y a f) (Wi y a g)=QA f g:=by
 rw[eV, <-Fc, <-Fc,Bx,Bx]
theorem yt{l:ν}(h:l.Pairwise λf g=>QA f g=true)(y c:Int)(a:ζ):((Zc l y c a).filter ZB).Pairwise λf g=>QA f g=true:=by
 refine m3 _ ?_;unfold Zc
 rw[mj];refine List.Pairwise.imp (λ{f g} hh=>?_) (m3 _ h)
 rw[EN];exact hh
theorem Z1N{l:ν}{v:ζ}:∀f∈(Zc l y c a).filter ZB,US f≠US ⟨y,c,⟨v⟩⟩:=by
 intro f h e;have h:=(fD.1 h).1
 unfold Zc at h;obtain⟨g,m,rfl⟩:=eF.1 h
 have b:=(fD.1 m).2;rw[Bx]at e
 unfold US at e;have j:g.al=y:=congrArg Prod.fst e
 have i:g.c_=c:=congrArg Prod.snd e;unfold ZF at b
 simp[j,i]at b
theorem Z8u{l:ν}(h:l.Pairwise λf g=>QA f g=true)(y c:Int)(a:ζ):(Wo l y c a).Pairwise λf g=>QA f g=true:=by
 unfold Wo;split
 .exact yt h y c a
 .exact Z5p (yt h y c a) Z1N
theorem gK(l:ν)(y c:Int)(a:ζ):((Zc l y c a++[(⟨y,c,⟨vA l y c a⟩⟩:aC)]).filter ZB).Perm (Wo l y c a):=by
 rw[ig];unfold Wo
 split
 .rename_i h
  have:[(⟨y,c,⟨vA l y c a⟩⟩:aC)].filter ZB=[]:=by simp[ZB,h]
  rw[this,fW]
 .rename_i h
  have:[(⟨y,c,⟨vA l y c a⟩⟩:aC)].filter ZB=[⟨y,c,⟨vA l y c a⟩⟩]:=by simp[ZB,h]
  rw[this];exact(Z5o _ _).symm
theorem rP(l:ν)(y c:Int)(a:ζ):(Zc l y c a).length<=l.length:=by
 unfold Zc;rw[fL]
 exact iQ _ _
theorem sV(hF:Q6<=F){L:ν}(hl:L.length<=201):HA F L=some (if Vh L=true then([],1)else(L,0)):=by
 unfold Q6 at hF;unfold HA
 refine Z9 (λh=>?_) (λh=>?_)
 .have h:200<L.length:=by have:=dO h;omega
  rw[av (by unfold Vh;rw[aZ h,og])]
 .have h:¬200<L.length:=by have:=ej h;omega
  refine z5 (λz:Int=>∃i:Nat,z=i/\i<=L.length/\∀j,j<i->¬120<(gl L j).g_.t_.length) (λz=>L.length-z.toNat) (λg z q o=>?_) ⟨0,rfl,by omega,λj e=>absurd e (fy j)⟩ (by simp;omega);obtain⟨i,rfl,r,l⟩:=q
  unfold r6;simp only[dh]
  refine Z9 (λb=>?_) (λb=>?_)
  .have b:i<L.length:=by simpa using b
   refine Z7 (k:=?_);refine Z9 (λc=>?_) (λc=>?_)
   .have c:120<(gl L i).g_.t_.length:=by have:=dO c;omega
    rw[av];unfold Vh
    rw[ip];exact .inr (fA.2 ⟨_,y3 b,aZ c⟩)
   .have c:¬120<(gl L i).g_.t_.length:=by have:=ej c;omega
    refine Z7 (k:=?_);refine o _ ⟨i+1,by omega,b,λj e=>?_⟩ (by omega)
    rcases eK j i with m|m
    .exact l j m
    .have:j=i:=by omega
     subst this;exact c
  .have b:i=L.length:=by
    have:¬i<L.length:=by simpa using b
    omega
   subst b;rw[an]
   .rfl
   .unfold Vh
    rw[dg h,iP,qp (p:=λf:aC=>decide (120<f.g_.t_.length)) λj e=>dg (l j e)];simp
theorem Ih(hF:Q6<=F){l:ν}(h:HL l):
  Hx F y c (vA l y c a) ((Zc l y c a).filter ZB)=some (if Vh (Wo l y c a)=true then([],1)else(Wo l y c a,0)):=by
 have r:=hF;unfold Q6 at hF
 have w:=h.len;have D:((Zc l y c a).filter ZB).length<=200:=by
  have j:=rP l y c a;have f:=iQ ZB (Zc l y c a)
  omega
 have s:=yt h.asc y c a;unfold Hx Wo
 generalize (Zc l y c a).filter ZB=R at *;generalize vA l y c a=v at *
 refine Z9 (λj=>?_) (λj=>?_)
 .have j:v.length≠0:=by have:=dO j;omega
  rw[an j];obtain⟨k1,k2,B⟩:=A6 s ⟨y,c,⟨v⟩⟩
  unfold Bo;generalize Wj R ⟨y,c,⟨v⟩⟩=k at *
  refine z5 (λz:Int=>∃i:Nat,z=i/\i<=k) (λz=>R.length-z.toNat) (λp z C A=>?_) ⟨0,rfl,by omega⟩ (by simp;omega);obtain⟨i,rfl,E⟩:=C
  have t:i=k->Cm F y c v R (i:Int)=some (if Vh (R.take k++[(⟨y,c,⟨v⟩⟩:aC)]++R.drop k)=true then([],1)else(R.take k++[⟨y,c,⟨v⟩⟩]++R.drop k,0)):=by
   rintro rfl;unfold Cm
   simp only[dh];refine Q5 (by omega) (Q5 (by omega) (Q5 (by simp only[Y2];omega) (Q5 (by simp only[Y2,dz,eg];omega) (Q5 (by omega) (Q5 (by omega) (Q5 (by simp only[Y2,dz,eg];omega) ?_))))))
   have e:((([]:ν)++((R.drop 0).take i))++([(⟨y,c,(⟨v⟩:aE)⟩:aC)]:ν))++((R.drop (0+i)).take (R.length-i))=R.take i++[⟨y,c,⟨v⟩⟩]++R.drop i:=by
    rw[iL,lJ,eH,lz (l:=R.drop i) (by rw[lu];omega)]
   rw[e];refine sV r ?_
   simp only[dK,fE,lu,dz,eg];omega
  have g:∀b:Bool,(b=true↔i<R.length/\QA (gl R i) ⟨y,c,⟨v⟩⟩=true)->GP F y c v R i p b=some (if Vh (R.take k++[(⟨y,c,⟨v⟩⟩:aC)]++R.drop k)=true then([],1)else(R.take k++[⟨y,c,⟨v⟩⟩]++R.drop k,0)):=by
   intro b u;unfold GP
   refine Z9 (λf=>?_) (λf=>?_)
   .obtain ⟨q,m⟩:=u.1 f
    have o:i<k:=by
     rcases eK i k with o|o
     .exact o
     .rw [B i o q]at m;cases m
    refine Z7 (k:=?_);exact A _ ⟨i+1,by omega,o⟩ (by omega)
   .refine t ?_
    rcases eK i k with o|o
    .have:=u.2 ⟨by omega,k2 i o⟩
     rw[f]at this;cases this
    .omega
  unfold tn;simp only[dh]
  refine Z9 (λf=>?_) (λf=>?_)
  .have f:i<R.length:=by simpa using f
   refine Z7 (k:=?_);refine Z9 (λq=>?_) (λq=>?_)
   .refine g _ ?_
    have q:=dO q;rw[Uq];simp;omega
   .have q:=ej q
    refine Z7 (k:=?_);refine Z9 (λm=>?_) (λm=>?_)
    .have m:(gl R i).al=y:=by simpa using m
     refine Z7 (k:=?_);refine g _ ?_
     rw[Uq,dT];simp only;omega
    .have m:¬(gl R i).al=y:=by simpa using m
     refine g _ ?_;rw[Uq];simp;omega
  .have f:¬i<R.length:=by simpa using f
   refine g _ ?_;simp;omega
 .have j:v.length=0:=by have:=ej j;omega
  rw[av j];exact sV r (by omega)
theorem EM(hF:Q6<=F)(l:ν)(y c:Int)(a:aE):Cn F l y c a=some (addH l y c a):=by
 unfold Cn addH;refine Q3 (Z2E hF l) ?_
 refine Z9 (λh=>?_) (λh=>?_)
 .rw [av (by simpa using h)]
 .have h:ZI l=0:=by simpa using h
  rw[an (by simp[h]),YB (HC F l y c a)];unfold HC
  refine Z9 (λf=>by rw[av (by simpa using f)]) (λf=>?_);rw[an (by simpa using f),YB (HB F l y c a)]
  unfold HB;refine Z9 (λe=>by rw[av (by simpa using e)]) (λe=>?_)
  rw[an (by simpa using e)];refine Q3 (HK hF _) ?_
  refine Z9 (λb=>by rw[av (by simpa using b)]) (λb=>?_);have b:Qx a.t_=true:=by simpa using b
  rw[an (by rw[b];simp)];exact Z2H hF ((LW l).1 h) ((WH _).1 b) (Ih hF ((LW l).1 h))
theorem Ag{a b:aE}(h:∀x y,Q8 a.t_ x y=true->Q8 b.t_ x y=true->False):ZG a b=false:=by
 by_cases ha:K7 a.t_
 .by_cases hb:K7 b.t_
  .exact wc ha hb h
  .unfold ZG
   have:Qx b.t_=false:=by rw[<-gk,WH];exact hb
   rw[this];simp
 .unfold ZG
  have:Qx a.t_=false:=by rw[<-gk,WH];exact ha
  rw[this];rfl
theorem xg{a b:aE}(ha:K7 a.t_)(hb:K7 b.t_)(h:ZG a b=false):∀x y,Q8 a.t_ x y=true->Q8 b.t_ x y=true->False:=by
 intro x y c e;unfold ZG at h
 rw[Vz ha,Vz hb,eN,eN]at h;have:=(vP ha.2.1 hb.2.1).2 ⟨x,y,c,e⟩
 rw[this]at h;cases h
theorem Z5v(a b:ζ)(x y:Int):Q8 (a++b) x y=(Q8 a x y||Q8 b x y):=by
 rw[eV,ip,VO,VO,VO];constructor
 .rintro ⟨r,c,h⟩
  rcases dv.1 c with c|c
  .exact .inl ⟨r,c,h⟩
  .exact .inr ⟨r,c,h⟩
 .rintro (⟨r,c,h⟩|⟨r,c,h⟩)
  .exact ⟨r,mq _ c,h⟩
  .exact ⟨r,mf _ c,h⟩
theorem MQ(f:aC)(y:Int)(a:ζ)(h:Q8 (Wi y a f).g_.t_ u v=true):Q8 f.g_.t_ u v=true/\(f.al=y->Q8 a u v=false):=by
 unfold Wi at h;split at h
 .rename_i b
  simp only at h;rw[YE (Lg _ _),dc,iE]at h
  exact⟨h.1,λ_=>h.2⟩
 .rename_i b
  exact⟨h,λc=>absurd c b⟩
theorem jD{l:ν}:Q8 (vA l y c a) u v=true↔Q8 a u v=true\/∃f,l.find? (ZF y c)=some f/\Q8 f.g_.t_ u v=true:=by
 unfold vA;split
 .rename_i f b
  have:=UU f.g_.t_ a 1
  simp only[Qp,fJ]at this;rw[YE this,ip]
  constructor
  .rintro (h|h)
   .exact .inr ⟨f,b,h⟩
   .exact .inl h
  .rintro (h|⟨g,hg,h⟩)
   .exact .inr h
   .rw [b]at hg;cases hg;exact .inl h
 .rename_i b
  constructor
  .exact λh=>.inl h
  .rintro (h|⟨g,hg,h⟩)
   .exact h
   .rw [b]at hg;cases hg
theorem gL{l:ν}:f∈Wo l y c a↔(f∈Zc l y c a\/f=⟨y,c,⟨vA l y c a⟩⟩)/\f.g_.t_.length≠0:=by
 rw[<-(gK l y c a).mem_iff,fD,dv,dI];unfold ZB
 simp
theorem pQ(y c:Int)(f:aC):ZF y c f=true↔f.al=y/\f.c_=c:=by unfold ZF;simp
theorem Ty{l:ν}:f∈Zc l y c a↔∃g∈l,ZF y c g=false/\f=Wi y a g:=by
 unfold Zc;rw[eF]
 constructor
 .rintro ⟨g,b,rfl⟩
  have:=fD.1 b
  exact⟨g,this.1,by simpa using this.2,rfl⟩
 .rintro ⟨g,b,e,rfl⟩
  exact⟨g,fD.2 ⟨b,by simpa using e⟩,rfl⟩
theorem Q7Z{l:ν}(h:Vh l=false):l.length<=200/\∀f∈l,f.g_.t_.length<=120:=by
 unfold Vh at h;rw[fP]at h
 refine⟨by have:=ej h.1;omega,λf b=>?_⟩;have:=fZ.1 h.2 f b
 simp at this;exact this
theorem HL.apart{l:ν}(h:HL l){g:aC}(hf:f∈l)(hg:g∈l)(hy:f.al=g.al)(hc:f.c_≠g.c_):∀x y,Q8 f.g_.t_ x y=true->Q8 g.g_.t_ x y=true->False:=by
 obtain⟨i,m,rfl⟩:=eZ hf;obtain⟨j,e,rfl⟩:=eZ hg
 have c:=ie.1 h.nx;rcases mM i j with b|b|b
 .exact xg (h.val hf) (h.val hg) (c i j m e b hy)
 .subst b;exact absurd rfl hc
 .exact λx y o p=>xg (h.val hg) (h.val hf) (c j i e m b hy.symm) x y p o
theorem HL.add{l:ν}(h:HL l)(hy:0<=y/\y<=100)(hc:0<=c/\c<40)(ha:K7 a)(ht:Vh (Wo l y c a)=false):HL (Wo l y c a):=by
 obtain⟨W,Y⟩:=Q7Z ht;have N:∀g∈l,∀x G,Q8 (Wi y a g).g_.t_ x G=true->Q8 g.g_.t_ x G=true:=λg _ x G q=>(MQ g y a q).1
 refine⟨W,λf s=>?_,Z8u h.asc y c a,?_⟩
 .have b:=Y f s
  obtain⟨s,o⟩:=gL.1 s;rcases s with s|rfl
  .obtain ⟨g,t,K,rfl⟩:=Ty.1 s
   obtain⟨g1,S,g3,Z,g5,T⟩:=(GT g).1 (h.one g t);unfold Wi at o b⊢
   split at o<;>rename_i B
   .rw [av B]at b⊢
    rw[GT];simp only at b o⊢
    exact⟨g1,S,g3,Z,o,rq (Gb (Lg _ _)) b T.2.1 λu v q=>by rw[YE (Lg _ _),dc]at q;exact q.1⟩
   .rw [an B];exact h.one g t
  .rw [GT]
   simp only at b o⊢;refine⟨hy.1,hy.2,hc.1,hc.2,o,?_⟩
   unfold vA at b o⊢;split at o<;>rename_i Q
   .rename_i g
    rw[Q]at b;simp only at b
    have p:=UU g.g_.t_ a 1;simp only[Qp,fJ]at p
    refine rq (Gb p) b (a:=g.g_.t_++a) (λr w=>?_) λu v q=>?_
    .rcases dv.1 w with w|w
     .exact (h.val (mr Q)).2.1 r w
     .exact ha.2.1 r w
    .rw [YE p]at q
     rw[Z5v];exact q
   .exact ha
 .unfold NX
  have A:∀{f g:aC},(f.al=g.al->ZG f.g_ g.g_=false)->(g.al=f.al->ZG g.g_ f.g_=false):=λ{f g} q m=>by rw[Z4i];exact q m.symm
  refine((gK l y c a).pairwise_iff A).1 (m3 _ ?_);rw[il]
  refine⟨?_,iF _ _,λf s g t m=>?_⟩
  .unfold Zc
   rw[mj,oA];have V:=ie.1 h.nx
   rw[ie];intro i j M P I _ _ m
   have e:∀f:aC,(Wi y a f).al=f.al:=λf=>congrArg Prod.fst (Bx y a f)
   rw[e,e]at m;have:=xg (h.val (fp M)) (h.val (fp P)) (V i j M P I m)
   exact Ag λu v E D=>this u v (MQ _ y a E).1 (MQ _ y a D).1
  .rw [dI]at t
   subst t;obtain⟨g,t,K,rfl⟩:=Ty.1 s
   have e:(Wi y a g).al=g.al:=congrArg Prod.fst (Bx y a g);rw[e]at m
   simp only at m;refine Ag λu v E D=>?_
   obtain⟨X,U⟩:=MQ _ y a E;rcases jD.1 D with C|⟨k,O,C⟩
   .rw [U m]at C;cases C
   .have J:=mr O
    have z:=(pQ y c k).1 (nT O);refine h.apart t J (by rw[m,z.1]) (λH=>?_) u v X C
    rw[<-gk,pQ]at K;exact K ⟨m,by rw[H,z.2]⟩
theorem HL.nil:HL []:=⟨by simp,λf b=>by simp at b,.nil,.nil⟩
def YL(n:Int):Bool:=decide (97<=n)&&decide (n<=122)
def Uv(n:Int):Bool:=decide (48<=n)&&decide (n<=57)
def QG(s:ByteArray):Bool:=decide (1<=s.size)&&decide (s.size<=12)&&decide (∀i,i<s.size->(YL (K5 s (i:Nat))||(!decide (i=0)&&Uv (K5 s (i:Nat))))=true)
theorem De(hs:s.size<F)(hs2:s.size<=4294967296):UD F s=some (QG s):=by
 unfold UD;refine z5 (λz:Int=>∃i:Nat,z=i/\i<=s.size/\∀j,j<i->(YL (K5 s (j:Nat))||(!decide (j=0)&&Uv (K5 s (j:Nat))))=true) (λz=>s.size-z.toNat) (λe z w v=>?_) ⟨0,rfl,by omega,λj t=>absurd t (fy j)⟩ (by simp;omega)
 obtain⟨i,rfl,A,u⟩:=w;unfold jA
 refine Z9 (λh=>?_) (λh=>?_)
 .have h:i<s.size:=by simpa using h
  refine Z7 (k:=?_);have q:∀b:Bool,b=!(YL (K5 s (i:Nat))||(!decide (i=0)&&Uv (K5 s (i:Nat))))->XU F i e b=some (QG s):=by
   intro b p;unfold XU
   refine Z9 (λc=>?_) (λc=>?_)
   .rw [c,my,iE]at p
    congr 1
    symm
    unfold QG;rw[sM]
    right
    rw[iu];intro o
    rw[o i h]at p;cases p
   .rw [c,my,lW]at p
    refine Z7 (k:=?_);refine v _ ⟨i+1,by omega,h,λj t=>?_⟩ (by omega)
    rcases eK j i with f|f
    .exact u j f
    .have:j=i:=by omega
     subst this;exact p
  have k2:∀m r:Bool,m=YL (K5 s (i:Nat))->r=Uv (K5 s (i:Nat))->Dg F i m e r=some (QG s):=by
   intro m r c f;unfold Dg
   rw[c,f];refine Z9 (λg=>?_) (λg=>?_)
   .have g:YL (K5 s (i:Nat))=false:=by simpa using g
    refine Z9 (λl=>?_) (λl=>?_)
    .have l:i=0:=by simpa using l
     refine q _ ?_;rw[g,l];rfl
    .have l:i≠0:=by simpa using l
     refine q _ ?_;rw[g,dg l];simp
   .have g:YL (K5 s (i:Nat))=true:=by simpa using g
    refine q _ ?_;rw[g];rfl
  have k1:∀m:Bool,m=YL (K5 s (i:Nat))->Dh F s i e m=some (QG s):=by
   intro m c;unfold Dh
   refine Z7 (k:=?_);refine Z9 (λf=>?_) (λf=>?_)
   .refine Z7 (k:=?_)
    refine k2 _ _ c ?_;unfold Uv;rw[f,eN]
   .refine k2 _ _ c ?_
    unfold Uv;rw[f,lQ]
  refine Z9 (λc=>?_) (λc=>?_)
  .refine Z7 (k:=?_)
   refine k1 _ ?_;unfold YL;rw[c,eN]
  .refine k1 _ ?_
   unfold YL;rw[c,lQ]
 .have h:i=s.size:=by
   have:¬i<s.size:=by simpa using h
   omega
  subst h;unfold qN
  refine Z9 (λc=>?_) (λc=>?_)
  .unfold Df
   congr 1
   unfold QG;have c:1<=s.size:=by have:=dO c;omega
   rw[aZ c,aZ u,eN,Bool.and_true,eV,dT,dT];omega
  .unfold Df
   congr 1
   unfold QG;have c:¬1<=s.size:=by have:=ej c;omega
   rw[dg c];rfl
def Zl:ε:=[(IS #[98,97,114,108,101,121]),(IS #[99,108,111,118,101,114]),(IS #[103,114,97,115,115]),(IS #[109,97,105,122,101]),(IS #[111,97,116,115]),(IS #[114,121,101]),(IS #[118,101,116,99,104]),(IS #[119,104,101,97,116])]
theorem Aj:∀i,i<8->QG (gl Zl i)=true/\(gl Zl i).size<=12:=by decide +kernel
theorem Z7t:∀i,i<8->0<i->(YA (gl Zl i) (gl Zl (i-1))||J3 (gl Zl i) (gl Zl (i-1)))=false:=by decide +kernel
structure dQ (l:Φ):Prop where
 len:3<=l.length/\l.length<=8
 one:∀i,i<l.length->(gl l i).n_=gl Zl i/\0<=(gl l i).f_/\(gl l i).f_<=2/\0<=(gl l i).m_/\(gl l i).m_<=31
theorem x8(hF:Q6<=F){l:Φ}(h:dQ l):Xz F l=some 0:=by
 have j:=hF;unfold Q6 at hF
 obtain⟨r,q⟩:=h.len;unfold Xz
 refine Z4 (dg (by omega)) ?_;refine Xp l.length (λb i g m=>?_) (λb=>?_) (by omega)
 .obtain ⟨c,n2,n3,t,s⟩:=h.one i g
  unfold BE;simp only[dh]
  refine Y8 (by simpa using g) ?_;refine Z7 (k:=?_)
  obtain⟨p,u⟩:=Aj i (by omega);refine Q3 (De (by rw[c];omega) (by rw[c];omega)) ?_
  rw[c,p];refine Z4 rfl (Z4 (dg (by omega)) ?_)
  unfold Xy;simp only[dh]
  refine Z4 (dg (by omega)) (Z4 (dg (by omega)) ?_);unfold Xx
  simp only[dh];have f:Xw F i b false=some 0:=by
   unfold Xw;refine Z4 rfl ?_
   refine Z7 (k:=?_);exact m
  refine Z4 (dg (by omega)) (Z9 (λe=>?_) (λe=>f));have e:0<i:=by simpa using e
  refine Z7 (k:=?_);refine Z7 (k:=?_)
  have o:((i:Int)-1).toNat=i-1:=by omega
  rw[o,c,(h.one (i-1) (by omega)).1,Z7t i (by omega) e];exact f
 .unfold BE
  exact Z4 (by simp) rfl
theorem Z5d(hF:Q6<=F)(ht:dw t):∃t' l,FC F t=some (t',l)/\dw t' /\ dQ l:=by
 unfold Q6 at hF;obtain⟨m,n,C,K,P,n2⟩:=WX (F:=F) ht (lo:=3) (hi:=8) (by omega) (by omega) (by omega)
 have h:(Zl.take n.toNat).length=n.toNat:=by rw[fE];simp[Zl];omega
 have u:∀ (k f i:Nat) (t:aD) (c:Φ),i+k=n.toNat->k<f->dw t->c.length=i->(∀ j,j<i->(gl c j).n_=gl Zl j/\0<=(gl c j).f_/\(gl c j).f_<=2/\0<=(gl c j).m_/\(gl c j).m_<=31) ->
   ∃t' l,Y4 (λagain (z:Int×θ×Int×Φ)=>Bl F (m,n) again z.1 z.2.1 z.2.2.1 z.2.2.2) f ((i:Int),t.l_,t.aT,c)=some (t',l)/\dw t' /\ dQ l:=by
  intro k
  induction k with
  |zero=>
   intro f i t c p G ht q g
   cases f with
   |zero=>omega
   |succ f=>
    refine⟨⟨t.l_,t.aT⟩,c,?_,ht,⟨by omega,λj r=>g j (by omega)⟩⟩;show Bl F (m,n) _ (i:Int) t.l_ t.aT c=_
    unfold Bl;refine Z4 ?_ rfl
    show decide ((i:Int)<(((Zl.take n.toNat).length:Nat):Int))=false;rw[h];exact dg (by omega)
  |succ k ih=>
   intro f i t c p G ht q g
   cases f with
   |zero=>omega
   |succ f=>
    obtain⟨Q,a,N,O,E,T⟩:=Zd (F:=F) ht (n:=3) (by omega) (by omega);obtain⟨M,b,H,D,S,U⟩:=Zd (F:=F) O (n:=8) (by omega) (by omega)
    have B:∀j,j<8->0<=gl ([0,0,0,2,20,8,1,31]:θ) j/\gl ([0,0,0,2,20,8,1,31]:θ) j<=31:=by decide
    have s:gl (Zl.take n.toNat) i=gl Zl i:=by simp[gl,aY,show i<n.toNat from by omega]
    obtain⟨t',l,v,w,o⟩:=ih f (i+1) M (c++[⟨gl (Zl.take n.toNat) i,a,gl ([0,0,0,2,20,8,1,31]:θ) b.toNat⟩]) (by omega) (by omega) D (by simp[q]) (λj r=>by
     rcases eK j i with A|A
     .have e:gl (c++[(⟨gl (Zl.take n.toNat) i,a,gl ([0,0,0,2,20,8,1,31]:θ) b.toNat⟩:aB)]) j=gl c j:=by simp[gl,aY,iB (show j<c.length by omega)]
      rw[e];exact g j A
     .have:j=c.length:=by omega
      subst this;have e:gl (c++[(⟨gl (Zl.take n.toNat) i,a,gl ([0,0,0,2,20,8,1,31]:θ) b.toNat⟩:aB)]) c.length=⟨gl (Zl.take n.toNat) i,a,gl ([0,0,0,2,20,8,1,31]:θ) b.toNat⟩:=by simp[gl,aY]
      rw[e];obtain⟨I,J⟩:=B b.toNat (by omega)
      refine⟨by simp only;rw[s,q],E,by simp only;omega,I,J⟩)
    refine⟨t',l,?_,w,o⟩;show Bl F (m,n) _ (i:Int) t.l_ t.aT c=_
    unfold Bl;refine Y8 ?_ (Q5 ?_ (Q3 N (Q3 H (Q5 ?_ (Q5 ?_ (Q5 (U4 (by omega) (by omega)) ?_))))))
    .show decide ((i:Int)<(((Zl.take n.toNat).length:Nat):Int))=true
     rw[h];exact aZ (by omega)
    .show 0<=(i:Int)/\(i:Int)<(((Zl.take n.toNat).length:Nat):Int)
     rw[h];omega
    .simp only[dz,eg];omega
    .simp only[Y2,dz,eg];omega
    .exact v
 obtain⟨t',l,v,w,o⟩:=u n.toNat F 0 m [] (by omega) (by omega) K rfl (λj r=>absurd r (fy j));refine⟨t',l,?_,w,o⟩
 unfold FC;refine Q3 C (Q5 ?_ v)
 simp only[dz,eg];omega
structure ew (K:Int) (l:ν):Prop where
 hl:HL l
 box:∀f∈l,QZ 9 f.g_.t_
 crop:∀f∈l,f.c_<K
theorem ew.nil(K:Int):ew K []:=⟨HL.nil,λf b=>by simp at b,λf b=>by simp at b⟩
theorem gx(hb:QZ n l)(h:Q8 l u v=true):0<=u/\u<n/\0<=v/\v<n:=by
 obtain⟨r,b,c⟩:=(VO _ _ _).1 h;have:=hb r b
 rw[Yv]at c;omega
theorem ew.add{l:ν}(h:ew K l)(hy:0<=y/\y<=100)(hc:0<=c/\c<40)(hk:c<K)(ha:K7 a)(hb:QZ 9 a)(ht:Vh (Wo l y c a)=false):ew K (Wo l y c a):=by
 have o:=h.hl.add hy hc ha ht;refine⟨o,λf b=>?_,λf b=>?_⟩
 .refine (o.val b).2.2.box λu v i=>?_
  obtain⟨b,_⟩:=gL.1 b;rcases b with b|rfl
  .obtain ⟨g,j,_,rfl⟩:=Ty.1 b
   exact gx (h.box g j) (MQ g y a i).1
  .rcases jD.1 i with m|⟨g,j,m⟩
   .exact gx hb m
   .exact gx (h.box g (mr j)) m
 .obtain ⟨b,_⟩:=gL.1 b
  rcases b with b|rfl
  .obtain ⟨g,j,_,rfl⟩:=Ty.1 b
   have:=congrArg Prod.snd (Bx y a g)
   have e:(Wi y a g).c_=g.c_:=this;rw[e];exact h.crop g j
  .exact hk
theorem uq{l:ν}(h:HL l)(hy:0<=y/\y<=100)(hc:0<=c/\c<40){a:aE}(ha:K7 a.t_):addH l y c a=if Vh (Wo l y c a.t_)=true then([],1)else(Wo l y c a.t_,0):=by
 unfold addH;rw[an (by rw[(LW _).2 h];simp),an (by omega),an (by omega),an (by rw[Vz ha];simp)]
theorem ew.addH{l:ν}(h:ew K l)(hy:0<=y/\y<=100)(hc:0<=c/\c<40)(hk:c<K){a:aE}(ha:hJ 9 a):ew K (addH l y c a).1:=by
 rw[uq h.hl hy hc ha.val];split
 .exact ew.nil K
 .rename_i b
  exact h.add hy hc hk ha.val ha.box (by simpa using b)
def ZE(l:ν)(y:Int)(p:Int->Bool):ζ:=(l.filter λf=>decide (f.al=y)&&p f.c_).flatMap λf=>f.g_.t_
theorem qG(l:ν)(x:aC)(y:Int)(p:Int->Bool):ZE (l++[x]) y p=ZE l y p++(if(decide (x.al=y)&&p x.c_)=true then x.g_.t_ else[]):=by
 unfold ZE;rw[ig,lC]
 congr 1
 cases h:(decide (x.al=y)&&p x.c_)with
 |true=>simp[h]
 |false=>simp[h]
theorem I6{l:ν}(h:HL l)(y:Int)(p:Int->Bool):∀i,i<=l.length->(ZE (l.take i) y p).length<=120*i:=by
 intro i
 induction i with
 |zero=>intro _;rw[lG];exact di _
 |succ i ih=>
  intro b;rw[Za (show i<l.length by omega),qG,dK]
  have:=ih (by omega)
  have c:=(h.val (y3 (show i<l.length by omega))).1;split
  .omega
  .simp only[eg];omega
theorem Z5D(hF:Q6<=F){l:ν}(h:HL l)(y:Int){q:Int->π}(p:Int->Bool)(hq:∀f∈l,q f.c_=some (p f.c_)):FT F l y q=some (ZE l y p):=by
 have u:=hF;unfold Q6 at hF
 have t:=h.len;unfold FT
 refine z5 (λz:Int×ζ=>∃i:Nat,z=((i:Int),ZE (l.take i) y p)/\i<=l.length) (λz=>l.length-z.1.toNat) (λg z v r=>?_) ⟨0,rfl,by omega⟩ (by simp only;omega);obtain⟨i,rfl,B⟩:=v
 simp only at r⊢;unfold D1
 simp only[dh];refine Z9 (λj=>?_) (λj=>?_)
 .have j:i<l.length:=by simpa using j
  refine Z7 (k:=?_);have A:=(h.val (y3 j)).1
  have w:=I6 h y p i (by omega);have e:=qG (l.take i) (gl l i) y p
  rw[<-Za j]at e;have m:∀o,o=ZE (l.take (i+1)) y p->Ms F i g o=some (ZE l y p):=by
   rintro o rfl;unfold Ms
   refine Z7 (k:=?_);exact r _ ⟨i+1,rfl,j⟩ (by simp only;omega)
  have k1:∀b:Bool,b=(decide ((gl l i).al=y)&&p (gl l i).c_)->Mt F l i (ZE (l.take i) y p) g b=some (ZE l y p):=by
   intro b s;unfold Mt
   simp only[dh];refine Z9 (λc=>?_) (λc=>?_)
   .refine Q5 (by simp only[Y2];omega) (m _ ?_)
    rw[e,av (by rw[<-s,c])]
   .refine m _ ?_
    rw[e,an (by rw[<-s,c];simp),fW]
  refine Z9 (λc=>?_) (λc=>?_)
  .have c:(gl l i).al=y:=by simpa using c
   refine Q3 (hq _ (y3 j)) (k1 _ ?_);rw[aZ c,eN]
  .have c:¬(gl l i).al=y:=by simpa using c
   refine k1 _ ?_;rw[dg c,lQ]
 .have j:i=l.length:=by
   have:¬i<l.length:=by simpa using j
   omega
  subst j;unfold xO
  rw[fG]
