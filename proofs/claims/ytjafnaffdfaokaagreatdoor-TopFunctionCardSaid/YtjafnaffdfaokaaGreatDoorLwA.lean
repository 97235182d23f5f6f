/- What the plain programs compute, up to the law itself. -/
import Derived.Test.YtjafnaffdfaokaaGreatDoorPuB
set_option linter.unusedVariables false
set_option linter.unusedSimpArgs false
set_option maxRecDepth 20000
namespace Go.Ab
noncomputable section
def put:List Int->Int->List Int
 | [],n=>[n]
 | a::l,n=>if a<n then a::put l n else if a=n then a::l else n::a::l
theorem Q8S(n:Int)(l:List Int)(i:Nat)(h:i<l.length)(hlt:gl l i<n):put (l.drop i) n=gl l i::put (l.drop (i+1)) n:=by
 rw [Yq h,put,if_pos hlt]
theorem Sk{F:Nat}(hF:Q7<=F){l:List Int}(hl:l.length<=1048576)(n:Int):KN F l n=some (put l n):=by
 unfold Q7 at hF;unfold KN
 refine K9 (fun z:Int=>∃ i:Nat,z=i/\i<=l.length/\put l n=l.take i++put (l.drop i) n) (fun z=>l.length-z.toNat) (fun d z e f=>?_) ⟨0,rfl,by simp,by simp⟩ (by simp;omega);obtain ⟨i,rfl,j,b⟩:=e
 have k2:(∀ h:i<l.length,n<=gl l i)->Sl F l n (i:Int)=some (put l n):=by
  intro c;unfold Sl
  refine Z6 (fun h=>?_) (fun h=>?_)
  .have h:i<l.length:=by simpa using h
   have c:=c h;refine Q9 (k:=?_)
   unfold BX;rw [Yq h,put] at b
   refine Z6 (fun a=>?_) (fun a=>?_)
   .have a:gl l i=n:=by simpa using a
    rw [b,if_neg (by omega),if_pos a, <-Yq h,List.take_append_drop]
   .have a:gl l i≠n:=by simpa using a
    repeat (refine Q9 (k:=?_))
    rw [b,if_neg (by omega),if_neg a, <-Yq h];simp
  .have h:¬ i<l.length:=by simpa using h
   unfold BX;refine Z5 rfl ?_
   repeat (refine Q9 (k:=?_))
   have:i=l.length:=by omega
   subst this;simp [put] at b
   simp [b]
 unfold cc;refine Z6 (fun h=>?_) (fun h=>?_)
 .have h:i<l.length:=by simpa using h
  refine Q9 (k:=?_);unfold BY
  refine Z6 (fun a=>?_) (fun a=>?_)
  .have a:gl l i<n:=by simpa using a
   refine Q9 (k:=?_);refine f _ ⟨i+1,by omega,h,?_⟩ (by omega)
   rw [b,Q8S n l i h a,Qx h,List.append_assoc];rfl
  .exact k2 fun _=>by simpa using a
 .unfold BY
  exact Z5 rfl (k2 fun g=>absurd g (by simpa using h))
def QP(r:Rect):Bool:=decide (0<=r.L_)&&(decide (r.L_<r.R_)&&(decide (r.R_<=16384)&&(decide (0<=r.w_)&&(decide (r.w_<r.H_)&&decide (r.H_<=16384)))))
theorem ZT(r:Rect):QP r=true↔0<=r.L_/\r.L_<r.R_/\r.R_<=16384/\0<=r.w_/\r.w_<r.H_/\r.H_<=16384:=by simp [QP]
theorem jI(F:Nat)(r:Rect):Xo F r=some (QP r):=by
 unfold Xo;rw [Yt (Ve F),Yt (Ve F),Yt (Ve F),Yt (Ve F),Yt (Ve F)]
 rfl
def z6(a b:Bool)(how:Int):Bool:=if how=1 then a||b else if how=2 then a&&b else a && !b
theorem Q8v(F:Nat)(a b:Bool)(how:Int):RW F a b how=some (z6 a b how):=by
 unfold RW z6;rw [Q1M,Q1M]
 by_cases h1:how=1
 .subst h1;cases a <;> cases b <;> rfl
 .by_cases h2:how=2
  .subst h2;cases a <;> cases b <;> rfl
  .have c:(how==1)=false:=by simpa using h1
   have d:(how==2)=false:=by simpa using h2
   rw [c,d,if_neg h1,if_neg h2]
   cases a <;> cases b <;> rfl
theorem jK{F:Nat}(hF:Q7<=F){l:List Rect}(hl:l.length<=Y5)(x y:Int):BQ F l x y=some (Q4 l x y):=by
 unfold Q7 at hF;unfold Y5 at hl
 unfold BQ;refine cl (l:=l) (fun m=>some (Q4 m x y)) (fun a i d c=>?_) (fun a=>?_) (by omega)
 .unfold qv
  refine Y7 (Vj d) ?_;refine Q9 (k:=?_)
  rw [Yt (UC F i a),Yt (UC F i a),Yt (UC F i a)];unfold UC
  have e:Q4 (gl l i::l.drop (i+1)) x y=((gl l i).has x y||Q4 (l.drop (i+1)) x y):=rfl;rw [e]
  have b:(decide ((gl l i).L_<=x)&&(decide (x<(gl l i).R_)&&(decide ((gl l i).w_<=y)&&decide (y<(gl l i).H_))))=(gl l i).has x y:=by
   simp only [Rect.has,Bool.and_assoc]
  show br (decide ((gl l i).L_<=x)&&(decide (x<(gl l i).R_)&&(decide ((gl l i).w_<=y)&&decide (y<(gl l i).H_)))) _ _=_;rw [b]
  refine Z6 (fun h=>by rw [h];rfl) (fun h=>?_);refine Q9 (k:=?_)
  rw [c,h,Bool.false_or]
 .unfold qv
  exact Z5 (Ua _) rfl
def VD:List Rect->List Rect->Bool
 | [],[]=>true
 | a::l,b::m=>(a.L_==b.L_&&a.R_==b.R_)&&VD l m
 | _,_=>false
theorem gA:∀ {l m:List Rect},VD l m=true->l.length=m.length
 | [],[],_=>rfl
 | [],_::_,h=>by cases h
 | _::_,[],h=>by cases h
 | a::l,b::m,h=>by
  simp only [VD,Bool.and_eq_true] at h;simp [gA h.2]
theorem Q6G:∀ (l m:List Rect),l.length=m.length->∀ i,i<=l.length->VD (l.drop i) (m.drop i)=if h:i<l.length then (((gl l i).L_==(gl m i).L_&&(gl l i).R_==(gl m i).R_)&&VD (l.drop (i+1)) (m.drop (i+1))) else true:=by
 intro l m h i b;split
 .rename_i a
  rw [Yq a,Yq (l:=m) (by omega)];rfl
 .have:i=l.length:=by omega
  rw [List.drop_of_length_le (by omega),List.drop_of_length_le (by omega)];rfl
theorem Q8t{F:Nat}(hF:Q7<=F){l m:List Rect}(hl:l.length<=Y5):RV F l m=some (VD l m):=by
 unfold Q7 at hF;unfold Y5 at hl
 unfold RV;refine Z6 (fun h=>?_) (fun h=>?_)
 .have h:l.length≠m.length:=by simp at h;omega
  cases hs:VD l m with
  | false=>rfl
  | true=>exact absurd (gA hs) h
 .have h:l.length=m.length:=by simp at h;omega
  refine K9 (fun z:Int=>∃ i:Nat,z=i/\i<=l.length/\VD l m=VD (l.drop i) (m.drop i)) (fun z=>l.length-z.toNat) (fun f z g j=>?_) ⟨0,rfl,by simp,by simp⟩ (by simp;omega);obtain ⟨i,rfl,n,a⟩:=g
  rw [Q6G l m h i n] at a;unfold jH
  refine Z6 (fun b=>?_) (fun b=>?_)
  .have b:i<l.length:=by simpa using b
   rw [dif_pos b] at a;refine Q9 (k:=?_)
   refine Q9 (k:=?_);have o:i<m.length:=by omega
   refine Z6 (fun d=>?_) (fun d=>?_)
   .unfold BP
    refine Y7 rfl ?_;have d:(gl l i).L_≠(gl m i).L_:=by simpa using d
    have e:((gl l i).L_==(gl m i).L_)=false:=by simpa using d
    rw [a,e];rfl
   .repeat (refine Q9 (k:=?_))
    have d:(gl l i).L_=(gl m i).L_:=by simpa using d
    have e:((gl l i).L_==(gl m i).L_)=true:=by simpa using d
    rw [e,Bool.true_and] at a;unfold BP
    refine Z6 (fun c=>?_) (fun c=>?_)
    .have c:(gl l i).R_≠(gl m i).R_:=by simpa using c
     have e:((gl l i).R_==(gl m i).R_)=false:=by simpa using c
     rw [a,e];rfl
    .have c:(gl l i).R_=(gl m i).R_:=by simpa using c
     have e:((gl l i).R_==(gl m i).R_)=true:=by simpa using c
     rw [e,Bool.true_and] at a;refine Q9 (k:=?_)
     exact j _ ⟨i+1,by omega,b,a⟩ (by omega)
  .have b:¬ i<l.length:=by simpa using b
   rw [dif_neg b] at a;rw [a];rfl
section
theorem zf(l:List Int)(n v:Int):v ∈ put l n↔v=n\/v ∈ l:=by
 induction l with
 | nil=>simp [put]
 | cons a l ih=>
  unfold put;split
  .rw [List.mem_cons,ih,List.mem_cons]
   constructor
   .rintro (h|h|h);exact .inr (.inl h);exact .inl h;exact .inr (.inr h)
   .rintro (h|h|h);exact .inr (.inl h);exact .inl h;exact .inr (.inr h)
  .split
   .rename_i h;subst h
    rw [List.mem_cons];constructor
    .intro h;exact .inr h
    .rintro (h|h);exact .inl h;exact h
   .rw [List.mem_cons]
theorem Q1X{l:List Int}(h:ZZ l)(n:Int):ZZ (put l n):=by
 induction l with
 | nil=>exact List.pairwise_singleton _ _
 | cons a l ih=>
  obtain ⟨d,e⟩:=List.pairwise_cons.1 h;unfold put
  split
  .rename_i c
   refine List.pairwise_cons.2 ⟨fun v b=>?_,ih e⟩;rcases (zf l n v).1 b with rfl|b
   .exact c
   .exact d v b
  .split
   .exact h
   .refine List.pairwise_cons.2 ⟨fun v b=>?_,h⟩
    rcases List.mem_cons.1 b with rfl|b
    .omega
    .have:=d v b;omega
theorem Xx(l:List Int)(n:Int):(put l n).length<=l.length+1:=by
 induction l with
 | nil=>simp [put]
 | cons a l ih=>
  unfold put;split
  .simp;omega
  .split <;> simp
def Za(l:List Rect)(xs:List Int):List Int:=l.foldl (fun xs r=>put (put xs r.L_) r.R_) xs
def Zx(l:List Rect)(ys:List Int):List Int:=l.foldl (fun ys r=>put (put ys r.w_) r.H_) ys
theorem VN{f g:Rect->Int}(l:List Rect):∀ {xs:List Int},ZZ xs->ZZ (l.foldl (fun xs r=>put (put xs (f r)) (g r)) xs):=by
 induction l with
 | nil=>intro xs h;exact h
 | cons r l ih=>intro xs h;exact ih (Q1X (Q1X h _) _)
theorem ZF{f g:Rect->Int}(l:List Rect):∀ (xs:List Int) (v:Int),v ∈ l.foldl (fun xs r=>put (put xs (f r)) (g r)) xs↔v ∈ xs\/∃ r ∈ l,v=f r\/v=g r:=by
 induction l with
 | nil=>intro xs v;simp
 | cons r l ih=>
  intro xs v;rw [List.foldl_cons,ih,zf,zf]
  constructor
  .rintro ((h|h|h) | ⟨q,a,h⟩)
   .exact .inr ⟨r,by simp,.inr h⟩
   .exact .inr ⟨r,by simp,.inl h⟩
   .exact .inl h
   .exact .inr ⟨q,by simp [a],h⟩
  .rintro (h|⟨q,a,h⟩)
   .exact .inl (.inr (.inr h))
   .rcases List.mem_cons.1 a with rfl|a
    .rcases h with h|h
     .exact .inl (.inr (.inl h))
     .exact .inl (.inl h)
    .exact .inr ⟨q,a,h⟩
theorem XR{f g:Rect->Int}(l:List Rect):∀ (xs:List Int),(l.foldl (fun xs r=>put (put xs (f r)) (g r)) xs).length<=xs.length+2*l.length:=by
 induction l with
 | nil=>intro xs;simp
 | cons r l ih=>
  intro xs;have b:=ih (put (put xs (f r)) (g r))
  have c:=Xx (put xs (f r)) (g r);have a:=Xx xs (f r)
  simp only [List.foldl_cons,List.length_cons];omega
section
variable {F:Nat}
theorem Q1u(hF:Q7<=F){a b l:List Rect}{v:Int}(hv:0<=v/\v<=1)(hl:gl [a,b] v.toNat=l){ag:(List Int×List Int×Int)->Option (List Rect)}{y:Option (List Rect)}{xs ys:List Int}(hx:xs.length+2*l.length<=1000000)(hy:ys.length+2*l.length<=1000000)(h:ag (Za l xs,Zx l ys,v+1)=y):Z9 (fun again (z:List Int×List Int×Int)=>qE F a b v ag again z.1 z.2.1 z.2.2) F (xs,ys,0)=y:=by
 have d:=hF;unfold Q7 at hF
 refine K9 (fun z:List Int×List Int×Int=>∃ j:Nat,z.2.2=j/\j<=l.length/\Za (l.drop j) z.1=Za l xs/\Zx (l.drop j) z.2.1=Zx l ys/\z.1.length+2*(l.length-j)<=1000000/\z.2.1.length+2*(l.length-j)<=1000000)
  (fun z=>l.length-z.2.2.toNat) (fun again z n p=>?_) ⟨0,rfl,by omega,by simp,by simp,by simpa using hx,by simpa using hy⟩ (by simp;omega)
 obtain ⟨i,g,s⟩:=z;obtain ⟨j,m,r,f,e,q,o⟩:=n
 simp only at m f e q o;subst m
 unfold qE;simp only [hl,Int.toNat_natCast]
 refine Z6 (fun c=>?_) (fun c=>?_)
 .have c:j<l.length:=by simpa using c
  refine Q9 (k:=?_);have t:=Xx i (gl l j).L_
  have w:=Xx (put i (gl l j).L_) (gl l j).R_;have x:=Xx g (gl l j).w_
  have u:=Xx (put g (gl l j).w_) (gl l j).H_;refine Q3 (Sk d (by omega) _) ?_
  refine Q3 (Sk d (by omega) _) ?_;refine Q3 (Sk d (by omega) _) ?_
  refine Q3 (Sk d (by omega) _) ?_;refine Q9 (k:=?_)
  refine p _ ⟨j+1,rfl,by omega,?_,?_,by simp only;omega,by simp only;omega⟩ (by simp only;omega)
  .rw [<-f,Yq c];rfl
  .rw [<-e,Yq c];rfl
 .have c:¬ j<l.length:=by simpa using c
  have:j=l.length:=by omega
  subst this;rw [List.drop_length] at f e
  unfold qy;refine Q9 (k:=?_)
  have f:i=Za l xs:=f;have e:g=Zx l ys:=e
  rw [f,e];exact h
theorem yi(lo hi:Int):z7 ⟨lo,hi,[]⟩=[]:=rfl
theorem TA(lo hi:Int)(l:List Span)(s:Span):z7 ⟨lo,hi,l++[s]⟩=z7 ⟨lo,hi,l⟩++[⟨s.L_,lo,s.R_,hi⟩]:=by simp [z7]
theorem YN(b:Rn (List Span)):(z7 b).length=b.v.length:=by simp [z7]
theorem Gd{α:Type}[Emb α](l:List α)(x:α){n:Nat}(h:n=l.length):gl (l++[x]) n=x:=by subst h;simp [gl,List.getD_eq_getElem?_getD]
theorem MF{α:Type}(l:List α)(x y:α){n:Nat}(h:n=l.length):(l++[x]).set n y=l++[y]:=by subst h;simp
theorem Z2N(hF:Q7<=F){xs ys:List Int}{i k:Nat}{m:List Rect}{r:Rect}{ag:(Int×List Rect)->Option (List Rect)}{y:Option (List Rect)}(hk:k+1<xs.length)(hx:xs.length<=65536)(hm:m.length<=65536)(h:ag ((k:Int)+1,m++[⟨r.L_,r.w_,gl xs (k+1),r.H_⟩])=y):Jz F xs ys i k (m++[r]) ag true=y:=by
 unfold Q7 at hF;unfold Jz
 refine Y7 rfl ?_;have b:(m++[r]).length=m.length+1:=by simp
 simp only [b];have a:(((m.length+1:Nat):Int)-1).toNat=m.length:=by omega
 have c:((k:Int)+1).toNat=k+1:=by omega
 rw [a,Gd _ _ rfl,MF _ _ _ rfl,c]
 repeat (refine Q9 (k:=?_))
 exact h
theorem Z2O(hF:Q7<=F){xs ys:List Int}{i k:Nat}{m:List Rect}{ag:(Int×List Rect)->Option (List Rect)}{y:Option (List Rect)}(hk:k+1<xs.length)(hi:i+1<ys.length)(hx:xs.length<=65536)(hy:ys.length<=65536)(hm:m.length<=65536)(h:ag ((k:Int)+1,m++[⟨gl xs k,gl ys i,gl xs (k+1),gl ys (i+1)⟩])=y):Jz F xs ys i k m ag false=y:=by
 unfold Q7 at hF;unfold Jz
 refine Z5 rfl ?_;have b:((k:Int)+1).toNat=k+1:=by omega
 have a:((i:Int)+1).toNat=i+1:=by omega
 rw [b,a];simp only [Int.toNat_natCast]
 repeat (refine Q9 (k:=?_))
 exact h
theorem Z2Q(hF:Q7<=F){a b:List Rect}{how:Int}{xs ys:List Int}{i:Nat}(hi:i+1<ys.length)(hx:xs.length<=65536)(hy:ys.length<=65536)(ha:a.length<=Y5)(hb:b.length<=Y5)(hst:Step false xs fun x=>z6 (Q4 a x (gl ys i)) (Q4 b x (gl ys i)) how){out last:List Rect}{ag:(Int×List Rect×List Rect)->Option (List Rect)}{y:Option (List Rect)}(h:∀ l:List Span,SpOk l->(∀ x,J9 l x=z6 (Q4 a x (gl ys i)) (Q4 b x (gl ys i)) how)->l.length<=65536->BT F ys i out last ag (z7 ⟨gl ys i,gl ys (i+1),l⟩)=y):
  Z9 (fun again (z:Int×List Rect)=>qA F a b how xs ys i out last ag again z.1 z.2) F (0,[])=y:=by
 have g:=hF;unfold Q7 at hF
 refine K9 (fun z:Int×List Rect=>∃ (k:Nat) (l:List Span),z=((k:Int),z7 ⟨gl ys i,gl ys (i+1),l⟩)/\l.length<=k/\(k+1<=xs.length\/k=0)/\(0<xs.length->Bst false (fun x=>z6 (Q4 a x (gl ys i)) (Q4 b x (gl ys i)) how) (l.map Span.rn) (gl xs k)))
  (fun z=>xs.length-z.1.toNat) (fun again z D u=>?_) ⟨0,[],rfl,Nat.le_refl _,.inr rfl,fun A=>hst.start A⟩ (by simp;omega)
 obtain ⟨k,l,rfl,H,J,hB⟩:=D;simp only at u ⊢
 unfold qA;refine Q9 (k:=?_)
 refine Z6 (fun c=>?_) (fun c=>?_)
 .have c:k+1<xs.length:=by simp at c;omega
  have hB:=hB (by omega);have p:=hst.asc.at_lt (show k<k+1 by omega) c
  simp only [Int.toNat_natCast]
  repeat (refine Q9 (k:=?_))
  refine Q3 (jK g ha _ _) ?_
  repeat (refine Q9 (k:=?_))
  refine Q3 (jK g hb _ _) ?_;refine Q3 (Q8v _ _ _ _) ?_
  have e:=hst.gap k c;refine Z6 (fun j=>?_) (fun j=>?_)
  .have j:z6 (Q4 a (gl xs k) (gl ys i)) (Q4 b (gl xs k) (gl ys i)) how=false:=by simpa using j
   unfold BU;refine Q9 (k:=?_)
   exact u _ ⟨k+1,l,rfl,by omega,.inl (by omega),fun _=>hB.skip (by omega) fun t v B=>(e t v B).trans j⟩ (by simp only;omega)
  .have j:z6 (Q4 a (gl xs k) (gl ys i)) (Q4 b (gl xs k) (gl ys i)) how=true:=by simpa using j
   have d:(∀ s,l.getLast?=some s->s.R_≠gl xs k)->Jz F xs ys i k (z7 ⟨gl ys i,gl ys (i+1),l⟩) again false=y:=by
    intro C;refine Z2O g c hi hx hy (by rw [YN];simp only;omega) (u _ ⟨k+1,l++[⟨gl xs k,gl xs (k+1)⟩],by rw [TA];rfl,by simp;omega,.inl (by omega),fun _=>?_⟩ (by simp only;omega))
    have:=hB.add p e (fun q m I=>by
     rw [List.getLast?_map] at m
     cases f:l.getLast? with
     | none=>rw [f] at m;cases m
     | some s=>rw [f] at m;cases m;exact absurd I (C s f))
    simp only [j] at this;rw [List.map_append];exact this
   rcases List.eq_nil_or_concat l with rfl|⟨n,s,r⟩
   .refine Z5 (by simp [yi]) ?_
    exact d fun s f=>by simp at f
   .rw [List.concat_eq_append] at r
    subst r;rw [TA] at d ⊢
    have o:(z7 ⟨gl ys i,gl ys (i+1),n⟩++[(⟨s.L_,gl ys i,s.R_,gl ys (i+1)⟩:Rect)]).length=n.length+1:=by simp [YN]
    have E:n.length+1<=k:=by simpa using H
    simp only [o];have G:(((n.length+1:Nat):Int)-1).toNat=n.length:=by omega
    rw [G,Gd _ _ (by rw [YN])];refine Y7 (by simp) ?_
    repeat (refine Q9 (k:=?_))
    by_cases f:s.R_=gl xs k
    .have w:(s.R_==gl xs k)=true:=by simpa using f
     simp only [w];refine Z2N g c hx (by rw [YN];simp only;omega) (u _ ⟨k+1,n ++ [⟨s.L_,gl xs (k+1)⟩],by rw [TA];rfl,by simp only [List.length_append,List.length_cons,List.length_nil];omega,.inl (by omega),fun _=>?_⟩ (by simp only;omega))
     rw [List.map_append] at hB;have:=hB.grow (a:=s.rn) f p fun t v B=>(e t v B).trans j
     rw [List.map_append];exact this
    .have w:(s.R_==gl xs k)=false:=by simpa using f
     simp only [w];exact d fun q m=>by simp at m;subst m;exact f
 .have c:¬ k+1<xs.length:=by simp at c;omega
  by_cases A:xs.length=0
  .have:k=0:=by omega
   subst this;have:l=[]:=List.eq_nil_of_length_eq_zero (by omega)
   subst this;exact h [] .nil (fun x=>(hst.empty A x).symm) (by simp)
  .have hB:=hB (by omega)
   exact h l (.of_runs hB.runs) (fun x=>by rw [Dq];exact hst.done (by omega) hB x) (by omega)
theorem Z1r{α:Type}[Emb α](l m:List α)(x:α){n:Nat}(h:n=l.length):gl (l++x::m) n=x:=by subst h;simp [gl,List.getD_eq_getElem?_getD]
theorem Q6s{α:Type}(l m:List α)(x y:α){n:Nat}(h:n=l.length):(l++x::m).set n y=l++y::m:=by subst h;simp
theorem Z2R(hF:Q7<=F){ys:List Int}{i:Nat}(hi:i+1<ys.length)(hy:ys.length<=65536){out:List Rect}{lo hi' : Int}{l:List Span}(hl:l.length<=65536){ag:(Int×List Rect×List Rect)->Option (List Rect)}{y:Option (List Rect)}(h:ag ((i:Int)+1,out,z7 ⟨lo,gl ys (i+1),l⟩)=y):
  Z9 (fun again (z:Int×List Rect)=>qD F ys i out (z7 ⟨lo,hi',l⟩) ag again z.1 z.2) F (0,z7 ⟨lo,hi',l⟩)=y:=by
 unfold Q7 at hF;refine K9 (fun z:Int×List Rect=>∃ j:Nat,z=((j:Int),z7 ⟨lo,gl ys (i+1),l.take j⟩++z7 ⟨lo,hi',l.drop j⟩)/\j<=l.length) (fun z=>l.length-z.1.toNat) (fun again z e c=>?_) ⟨0,by simp [z7],by omega⟩ (by simp;omega)
 obtain ⟨j,rfl,n⟩:=e;simp only at c ⊢
 have g:((i:Int)+1).toNat=i+1:=by omega
 unfold qD;rw [YN]
 simp only
 refine Z6 (fun a=>?_) (fun a=>?_)
 .have a:j<l.length:=by simpa using a
  refine Q9 (k:=?_);refine Q9 (k:=?_)
  have f:l.drop j=l[j]::l.drop (j+1):=List.drop_eq_getElem_cons a;have b:(z7 ⟨lo,gl ys (i+1),l.take j⟩++z7 ⟨lo,hi',l.drop j⟩).length=l.length:=by
   rw [List.length_append,YN,YN];simp;omega
  refine Q8 (by rw [b];omega) ?_;refine Q9 (k:=?_)
  rw [g];simp only [Int.toNat_natCast]
  have m:z7 ⟨lo,hi',l.drop j⟩=(⟨(l[j]).L_,lo,(l[j]).R_,hi'⟩:Rect)::z7 ⟨lo,hi',l.drop (j+1)⟩:=by rw [f];rfl
  have d:j=(z7 ⟨lo,gl ys (i+1),l.take j⟩).length:=by rw [YN];simp;omega
  rw [m,Z1r _ _ _ d,Q6s _ _ _ _ d];refine c _ ⟨j+1,?_,a⟩ (by simp only;omega)
  rw [List.take_succ_eq_append_getElem a,TA];simp
 .have a:¬ j<l.length:=by simpa using a
  have:j=l.length:=by omega
  subst this;unfold qz BV
  refine Q9 (k:=?_);rw [List.take_length,List.drop_length,yi,List.append_nil]
  exact h
structure RowSt (rowf:Int->List Span) (c:Int) (n:Nat) (out last:List Rect):Prop where
 ex:∃ acc,Bst [] rowf acc c/\(∀ r ∈ acc,r.v≠[])/\((last=[]/\out=flat acc/\∀ r ∈ acc,r.hi<c)\/∃ acc' b,acc=acc' ++ [b]/\b.hi=c/\last=z7 b/\out=flat acc' /\ b.v.length<=65536)
 len:out.length+last.length<=n*65536
theorem Q0t(a b:List (Rn (List Span))):flat (a++b)=flat a++flat b:=by simp [flat]
theorem Q0q(b:Rn (List Span)):flat [b]=z7 b:=by simp [flat]
theorem gB(lo hi lo' hi' : Int):∀ (l m:List Span),VD (z7 ⟨lo,hi,l⟩) (z7 ⟨lo',hi',m⟩)=decide (l=m)
 | [],[]=>rfl
 | [],b::m=>rfl
 | a::l,[]=>rfl
 | a::l,b::m=>by
  have g:=gB lo hi lo' hi' l m;have i:z7 ⟨lo,hi,a::l⟩=(⟨a.L_,lo,a.R_,hi⟩:Rect)::z7 ⟨lo,hi,l⟩:=rfl
  have f:z7 ⟨lo',hi',b::m⟩=(⟨b.L_,lo',b.R_,hi'⟩:Rect)::z7 ⟨lo',hi',m⟩:=rfl;rw [i,f,VD,g]
  cases a;cases b
  rw [Bool.eq_iff_iff];constructor
  .intro h
   rw [Bool.and_eq_true,Bool.and_eq_true] at h;obtain ⟨⟨c,d⟩,e⟩:=h
   have c:=eq_of_beq c;have d:=eq_of_beq d
   have e:=of_decide_eq_true e;simp only at c d
   rw [c,d,e];exact decide_eq_true rfl
  .intro h
   have h:=of_decide_eq_true h
   injection h with c d
   injection c with e h4
   subst d;subst e;subst h4
   rw [Bool.and_eq_true,Bool.and_eq_true];exact ⟨⟨beq_self_eq_true _,beq_self_eq_true _⟩,decide_eq_true rfl⟩
theorem Z2M(hF:Q7<=F){ys:List Int}{i:Nat}(hi:i+1<ys.length)(hy:ys.length<=65536){rowf:Int->List Span}(hst:Step [] ys rowf){out last:List Rect}(hR:RowSt rowf (gl ys i) i out last){ag:(Int×List Rect×List Rect)->Option (List Rect)}{y:Option (List Rect)}(hlen:(rowf (gl ys i)).length<=65536)(h:∀ out' last',RowSt rowf (gl ys (i+1)) (i+1) out' last' -> ag ((i:Int)+1,out',last')=y):
  BT F ys i out last ag (z7 ⟨gl ys i,gl ys (i+1),rowf (gl ys i)⟩)=y:=by
 have s:=hF;unfold Q7 at hF
 obtain ⟨⟨e,hB,f,l⟩,w⟩:=hR;have u:=hst.asc.at_lt (show i<i+1 by omega) hi
 have d:=hst.gap i hi;have G:i*65536<=65536*65536:=Nat.mul_le_mul_right _ (by omega)
 generalize hv:rowf (gl ys i)=v at *;have g:(∀ a,e.getLast?=some a->a.hi=gl ys i->a.v≠v)->flat e=out++last->Sc F i out last (z7 ⟨gl ys i,gl ys (i+1),v⟩) ag=y:=by
  intro E A;unfold Sc BV
  refine Q9 (k:=?_);refine Q9 (k:=?_)
  refine h _ _ ⟨?_,?_⟩
  .by_cases hv0:v=[]
   .subst hv0
    exact ⟨e,hB.skip (by omega) fun t p x=>d t p x,f,.inl ⟨yi _ _,A.symm,fun r c=>by have:=hB.le r c;omega⟩⟩
   .refine ⟨e++[⟨gl ys i,gl ys (i+1),v⟩],?_,fun r c=>?_,.inr ⟨e,_,rfl,rfl,rfl,A.symm,hlen⟩⟩
    .have:=hB.add u (fun t p x=>(d t p x).trans hv.symm) (fun a n D=>by rw [hv];exact E a n D)
     rw [hv] at this;exact this
    .rcases List.mem_append.1 c with c|c
     .exact f r c
     .rw [List.mem_singleton.1 c];exact hv0
  .rw [List.length_append,YN,Nat.add_mul];simp only;omega
 unfold BT;rcases l with ⟨rfl,rfl,C⟩|⟨j,b,rfl,z,rfl,rfl,o⟩
 .refine Z5 rfl ?_
  unfold KM;refine Z5 rfl ?_
  exact g (fun a n D=>by have:=C a (List.mem_of_getLast? n);omega) (by simp)
 .have q:b.v≠[]:=f b (by simp)
  have B:0<b.v.length:=by
   cases hh:b.v with
   | nil=>exact absurd hh q
   | cons _ _=>simp
  have I:z7 b=z7 ⟨b.lo,b.hi,b.v⟩:=rfl;refine Y7 (by rw [YN];simpa using B) ?_
  refine Q3 (Q8t s (by rw [YN];unfold Y5;omega)) ?_;rw [I,gB]
  refine Z6 (fun m=>?_) (fun m=>?_)
  .have m:b.v=v:=of_decide_eq_true m
   refine Q8 (by rw [YN];simp only;omega) ?_;refine Q9 (k:=?_)
   have H:((gl (z7 ⟨b.lo,b.hi,b.v⟩) (0:Int).toNat).H_==gl ys (i:Int).toNat)=true:=by
    have:gl (z7 ⟨b.lo,b.hi,b.v⟩) (0:Int).toNat=(⟨(b.v[0]).L_,b.lo,(b.v[0]).R_,b.hi⟩:Rect):=by
     have:0<(z7 ⟨b.lo,b.hi,b.v⟩).length:=by rw [YN];exact B
     show gl (z7 ⟨b.lo,b.hi,b.v⟩) 0=_;rw [G8 this];simp [z7]
    rw [this];simpa using z
   rw [H];unfold KM
   refine Y7 rfl ?_;refine Z2R s hi hy o ?_
   have J:=hB.grow z u fun t p x=>(d t p x).trans m.symm
   refine h _ _ ⟨⟨j ++ [⟨b.lo,gl ys (i+1),b.v⟩],J,fun r c=>?_,.inr ⟨j,_,rfl,rfl,rfl,rfl,o⟩⟩,?_⟩
   .rcases List.mem_append.1 c with c|c
    .exact f r (by simp [c])
    .rw [List.mem_singleton.1 c];exact q
   .rw [YN] at w ⊢;rw [Nat.add_mul];exact Nat.le_trans w (Nat.le_add_right _ _)
  .have m:b.v≠v:=of_decide_eq_false m
   unfold KM;refine Z5 rfl ?_
   exact g (fun a n D=>by rw [List.getLast?_append] at n;simp at n;subst n;exact m) (by rw [Q0t,Q0q])
theorem Z2P(hF:Q7<=F){a b:List Rect}{how:Int}{xs ys:List Int}(hx:xs.length<=65536)(hy:ys.length<=65536)(ha:a.length<=Y5)(hb:b.length<=Y5)(hG:Grid xs ys fun x y=>z6 (Q4 a x y) (Q4 b x y) how):Sa F a b how xs ys=some (cn fun x y=>z6 (Q4 a x y) (Q4 b x y) how):=by
 have h:=hF;unfold Q7 at hF
 unfold Sa;have d:=hG.step
 have e:=hG.rows;refine K9 (fun z:Int×List Rect×List Rect=>∃ (i:Nat),z.1=(i:Int)/\((ys.length=0/\i=0/\z.2.1=[]/\z.2.2=[])\/(i+1<=ys.length/\RowSt (fun y=>QS fun x=>z6 (Q4 a x y) (Q4 b x y) how) (gl ys i) i z.2.1 z.2.2)))
  (fun z=>ys.length-z.1.toNat) (fun g z G v=>?_) ⟨0,rfl,?_⟩ (by simp;omega)
 .obtain ⟨M,H,D⟩:=z
  obtain ⟨i,s,f⟩:=G;simp only at s f v ⊢
  subst s;unfold jV
  refine Q9 (k:=?_);rcases f with ⟨j,rfl,rfl,rfl⟩|⟨s,E⟩
  .refine Z5 (by simp [j]) ?_
   unfold Sb;refine Q9 (k:=?_)
   have:=Hf e d .nil (fun t=>(d.empty j t).symm) (fun b hb=>by cases hb)
   rw [this.1];rfl
  .refine Z6 (fun c=>?_) (fun c=>?_)
   .have c:i+1<ys.length:=by simp at c;omega
    refine Z2Q h c hx hy ha hb (hG.x _) fun l J I m=>?_
    have w:QS (fun x=>z6 (Q4 a x (gl ys i)) (Q4 b x (gl ys i)) how)=l:=Kg J I;have:=Z2M h c hy d E (ag:=g) (y:=some (cn fun x y=>z6 (Q4 a x y) (Q4 b x y) how)) (by rw [w];exact m) fun B q n=>v _ ⟨i+1,rfl,.inr ⟨by omega,n⟩⟩ (by simp only;omega)
    rw [w] at this;exact this
   .have c:¬ i+1<ys.length:=by simp at c;omega
    unfold Sb;obtain ⟨⟨K,hB,o,L⟩,u⟩:=E
    have C:i*65536<=65536*65536:=Nat.mul_le_mul_right _ (by omega);refine Q9 (k:=?_)
    have:=Hf e d hB.runs (fun t=>d.done (by omega) hB t) o
    rw [this.1];rcases L with ⟨rfl,rfl,_⟩|⟨A,N,rfl,_,rfl,rfl,_⟩
    .simp
    .rw [Q0t,Q0q]
 .by_cases j:ys.length=0
  .exact .inl ⟨j,rfl,rfl,rfl⟩
  .exact .inr ⟨by omega,⟨⟨[],d.start (by omega),fun r p=>(by cases p),.inl ⟨rfl,rfl,fun r p=>(by cases p)⟩⟩,by simp⟩⟩
theorem Q1h(a b:List Rect)(how:Int):Grid (Za b (Za a [])) (Zx b (Zx a [])) fun x y=>z6 (Q4 a x y) (Q4 b x y) how:=
 Grid.of (VN b (VN a .nil)) (VN b (VN a .nil))
  (fun r c=>⟨(ZF b _ _).2 (.inl ((ZF a _ _).2 (.inr ⟨r,c,.inl rfl⟩))),(ZF b _ _).2 (.inl ((ZF a _ _).2 (.inr ⟨r,c,.inr rfl⟩)))⟩)
  (fun r c=>⟨(ZF b _ _).2 (.inr ⟨r,c,.inl rfl⟩),(ZF b _ _).2 (.inr ⟨r,c,.inr rfl⟩)⟩)
  (fun r c=>⟨(ZF b _ _).2 (.inl ((ZF a _ _).2 (.inr ⟨r,c,.inl rfl⟩))),(ZF b _ _).2 (.inl ((ZF a _ _).2 (.inr ⟨r,c,.inr rfl⟩)))⟩)
  (fun r c=>⟨(ZF b _ _).2 (.inr ⟨r,c,.inl rfl⟩),(ZF b _ _).2 (.inr ⟨r,c,.inr rfl⟩)⟩)
  (k:=fun p q=>z6 p q how) (by show z6 false false how=false;unfold z6;split;rfl;split <;> rfl)
theorem jU(hF:Q7<=F){a b:List Rect}{how:Int}(ha:a.length<=200000)(hb:b.length<=200000)(hx:(Za b (Za a [])).length<=65536)(hy:(Zx b (Zx a [])).length<=65536):
  Wo F a b how=some (cn fun x y=>z6 (Q4 a x y) (Q4 b x y) how):=by
 have d:=hF;unfold Q7 at hF
 have j:=Q1h a b how;have n:=Z2P d hx hy (by unfold Y5;omega) (by unfold Y5;omega) j
 have m:=XR (f:=Rect.L_) (g:=Rect.R_) a [];have i:=XR (f:=Rect.w_) (g:=Rect.H_) a []
 have o:∀ c:(List Int×List Int×Int)->Option (List Rect),BW F a b how c (Za b (Za a [])) (Zx b (Zx a [])) 2=some (cn fun x y=>z6 (Q4 a x y) (Q4 b x y) how):=fun c=>by
  unfold BW;exact Z5 rfl n
 have q:(Za a []).length<=2*a.length:=by have:=m;simpa [Za] using this
 have p:(Zx a []).length<=2*a.length:=by have:=i;simpa [Zx] using this
 unfold Wo;refine K9 (fun z:List Int×List Int×Int=>z=([],[],0)\/z=(Za a [],Zx a [],1)\/z=(Za b (Za a []),Zx b (Zx a []),2)) (fun z=>2-z.2.2.toNat) (fun c z h e=>?_) (.inl rfl) (by simp;omega)
 rcases h with rfl|rfl|rfl
 .simp only
  unfold BW;refine Y7 rfl ?_
  refine Q9 (k:=?_);refine Q1u d (l:=a) (by omega) rfl (by simp;omega) (by simp;omega) ?_
  exact e _ (.inr (.inl rfl)) (by simp)
 .simp only
  unfold BW;refine Y7 rfl ?_
  refine Q9 (k:=?_);refine Q1u d (l:=b) (by omega) rfl (xs:=Za a []) (ys:=Zx a []) (by omega) (by omega) ?_
  exact e _ (.inr (.inr rfl)) (by simp)
 .exact o c
end
end
section
theorem Z1o{xs ys:List Int}{S:Int->Int->Bool}(h:Grid xs ys S):Fin S:=by
 have d:=h.step
 by_cases h0:ys.length=0
 .exact (Hf h.rows d .nil (fun t=>(d.empty h0 t).symm) (fun b u=>by cases u)).2
 .have p:∀ i,i+1<=ys.length->∃ g,Bst [] (fun y=>QS fun x=>S x y) g (gl ys i)/\∀ r ∈ g,r.v≠[]:=by
   intro i
   induction i with
   | zero=>intro _;exact ⟨[],d.start (by omega),fun r c=>by cases c⟩
   | succ i ih=>
    intro w;obtain ⟨g,hB,f⟩:=ih (by omega)
    have k:=d.asc.at_lt (show i<i+1 by omega) (by omega);have e:=d.gap i (by omega)
    by_cases hv:QS (fun x=>S x (gl ys i))=[]
    .exact ⟨g,hB.skip (by omega) fun t m o=>(e t m o).trans hv,f⟩
    .rcases List.eq_nil_or_concat g with rfl|⟨q,b,j⟩
     .refine ⟨_,hB.add k e (fun a l=>by simp at l),fun r c=>?_⟩
      simp at c;rw [c];exact hv
     .rw [List.concat_eq_append] at j
      subst j
      by_cases hm:b.hi=gl ys i/\b.v=QS fun x=>S x (gl ys i)
      .refine ⟨_,hB.grow hm.1 k fun t m o=>(e t m o).trans hm.2.symm,fun r c=>?_⟩
       rcases List.mem_append.1 c with c|c
       .exact f r (by simp [c])
       .rw [List.mem_singleton.1 c];exact f b (by simp)
      .refine ⟨_,hB.add k e (fun a l s n=>?_),fun r c=>?_⟩
       .simp at l;subst l;exact hm ⟨s,n⟩
       .rcases List.mem_append.1 c with c|c
        .exact f r c
        .rw [List.mem_singleton.1 c];exact hv
  obtain ⟨g,hB,f⟩:=p (ys.length-1) (by omega);exact (Hf h.rows d hB.runs (fun t=>d.done (by omega) hB t) f).2
theorem Vn(a b:List Rect)(how:Int):Fin fun x y=>z6 (Q4 a x y) (Q4 b x y) how:=Z1o (Q1h a b how)
theorem cQ(l:List Rect):(fun x y=>z6 (Q4 l x y) (Q4 [] x y) 1)=Q4 l:=by
 funext x y;simp [z6,Q4]
theorem QZ(l:List Rect):Fin (Q4 l):=by have:=Vn l [] 1;rwa [cQ] at this
theorem Gs(l:List Rect):Yg l↔cn (Q4 l)=l:=⟨fun h=>h.eq_cn.symm,fun h=>by rw [<-h];exact UT (QZ l)⟩
theorem Cn{l:List Rect}:(Za l []).length<=2*l.length:=by have:=XR (f:=Rect.L_) (g:=Rect.R_) l [];simpa [Za] using this
theorem Z2A{l:List Rect}:(Zx l []).length<=2*l.length:=by have:=XR (f:=Rect.w_) (g:=Rect.H_) l [];simpa [Zx] using this
theorem Q1i{a b:List Rect}:(Za b (Za a [])).length<=2*a.length+2*b.length:=by
 have c:=XR (f:=Rect.L_) (g:=Rect.R_) b (Za a []);have d:=Cn (l:=a)
 have c:(Za b (Za a [])).length<=(Za a []).length+2*b.length:=c;omega
theorem Z2z{a b:List Rect}:(Zx b (Zx a [])).length<=2*a.length+2*b.length:=by
 have c:=XR (f:=Rect.w_) (g:=Rect.H_) b (Zx a []);have d:=Z2A (l:=a)
 have c:(Zx b (Zx a [])).length<=(Zx a []).length+2*b.length:=c;omega
theorem jS{F:Nat}(hF:Q7<=F){a b:List Rect}{how:Int}(h:a.length+b.length<=32768):Wo F a b how=some (cn fun x y=>z6 (Q4 a x y) (Q4 b x y) how):=
 jU hF (by omega) (by omega) (by have:=Q1i (a:=a) (b:=b);omega) (by have:=Z2z (a:=a) (b:=b);omega)
theorem jT{F:Nat}(hF:Q7<=F){l:List Rect}(h:l.length<=32768):Wo F l [] 1=some (cn (Q4 l)):=by
 rw [jS hF (by simpa using h),cQ]
theorem zn{α:Type}[Emb α][DecidableEq α](l m:List α)(h:l.length=m.length)(i:Nat)(hi:i<l.length):decide (l.drop i=m.drop i)=(decide (gl l i=gl m i)&&decide (l.drop (i+1)=m.drop (i+1))):=by
 rw [Yq hi,Yq (l:=m) (by omega)];rw [Bool.eq_iff_iff,Bool.and_eq_true,decide_eq_true_iff,decide_eq_true_iff,decide_eq_true_iff,List.cons.injEq]
theorem ce(r s:Rect):((r.L_==s.L_)&&((r.w_==s.w_)&&((r.R_==s.R_)&&((r.H_==s.H_)&&true))))=decide (r=s):=by
 cases r;cases s
 rw [Bool.eq_iff_iff,decide_eq_true_iff];simp
theorem Q8x{F:Nat}(hF:Q7<=F){l m:List Rect}(hm:m.length<=Y5):RX F l m=some (decide (l=m)):=by
 unfold Q7 at hF;unfold Y5 at hm
 unfold RX;refine Z6 (fun h=>?_) (fun h=>?_)
 .have h:l.length≠m.length:=by simp at h;omega
  rw [decide_eq_false fun e=>h (by rw [e])]
 .have h:l.length=m.length:=by simp at h;omega
  refine K9 (fun z:Int=>∃ i:Nat,z=i/\i<=l.length/\decide (l=m)=decide (l.drop i=m.drop i)) (fun z=>l.length-z.toNat) (fun d z f g=>?_) ⟨0,rfl,by omega,by simp⟩ (by simp;omega);obtain ⟨i,rfl,j,c⟩:=f
  unfold jO;refine Z6 (fun a=>?_) (fun a=>?_)
  .have a:i<l.length:=by simpa using a
   rw [zn l m h i a] at c;refine Q9 (k:=?_)
   refine Q9 (k:=?_);rw [ce]
   refine Z6 (fun b=>?_) (fun b=>?_)
   .have b:decide (gl l i=gl m i)=false:=by simpa using b
    rw [c,b];rfl
   .have b:decide (gl l i=gl m i)=true:=by simpa using b
    rw [b,Bool.true_and] at c;refine Q9 (k:=?_)
    exact g _ ⟨i+1,by omega,a,c⟩ (by omega)
  .have a:¬ i<l.length:=by simpa using a
   have:i=l.length:=by omega
   rw [c,List.drop_of_length_le (by omega),List.drop_of_length_le (by omega),decide_eq_true rfl];rfl
def J2(l:List Rect):Prop:=l.length<=120/\(∀ r ∈ l,QP r=true)/\Yg l
open Classical in
noncomputable def Qn(l:List Rect):Bool:=decide (J2 l)
theorem Wj(l:List Rect):Qn l=true↔J2 l:=by unfold Qn;exact @decide_eq_true_iff (J2 l) (Classical.propDecidable _)
theorem GG{l:List Rect}(h:¬ J2 l):Qn l=false:=by rw [<-Bool.not_eq_true,Wj];exact h
theorem YX{l:List Rect}(h:J2 l):Qn l=true:=(Wj l).2 h
theorem Z3v{α:Type}[Emb α]{l:List α}{p:α->Prop}{i:Nat}(h:i<l.length):(∀ x ∈ l.drop i,p x)↔p (gl l i)/\∀ x ∈ l.drop (i+1),p x:=by rw [Yq h];simp
theorem BR{F:Nat}(hF:Q7<=F)(a:Re_):Jy F a=some (Qn a.t_):=by
 have e:=hF;unfold Q7 at hF
 obtain ⟨l⟩:=a;simp only
 unfold Jy;refine Z6 (fun h=>?_) (fun h=>?_)
 .have h:120<l.length:=by simp at h;omega
  rw [GG fun d=>by have:=d.1;omega]
 .have h:l.length<=120:=by simp at h;omega
  refine K9 (fun z:Int=>∃ i:Nat,z=i/\i<=l.length/\((∀ r ∈ l,QP r=true)↔∀ r ∈ l.drop i,QP r=true)) (fun z=>l.length-z.toNat) (fun g z j m=>?_) ⟨0,rfl,by omega,by simp⟩ (by simp;omega);obtain ⟨i,rfl,n,f⟩:=j
  unfold jM;simp only
  refine Z6 (fun b=>?_) (fun b=>?_)
  .have b:i<l.length:=by simpa using b
   rw [Z3v (p:=fun r=>QP r=true) b] at f;refine Q9 (k:=?_)
   refine Q3 (jI _ _) ?_;refine Z6 (fun c=>?_) (fun c=>?_)
   .have c:QP (gl l i)=false:=by simpa using c
    rw [GG fun d=>by have:=(f.1 d.2.1).1;rw [c] at this;cases this]
   .have c:QP (gl l i)=true:=by simpa using c
    refine Q9 (k:=?_);exact m _ ⟨i+1,by omega,b,f.trans ⟨fun h=>h.2,fun h=>⟨c,h⟩⟩⟩ (by omega)
  .have b:¬ i<l.length:=by simpa using b
   rw [List.drop_of_length_le (by omega)] at f;unfold qw
   refine Q3 (jT e (by simp only;omega)) ?_;refine Q3 (Q8x e (by unfold Y5;simp only;omega)) ?_
   simp only
   by_cases hc:cn (Q4 l)=l
   .rw [decide_eq_true hc,YX ⟨h,f.2 (by simp),(Gs l).2 hc⟩]
   .rw [decide_eq_false hc,GG fun d=>hc ((Gs l).1 d.2.2)]
theorem Q8F{F:Nat}(l:List Rect):Se F l=some (if 120<l.length then (⟨[]⟩,1) else (⟨l⟩,0)):=by
 unfold Se;refine Z6 (fun h=>?_) (fun h=>?_)
 .have h:120<l.length:=by simp at h;omega
  rw [if_pos h]
 .have h:¬ 120<l.length:=by simp at h;omega
  rw [if_neg h]
theorem Q8z{F:Nat}(hF:Q7<=F){l:List Rect}(hl:l.length<=120)(hp:∀ r ∈ l,QP r=true):RY F l=some (if 120<(cn (Q4 l)).length then (⟨[]⟩,1) else (⟨cn (Q4 l)⟩,0)):=by
 have b:=hF;unfold Q7 at hF
 unfold RY;refine Z5 (by simp;omega) ?_
 refine K9 (fun z:Int=>∃ i:Nat,z=i/\i<=l.length) (fun z=>l.length-z.toNat) (fun c z d e=>?_) ⟨0,rfl,by omega⟩ (by simp;omega);obtain ⟨i,rfl,f⟩:=d
 unfold jP;refine Z6 (fun a=>?_) (fun a=>?_)
 .have a:i<l.length:=by simpa using a
  refine Q9 (k:=?_);refine Q3 (jI _ _) ?_
  refine Z5 (by rw [Int.toNat_natCast,hp _ (J7 a)];rfl) ?_;refine Q9 (k:=?_)
  exact e _ ⟨i+1,by omega,a⟩ (by omega)
 .unfold qx
  refine Q3 (jT b (by omega)) ?_;refine Q3 (Q8F _) ?_
  rfl
end
section
open Go.Sort
def vv(l:List Int):Prop:=l.Pairwise (· <= ·)
theorem Q4T{l:List Int}(hl:l.length<=Y5):∃ r,VU l=some r/\vv r/\(∀ v,v ∈ r↔v ∈ l)/\r.length=l.length:=by
 refine ⟨l.mergeSort fun x y=>decide (x<=y),by unfold VU;rw [if_pos hl],?_,fun v=>List.mem_mergeSort,List.length_mergeSort l⟩;have:=List.pairwise_mergeSort (le:=fun x y:Int=>decide (x<=y)) (fun a b c d e=>by simp at *;omega) (fun a b=>by simp;omega) l
 exact this.imp fun h=>by simpa using h
def dd:List Int->List Int
 | []=>[]
 | [a]=>[a]
 | a::b::l=>if a=b then dd (b::l) else a::dd (b::l)
theorem Cm(l:List Int)(x:Int):dd (l++[x])=if l.getLast?=some x then dd l else dd l++[x]:=by
 match l with
 | []=>simp [dd]
 | [a]=>by_cases h:a=x <;> simp [dd,h]
 | a::b::l=>
  have c:=Cm (b::l) x;have e:(a::b::l).getLast?=(b::l).getLast?:=by simp [List.getLast?_cons]
  rw [e]
  by_cases h:a=b
  .simp only [List.cons_append,dd,h,if_true] at c ⊢
   exact c
  .simp only [List.cons_append,dd,h,if_false] at c ⊢
   rw [c];split <;> rfl
theorem SA(l:List Int)(v:Int):v ∈ dd l↔v ∈ l:=by
 match l with
 | []=>simp [dd]
 | [a]=>simp [dd]
 | a::b::l=>
  have c:=SA (b::l) v;unfold dd
  split
  .rename_i h;subst h;rw [c];simp
  .rw [List.mem_cons,c,List.mem_cons (a:=v) (b:=a)]
theorem yJ(l:List Int)(h:vv l):ZZ (dd l):=by
 match l with
 | []=>exact .nil
 | [a]=>exact List.pairwise_singleton _ _
 | a::b::l=>
  obtain ⟨f,d⟩:=List.pairwise_cons.1 h;have e:=yJ (b::l) d
  unfold dd;split
  .exact e
  .rename_i g
   refine List.pairwise_cons.2 ⟨fun v c=>?_,e⟩;rw [SA] at c
   have:=f b (by simp)
   rcases List.mem_cons.1 c with rfl|c
   .omega
   .have:=(List.pairwise_cons.1 d).1 v c;omega
theorem yI(l:List Int):(dd l).length<=l.length:=by
 match l with
 | []=>simp [dd]
 | [a]=>simp [dd]
 | a::b::l=>
  have c:=yI (b::l);unfold dd
  split
  .simp at c ⊢;omega
  .simp at c ⊢;omega
theorem bl{l:List Int}{i:Nat}(h:i<l.length):(l.take (i+1)).getLast?=some (gl l i):=by rw [Qx h];simp
theorem XK{α:Type}[Emb α](l:List α)(i j:Nat)(x:α)(h:i<l.length):gl (l.set i x) j=if i=j then x else gl l j:=by
 simp only [gl,List.getD_eq_getElem?_getD,List.getElem?_set]
 by_cases hij:i=j
 .subst hij;simp [h]
 .simp [hij]
theorem Fy{α:Type}(l:List α)(i n:Nat)(x:α)(h:n<=i):(l.set i x).take n=l.take n:=by
 apply List.ext_getElem?;intro j
 simp only [List.getElem?_take,List.getElem?_set];split
 .rw [if_neg (by omega)]
 .rfl
theorem FA{α:Type}[Emb α](l:List α)(k n:Nat)(h:k<=l.length):(clr l (0+k) n).take k=l.take k:=by
 apply List.ext_getElem?;intro j
 simp only [List.getElem?_take,clr];split
 .rename_i a
  have:j<l.length:=by omega
  simp only [List.getElem?_map,List.getElem?_range this,Option.map_some];rw [if_neg (by omega),G8 this,List.getElem?_eq_getElem this]
 .rfl
theorem yR{α:Type}[Emb α](l:List α)(lo n:Nat):(clr l lo n).length=l.length:=by simp [clr]
theorem kR{F:Nat}(hF:Q7<=F){l:List Int}(hl:l.length<=Y5):PV F l=some (dd l):=by
 have I:=hF;unfold Q7 at hF;unfold Y5 at hl
 unfold PV;refine Z6 (fun h=>?_) (fun h=>?_)
 .have h:l.length<2:=by simp at h;omega
  match l,h with
  | [],_=>rfl
  | [a],_=>rfl
 .have h:2<=l.length:=by simp at h;omega
  refine K9 (fun z:Int=>∃ k:Nat,z=k/\1<=k/\k<=l.length/\dd (l.take k)=l.take k) (fun z=>l.length-z.toNat) (fun B z x C=>?_) ⟨1,rfl,by omega,by omega,?_⟩ (by simp;omega)
  .obtain ⟨k,rfl,G,L,v⟩:=x
   unfold kV;refine Z6 (fun m=>?_) (fun m=>?_)
   .have m:k<l.length:=by simpa using m
    refine Q9 (k:=?_);refine Q9 (k:=?_)
    refine Q9 (k:=?_);have D:((k:Int)-1).toNat=k-1:=by omega
    rw [D];simp only [Int.toNat_natCast]
    have f:(l.take k).getLast?=some (gl l (k-1)):=by
     have:=bl (l:=l) (i:=k-1) (by omega)
     rwa [show k-1+1=k from by omega] at this
    refine Z6 (fun o=>?_) (fun o=>?_)
    .have o:gl l k=gl l (k-1):=by simpa using o
     refine Q9 (k:=?_);have A:dd (l.take (k+1))=l.take k:=by rw [Qx m,Cm,f,if_pos (by rw [o]),v]
     refine K9 (fun z:Int×Int×List Int=>∃ (q r:Nat) (c:List Int),z=((q:Int),(r:Int),c)/\1<=r/\k+r<=l.length/\q+1<=k+r/\1<=q/\c.length=l.length/\(∀ j,q<=j->gl c j=gl l j)/\c.take q=dd (l.take (k+r)))
      (fun z=>l.length-z.2.1.toNat) (fun w z x n=>?_) ⟨k,1,l,rfl,by omega,by omega,by omega,by omega,rfl,fun _ _=>rfl,A.symm⟩ (by simp only;omega)
     obtain ⟨q,r,c,rfl,N,K,J,E,t,g,p⟩:=x;simp only at n ⊢
     unfold kU;simp only [Int.toNat_natCast,Nat.zero_add]
     refine Z6 (fun u=>?_) (fun u=>?_)
     .have u:r<l.length-k:=by simp at u;omega
      refine Q9 (k:=?_);refine Q9 (k:=?_)
      refine Q9 (k:=?_);refine Q9 (k:=?_)
      have H:((r:Int)-1).toNat=r-1:=by omega
      rw [H];refine Q9 (k:=?_)
      rw [g (k+r) (by omega),g (k+(r-1)) (by omega)];have y:(l.take (k+r)).getLast?=some (gl l (k+(r-1))):=by
       have:=bl (l:=l) (i:=k+(r-1)) (by omega)
       rwa [show k+(r-1)+1=k+r from by omega] at this
      have s:dd (l.take (k+r+1))=if gl l (k+(r-1))=gl l (k+r) then dd (l.take (k+r)) else dd (l.take (k+r))++[gl l (k+r)]:=by
       rw [Qx (by omega),Cm,y];simp
      refine Z6 (fun d=>?_) (fun d=>?_)
      .have d:gl l (k+r)≠gl l (k+(r-1)):=by simpa using d
       repeat (refine Q9 (k:=?_))
       refine n _ ⟨q+1,r+1,c.set q (gl l (k+r)),rfl,by omega,by omega,by omega,by omega,by simp [t],fun j M=>?_,?_⟩ (by simp only;omega)
       .rw [XK _ _ _ _ (by omega),if_neg (by omega)];exact g j (by omega)
       .rw [show k+(r+1)=k+r+1 from rfl,s,if_neg (fun e=>d e.symm), <-p,Qx (by simp;omega),Fy _ _ _ _ (Nat.le_refl _),XK _ _ _ _ (by omega),if_pos rfl]
      .have d:gl l (k+r)=gl l (k+(r-1)):=by simpa using d
       unfold Mz;refine Q9 (k:=?_)
       refine n _ ⟨q,r+1,c,rfl,by omega,by omega,by omega,by omega,t,g,?_⟩ (by simp only;omega);rw [show k+(r+1)=k+r+1 from rfl,s,if_pos d.symm,p]
     .have u:¬ r<l.length-k:=by simp at u;omega
      unfold Lb;simp only [Int.toNat_natCast,yR]
      refine Q9 (k:=?_);refine Q9 (k:=?_)
      rw [FA _ _ _ (by omega),p,List.take_of_length_le (by omega)]
    .have o:gl l k≠gl l (k-1):=by simpa using o
     unfold La;refine Q9 (k:=?_)
     refine C _ ⟨k+1,by omega,by omega,m,?_⟩ (by omega);rw [Qx m,Cm,f,if_neg (fun e=>o (by simpa using e.symm)),v]
   .have m:¬ k<l.length:=by simpa using m
    have:k=l.length:=by omega
    subst this;rw [List.take_length] at v
    unfold FZ;rw [v]
  .match l,h with
   | a::b::l,_=>rfl
end
section
open Go.Sort
def Uc(l:List Rect):List Int:=l.flatMap fun r=>[r.w_,r.H_]
def Vk(ls:List (List Rect)):List Int:=ls.flatMap Uc
def Vp(ls:List (List Rect)):List Int:=dd ((Vk ls).mergeSort fun x y=>decide (x<=y))
theorem Q4i(l:List Int):vv (l.mergeSort fun x y=>decide (x<=y)):=by
 have:=List.pairwise_mergeSort (le:=fun x y:Int=>decide (x<=y)) (fun a b c d e=>by simp at *;omega) (fun a b=>by simp;omega) l
 exact this.imp fun h=>by simpa using h
theorem Q1g(ls:List (List Rect)):ZZ (Vp ls):=yJ _ (Q4i _)
theorem cW(ls:List (List Rect))(v:Int):v ∈ Vp ls↔∃ l ∈ ls,∃ r ∈ l,v=r.w_\/v=r.H_:=by
 unfold Vp;rw [SA,List.mem_mergeSort]
 simp [Vk,Uc]
theorem Q9W(l:List Rect):(Uc l).length=2*l.length:=by
 induction l with
 | nil=>rfl
 | cons r l ih=>
  have:(Uc (r::l)).length=2+(Uc l).length:=by simp [Uc];omega
  rw [this,ih,List.length_cons];omega
def Wt(ls:List (List Rect)):Nat:=(ls.map List.length).sum
theorem Q9V(ls:List (List Rect)):(Vk ls).length=2*Wt ls:=by
 induction ls with
 | nil=>rfl
 | cons l ls ih=>
  have:(Vk (l::ls)).length=(Uc l).length+(Vk ls).length:=by simp [Vk]
  rw [this,ih,Q9W];simp [Wt];omega
theorem Q1f(ls:List (List Rect)):(Vp ls).length<=2*Wt ls:=by
 unfold Vp;have:=yI ((Vk ls).mergeSort fun x y=>decide (x<=y))
 rw [List.length_mergeSort,Q9V] at this;exact this
theorem LZ{F:Nat}(hF:Q7<=F){ls:List (List Rect)}(h:Wt ls<=1000000000)(hn:ls.length<=1000000):KA F ls=some (Vp ls):=by
 have f:=hF;unfold Q7 at hF
 unfold KA;refine (KP (l:=ls) (σ:=List Int) (fun b a=>a.length+2*Wt b<=2000000000) (fun b a=>some (dd ((a++Vk b).mergeSort fun x y=>decide (x<=y))))
  (fun e i a q d m=>?_) (fun e a d=>?_) (by omega) (by simp;omega)).trans rfl
 .unfold qd
  refine Y7 (Vj q) ?_;refine Q9 (k:=?_)
  simp only [Int.toNat_natCast];generalize hl:gl ls i=l at *
  have o:Wt (l::ls.drop (i+1))=l.length+Wt (ls.drop (i+1)):=by simp [Wt]
  rw [o] at d;refine (KP (l:=l) (σ:=List Int) (fun b a=>a.length+2*b.length+2*Wt (ls.drop (i+1))<=2000000000) (fun b a=>some (dd ((a++Uc b++Vk (ls.drop (i+1))).mergeSort fun x y=>decide (x<=y))))
   (fun c j a n d g=>?_) (fun c a d=>?_) (by omega) (by omega)).trans ?_
  .simp only
   unfold qc;simp only [Int.toNat_natCast,hl]
   refine Y7 (Vj n) ?_;simp only [List.length_cons] at d
   refine Q9 (k:=?_);refine Q9 (k:=?_)
   refine Q9 (k:=?_);rw [g _ (by simp only [List.length_append,List.length_cons,List.length_nil];omega)]
   simp [Uc]
  .simp only
   unfold qc;simp only [Int.toNat_natCast,hl]
   refine Z5 (Ua _) ?_;unfold qb
   refine Q9 (k:=?_);rw [m _ (by simp only [List.length_nil] at d;omega)]
   simp [Uc]
  .simp [Vk]
 .simp only
  unfold qd;refine Z5 (Ua _) ?_
  unfold qa;have d:a.length<=2000000000:=by simp [Wt] at d;omega
  have p:VU a=some (a.mergeSort fun x y=>decide (x<=y)):=by unfold VU;rw [if_pos (by unfold Y5;omega)]
  refine Q3 p ?_;refine Q3 (kR f (by rw [List.length_mergeSort];unfold Y5;omega)) ?_
  simp [Vk]
theorem DV(F:Nat)(a b:Int):WC F a b=some (if a<b then -1 else if b<a then 1 else 0):=by
 unfold WC Cp;refine Q3 rfl (Q3 rfl ?_)
 refine Z5 (by simp) (Z5 (by simp) ?_);refine Z6 (fun h=>?_) (fun h=>?_)
 .have h:a<b:=by simpa using h
  rw [if_pos h]
 .have h:¬ a<b:=by simpa using h
  rw [if_neg h];refine Z6 (fun h=>?_) (fun h=>?_)
  .have h:b<a:=by simpa using h
   rw [if_pos h]
  .have h:¬ b<a:=by simpa using h
   rw [if_neg h]
def Gq(a b:Span):Int:=if a.L_<b.L_ then -1 else if b.L_<a.L_ then 1 else 0
theorem SC(a b:Span):ZL Gq a b=decide (a.L_<b.L_):=by
 unfold ZL Gq
 by_cases h:a.L_<b.L_
 .simp [h]
 .by_cases h2:b.L_<a.L_ <;> simp [h,h2]
theorem xB:SWO (ZL Gq) where
 irrefl x:=by rw [SC];simp
 trans x y z h1 h2:=by rw [SC] at *;simp at *;omega
 ntrans x y z h1 h2:=by rw [SC] at *;simp at *;omega
theorem Q9d{α:Type}[Emb α](cf:α->α->Int)(hO:SWO (ZL cf))(l:List α):(ZC cf l).Perm l/\(ZC cf l).Pairwise fun a b=>ZL cf b a=false:=by
 letI inst:Inhabited α:=⟨Emb.d⟩
 have h:=pdq_sorts (ZL cf) hO l.toArray 0 l.length (Lib.bitLen l.length) true true (Nat.zero_le _) (by simp) (.inl rfl);have c:(pdq (ZL cf) l.toArray 0 l.length (Lib.bitLen l.length) true true).size=l.length:=by simpa using h.1.1
 constructor
 .have:=h.1.2.2
  simp only [List.extract_toArray,List.extract_eq_take_drop,Nat.sub_zero,List.drop_zero,List.take_length] at this;have e:((pdq (ZL cf) l.toArray 0 l.length (Lib.bitLen l.length) true true).extract 0 l.length).toList=ZC cf l:=by
   unfold ZC;generalize pdq (ZL cf) l.toArray 0 l.length (Lib.bitLen l.length) true true=d at c
   rw [<-c];simp
  rw [e] at this;exact this
 .rw [List.pairwise_iff_getElem]
  intro i j n m g;have k : i<(pdq (ZL cf) l.toArray 0 l.length (Lib.bitLen l.length) true true).size:=by simpa [ZC] using n
  have f : j<(pdq (ZL cf) l.toArray 0 l.length (Lib.bitLen l.length) true true).size:=by simpa [ZC] using m
  have:=h.2 i j (Nat.zero_le _) g (by omega)
  rw [getElem!_pos _ j f,getElem!_pos _ i k] at this;simpa [ZC] using this
def We(l:List Rect)(y:Int):List Span:=(l.filter fun r=>decide (r.w_<=y)&&decide (y<r.H_)).map fun r=>⟨r.L_,r.R_⟩
theorem Q0p(r:Rect)(l:List Rect)(y:Int):We (r::l) y=if (decide (r.w_<=y)&&decide (y<r.H_))=true then ⟨r.L_,r.R_⟩::We l y else We l y:=by
 unfold We;rw [List.filter_cons]
 split <;> rfl
theorem Z0Q(l:List Rect)(x y:Int):J9 (We l y) x=Q4 l x y:=by
 induction l with
 | nil=>rfl
 | cons r l ih=>
  have e:Q4 (r::l) x y=(r.has x y||Q4 l x y):=rfl;rw [Q0p,e, <-ih]
  split
  .rename_i h
   simp only [Bool.and_eq_true,decide_eq_true_eq] at h;simp [J9,Span.has,Rect.has,h.1,h.2]
  .rename_i h
   have:r.has x y=false:=Dw (by simp at h;omega)
   rw [this,Bool.false_or]
theorem Z1z(l:List Rect)(y:Int):(We l y).length<=l.length:=by
 unfold We;rw [List.length_map];exact List.length_filter_le _ _
theorem Z1y{l:List Rect}(h:∀ r ∈ l,r.L_<r.R_)(y:Int):∀ s ∈ We l y,s.L_<s.R_:=by
 intro s a;obtain ⟨r,b,rfl⟩:=List.mem_map.1 a
 exact h r (List.mem_filter.1 b).1
theorem Tg(l m:List Span)(x:Int):J9 (l++m) x=(J9 l x||J9 m x):=by simp [J9]
theorem Z0P{l m:List Span}(h:l.Perm m)(x:Int):J9 l x=J9 m x:=by
 rw [Bool.eq_iff_iff];simp only [J9,List.any_eq_true]
 constructor
 .rintro ⟨s,a,b⟩;exact ⟨s,h.mem_iff.1 a,b⟩
 .rintro ⟨s,a,b⟩;exact ⟨s,h.mem_iff.2 a,b⟩
theorem Z1p(a b:Int):G7 a b=if a<b then b else a:=rfl
theorem Q6R{F:Nat}(hF:Q7<=F){S:List Span}(hl:S.length<=1000000000)(hpos:∀ s ∈ S,s.L_<s.R_)(hs:S.Pairwise fun a b=>a.L_<=b.L_):
  Z9 (fun again (z:Int×List Span)=>LQ F S again z.1 z.2) F (0,[])=some (QS fun x=>J9 S x):=by
 unfold Q7 at hF;refine K9 (fun z:Int×List Span=>∃ (i:Nat) (d:List Span),z=((i:Int),d)/\i<=S.length/\d.length<=i/\SpOk d/\(∀ x,J9 d x=J9 (S.take i) x)/\∀ o ∈ d,∀ j,i<=j->j<S.length->o.L_<=(gl S j).L_)
  (fun z=>S.length-z.1.toNat) (fun again z H w=>?_) ⟨0,[],rfl,by omega,Nat.le_refl _,.nil,fun x=>by simp,fun o c=>by cases c⟩ (by simp only;omega)
 obtain ⟨i,d,rfl,R,D,f,v,l⟩:=H;simp only at w ⊢
 unfold LQ;refine Z6 (fun h=>?_) (fun h=>?_)
 .have h:i<S.length:=by simpa using h
  refine Q9 (k:=?_);simp only [Int.toNat_natCast]
  have M:=hpos _ (J7 h);have r:∀ j,i+1<=j->j<S.length->(gl S i).L_<=(gl S j).L_:=by
   intro j C g;rw [G8 h,G8 g]
   exact List.pairwise_iff_getElem.1 hs i j h g (by omega)
  have p : ∀ x,J9 (S.take (i+1)) x=(J9 d x||(gl S i).has x):=by
   intro x;rw [Qx h,Tg,v];simp [J9]
  have n:(∀ o,d.getLast?=some o->o.R_<(gl S i).L_)->Xd F S i d again false=some (QS fun x=>J9 S x):=by
   intro q;unfold Xd
   refine Z5 rfl ?_;refine Q9 (k:=?_)
   unfold Bm;refine Q9 (k:=?_)
   simp only [Int.toNat_natCast];refine w _ ⟨i+1,d++[gl S i],rfl,h,by simp;omega,⟨fun s hs=>?_,?_⟩,fun x=>?_,fun o c j C g=>?_⟩ (by simp only;omega)
   .rcases List.mem_append.1 hs with hs|hs
    .exact f.pos s hs
    .rw [List.mem_singleton.1 hs];exact M
   .refine List.pairwise_append.2 ⟨f.ch,List.pairwise_singleton _ _,fun o c b y=>?_⟩
    rw [List.mem_singleton.1 y];rcases List.eq_nil_or_concat d with B|⟨t,e,u⟩
    .rw [B] at c;cases c
    .rw [List.concat_eq_append] at u
     subst u;have K:=q e (by simp)
     rcases List.mem_append.1 c with c|c
     .have Q:=(List.pairwise_append.1 f.ch).2.2 o c e (by simp)
      have P:=f.pos e (by simp);omega
     .rw [List.mem_singleton.1 c];exact K
   .rw [p,Tg];simp [J9]
   .rcases List.mem_append.1 c with c|c
    .exact l o c j (by omega) g
    .rw [List.mem_singleton.1 c];exact r j C g
  rcases List.eq_nil_or_concat d with B|⟨t,e,u⟩
  .subst B
   refine Z5 rfl ?_;exact n fun o c=>by simp at c
  .rw [List.concat_eq_append] at u
   subst u;have m:(t ++ [e]).length=t.length+1:=by simp
   have G:(((t.length+1:Nat):Int)-1).toNat=t.length:=by omega
   rw [m] at D ⊢;refine Y7 (by simp) ?_
   refine Q9 (k:=?_);refine Q9 (k:=?_)
   rw [G,Gd _ _ rfl]
   by_cases hc:(gl S i).L_<=e.R_
   .have A:decide ((gl S i).L_<=e.R_)=true:=by simpa using hc
    rw [A];unfold Xd
    refine Y7 rfl ?_;simp only [m]
    refine Q9 (k:=?_);refine Q9 (k:=?_)
    refine Q9 (k:=?_);refine Q9 (k:=?_)
    rw [G,Gd _ _ rfl,MF _ _ _ rfl];unfold Bm
    refine Q9 (k:=?_);simp only [Int.toNat_natCast]
    have I:e.L_<=(gl S i).L_:=l e (by simp) i (Nat.le_refl _) h;have N:=f.pos e (by simp)
    have O:e.R_<=G7 e.R_ (gl S i).R_/\(gl S i).R_<=G7 e.R_ (gl S i).R_/\(G7 e.R_ (gl S i).R_=e.R_\/G7 e.R_ (gl S i).R_=(gl S i).R_):=by
     rw [Z1p];split <;> omega
    refine w _ ⟨i+1,t ++ [⟨e.L_,G7 e.R_ (gl S i).R_⟩],rfl,h,by simp;omega,⟨fun s hs=>?_,?_⟩,fun x=>?_,fun o c j C g=>?_⟩ (by simp only;omega)
    .rcases List.mem_append.1 hs with hs|hs
     .exact f.pos s (by simp [hs])
     .rw [List.mem_singleton.1 hs];simp only;omega
    .obtain ⟨L,_,J⟩:=List.pairwise_append.1 f.ch
     refine List.pairwise_append.2 ⟨L,List.pairwise_singleton _ _,fun o c b y=>?_⟩;rw [List.mem_singleton.1 y]
     exact J o c e (by simp)
    .rw [p,Tg,Tg,Bool.or_assoc]
     congr 1
     have E:∀ (s:Span) x,J9 [s] x=s.has x:=fun s x=>by simp [J9]
     rw [E,E,Bool.eq_iff_iff];simp only [Span.has,Bool.or_eq_true,Bool.and_eq_true,decide_eq_true_eq]
     omega
    .rcases List.mem_append.1 c with c|c
     .exact l o (by simp [c]) j (by omega) g
     .rw [List.mem_singleton.1 c];exact l e (by simp) j (by omega) g
   .have A:decide ((gl S i).L_<=e.R_)=false:=by simpa using hc
    rw [A];exact n fun o c=>by simp at c;subst c;omega
 .have h:¬ i<S.length:=by simpa using h
  have:i=S.length:=by omega
  subst this;unfold LP
  rw [Kg f fun x=>by rw [v,List.take_length]]
theorem Ru{F:Nat}(hF:Q7<=F){l:List Rect}(hl:l.length<=1000000000)(hpos:∀ r ∈ l,r.L_<r.R_)(y:Int):VG F l y=some (QS fun x=>Q4 l x y):=by
 have j:=hF;unfold Q7 at hF
 unfold VG;have p:∀ c:List Span,c=We l y->Rv F c=some (QS fun x=>Q4 l x y):=by
  rintro c rfl;unfold Rv
  have w:=Z1z l y;have o:Jh (We l y) (fun v t=>Rw F v t)=some (ZC Gq (We l y)):=
   Q5a Gq (by unfold Y5;omega) xB fun a b=>by unfold Rw;rw [DV];rfl
  refine Q3 o ?_;obtain ⟨m,n⟩:=Q9d Gq xB (We l y)
  have e:(fun x=>Q4 l x y)=fun x=>J9 (ZC Gq (We l y)) x:=by funext x;rw [Z0P m,Z0Q]
  rw [e];refine Q6R j (by rw [m.length_eq];omega) (fun s n=>Z1y hpos y s (m.mem_iff.1 n)) (n.imp fun {a b} h=>?_)
  rw [SC] at h;simp at h;exact h
 refine (KP (l:=l) (σ:=List Span) (fun f c=>c.length+f.length<=1000000000/\c++We f y=We l y) (fun f c=>some (QS fun x=>Q4 l x y))
  (fun d i c u g q=>?_) (fun d c g=>?_) (by omega) ⟨by simp;omega,rfl⟩)
 .simp only
  unfold LR;refine Y7 (Vj u) ?_
  refine Q9 (k:=?_);rw [Yt (Bo F l i c d)]
  simp only [Int.toNat_natCast];rw [Q0p] at g
  simp only [List.length_cons] at g;unfold Bo
  refine Z6 (fun h=>?_) (fun h=>?_)
  .rw [if_pos h] at g
   refine Q9 (k:=?_);unfold Bn
   refine Q9 (k:=?_);simp only [Int.toNat_natCast]
   exact q _ ⟨by simp only [List.length_append,List.length_cons,List.length_nil];omega,by rw [<-g.2];simp⟩
  .rw [h] at g
   unfold Bn;refine Q9 (k:=?_)
   exact q _ ⟨by omega,by simpa using g.2⟩
 .simp only
  unfold LR;refine Z5 (Ua _) ?_
  exact p c (by have:=g.2;simpa [We] using this)
end
theorem Q4r(r s:Span):((r.L_==s.L_)&&((r.R_==s.R_)&&true))=decide (r=s):=by
 cases r;cases s
 rw [Bool.eq_iff_iff,decide_eq_true_iff];simp
theorem Q5R{F:Nat}(hF:Q7<=F){l m:List Span}(hm:m.length<=Y5):Mm F l m=some (decide (l=m)):=by
 unfold Q7 at hF;unfold Y5 at hm
 unfold Mm;refine Z6 (fun h=>?_) (fun h=>?_)
 .have h:l.length≠m.length:=by simp at h;omega
  rw [decide_eq_false fun e=>h (by rw [e])]
 .have h:l.length=m.length:=by simp at h;omega
  refine K9 (fun z:Int=>∃ i:Nat,z=i/\i<=l.length/\decide (l=m)=decide (l.drop i=m.drop i)) (fun z=>l.length-z.toNat) (fun d z f g=>?_) ⟨0,rfl,by omega,by simp⟩ (by simp;omega);obtain ⟨i,rfl,j,c⟩:=f
  unfold kE;refine Z6 (fun a=>?_) (fun a=>?_)
  .have a:i<l.length:=by simpa using a
   rw [zn l m h i a] at c;refine Q9 (k:=?_)
   refine Q9 (k:=?_);rw [Q4r]
   refine Z6 (fun b=>?_) (fun b=>?_)
   .have b:decide (gl l i=gl m i)=false:=by simpa using b
    rw [c,b];rfl
   .have b:decide (gl l i=gl m i)=true:=by simpa using b
    rw [b,Bool.true_and] at c;refine Q9 (k:=?_)
    exact g _ ⟨i+1,by omega,a,c⟩ (by omega)
  .have a:¬ i<l.length:=by simpa using a
   have:i=l.length:=by omega
   rw [c,List.drop_of_length_le (by omega),List.drop_of_length_le (by omega),decide_eq_true rfl];rfl
theorem Q5T{F:Nat}(hF:Q7<=F){l m:List Rect}(hm:m.length<=Y5):Mn F l m=some (decide (l=m)):=by
 unfold Q7 at hF;unfold Y5 at hm
 unfold Mn;refine Z6 (fun h=>?_) (fun h=>?_)
 .have h:l.length≠m.length:=by simp at h;omega
  rw [decide_eq_false fun e=>h (by rw [e])]
 .have h:l.length=m.length:=by simp at h;omega
  refine K9 (fun z:Int=>∃ i:Nat,z=i/\i<=l.length/\decide (l=m)=decide (l.drop i=m.drop i)) (fun z=>l.length-z.toNat) (fun d z f g=>?_) ⟨0,rfl,by omega,by simp⟩ (by simp;omega);obtain ⟨i,rfl,j,c⟩:=f
  unfold kG;refine Z6 (fun a=>?_) (fun a=>?_)
  .have a:i<l.length:=by simpa using a
   rw [zn l m h i a] at c;refine Q9 (k:=?_)
   refine Q9 (k:=?_);rw [ce]
   refine Z6 (fun b=>?_) (fun b=>?_)
   .have b:decide (gl l i=gl m i)=false:=by simpa using b
    rw [c,b];rfl
   .have b:decide (gl l i=gl m i)=true:=by simpa using b
    rw [b,Bool.true_and] at c;refine Q9 (k:=?_)
    exact g _ ⟨i+1,by omega,a,c⟩ (by omega)
  .have a:¬ i<l.length:=by simpa using a
   have:i=l.length:=by omega
   rw [c,List.drop_of_length_le (by omega),List.drop_of_length_le (by omega),decide_eq_true rfl];rfl
def Band.rn(b:Band):Rn (List Span):=⟨b.w_,b.H_,b.spans_⟩
def fl(l:List Band):List Rect:=flat (l.map Band.rn)
theorem yj(b:Band)(l:List Band):fl (b::l)=z7 b.rn++fl l:=rfl
theorem Z1B(l:List Band)(N:Nat)(h:∀ b ∈ l,b.spans_.length<=N):(fl l).length<=l.length*N:=by
 induction l with
 | nil=>simp [fl,flat]
 | cons b l ih=>
  have d:=ih fun c a=>h c (by simp [a])
  have e:=h b (by simp);rw [yj,List.length_append,YN,List.length_cons,Nat.add_mul]
  simp only [Band.rn];omega
theorem Q7z{F:Nat}(hF:Q7<=F){l:List Band}(hl:l.length<=1000000000)(hn:(fl l).length<=Y5)(hs:∀ b ∈ l,b.spans_.length<=1000000000):Rh F l=some (fl l):=by
 unfold Q7 at hF;unfold Y5 at hn
 unfold Rh;refine (KP (l:=l) (σ:=List Rect) (fun c a=>a.length+(fl c).length<=4294967296) (fun c a=>some (a++fl c)) (fun f i a m d n=>?_) (fun f a d=>?_) (by omega) (by simp;omega)).trans (by simp)
 .unfold LE
  refine Y7 (Vj m) ?_;refine Q9 (k:=?_)
  simp only [Int.toNat_natCast];have h:=hs _ (J7 m)
  rw [yj,List.length_append,YN] at d;rw [yj]
  generalize hb:gl l i=b at d h ⊢;have d:a.length+(b.spans_.length+(fl (l.drop (i+1))).length)<=4294967296:=d
  refine (KP (l:=b.spans_) (σ:=List Rect) (fun c a=>a.length+c.length+(fl (l.drop (i+1))).length<=4294967296) (fun c a=>some (a++(c.map (fun s=>(⟨s.L_,b.w_,s.R_,b.H_⟩:Rect))++fl (l.drop (i+1)))))
   (fun e j a o d g=>?_) (fun e a d=>?_) (by omega) (by omega)).trans rfl
  .unfold LD
   simp only [Int.toNat_natCast,hb];refine Y7 (Vj o) ?_
   simp only [List.length_cons] at d;refine Q9 (k:=?_)
   refine Q9 (k:=?_);refine Q9 (k:=?_)
   rw [g _ (by simp only [List.length_append,List.length_cons,List.length_nil];omega)];simp
  .unfold LD
   simp only [Int.toNat_natCast,hb];refine Z5 (Ua _) ?_
   unfold LC;refine Q9 (k:=?_)
   rw [n _ (by simpa using d)];simp
 .unfold LE
  refine Z5 (Ua _) ?_;simp [LA,fl,flat]
theorem gZ{F:Nat}(hF:Q7<=F){cs:List Int}{row:Int->Option (List Span)}{S:Int->Int->Bool}(hS:Hh S)(hst:Step [] cs fun y=>QS fun x=>S x y)(hc:cs.length<=65536)(hrow:∀ y,row y=some (QS fun x=>S x y))(hlen:∀ y,(QS fun x=>S x y).length<=65536):Bu F cs row=some (cn S):=by
 have H:=hF;unfold Q7 at hF
 unfold Bu;have E:∀ c:List Band,Runs (c.map Band.rn)->(∀ t,K8 [] (c.map Band.rn) t=QS fun x=>S x t)->c.length<=cs.length->(∀ b ∈ c,b.spans_.length<=65536)->Rz F c=some (cn S):=by
  intro c T p D g;unfold Rz
  have J:=Z1B c 65536 g;have L:c.length*65536<=65536*65536:=Nat.mul_le_mul_right _ (by omega)
  refine Q3 (Q7z H (by omega) (by unfold Y5;omega) (fun b d=>by have:=g b d;omega)) ?_;have N:=(Hf hS hst (acc:=(c.map Band.rn).filter fun r=> !r.v.isEmpty) (T.filter _) (fun t=>by
   rw [T.atR_filter _ (fun r _ W=>by simpa using W)];exact p t) (fun b d=>by
   have:=(List.mem_filter.1 d).2
   intro C;rw [C] at this;simp at this)).1
  rw [N];congr 1
  have:∀ l:List (Rn (List Span)),flat l=flat (l.filter fun r=> !r.v.isEmpty):=by
   intro l
   induction l with
   | nil=>rfl
   | cons a l B=>
    rw [List.filter_cons];have e:flat (a::l)=z7 a++flat l:=rfl
    cases p:a.v with
    | nil=>
     have:z7 a=[]:=by simp [z7,p]
     rw [e,this,List.nil_append,B];simp
    | cons s v=>
     simp only [List.isEmpty_cons,Bool.not_false,if_true];have K:flat (a::l.filter fun r=> !r.v.isEmpty)=z7 a++flat (l.filter fun r=> !r.v.isEmpty):=rfl
     rw [e,K, <-B]
  exact this _
 refine K9 (fun z:Int×List Band=>∃ (i:Nat) (c:List Band),z=((i:Int)+1,c)/\c.length<=i/\(∀ b ∈ c,b.spans_.length<=65536)/\((cs.length=0/\i=0)\/(i+1<=cs.length/\Bst [] (fun y=>QS fun x=>S x y) (c.map Band.rn) (gl cs i))))
  (fun z=>cs.length+1-z.1.toNat) (fun w z U B=>?_) ⟨0,[],rfl,Nat.le_refl _,fun b d=>(List.not_mem_nil d).elim,?_⟩ (by simp;omega)
 .obtain ⟨i,c,rfl,D,g,u⟩:=U
  simp only at B ⊢;unfold ja
  rcases u with ⟨G,rfl⟩|⟨X,hB⟩
  .have M:c=[]:=List.eq_nil_of_length_eq_zero (by omega)
   subst M;refine Z5 (by simp;omega) ?_
   exact E [] .nil (fun t=>(hst.empty G t).symm) (by simp) (fun b d=>by cases d)
  .refine Z6 (fun f=>?_) (fun f=>?_)
   .have f:i+1<cs.length:=by simp at f;omega
    have I:=hst.asc.at_lt (show i<i+1 by omega) f;have o:=hst.gap i f
    have R:((i:Int)+1-1).toNat=i:=by omega
    have K:((i:Int)+1).toNat=i+1:=by omega
    rw [R];refine Q9 (k:=?_)
    refine Q9 (k:=?_);refine Q9 (k:=?_)
    refine Q9 (k:=?_);refine Q9 (k:=?_)
    refine Q3 (hrow _) ?_;generalize p:(QS fun x=>S x (gl cs i))=v at *
    have O:v.length<=65536:=by rw [<-p];exact hlen _
    have j:(∀ q,(c.map Band.rn).getLast?=some q->q.hi=gl cs i->q.v≠v)->KC F cs ((i:Int)+1) c v w false=some (cn S):=by
     intro m;unfold KC
     refine Z5 rfl ?_;rw [R,K]
     refine Q9 (k:=?_);unfold Bt
     refine Q9 (k:=?_);refine B _ ⟨i+1,c++[⟨gl cs i,gl cs (i+1),v⟩],by simp,by simp;omega,fun b d=>?_,.inr ⟨by omega,?_⟩⟩ (by simp only;omega)
     .rcases List.mem_append.1 d with d|d
      .exact g b d
      .rw [List.mem_singleton.1 d];exact O
     .rw [List.map_append]
      have:=hB.add I (fun t J L=>(o t J L).trans p.symm) (fun a V C=>by rw [p];exact m a V C)
      rw [p] at this;exact this
    rcases List.eq_nil_or_concat c with G|⟨A,e,C⟩
    .subst G
     refine Z5 rfl ?_;exact j fun q m=>by simp at m
    .rw [List.concat_eq_append] at C
     subst C;have h:(A ++ [e]).length=A.length+1:=by simp
     have Q:(((A.length+1:Nat):Int)-1).toNat=A.length:=by omega
     rw [h] at D ⊢;have n:gl (A ++ [e]) A.length=e:=Gd _ _ rfl
     refine Y7 (by simp) ?_;refine Q9 (k:=?_)
     refine Q9 (k:=?_);rw [Q,n]
     by_cases hh:e.H_=gl cs i
     .refine Y7 (by simpa using hh) ?_
      refine Q9 (k:=?_);refine Q9 (k:=?_)
      refine Q3 (Q5R H (by unfold Y5;omega)) ?_
      by_cases hvv:e.spans_=v
      .rw [decide_eq_true hvv]
       unfold KC;refine Y7 rfl ?_
       simp only [h];refine Q9 (k:=?_)
       refine Q9 (k:=?_);rw [Q,n,MF _ _ _ rfl,K]
       unfold Bt;refine Q9 (k:=?_)
       refine B _ ⟨i+1,A ++ [⟨e.w_,gl cs (i+1),e.spans_⟩],by simp,by simp;omega,fun b d=>?_,.inr ⟨by omega,?_⟩⟩ (by simp only;omega)
       .rcases List.mem_append.1 d with d|d
        .exact g b (by simp [d])
        .rw [List.mem_singleton.1 d];exact g e (by simp)
       .rw [List.map_append] at hB ⊢
        exact hB.grow (a:=e.rn) hh I fun t J L=>(o t J L).trans hvv.symm
      .rw [decide_eq_false hvv]
       exact j fun q m _=>by rw [List.map_append] at m;simp at m;subst m;exact hvv
     .refine Z5 (by simpa using hh) ?_
      exact j fun q m P=>by rw [List.map_append] at m;simp at m;subst m;exact absurd P hh
   .have f:¬ i+1<cs.length:=by simp at f;omega
    exact E c hB.runs (fun t=>hst.done (by omega) hB t) (by omega) g
 .by_cases G:cs.length=0
  .exact .inl ⟨G,rfl⟩
  .exact .inr ⟨by omega,hst.start (by omega)⟩
theorem yO(ls:List (List Rect)){l:List Rect}(h:l ∈ ls):US (Vp ls) l:=fun r a=>⟨(cW ls _).2 ⟨l,h,r,a,.inl rfl⟩,(cW ls _).2 ⟨l,h,r,a,.inr rfl⟩⟩
theorem qZ(l:List Rect){ls:List (List Rect)}(h:l ∈ ls):Grid (Za l []) (Vp ls) (Q4 l):=by
 have:=Grid.of (xs:=Za l []) (ys:=Vp ls) (a:=l) (b:=[]) (VN l .nil) (Q1g ls)
  (fun r c=>⟨(ZF l _ _).2 (.inr ⟨r,c,.inl rfl⟩),(ZF l _ _).2 (.inr ⟨r,c,.inr rfl⟩)⟩) (fun r c=>by cases c) (yO ls h) (fun r c=>by cases c) (k:=fun p q=>p||q) rfl
 have e:(fun x y=>Q4 l x y||Q4 [] x y)=Q4 l:=by funext x y;simp [Q4]
 rwa [e] at this
theorem LI{F:Nat}(hF:Q7<=F){l:List Rect}(hl:l.length<=32768)(hpos:∀ r ∈ l,r.L_<r.R_):Xa F l=some (cn (Q4 l)):=by
 unfold Xa;have a:=qZ l (ls:=[l]) (by simp)
 have c:Wt [l]=l.length:=by simp [Wt]
 have b:=Q1f [l];refine Q3 (LZ hF (by omega) (by simp)) ?_
 refine Q3 (gZ hF a.rows a.step (by omega) (fun y=>?_) (fun y=>?_)) rfl
 .unfold LJ
  exact Q3 (Ru hF (by omega) hpos y) rfl
 .have:=(a.x y).spn_len
  have d:=Cn (l:=l);omega
theorem Q5H{F:Nat}(hF:Q7<=F){l:List Rect}{q:Rect->Option Bool}(p:Rect->Bool)(hl:l.length<=1000000000)(hq:∀ r ∈ l,q r=some (p r)):∃ i:Int,FR F l q=some i/\(0<=i↔l.any p=true):=by
 unfold Q7 at hF;have c:∀ (n i:Nat),i<=l.length->l.length-i<n->∃ r:Int,Z9 (fun again (z:Int)=>Ji F l q again z) n (i:Int)=some r/\(0<=r↔(l.drop i).any p=true):=by
  intro n
  induction n with
  | zero=>intro i _ h;omega
  | succ n ih=>
   intro i j m;have f:Z9 (fun again (z:Int)=>Ji F l q again z) (n+1) (i:Int)=Ji F l q (Z9 (fun again (z:Int)=>Ji F l q again z) n) (i:Int):=rfl
   rw [f]
   by_cases h:i<l.length
   .rw [vo h]
    by_cases a:p (gl l i)=true
    .refine ⟨i,?_,by rw [a];simp⟩
     unfold Ji;refine Y7 (Vj h) ?_
     refine Q9 (k:=?_);exact Q3 (hq _ (J7 h)) (Y7 a rfl)
    .have a:p (gl l i)=false:=by simpa using a
     obtain ⟨r,g,b⟩:=ih (i+1) h (by omega);refine ⟨r,?_,by rw [b,a];simp⟩
     unfold Ji;refine Y7 (Vj h) ?_
     refine Q9 (k:=?_);refine Q3 (hq _ (J7 h)) (Z5 a ?_)
     refine Q9 (k:=?_);exact g
   .have:i=l.length:=by omega
    subst this;refine ⟨-1,?_,by simp⟩
    unfold Ji;exact Z5 (Ua _) rfl
 obtain ⟨r,d,e⟩:=c F 0 (Nat.zero_le _) (by omega);exact ⟨r,d,by simpa using e⟩
theorem Mt{F:Nat}(hF:Q7<=F){l:List Rect}{q:Rect->Option Bool}(p:Rect->Bool)(hl:l.length<=1000000000)(hq:∀ r ∈ l,q r=some (p r)):Kl F l q=some (l.any p):=by
 obtain ⟨i,a,b⟩:=Q5H hF p hl hq;unfold Kl
 refine Q3 a ?_;congr 1
 rw [Bool.eq_iff_iff, <-b,decide_eq_true_iff]
theorem gP(F:Nat)(r:Rect):Be F r=some (QP r):=by
 unfold Be;rw [Yt (Vd F),Yt (Vd F),Yt (Vd F),Yt (Vd F),Yt (Vd F)]
 rfl
theorem Wn{F:Nat}(hF:Q7<=F)(a:Re_):Yx F a=some (Qn a.t_):=by
 obtain ⟨l⟩:=a;simp only
 unfold Yx;have b:=hF
 unfold Q7 at hF;refine Z6 (fun h=>?_) (fun h=>?_)
 .have h:120<l.length:=by simp at h;omega
  rw [GG fun c=>by have:=c.1;omega];rfl
 .have h:l.length<=120:=by simp at h;omega
  refine Q3 (Mt b (fun r=> !QP r) (by simp only;omega) (fun r _=>by unfold LM;rw [gP];rfl)) ?_;unfold Rt
  refine Z6 (fun e=>?_) (fun e=>?_)
  .rw [GG fun c=>?_]
   simp only [List.any_eq_true] at e;obtain ⟨r,d,f⟩:=e
   rw [c.2.1 r d] at f;cases f
  .have g:∀ r ∈ l,QP r=true:=by
    intro r d;have:=List.any_eq_false.1 e r d
    simpa using this
   refine Q3 (LI b (by simp only;omega) (fun r d=>((ZT r).1 (g r d)).2.1)) ?_;refine Q3 (Q5T b (by unfold Y5;simp only;omega)) ?_
   simp only
   by_cases hc:cn (Q4 l)=l
   .rw [decide_eq_true hc,YX ⟨h,g,(Gs l).2 hc⟩]
   .rw [decide_eq_false hc,GG fun c=>hc ((Gs l).1 c.2.2)]
def QB{α:Type}(p:α->Bool)(l:List α):Int:=if l.any p then (l.findIdx p:Int) else -1
theorem Gf{α:Type}[Emb α]{l:List α}{p:α->Bool}{i:Nat}(h:i<l.length)(hb:∀ j,j<i->p (gl l j)=false)(hi:p (gl l i)=true):l.findIdx p=i:=by
 induction l generalizing i with
 | nil=>simp at h
 | cons a l ih=>
  rw [List.findIdx_cons]
  cases i with
  | zero=>
   have:p a=true:=hi
   rw [this];rfl
  | succ i=>
   have b:p a=false:=hb 0 (by omega);rw [b]
   have:=ih (i:=i) (by simpa using h) (fun j c=>hb (j+1) (by omega)) hi
   simp [this]
theorem JU{α:Type}[Emb α]{l:List α}{p:α->Bool}(h:∀ j,j<l.length->p (gl l j)=false):l.any p=false:=by
 rw [List.any_eq_false];intro x b
 obtain ⟨j,a,rfl⟩:=List.getElem_of_mem b;have:=h j a
 rw [G8 a] at this;simpa using this
theorem Q5P{F:Nat}(hF:Q7<=F){l:List A2_}{q:A2_->Option Bool}(p:A2_->Bool)(hl:l.length<=1000000000)(hq:∀ r ∈ l,q r=some (p r)):Ml F l q=some (QB p l):=by
 unfold Q7 at hF;unfold Ml
 refine K9 (fun z:Int=>∃ i:Nat,z=i/\i<=l.length/\∀ j,j<i->p (gl l j)=false) (fun z=>l.length-z.toNat) (fun c z f g=>?_) ⟨0,rfl,by omega,fun j m=>by omega⟩ (by simp;omega);obtain ⟨i,rfl,n,d⟩:=f
 unfold kC;refine Z6 (fun h=>?_) (fun h=>?_)
 .have h:i<l.length:=by simpa using h
  refine Q9 (k:=?_);refine Q3 (hq _ (J7 h)) ?_
  simp only [Int.toNat_natCast];refine Z6 (fun a=>?_) (fun a=>?_)
  .have b:l.any p=true:=List.any_eq_true.2 ⟨_,J7 h,a⟩
   rw [QB,if_pos b,Gf h d a]
  .refine Q9 (k:=?_)
   refine g _ ⟨i+1,by omega,h,fun j m=>?_⟩ (by omega);rcases Nat.lt_or_ge j i with e|e
   .exact d j e
   .have:j=i:=by omega
    subst this;exact a
 .have h:¬ i<l.length:=by simpa using h
  have:i=l.length:=by omega
  subst this;have b:=JU d
  rw [QB,b];rfl
theorem Q5W{F:Nat}(hF:Q7<=F){l:List A2_}{q:A2_->Option Bool}(p:A2_->Bool)(hl:l.length<=1000000000)(hq:∀ r ∈ l,q r=some (p r)):Mp F l q=some (l.filter fun r=> !p r):=by
 have v:=hF;unfold Q7 at hF
 unfold Mp;refine Q3 (Q5P v p hl hq) ?_
 by_cases g:l.any p=true
 .obtain ⟨x,n,C⟩:=List.any_eq_true.1 g
  have e:l.findIdx p<l.length:=List.findIdx_lt_length_of_exists ⟨x,n,C⟩;have y:p (gl l (l.findIdx p))=true:=by rw [G8 e];exact List.findIdx_getElem (w:=e)
  have B:∀ j,j<l.findIdx p->p (gl l j)=false:=by
   intro j s;rw [G8 (by omega)]
   simpa using List.not_of_lt_findIdx s
  rw [QB,if_pos g];refine Z5 (by simp) ?_
  refine Q9 (k:=?_);generalize l.findIdx p=i0 at *
  have E:(l.take (i0+1)).filter (fun r=> !p r)=l.take i0:=by
   rw [Qx e,List.filter_append];have H:(l.take i0).filter (fun r=> !p r)=l.take i0:=by
    rw [List.filter_eq_self];intro x n
    obtain ⟨j,s,rfl⟩:=List.getElem_of_mem n;have t : j<i0:=by simp at s;omega
    have:=B j t
    rw [G8 (by omega)] at this;simp [this]
   rw [H];simp [y]
  refine K9 (fun z:Int×Int×List A2_=>∃ (i j:Nat) (a:List A2_),z=((i:Int),(j:Int),a)/\i<j/\j<=l.length/\a.length=l.length/\(∀ m,j<=m->gl a m=gl l m)/\a.take i=(l.take j).filter fun r=> !p r)
   (fun z=>l.length-z.2.1.toNat) (fun A z D u=>?_) ⟨i0,i0+1,l,rfl,by omega,by omega,rfl,fun _ _=>rfl,E.symm⟩ (by simp only;omega)
  obtain ⟨i,j,a,rfl,I,s,c,d,f⟩:=D;simp only at u ⊢
  unfold kI;rw [c]
  refine Z6 (fun h=>?_) (fun h=>?_)
  .have h:j<l.length:=by simpa using h
   refine Q9 (k:=?_);simp only [Int.toNat_natCast]
   rw [d j (Nat.le_refl _)];refine Q3 (hq _ (J7 h)) ?_
   have o:(l.take (j+1)).filter (fun r=> !p r)=(l.take j).filter (fun r=> !p r)++(if p (gl l j)=true then [] else [gl l j]):=by
    rw [Qx h,List.filter_append]
    by_cases b:p (gl l j)=true
    .rw [if_pos b];simp [b]
    .rw [if_neg b];simp [b]
   refine Z6 (fun b=>?_) (fun b=>?_)
   .have b:p (gl l j)=false:=by simpa using b
    refine Q9 (k:=?_);refine Q9 (k:=?_)
    unfold PT;refine Q9 (k:=?_)
    refine u _ ⟨i+1,j+1,a.set i (gl l j),rfl,by omega,by omega,by simp [c],fun m G=>?_,?_⟩ (by simp only;omega)
    .rw [XK _ _ _ _ (by omega),if_neg (by omega)];exact d m (by omega)
    .rw [o,if_neg (by rw [b];simp), <-f,Qx (by simp;omega),Fy _ _ _ _ (Nat.le_refl _),XK _ _ _ _ (by omega),if_pos rfl]
   .have b:p (gl l j)=true:=by simpa using b
    unfold PT;refine Q9 (k:=?_)
    refine u _ ⟨i,j+1,a,rfl,by omega,by omega,c,fun m G=>d m (by omega),?_⟩ (by simp only;omega);rw [o,if_pos b,List.append_nil,f]
  .have h:¬ j<l.length:=by simpa using h
   unfold FT;simp only [Int.toNat_natCast,yR,c]
   refine Q9 (k:=?_);refine Q9 (k:=?_)
   rw [FA _ _ _ (by omega),f,List.take_of_length_le (by omega)]
 .have g:l.any p=false:=by simpa using g
  rw [QB,g];refine Y7 rfl ?_
  congr 1
  symm
  rw [List.filter_eq_self];intro x n
  have:=List.any_eq_false.1 g x n
  simpa using this
theorem kX{F:Nat}{l:List Rect}(hl:l.length<=Y5):PW F l=some l:=by
 unfold PW
 cases h:l with
 | nil=>
  show XL _ _=_;unfold XL
  exact @Q8 _ _ (Classical.propDecidable _) _ _ rfl rfl
 | cons a l' =>
  have:(a::l').length=l'.length+1:=rfl
  show (gd _ _)=_;rw [<-h]
  refine Q9 (k:=?_);simp
noncomputable def Ye(f:A2_):Int:=
 if f.N_<1\/1073741824<f.N_ then 2 else if f.k_<0\/15<f.k_ then 14 else if f.F_<0\/f.u_<=f.F_\/36865<f.u_ then 9
 else if f.g_.t_.length=0\/Qn f.g_.t_=false then 7 else 0
theorem jA{F:Nat}(hF:Q7<=F)(f:A2_):BL F f=some (Ye f):=by
 have e:∀ b:Bool,(b=true↔f.g_.t_.length=0\/Qn f.g_.t_=false)->Xn F b=some (if f.g_.t_.length=0\/Qn f.g_.t_=false then 7 else 0):=by
  intro b a;unfold Xn
  refine Z6 (fun h=>by rw [if_pos (a.1 h)]) (fun h=>by rw [if_neg fun c=>by rw [a.2 c] at h;cases h])
 have g:∀ b:Bool,(b=true↔f.F_<0\/f.u_<=f.F_\/36865<f.u_)->Jw F f b=some (if f.F_<0\/f.u_<=f.F_\/36865<f.u_ then 9 else if f.g_.t_.length=0\/Qn f.g_.t_=false then 7 else 0):=by
  intro b a;unfold Jw
  refine Z6 (fun h=>by rw [if_pos (a.1 h)]) (fun h=>?_);rw [if_neg fun c=>by rw [a.2 c] at h;cases h]
  refine Q3 (BR hF _) ?_;rw [Yd (Xn F)]
  exact e _ (by simp [or_comm])
 have d:∀ b:Bool,(b=true↔f.k_<0\/15<f.k_)->Jx F f b=some (if f.k_<0\/15<f.k_ then 14 else if f.F_<0\/f.u_<=f.F_\/36865<f.u_ then 9 else if f.g_.t_.length=0\/Qn f.g_.t_=false then 7 else 0):=by
  intro b a;unfold Jx
  refine Z6 (fun h=>by rw [if_pos (a.1 h)]) (fun h=>?_);rw [if_neg fun c=>by rw [a.2 c] at h;cases h]
  rw [Yd (Jw F f),Yd (Jw F f)];exact g _ (by simp)
 unfold BL RR Ye;rw [Yd (fun b=>br b (some (2:Int)) (br (decide (f.k_<(0:Int))) (Jx F f true) (Jx F f (decide ((15:Int)<f.k_)))))]
 refine Z6 (fun h=>by rw [if_pos (by simpa using h)]) (fun h=>?_);rw [if_neg (by simpa using h),Yd (Jx F f)]
 exact d _ (by simp)
theorem Z1F{F:Nat}(hF:Q7<=F)(f:A2_):TF F f=some (Ye f):=by
 have e:∀ b:Bool,(b=true↔f.g_.t_.length=0\/Qn f.g_.t_=false)->DC F b=some (if f.g_.t_.length=0\/Qn f.g_.t_=false then 7 else 0):=by
  intro b c;unfold DC
  refine Z6 (fun h=>by rw [if_pos (c.1 h)]) (fun h=>by rw [if_neg fun d=>by rw [c.2 d] at h;cases h])
 have i:∀ b:Bool,(b=true↔f.F_<0\/f.u_<=f.F_\/36865<f.u_)->JO F f b=some (if f.F_<0\/f.u_<=f.F_\/36865<f.u_ then 9 else if f.g_.t_.length=0\/Qn f.g_.t_=false then 7 else 0):=by
  intro b c;unfold JO
  refine Z6 (fun h=>by rw [if_pos (c.1 h)]) (fun h=>?_);rw [if_neg fun d=>by rw [c.2 d] at h;cases h]
  refine Z6 (fun a=>?_) (fun a=>?_)
  .have a:f.g_.t_.length=0:=by simp at a;simp [a]
   exact e _ (by simp [a])
  .have a:f.g_.t_.length≠0:=by simp at a;simpa using a
   exact Q3 (Wn hF _) (e _ (by simp [a]))
 have g:∀ b:Bool,(b=true↔f.k_<0\/15<f.k_)->JP F f b=some (if f.k_<0\/15<f.k_ then 14 else if f.F_<0\/f.u_<=f.F_\/36865<f.u_ then 9 else if f.g_.t_.length=0\/Qn f.g_.t_=false then 7 else 0):=by
  intro b c;unfold JP
  refine Z6 (fun h=>by rw [if_pos (c.1 h)]) (fun h=>?_);rw [if_neg fun d=>by rw [c.2 d] at h;cases h]
  rw [Yd (JO F f),Yd (JO F f)];exact i _ (by simp)
 unfold TF TE Ye;rw [Yd (fun b=>br b (some (2:Int)) (br (decide (f.k_<(0:Int))) (JP F f true) (JP F f (decide ((15:Int)<f.k_)))))]
 refine Z6 (fun h=>by rw [if_pos (by simpa using h)]) (fun h=>?_);rw [if_neg (by simpa using h),Yd (JP F f)]
 exact g _ (by simp)
noncomputable def WV:Option Int->List A2_->Int
 | _,[]=>0
 | p,f::l=>if Ye f≠0 then Ye f else if p.any (fun n=>decide (f.N_<=n)) then 3 else WV (some f.N_) l
noncomputable def Zs(l:List A2_):Int:=if 60<l.length then 1 else WV none l
def VZ(l:List A2_)(i:Nat):Option Int:=if i=0 then none else some (gl l (i-1)).N_
theorem ct(l:List A2_)(i:Nat):VZ l (i+1)=some (gl l i).N_:=by simp [VZ]
theorem Q8r{F:Nat}(hF:Q7<=F)(l:List A2_):RS F l=some (Zs l):=by
 have j:=hF;unfold Q7 at hF
 unfold RS Zs;refine Z6 (fun h=>?_) (fun h=>?_)
 .have h:60<l.length:=by simp at h;omega
  rw [if_pos h]
 .have h:¬ 60<l.length:=by simp at h;omega
  rw [if_neg h];refine K9 (fun z:Int=>∃ i:Nat,z=i/\i<=l.length/\WV none l=WV (VZ l i) (l.drop i)) (fun z=>l.length-z.toNat) (fun c z p q=>?_) ⟨0,rfl,by omega,rfl⟩ (by simp;omega)
  obtain ⟨i,rfl,s,a⟩:=p;unfold jC
  refine Z6 (fun d=>?_) (fun d=>?_)
  .have d:i<l.length:=by simpa using d
   rw [Yq d,WV] at a;refine Q9 (k:=?_)
   simp only [Int.toNat_natCast];refine Q3 (jA j _) ?_
   refine Z6 (fun e=>?_) (fun e=>?_)
   .have e:Ye (gl l i)≠0:=by simpa using e
    rw [a,if_pos e]
   .have e:Ye (gl l i)=0:=by simpa using e
    rw [if_neg (by simp [e])] at a;have o:∀ b:Bool,b=(VZ l i).any (fun n=>decide ((gl l i).N_<=n))->BM F i c b=some (WV none l):=by
     intro b g;unfold BM
     refine Z6 (fun m=>?_) (fun m=>?_)
     .rw [a,if_pos (g ▸ m)]
     .rw [if_neg (by rw [<-g,m];simp)] at a
      refine Q9 (k:=?_);refine q _ ⟨i+1,by omega,d,?_⟩ (by omega)
      rw [a,ct]
    refine Z6 (fun f=>?_) (fun f=>?_)
    .have f:0<i:=by simpa using f
     refine Q9 (k:=?_);refine Q9 (k:=?_)
     have r:((i:Int)-1).toNat=i-1:=by omega
     rw [r];exact o _ (by simp [VZ,show i≠0 from by omega])
    .have f:i=0:=by simp at f;omega
     exact o _ (by simp [VZ,f])
  .have d:¬ i<l.length:=by simpa using d
   rw [List.drop_of_length_le (by omega)] at a;rw [a];rfl
theorem Z1O{F:Nat}(hF:Q7<=F)(l:List A2_):TM F l=some (Zs l):=by
 have j:=hF;unfold Q7 at hF
 unfold TM Zs;refine Z6 (fun h=>?_) (fun h=>?_)
 .have h:60<l.length:=by simp at h;omega
  rw [if_pos h]
 .have h:¬ 60<l.length:=by simp at h;omega
  rw [if_neg h];refine K9 (fun z:Int=>∃ i:Nat,z=i/\i<=l.length/\WV none l=WV (VZ l i) (l.drop i)) (fun z=>l.length-z.toNat) (fun c z p q=>?_) ⟨0,rfl,by omega,rfl⟩ (by simp;omega)
  obtain ⟨i,rfl,s,a⟩:=p;unfold Q0I
  refine Z6 (fun d=>?_) (fun d=>?_)
  .have d:i<l.length:=by simpa using d
   rw [Yq d,WV] at a;refine Q9 (k:=?_)
   simp only [Int.toNat_natCast];refine Q3 (Z1F j _) ?_
   refine Z6 (fun e=>?_) (fun e=>?_)
   .have e:Ye (gl l i)≠0:=by simpa using e
    rw [a,if_pos e]
   .have e:Ye (gl l i)=0:=by simpa using e
    rw [if_neg (by simp [e])] at a;have o:∀ b:Bool,b=(VZ l i).any (fun n=>decide ((gl l i).N_<=n))->DI F i c b=some (WV none l):=by
     intro b g;unfold DI
     refine Z6 (fun m=>?_) (fun m=>?_)
     .rw [a,if_pos (g ▸ m)]
     .rw [if_neg (by rw [<-g,m];simp)] at a
      refine Q9 (k:=?_);refine q _ ⟨i+1,by omega,d,?_⟩ (by omega)
      rw [a,ct]
    refine Z6 (fun f=>?_) (fun f=>?_)
    .have f:0<i:=by simpa using f
     refine Q9 (k:=?_);refine Q9 (k:=?_)
     have r:((i:Int)-1).toNat=i-1:=by omega
     rw [r];exact o _ (by simp [VZ,show i≠0 from by omega])
    .have f:i=0:=by simp at f;omega
     exact o _ (by simp [VZ,f])
  .have d:¬ i<l.length:=by simpa using d
   rw [List.drop_of_length_le (by omega)] at a;rw [a];rfl
structure VL (l:List A2_):Prop where
 len:l.length<=60
 one:∀ f ∈ l,Ye f=0
 asc:l.Pairwise fun f g=>f.N_<g.N_
theorem Q1F:∀ (l:List A2_) (p:Option Int),WV p l=0↔(∀ f ∈ l,Ye f=0)/\l.Pairwise (fun f g=>f.N_<g.N_)/\∀ n,p=some n->∀ f ∈ l,n<f.N_
 | [],p=>by simp [WV]
 | f::l,p=>by
  have j:=Q1F l (some f.N_);unfold WV
  by_cases h1:Ye f=0
  .rw [if_neg (by simp [h1])]
   by_cases e:p.any (fun n=>decide (f.N_<=n))=true
   .rw [if_pos e]
    constructor
    .intro h;cases h
    .rintro ⟨_,_,h⟩
     cases p with
     | none=>simp at e
     | some n=>
      have e:f.N_<=n:=by simpa using e
      have:=h n rfl f (by simp)
      omega
   .rw [if_neg e,j]
    constructor
    .rintro ⟨a,b,c⟩
     refine ⟨fun g d=>?_,List.pairwise_cons.2 ⟨fun g d=>c _ rfl g d,b⟩,fun n i g d=>?_⟩
     .rcases List.mem_cons.1 d with rfl|d
      .exact h1
      .exact a g d
     .subst i
      have e:n<f.N_:=by simpa using e
      rcases List.mem_cons.1 d with rfl|d
      .exact e
      .have:=c _ rfl g d;omega
    .rintro ⟨a,b,c⟩
     obtain ⟨m,k⟩:=List.pairwise_cons.1 b;exact ⟨fun g d=>a g (by simp [d]),k,fun n i g d=>by cases i;exact m g d⟩
  .rw [if_pos h1]
   constructor
   .intro h;exact absurd h h1
   .rintro ⟨a,_,_⟩;exact absurd (a f (by simp)) h1
theorem DX(l:List A2_):Zs l=0↔VL l:=by
 unfold Zs
 by_cases h:60<l.length
 .rw [if_pos h]
  exact ⟨fun h=>(by cases h),fun c=>by have:=c.len;omega⟩
 .rw [if_neg h,Q1F]
  exact ⟨fun ⟨a,b,_⟩=>⟨by omega,a,b⟩,fun c=>⟨c.one,c.asc,fun n d=>by cases d⟩⟩
theorem za(f:A2_):Ye f=0↔1<=f.N_/\f.N_<=1073741824/\0<=f.k_/\f.k_<=15/\0<=f.F_/\f.F_<f.u_/\f.u_<=36865/\f.g_.t_.length≠0/\J2 f.g_.t_:=by
 unfold Ye;rw [<-Wj]
 by_cases h1:f.N_<1\/1073741824<f.N_
 .rw [if_pos h1];simp;omega
 .rw [if_neg h1]
  by_cases h2:f.k_<0\/15<f.k_
  .rw [if_pos h2];simp;omega
  .rw [if_neg h2]
   by_cases h3:f.F_<0\/f.u_<=f.F_\/36865<f.u_
   .rw [if_pos h3];simp;omega
   .rw [if_neg h3]
    by_cases a:f.g_.t_.length=0\/Qn f.g_.t_=false
    .rw [if_pos a]
     constructor
     .intro h;cases h
     .rintro ⟨_,_,_,_,_,_,_,c,b⟩
      rcases a with a|a
      .exact absurd a c
      .rw [b] at a;cases a
    .rw [if_neg a]
     refine ⟨fun _=>?_,fun _=>rfl⟩;have c:f.g_.t_.length≠0:=fun h=>a (.inl h)
     have b:Qn f.g_.t_=true:=by
      cases hv:Qn f.g_.t_ with
      | true=>rfl
      | false=>exact absurd (.inr hv) a
     refine ⟨by omega,by omega,by omega,by omega,by omega,by omega,by omega,c,b⟩
theorem Z1J{F:Nat}{f:A2_}(h:f.g_.t_.length<=Y5):TH F f=some f:=by
 unfold TH;exact Q3 (kX h) rfl
theorem VL.rlen{l:List A2_}(h:VL l){f:A2_}(hf:f ∈ l):f.g_.t_.length<=120:=((za f).1 (h.one f hf)).2.2.2.2.2.2.2.2.1
theorem Z1L{F:Nat}(hF:Q7<=F){l:List A2_}(h:VL l):TJ F l=some l:=by
 unfold Q7 at hF;have c:=h.len
 unfold TJ;refine K9 (fun z:Int×List A2_=>∃ i:Nat,z=((i:Int),l.take i)/\i<=l.length) (fun z=>l.length-z.1.toNat) (fun b z e d=>?_) ⟨0,rfl,by omega⟩ (by simp only;omega)
 obtain ⟨i,rfl,f⟩:=e;simp only at d ⊢
 unfold Q0C;refine Z6 (fun a=>?_) (fun a=>?_)
 .have a:i<l.length:=by simpa using a
  refine Q9 (k:=?_);simp only [Int.toNat_natCast]
  refine Q3 (Z1J (by have:=h.rlen (J7 a);unfold Y5;omega)) ?_;refine Q9 (k:=?_)
  refine Q9 (k:=?_);exact d _ ⟨i+1,by rw [Qx a];rfl,a⟩ (by simp only;omega)
 .have a:¬ i<l.length:=by simpa using a
  unfold yq;rw [List.take_of_length_le (by omega)]
def GK(f:A2_)(d:Int):Bool:=decide (f.F_<=d)&&decide (d<f.u_)
theorem Q0B(F:Nat)(f:A2_)(d:Int):DB F f d=some (GK f d):=by
 unfold DB;rw [Yt (TC F)];rfl
theorem Z1H{F:Nat}(hF:Q7<=F)(l:List A2_)(d:Int):TG F l d=some (if Zs l≠0 then Zs l else if d<0\/36864<d then 9 else 0):=by
 unfold TG;refine Q3 (Z1O hF l) ?_
 refine Z6 (fun h=>?_) (fun h=>?_)
 .have h:Zs l≠0:=by simpa using h
  rw [if_pos h]
 .have h:Zs l=0:=by simpa using h
  rw [if_neg (by simp [h]),Yd (DD F)];unfold DD
  refine Z6 (fun h=>?_) (fun h=>?_)
  .rw [if_pos (by simpa using h)]
  .rw [if_neg (by simpa using h)]
theorem Q0G{F:Nat}(hF:Q7<=F)(l:List A2_)(d:Int):DH F l d=some (if Zs l≠0 then ([],Zs l) else if d<0\/36864<d then ([],9) else (l.filter fun f=>GK f d,0)):=by
 unfold DH;refine Q3 (Z1H hF l d) ?_
 by_cases h:Zs l=0
 .simp only [h,ne_eq,not_true_eq_false,if_false]
  by_cases h2:d<0\/36864<d
  .simp only [h2,if_true]
   exact Y7 rfl rfl
  .simp only [h2,if_false]
   refine Z5 rfl ?_;have b:=(DX l).1 h
   refine Q3 (Z1L hF b) ?_;have a:=b.len
   refine Q3 (Q5W hF (fun f=> !GK f d) (by omega) (fun f _=>by unfold yu;rw [Q0B];rfl)) ?_;simp
 .have e:(if Zs l≠0 then Zs l else if d<0\/36864<d then 9 else 0)=Zs l:=if_pos h
  rw [e,if_pos h];refine Y7 (by simpa using h) rfl
def ZD(l:List A2_)(n:Int):Nat:=l.countP fun f=>decide (f.N_<n)
theorem zq{l:List A2_}(h:l.Pairwise fun f g=>f.N_<g.N_)(n:Int):ZD l n<=l.length/\(∀ j,j<ZD l n->(gl l j).N_<n)/\∀ j,ZD l n<=j->j<l.length->n<=(gl l j).N_:=by
 induction l with
 | nil=>exact ⟨Nat.le_refl _,fun j i=>by simp [ZD] at i,fun j _ i=>by simp at i⟩
 | cons f l ih=>
  obtain ⟨o,p⟩:=List.pairwise_cons.1 h;obtain ⟨a,b,c⟩:=ih p
  by_cases hf:f.N_<n
  .have e:ZD (f::l) n=ZD l n+1:=by simp [ZD,hf]
   rw [e];refine ⟨by simp;exact a,fun j i=>?_,fun j i d=>?_⟩
   .cases j with
    | zero=>exact hf
    | succ j=>exact b j (by omega)
   .cases j with
    | zero=>omega
    | succ j=>exact c j (by omega) (by simpa using d)
  .have k:ZD l n=0:=by
    unfold ZD;rw [List.countP_eq_zero]
    intro g m;have:=o g m
    simp;omega
   have e:ZD (f::l) n=0:=by
    have:ZD (f::l) n=ZD l n:=by simp [ZD,hf]
    rw [this,k]
   rw [e];refine ⟨Nat.zero_le _,fun j i=>by omega,fun j _ d=>?_⟩
   cases j with
   | zero=>show n<=f.N_;omega
   | succ j=>exact c j (by omega) (by simpa using d)
structure TOk (t:Tape):Prop where
 at_:0<=t.at_
 len:t.l_.length<=400
theorem Z0F{F:Nat}(a:Int){n:Int}(h1:1<=n)(h2:n<=1099511627776):∃ k,Gb F a n=some k/\0<=k/\k<n:=by
 have c:=Int.tmod_lt_of_pos a (show 0<n by omega);have b:=Int.lt_tmod_of_pos a (show 0<n by omega)
 unfold Gb;generalize a.tmod n=m at *
 by_cases h:m<0
 .refine ⟨m+n,?_,by omega,by omega⟩
  refine Z5 (by simp;omega) ?_;refine Q9 (k:=?_)
  refine Y7 (by simpa using h) ?_;refine Q9 (k:=?_)
  rfl
 .refine ⟨m,?_,by omega,by omega⟩
  refine Z5 (by simp;omega) ?_;refine Q9 (k:=?_)
  exact Z5 (by simpa using h) rfl
theorem QQ{F:Nat}{t:Tape}(ht:TOk t){n:Int}(h1:1<=n)(h2:n<=1099511627776):∃ t' k,QD F t n=some (t',k)/\TOk t' /\ 0<=k/\k<n:=by
 obtain ⟨a,b⟩:=ht;unfold QD
 by_cases h:(t.l_.length:Int)<=t.at_
 .exact ⟨t,0,Y7 (by simpa using h) rfl,⟨a,b⟩,by omega,by omega⟩
 .obtain ⟨k,c,k1,k2⟩:=Z0F (F:=F) (gl t.l_ ((t.at_+1)-1).toNat) h1 h2
  refine ⟨⟨t.l_,t.at_+1⟩,k,?_,⟨by simp only;omega,b⟩,k1,k2⟩;refine Z5 (by simpa using h) ?_
  refine Q9 (k:=?_);refine Q9 (k:=?_)
  refine Q9 (k:=?_);exact Q3 c rfl
theorem Wy{F:Nat}{t:Tape}(ht:TOk t){lo hi:Int}(h1:lo<=hi)(h0 : -1099511627<=lo)(h2:hi<=1099511627):∃ t' k,YD F t lo hi=some (t',k)/\TOk t' /\ lo<=k/\k<=hi:=by
 obtain ⟨t',k,d,a,b,c⟩:=QQ (F:=F) ht (n:=(hi-lo)+1) (by omega) (by omega);refine ⟨t',lo+k,?_,a,by omega,by omega⟩
 unfold YD;refine Q9 (k:=?_)
 refine Q9 (k:=?_);refine Q3 d ?_
 refine Q9 (k:=?_);rfl
def QN(n:Int)(l:List Rect):Prop:=∀ r ∈ l,0<=r.L_/\r.L_<r.R_/\r.R_<=n/\0<=r.w_/\r.w_<r.H_/\r.H_<=n
theorem QN.prop{n:Int}{l:List Rect}(h:QN n l)(hn:n<=16384):∀ r ∈ l,QP r=true:=fun r a=>(ZT r).2 (by have:=h r a;omega)
theorem QN.in{n:Int}{l:List Rect}(h:QN n l){x y:Int}(hx:Q4 l x y=true):0<=x/\x<n/\0<=y/\y<n:=by
 obtain ⟨r,b,a⟩:=List.any_eq_true.1 hx;rw [Zp] at a
 have:=h r b
 omega
theorem Z1A{l:List (Rn (List Span))}{r:Rect}(h:r ∈ flat l):∃ b ∈ l,∃ s ∈ b.v,r=⟨s.L_,b.lo,s.R_,b.hi⟩:=by
 obtain ⟨b,d,c⟩:=List.mem_flatMap.1 h;obtain ⟨s,a,rfl⟩:=List.mem_map.1 c
 exact ⟨b,d,s,a,rfl⟩
theorem Yg.pos{l:List Rect}(h:Yg l){r:Rect}(hr:r ∈ l):r.L_<r.R_/\r.w_<r.H_:=by
 obtain ⟨b,d,rfl⟩:=h;obtain ⟨c,a,s,e,rfl⟩:=Z1A hr
 exact ⟨(d.sp c a).pos s e,d.runs.pos c a⟩
theorem Th{l:List Rect}{r:Rect}(hr:r ∈ l){x y:Int}(h:r.has x y=true):Q4 l x y=true:=List.any_eq_true.2 ⟨r,hr,h⟩
theorem Yg.box{l:List Rect}(h:Yg l){n:Int}(hn:∀ x y,Q4 l x y=true->0<=x/\x<n/\0<=y/\y<n):QN n l:=by
 intro r c;obtain ⟨d,e⟩:=h.pos c
 have a:=hn r.L_ r.w_ (Th c ((Zp _ _ _).2 (by omega)));have b:=hn (r.R_-1) (r.H_-1) (Th c ((Zp _ _ _).2 (by omega)))
 omega
theorem Q1R{S:Int->Int->Bool}(hf:Fin S){n:Int}(hn:∀ x y,S x y=true->0<=x/\x<n/\0<=y/\y<n):QN n (cn S):=
 (UT hf).box fun x y h=>hn x y (by rwa [ZM hf] at h)
theorem Q1J:Yg []:=⟨[],⟨.nil,fun b a=>(List.not_mem_nil a).elim,fun b a=>(List.not_mem_nil a).elim⟩,rfl⟩
theorem yT{r:Rect}(h1:r.L_<r.R_)(h2:r.w_<r.H_):Yg [r]:=
 ⟨[⟨r.w_,r.H_,[⟨r.L_,r.R_⟩]⟩],⟨⟨fun b a=>by rw [List.mem_singleton.1 a];exact h2,List.pairwise_singleton _ _⟩,fun b a=>by
  rw [List.mem_singleton.1 a];exact ⟨fun s c=>by rw [List.mem_singleton.1 c];exact h1,List.pairwise_singleton _ _⟩,fun b a=>by rw [List.mem_singleton.1 a];simp⟩,rfl⟩
theorem Q1Q(n:Int):QN n []:=fun r a=>(List.not_mem_nil a).elim
theorem J2.nil:J2 []:=⟨by simp,fun r a=>(List.not_mem_nil a).elim,Q1J⟩
theorem zt{F:Nat}{t:Tape}(ht:TOk t){n:Int}(h1:1<=n)(h2:n<=16384):∃ t' r,KY F t n=some (t',r)/\TOk t' /\ QN n [r]:=by
 obtain ⟨o,x,g,j,w,C⟩:=QQ (F:=F) ht (n:=n) (by omega) (by omega);obtain ⟨p,y,a,c,q,l⟩:=QQ (F:=F) j (n:=n) (by omega) (by omega)
 obtain ⟨B,u,d,h,s,m⟩:=QQ (F:=F) c (n:=n-x) (by omega) (by omega);obtain ⟨e,v,b,i,z,A⟩:=QQ (F:=F) h (n:=n-y) (by omega) (by omega)
 refine ⟨e,⟨x,y,(x+1)+u,(y+1)+v⟩,?_,i,fun r f=>?_⟩
 .unfold KY
  refine Q3 g ?_;refine Q3 a ?_
  simp only
  refine Q9 (k:=?_);refine Q9 (k:=?_)
  refine Q3 d ?_;simp only
  refine Q9 (k:=?_);refine Q9 (k:=?_)
  refine Q9 (k:=?_);refine Q3 b ?_
  simp only
  refine Q9 (k:=?_);rfl
 .rw [List.mem_singleton.1 f]
  simp only
  omega
structure RegT (n:Int) (a:Re_):Prop where
 box:QN n a.t_
 val:J2 a.t_
theorem bq{F:Nat}(hF:Q7<=F){t:Tape}(ht:TOk t){n most:Int}(h1:1<=n)(h2:n<=16384)(m1:0<=most)(m2:most<=100):∃ t' a R,XA F t n most=some (t',a)/\TOk t' /\ RegT n a/\(List.length (α:=Rect) R:Int)<=most/\Q4 a.t_=Q4 R:=by
 have m:=hF;unfold Q7 at hF
 obtain ⟨C,c,u,G,H,I⟩:=QQ (F:=F) ht (n:=most+1) (by omega) (by omega);have j:∀ (k f:Nat) (t:Tape) (l:List Rect),k<f->TOk t->QN n l->l.length+k<=100->(l.length:Int)+k<=most->∃ t' a R,Z9 (fun again (z:Int×List Int×Int×List Rect)=>Xz F n again z.1 z.2.1 z.2.2.1 z.2.2.2) f ((k:Int),t.l_,t.at_,l)=some (t',a)/\TOk t' /\ RegT n a/\(List.length (α:=Rect) R:Int)<=most/\Q4 a.t_=Q4 R:=by
  intro k
  induction k with
  | zero=>
   intro f t l v ht e w D
   cases f with
   | zero=>omega
   | succ f=>
    have o:=Q8z m (l:=l) (by omega) (e.prop h2);refine ⟨⟨t.l_,t.at_⟩,(if 120<(cn (Q4 l)).length then ((⟨[]⟩:Re_),(1:Int)) else (⟨cn (Q4 l)⟩,0)).1,(if 120<(cn (Q4 l)).length then [] else l),?_,ht,?_⟩
    .show Xz F n _ 0 t.l_ t.at_ l=_
     unfold Xz;refine Z5 rfl ?_
     unfold zr;exact Q3 o rfl
    .split
     .exact ⟨⟨Q1Q _,J2.nil⟩,by simp;omega,rfl⟩
     .rename_i p
      have b:QN n (cn (Q4 l)):=Q1R (QZ l) fun x y h=>e.in h
      exact ⟨⟨b,by simp only;omega,b.prop h2,UT (QZ l)⟩,by omega,by funext x y;exact ZM (QZ l) x y⟩
  | succ k ih=>
   intro f t l v ht e w D
   cases f with
   | zero=>omega
   | succ f=>
    obtain ⟨t',r,B,A,E⟩:=zt (F:=F) ht h1 h2;obtain ⟨s,a,Q,g,i,b⟩:=ih f t' (l++[r]) (by omega) A (fun q d=>by
     rcases List.mem_append.1 d with d|d
     .exact e q d
     .exact E q d) (by simp;omega) (by simp;omega)
    refine ⟨s,a,Q,?_,i,b⟩;show Xz F n _ ((k+1:Nat):Int) t.l_ t.at_ l=_
    unfold Xz;refine Y7 (by simp) ?_
    refine Q3 B ?_;refine Q9 (k:=?_)
    refine Q9 (k:=?_);have:((k+1:Nat):Int)-1=(k:Int):=by omega
    rw [this];exact g
 obtain ⟨t',a,Q,g,i,b⟩:=j c.toNat F C [] (by omega) G (Q1Q _) (by simp;omega) (by simp;omega);refine ⟨t',a,Q,?_,i,b⟩
 unfold XA;refine Q9 (k:=?_)
 refine Q3 u ?_;have:(c.toNat:Int)=c:=by omega
 rw [this] at g;exact g
theorem bu{F:Nat}(hF:Q7<=F){t:Tape}(ht:TOk t){n most:Int}(h1:1<=n)(h2:n<=16384)(m1:0<=most)(m2:most<=100):∃ t' a,XA F t n most=some (t',a)/\TOk t' /\ RegT n a:=by
 obtain ⟨t',a,_,e,o,h,_⟩:=bq hF ht h1 h2 m1 m2;exact ⟨t',a,e,o,h⟩
theorem Z0r{F:Nat}(hF:Q7<=F){t:Tape}(ht:TOk t){n most:Int}(h1:1<=n)(h2:n<=16384)(m1:1<=most)(m2:most<=100):∃ t' a R,Ga F t n most=some (t',a)/\TOk t' /\ RegT n a/\a.t_.length≠0/\(List.length (α:=Rect) R:Int)<=most/\Q4 a.t_=Q4 R:=by
 obtain ⟨c,a,Q,e,f,j,l⟩:=bq hF ht h1 h2 (by omega) m2;unfold Ga
 by_cases h:a.t_.length=0
 .obtain ⟨d,r,i,k,b⟩:=zt (F:=F) f h1 h2
  have g:=b r (by simp);refine ⟨⟨d.l_,d.at_⟩,⟨[r]⟩,[r],?_,k,⟨b,by simp,b.prop h2,yT (by omega) (by omega)⟩,by simp,by simp;omega,rfl⟩
  refine Q3 e ?_;refine Y7 (by simp only [h];rfl) ?_
  exact Q3 i rfl
 .refine ⟨⟨c.l_,c.at_⟩,⟨a.t_⟩,Q,?_,f,j,h,l⟩
  refine Q3 e ?_;exact Z5 (by simpa using h) rfl
theorem Z0t{F:Nat}(hF:Q7<=F){t:Tape}(ht:TOk t){n most:Int}(h1:1<=n)(h2:n<=16384)(m1:0<=most)(m2:most<=100):∃ t' a,Ga F t n most=some (t',a)/\TOk t' /\ RegT n a/\a.t_.length≠0:=by
 obtain ⟨c,a,e,f,j⟩:=bu hF ht h1 h2 m1 m2;unfold Ga
 by_cases h:a.t_.length=0
 .obtain ⟨d,r,i,k,b⟩:=zt (F:=F) f h1 h2
  have g:=b r (by simp);refine ⟨⟨d.l_,d.at_⟩,⟨[r]⟩,?_,k,⟨b,by simp,b.prop h2,yT (by omega) (by omega)⟩,by simp⟩
  refine Q3 e ?_;refine Y7 (by simp only [h];rfl) ?_
  exact Q3 i rfl
 .refine ⟨⟨c.l_,c.at_⟩,⟨a.t_⟩,?_,f,j,h⟩
  refine Q3 e ?_;exact Z5 (by simpa using h) rfl
structure FeaT (f:A2_):Prop where
 kind:0<=f.k_/\f.k_<=15
 F_:0<=f.F_/\f.F_<20
 u_:f.F_<f.u_/\f.u_<=f.F_+30
 reg:RegT 9 f.g_
 ne:f.g_.t_.length≠0
theorem Z0z{F:Nat}(hF:Q7<=F){t:Tape}(ht:TOk t)(n:Int):∃ t' f,Ta F t n=some (t',f)/\TOk t' /\ FeaT f/\f.N_=n:=by
 obtain ⟨u,a,m,o,x,B⟩:=QQ (F:=F) ht (n:=20) (by omega) (by omega);obtain ⟨w,b,e,h,z,s⟩:=QQ (F:=F) o (n:=16) (by omega) (by omega)
 obtain ⟨y,c,i,p,v,A⟩:=Wy (F:=F) h (lo:=1) (hi:=30) (by omega) (by omega) (by omega);obtain ⟨j,r,g,q,l,d⟩:=Z0t hF p (n:=9) (most:=2) (by omega) (by omega) (by omega) (by omega)
 refine ⟨j,⟨n,b,a,a+c,r⟩,?_,q,⟨by simp only;omega,by simp only;omega,by simp only;omega,l,d⟩,rfl⟩;unfold Ta
 refine Q3 m ?_;refine Q3 e ?_
 refine Q3 i ?_;simp only
 refine Q9 (k:=?_);exact Q3 g rfl
theorem FeaT.one{f:A2_}(h:FeaT f)(h1:1<=f.N_)(h2:f.N_<=1073741824):Ye f=0:=
 (za f).2 ⟨h1,h2,h.kind.1,h.kind.2,h.F_.1,h.u_.1,by have:=h.F_;have:=h.u_;omega,h.ne,h.reg.val⟩
def JI(l:List A2_)(f:A2_):List A2_:=l.take (ZD l f.N_)++[f]++l.drop (ZD l f.N_)
noncomputable def Gu(l:List A2_)(f:A2_):List A2_×Int:=
 if Zs l≠0 then ([],Zs l) else if Ye f≠0 then ([],Ye f) else if ZD l f.N_<l.length/\(gl l (ZD l f.N_)).N_=f.N_ then ([],6)
 else if l.length=60 then ([],1) else (JI l f,0)
theorem jD{F:Nat}(hF:Q7<=F)(l:List A2_)(f:A2_):RU F l f=some (Gu l f):=by
 have j:=hF;unfold Q7 at hF
 unfold RU Gu;refine Q3 (Q8r j l) ?_
 by_cases h:Zs l=0
 .refine Z5 (by simp [h]) ?_
  rw [if_neg (by simp [h])];refine Q3 (jA j f) ?_
  by_cases h1:Ye f=0
  .refine Z5 (by simp [h1]) ?_
   rw [if_neg (by simp [h1])];have q:=(DX l).1 h
   have p:=q.len;obtain ⟨a,b,c⟩:=zq q.asc f.N_
   unfold JI;generalize ZD l f.N_=k at *
   refine K9 (fun z:Int=>∃ i:Nat,z=i/\i<=k) (fun z=>l.length-z.toNat) (fun o z s t=>?_) ⟨0,rfl,by omega⟩ (by simp;omega);obtain ⟨i,rfl,v⟩:=s
   have n:i=k->RT F l f (i:Int)=some (if k<l.length/\(gl l k).N_=f.N_ then ([],6) else if l.length=60 then ([],1) else (l.take k++[f]++l.drop k,0)):=by
    rintro rfl;unfold RT
    have m:∀ b:Bool,(b=true↔i<l.length/\(gl l i).N_=f.N_)->BN F l f (i:Int) b=some (if i<l.length/\(gl l i).N_=f.N_ then ([],6) else if l.length=60 then ([],1) else (l.take i++[f]++l.drop i,0)):=by
     intro b r;unfold BN
     refine Z6 (fun h=>by rw [if_pos (r.1 h)]) (fun h=>?_);rw [if_neg fun u=>by rw [r.2 u] at h;cases h]
     refine Z6 (fun h=>?_) (fun h=>?_)
     .have h:l.length=60:=by simp at h;omega
      rw [if_pos h]
     .have h:l.length≠60:=by simp at h;omega
      rw [if_neg h];simp only [Int.toNat_natCast]
      refine Q9 (k:=?_);refine Q9 (k:=?_)
      refine Q9 (k:=?_);refine Q9 (k:=?_)
      refine Q9 (k:=?_);simp
    refine Z6 (fun d=>?_) (fun d=>?_)
    .have d:i<l.length:=by simpa using d
     refine Q9 (k:=?_);exact m _ (by simp [d])
    .have d:¬ i<l.length:=by simpa using d
     exact m _ (by simp [d])
   unfold jE;refine Z6 (fun d=>?_) (fun d=>?_)
   .have d:i<l.length:=by simpa using d
    refine Q9 (k:=?_);unfold BO
    simp only [Int.toNat_natCast];refine Z6 (fun g=>?_) (fun g=>?_)
    .have g:(gl l i).N_<f.N_:=by simpa using g
     refine Q9 (k:=?_);refine t _ ⟨i+1,by omega,?_⟩ (by omega)
     rcases Nat.lt_or_ge i k with e|e
     .exact e
     .have:=c i e d;omega
    .have g:¬ (gl l i).N_<f.N_:=by simpa using g
     refine n ?_;rcases Nat.lt_or_ge i k with e|e
     .exact absurd (b i e) g
     .omega
   .have d:¬ i<l.length:=by simpa using d
    unfold BO;exact Z5 rfl (n (by omega))
  .refine Y7 (by simpa using h1) ?_
   rw [if_pos h1]
 .refine Y7 (by simpa using h) ?_
  rw [if_pos h]
theorem bM{l:List A2_}{f g:A2_}:g ∈ JI l f↔g=f\/g ∈ l:=by
 unfold JI;constructor
 .intro h
  rcases List.mem_append.1 h with h|h
  .rcases List.mem_append.1 h with h|h
   .exact .inr (List.mem_of_mem_take h)
   .exact .inl (List.mem_singleton.1 h)
  .exact .inr (List.mem_of_mem_drop h)
 .rintro (rfl|h)
  .simp
  .rw [<-List.take_append_drop (ZD l f.N_) l] at h
   rcases List.mem_append.1 h with h|h
   .simp [h]
   .simp [h]
theorem Z0N{l:List A2_}{f:A2_}(hl:VL l)(hf:Ye f=0)(hn:¬ (ZD l f.N_<l.length/\(gl l (ZD l f.N_)).N_=f.N_))(h60:l.length≠60):VL (JI l f):=by
 obtain ⟨a,b,c⟩:=zq hl.asc f.N_;have o:=hl.len
 refine ⟨by simp [JI];omega,fun g h=>?_,?_⟩
 .rcases bM.1 h with rfl|h
  .exact hf
  .exact hl.one g h
 .unfold JI
  generalize ZD l f.N_=k at *;have q:∀ g ∈ l.take k,g.N_<f.N_:=by
   intro g h;obtain ⟨j,m,rfl⟩:=List.getElem_of_mem h
   have d : j<k:=by simp at m;omega
   have:=b j d
   rw [G8 (by omega)] at this;simpa using this
  have v:∀ g ∈ l.drop k,f.N_<g.N_:=by
   intro g h;obtain ⟨j,m,rfl⟩:=List.getElem_of_mem h
   have d : k+j<l.length:=by simp at m;omega
   have u:=c (k+j) (by omega) d;rw [G8 d] at u
   have z:(l[k+j]).N_≠f.N_:=by
    intro e;rcases Nat.eq_zero_or_pos j with rfl|n
    .exact hn ⟨by omega,by rw [G8 (by omega)];exact e⟩
    .have w:=c k (Nat.le_refl _) (by omega)
     rw [G8 (by omega)] at w;have A:=List.pairwise_iff_getElem.1 hl.asc k (k+j) (by omega) d (by omega)
     omega
   simp only [List.getElem_drop];omega
  have n:=hl.asc;rw [<-List.take_append_drop k l,List.pairwise_append] at n
  obtain ⟨t,r,s⟩:=n;rw [List.append_assoc,List.pairwise_append]
  refine ⟨t,List.pairwise_cons.2 ⟨v,r⟩,fun x p y i=>?_⟩;rcases List.mem_append.1 i with i|i
  .rw [List.mem_singleton.1 i];exact q x p
  .exact s x p y i
structure LayT (l:List A2_):Prop where
 vl:VL l
 fea:∀ f ∈ l,FeaT f/\1<=f.N_/\f.N_<=12
theorem Z0o{F:Nat}(hF:Q7<=F){t:Tape}(ht:TOk t){most:Int}(m1:0<=most)(m2:most<=50):∃ t' l,SS F t most=some (t',l)/\TOk t' /\ LayT l/\(l.length:Int)<=most:=by
 have e:=hF;unfold Q7 at hF
 obtain ⟨I,c,D,J,K,N⟩:=QQ (F:=F) ht (n:=most+1) (by omega) (by omega);have s:∀ (k f:Nat) (t:Tape) (l:List A2_),k<f->TOk t->LayT l->(l.length:Int)+k<=most->∃ t' l',Z9 (fun again (z:List A2_×Int×List Int×Int)=>XD F again z.1 z.2.1 z.2.2.1 z.2.2.2) f (l,(k:Int),t.l_,t.at_)=some (t',l')/\TOk t' /\ LayT l' /\ (l'.length:Int)<=most:=by
  intro k
  induction k with
  | zero=>
   intro f t l h ht d E
   cases f with
   | zero=>omega
   | succ f=>exact ⟨⟨t.l_,t.at_⟩,l,rfl,ht,d,by omega⟩
  | succ k ih=>
   intro f t l h ht d E
   cases f with
   | zero=>omega
   | succ f=>
    obtain ⟨M,n,A,H,L,n2⟩:=Wy (F:=F) ht (lo:=1) (hi:=12) (by omega) (by omega) (by omega);obtain ⟨u,g,B,y,w,G⟩:=Z0z e H n
    have j:=w.one (by omega) (by omega);have C:=(DX l).2 d.vl
    have v:((k+1:Nat):Int)-1=(k:Int):=by omega
    by_cases hadd:(Gu l g).2=0
    .have o:LayT (Gu l g).1/\(Gu l g).1.length=l.length+1:=by
      unfold Gu at hadd ⊢;rw [if_neg (by simp [C]),if_neg (by simp [j])] at hadd ⊢
      by_cases a:ZD l g.N_<l.length/\(gl l (ZD l g.N_)).N_=g.N_
      .rw [if_pos a] at hadd;cases hadd
      .rw [if_neg a] at hadd ⊢
       by_cases b:l.length=60
       .rw [if_pos b] at hadd;cases hadd
       .rw [if_neg b]
        refine ⟨⟨Z0N d.vl j a b,fun x p=>?_⟩,?_⟩
        .rcases bM.1 p with rfl|p
         .exact ⟨w,by omega,by omega⟩
         .exact d.fea x p
        .have:=(zq d.vl.asc g.N_).1
         simp [JI];omega
     obtain ⟨q,r,a,b,i,m⟩:=ih f u (Gu l g).1 (by omega) y o.1 (by omega);refine ⟨q,r,?_,b,i,m⟩
     show XD F _ l ((k+1:Nat):Int) t.l_ t.at_=_;unfold XD
     refine Y7 (by simp) ?_;refine Q3 A (Q3 B (Q3 (jD e l g) ?_))
     refine Y7 (by simpa using hadd) ?_;unfold Dm
     refine Q9 (k:=?_);rw [v];exact a
    .obtain ⟨q,r,a,b,i,m⟩:=ih f u l (by omega) y d (by omega)
     refine ⟨q,r,?_,b,i,m⟩;show XD F _ l ((k+1:Nat):Int) t.l_ t.at_=_
     unfold XD;refine Y7 (by simp) ?_
     refine Q3 A (Q3 B (Q3 (jD e l g) ?_));refine Z5 (by simpa using hadd) ?_
     unfold Dm;refine Q9 (k:=?_)
     rw [v];exact a
 obtain ⟨t',l,a,b,i,m⟩:=s c.toNat F I [] (by omega) J ⟨⟨by simp,fun f h=>(List.not_mem_nil h).elim,.nil⟩,fun f h=>(List.not_mem_nil h).elim⟩ (by simp;omega);refine ⟨t',l,?_,b,i,m⟩
 unfold SS;refine Q9 (k:=?_)
 refine Q3 D ?_;have:(c.toNat:Int)=c:=by omega
 rw [this] at a;exact a
theorem Z0D(F:Nat)(l:List Int):∃ t,Td F l=some t/\TOk t:=by
 unfold Td;have h:Ql ((l.length:Nat):Int) 400=((min l.length 400:Nat):Int):=by unfold Ql;split <;> omega
 rw [h];refine ⟨⟨l.take (min l.length 400),0⟩,?_,by simp only;omega,by simp;omega⟩
 refine Q9 (k:=?_);simp
theorem Tz{R:Type}{body:(Int->Option R)->Int->Option R}{y:Option R}(N:Nat)(step:∀ again (i:Nat),i<N->again ((i:Int)+1)=y->body again (i:Int)=y)(stop:∀ again,body again (N:Int)=y){F:Nat}(hF:N<F):Z9 body F 0=y:=by
 refine K9 (fun z:Int=>∃ i:Nat,z=i/\i<=N) (fun z=>N-z.toNat) (fun again z a b=>?_) ⟨0,rfl,Nat.zero_le _⟩ (by simp;omega);obtain ⟨i,rfl,c⟩:=a
 rcases Nat.lt_or_ge i N with h|h
 .exact step again i h (b _ ⟨i+1,by omega,h⟩ (by omega))
 .have:i=N:=by omega
  subst this;exact stop again
theorem Runs.len{α:Type}{l:List (Rn α)}(h:Runs l){n:Int}:∀ {a:Int},a<=n->(∀ r ∈ l,a<=r.lo/\r.hi<=n)->(l.length:Int)<=n-a:=by
 induction l with
 | nil=>intro a d _;simp;omega
 | cons r l ih=>
  intro a d b;have e:=b r (by simp)
  have f:=h.pos r (by simp);have:=ih h.tail (a:=r.hi) (by omega) fun q c=>⟨(h.head q c).1,(b q (by simp [c])).2⟩
  rw [List.length_cons];omega
theorem Q1y{S:Int->Int->Bool}(h:Fin S):cn S=[]↔∀ x y,S x y=false:=by
 constructor
 .intro e x y
  rw [<-ZM h,e];rfl
 .intro e
  exact XY (l:=[]) ⟨.nil,fun b a=>(List.not_mem_nil a).elim,fun b a=>(List.not_mem_nil a).elim⟩ fun x y=>(e x y).symm
def JB(r s:Rect):Bool:=decide (r.L_<s.R_)&&(decide (s.L_<r.R_)&&(decide (r.w_<s.H_)&&decide (s.w_<r.H_)))
theorem Q7B(F:Nat)(r s:Rect):Ri F r s=some (JB r s):=by
 unfold Ri;rw [Yt (Jo F),Yt (Jo F),Yt (Jo F)]
 rfl
def KS(a b:List Rect):Bool:=a.any fun r=>b.any fun s=>JB r s
theorem cI{r s:Rect}(hr:QP r=true)(hs:QP s=true):JB r s=true↔∃ x y,r.has x y=true/\s.has x y=true:=by
 rw [ZT] at hr hs;simp only [Zp]
 constructor
 .intro h
  simp only [JB,Bool.and_eq_true,decide_eq_true_eq] at h;refine ⟨max r.L_ s.L_,max r.w_ s.w_,?_⟩
  omega
 .rintro ⟨x,y,h⟩
  simp only [JB,Bool.and_eq_true,decide_eq_true_eq];omega
theorem WQ(l:List Rect)(x y:Int):Q4 l x y=true↔∃ r ∈ l,r.has x y=true:=by unfold Q4;rw [List.any_eq_true]
theorem qU{a b:List Rect}(ha:∀ r ∈ a,QP r=true)(hb:∀ r ∈ b,QP r=true):KS a b=true↔∃ x y,Q4 a x y=true/\Q4 b x y=true:=by
 simp only [KS,List.any_eq_true,WQ];constructor
 .rintro ⟨r,d,s,c,h⟩
  obtain ⟨x,y,e,f⟩:=(cI (ha r d) (hb s c)).1 h;exact ⟨x,y,⟨r,d,e⟩,⟨s,c,f⟩⟩
 .rintro ⟨x,y,⟨r,d,e⟩,⟨s,c,f⟩⟩
  exact ⟨r,d,s,c,(cI (ha r d) (hb s c)).2 ⟨x,y,e,f⟩⟩
theorem Q9j{a b:List Rect}:KS a b=KS b a:=by
 rw [Bool.eq_iff_iff];simp only [KS,List.any_eq_true,JB,Bool.and_eq_true,decide_eq_true_eq]
 constructor <;> (rintro ⟨r,g,s,c,d,e,f,h⟩;exact ⟨s,c,r,g,e,d,h,f⟩)
noncomputable def Zo(a b:Re_):Bool:=Qn a.t_&&(Qn b.t_&&KS a.t_ b.t_)
theorem Q9J(a b:Re_):Zo a b=Zo b a:=by
 unfold Zo;rw [Q9j]
 cases Qn a.t_ <;> cases Qn b.t_ <;> rfl
theorem gX{F:Nat}(hF:Q7<=F)(a b:Re_):Bq F a b=some (Zo a b):=by
 unfold Bq Zo;refine Q3 (Wn hF a) ?_
 refine Z6 (fun h=>?_) (fun h=>by rw [h];rfl);refine Q3 (Wn hF b) ?_
 refine Z6 (fun c=>?_) (fun c=>by rw [h,c];rfl);have e:=((Wj _).1 h).1
 have d:=((Wj _).1 c).1;refine Q3 (Mt hF (fun r=>b.t_.any fun s=>JB r s) (by omega) fun r _=>?_) ?_
 .unfold LW
  refine Q3 (Mt hF (fun s=>JB r s) (by omega) fun s _=>?_) rfl;unfold LU
  rw [Q7B];rfl
 .rw [h,c];rfl
theorem Q8D{F:Nat}(hF:Q7<=F)(a b:Re_):RZ F a b=some (Zo a b):=by
 unfold RZ Zo;refine Q3 (BR hF a) ?_
 refine Z6 (fun h=>?_) (fun h=>by rw [h];rfl);refine Q3 (BR hF b) ?_
 refine Z6 (fun f=>?_) (fun f=>by rw [h,f];rfl);have i:=(Wj _).1 h
 have c:=(Wj _).1 f;have m:=i.1
 have l:=c.1;refine Q3 (jS hF (by omega)) ?_
 unfold BS;rw [h,f]
 show some _=some (KS a.t_ b.t_);congr 1
 rw [Bool.eq_iff_iff,decide_eq_true_iff,qU i.2.1 c.2.1];have j:=Q1y (Vn a.t_ b.t_ 2)
 have e:∀ x y,z6 (Q4 a.t_ x y) (Q4 b.t_ x y) 2=true↔Q4 a.t_ x y=true/\Q4 b.t_ x y=true:=fun x y=>by simp [z6]
 constructor
 .intro d
  refine Classical.byContradiction fun k=>?_
  have:cn (fun x y=>z6 (Q4 a.t_ x y) (Q4 b.t_ x y) 2)=[]:=j.2 fun x y=>by
   rw [<-Bool.not_eq_true,e];exact fun g=>k ⟨x,y,g⟩
  rw [this] at d;simp at d
 .rintro ⟨x,y,g⟩
  rcases Nat.eq_zero_or_pos (cn fun x y=>z6 (Q4 a.t_ x y) (Q4 b.t_ x y) 2).length with d|d
  .have:=j.1 (List.eq_nil_of_length_eq_zero d) x y
   rw [(e x y).2 g] at this;cases this
  .omega
theorem Br(F:Nat)(l:List Rect):Jq F l=some (if 120<l.length then (⟨[]⟩,1) else (⟨l⟩,0)):=by
 unfold Jq;refine Z6 (fun h=>?_) (fun h=>?_)
 .have h:120<l.length:=by simp at h;omega
  rw [if_pos h]
 .have h:¬ 120<l.length:=by simp at h;omega
  rw [if_neg h]
theorem LX{F:Nat}(hF:Q7<=F){l:List Rect}(hl:l.length<=32768)(hpos:∀ r ∈ l,r.L_<r.R_):UB F l=some (if 120<(cn (Q4 l)).length then (⟨[]⟩,1) else (⟨cn (Q4 l)⟩,0)):=by
 unfold UB;refine Q3 (LI hF hl hpos) ?_
 exact Q3 (Br F _) rfl
def Zf(L:List A2_)(d:Int)(p:Int->Bool):List Rect:=(L.filter fun f=>GK f d&&p f.k_).flatMap fun f=>f.g_.t_
theorem qG(f:A2_)(L:List A2_)(d:Int)(p:Int->Bool):Zf (f::L) d p=(if (GK f d&&p f.k_)=true then f.g_.t_ else [])++Zf L d p:=by
 unfold Zf;rw [List.filter_cons]
 split
 .rw [List.flatMap_cons]
 .rfl
theorem Q9H{L:List A2_}{d:Int}{p:Int->Bool}{r:Rect}(h:r ∈ Zf L d p):∃ f ∈ L,r ∈ f.g_.t_:=by
 obtain ⟨f,a,b⟩:=List.mem_flatMap.1 h;exact ⟨f,(List.mem_filter.1 a).1,b⟩
theorem Q8M{L:List A2_}(h:∀ f ∈ L,f.g_.t_.length<=120)(d:Int)(p:Int->Bool):(Zf L d p).length<=120*L.length:=by
 induction L with
 | nil=>simp [Zf]
 | cons f L ih=>
  have b:=ih fun g a=>h g (by simp [a])
  have c:=h f (by simp);rw [qG,List.length_append,List.length_cons]
  split
  .omega
  .simp;omega
theorem Q0E{F:Nat}(hF:Q7<=F){L:List A2_}(hl:L.length<=10000)(hr:∀ f ∈ L,f.g_.t_.length<=120)(d:Int){q:Int->Option Bool}(p:Int->Bool)(hq:∀ f ∈ L,q f.k_=some (p f.k_)):
  DG F L d q=some (Zf L d p):=by
 unfold Q7 at hF;unfold DG
 refine KP (l:=L) (I:=fun l s=>s.length+120*l.length<=2000000/\∀ f ∈ l,f.g_.t_.length<=120) (fun l s=>some (s++Zf l d p)) (fun a i s o e j=>?_) (fun a s _=>?_) (by omega) ⟨by simp;omega,hr⟩
 .obtain ⟨e,c⟩:=e
  have r:=c _ (List.mem_cons_self ..);rw [List.length_cons] at e
  have m:∀ b:Bool,b=(GK (gl L i) d&&p (gl L i).k_)->DF F L i s a b=some (s++Zf (gl L i::L.drop (i+1)) d p):=by
   intro b n;unfold DF
   rw [qG];refine Z6 (fun h=>?_) (fun h=>?_)
   .rw [<-n,if_pos h]
    simp only [Int.toNat_natCast];refine Q8 (by unfold Y5;omega) ?_
    unfold DE;refine Q9 (k:=?_)
    rw [j _ ⟨by rw [List.length_append];omega,fun f g=>c f (List.mem_cons_of_mem _ g)⟩,List.append_assoc]
   .rw [<-n,if_neg (by simp [h])]
    unfold DE;refine Q9 (k:=?_)
    rw [j _ ⟨by omega,fun f g=>c f (List.mem_cons_of_mem _ g)⟩];rfl
  unfold TL;refine Y7 (Vj o) ?_
  refine Q9 (k:=?_);simp only [Int.toNat_natCast]
  refine Q3 (Q0B F _ d) ?_;refine Z6 (fun h=>?_) (fun h=>?_)
  .refine Q3 (hq _ (J7 o)) ?_
   exact m _ (by rw [h];rfl)
  .exact m _ (by rw [h];rfl)
 .show TL F L d q a (L.length:Int) s=_
  unfold TL yt;refine Z5 (Ua _) ?_
  simp [Zf]
theorem Q6h{F:Nat}(hF:Q7<=F){a b:List Span}(ha:a.length<=1000000)(hb:b.length<=1000000):FW F [a,b]=some (a++b):=by
 unfold Q7 at hF;obtain ⟨m,rfl⟩:∃ m,F=m+3:=⟨F-3,by omega⟩
 have d:gl [a,b] (0:Int).toNat=a:=rfl;have c:gl [a,b] (1:Int).toNat=b:=rfl
 have k1:Mw (m+3) [a,b] (((a.length:Nat):Int)+((b.length:Nat):Int))=some (a++b):=by
  unfold Mw;refine Q3 (a:=[]) (by unfold Uf;rw [if_pos (by unfold Y5;omega)]) ?_
  show Km (m+3) [a,b] _ 0 []=_;unfold Km
  refine Y7 rfl ?_;rw [d]
  refine Q9 (k:=?_);refine Q8 (by simp [Y5];omega) ?_
  refine Q9 (k:=?_);show Km (m+3) [a,b] _ 1 ([]++a)=_
  unfold Km;refine Y7 rfl ?_
  rw [c];refine Q9 (k:=?_)
  refine Q8 (by simp [Y5];omega) ?_;refine Q9 (k:=?_)
  show Km (m+3) [a,b] _ 2 (([]++a)++b)=_;unfold Km
  refine Z5 rfl ?_;unfold FV
  simp
 show Ko (m+3) [a,b] _ 0 0=_;unfold Ko
 refine Y7 rfl ?_;rw [d]
 refine Q9 (k:=?_);refine Q9 (k:=?_)
 refine Z5 (by simp <;> omega) ?_;refine Q9 (k:=?_)
 show Ko (m+3) [a,b] _ (0+((a.length:Nat):Int)) 1=_;unfold Ko
 refine Y7 rfl ?_;rw [c]
 refine Q9 (k:=?_);refine Q9 (k:=?_)
 refine Z5 (by simp <;> omega) ?_;refine Q9 (k:=?_)
 show Ko (m+3) [a,b] _ (0+((a.length:Nat):Int)+((b.length:Nat):Int)) 2=_;unfold Ko
 refine Z5 rfl ?_;rw [Int.zero_add]
 exact k1
theorem gR{F:Nat}(hF:Q7<=F){l:List Span}(hl:l.length<=1000000)(x:Int):Bh F l x=some (J9 l x):=by
 unfold Q7 at hF;have c:∃ i:Int,FQ F l (fun a=>Jp F a x)=some i/\(0<=i↔J9 l x=true):=by
  have m:∀ s:Span,Jp F s x=some (s.has x):=fun s=>by
   unfold Jp;rw [Yt (Ro F)];rfl
  have j:∀ (n i:Nat),i<=l.length->l.length-i<n->∃ r:Int,Z9 (fun again (z:Int)=>Ki F l (fun a=>Jp F a x) again z) n (i:Int)=some r/\(0<=r↔J9 (l.drop i) x=true):=by
   intro n
   induction n with
   | zero=>intro i _ h;omega
   | succ n ih=>
    intro i p q;show ∃ r:Int,Ki F l (fun a=>Jp F a x) (Z9 (fun again (z:Int)=>Ki F l (fun a=>Jp F a x) again z) n) (i:Int)=some r/\_
    by_cases h:i<l.length
    .have e:J9 (l.drop i) x=((gl l i).has x||J9 (l.drop (i+1)) x):=vo h fun s=>s.has x
     rw [e]
     by_cases b:(gl l i).has x=true
     .refine ⟨i,?_,by rw [b];simp⟩
      unfold Ki;refine Y7 (Vj h) ?_
      refine Q9 (k:=?_);exact Q3 (m _) (Y7 b rfl)
     .have b:(gl l i).has x=false:=by simpa using b
      obtain ⟨r,o,g⟩:=ih (i+1) h (by omega);refine ⟨r,?_,by rw [g,b];simp⟩
      unfold Ki;refine Y7 (Vj h) ?_
      refine Q9 (k:=?_);refine Q3 (m _) (Z5 b ?_)
      refine Q9 (k:=?_);exact o
    .have:i=l.length:=by omega
     subst this;refine ⟨-1,?_,by simp [J9]⟩
     unfold Ki;exact Z5 (Ua _) rfl
  obtain ⟨r,d,f⟩:=j F 0 (Nat.zero_le _) (by omega);exact ⟨r,d,by simpa using f⟩
 obtain ⟨i,d,f⟩:=c;unfold Bh FU
 refine Q3 (Q3 d rfl) ?_;congr 1
 rw [Bool.eq_iff_iff, <-f,decide_eq_true_iff]
theorem Q9G{F:Nat}(hF:Q7<=F){a b:List Span}(ha:a.length<=1000000)(hb:b.length<=1000000){es:List Int}{f:Int->Bool}{k:Bool->Bool->Bool}{q:Bool->Bool->Option Bool}(hq:∀ u v,q u v=some (k u v))(hst:Step false es f)(hf:∀ x,f x=k (J9 a x) (J9 b x))(hes:es.length<=8000000):Z9 (fun again (z:Int×List Span)=>Bg F a b q es again z.1 z.2) F ((1:Int),([]:List Span))=some (QS f):=by
 have p:=hF;unfold Q7 at hF
 by_cases h0:es.length=0
 .obtain ⟨m,rfl⟩:∃ m,F=m+1:=⟨F-1,by omega⟩
  show Bg (m+1) a b q es _ 1 []=_;unfold Bg Rj
  refine Z5 (by simp [h0]) ?_;rw [Ma (hst.empty h0)]
 .refine K9 (fun z:Int×List Span=>∃ (i:Nat) (e:List Span),z=(((i+1:Nat):Int),e)/\i+1<=es.length/\Bst false f (e.map Span.rn) (gl es i)/\e.length<=i) (fun z=>es.length-z.1.toNat) (fun again z D E=>?_) ⟨0,[],rfl,by omega,hst.start (by omega),by simp⟩ (by simp;omega)
  obtain ⟨i,e,rfl,H,l,j⟩:=D;simp only
  unfold Bg;refine Z6 (fun h=>?_) (fun h=>?_)
  .have h:i+1<es.length:=by simp at h;omega
   have B:(((i+1:Nat):Int)-1).toNat=i:=by omega
   have A:((i+1:Nat):Int).toNat=i+1:=by omega
   have g:=hst.asc.at_lt (show i<i+1 by omega) h;refine Q9 (k:=?_)
   refine Q9 (k:=?_);rw [B]
   refine Q3 (gR p ha _) ?_;refine Q3 (gR p hb _) ?_
   refine Q3 (hq _ _) ?_;rw [<-hf]
   have d:∀ c : List Span,Bst false f (c.map Span.rn) (gl es (i+1))->c.length<=i+1->GZ F ((i+1:Nat):Int) again c=some (QS f):=by
    intro c o y;unfold GZ
    refine Q9 (k:=?_);exact E _ ⟨i+1,c,by simp,h,o,y⟩ (by simp;omega)
   cases hfe:f (gl es i) with
   | false=>
    refine Y7 rfl ?_;exact d e (l.skip (by omega) fun t o y=>(hst.gap i h t o y).trans hfe) (by omega)
   | true=>
    refine Z5 rfl ?_;rcases List.eq_nil_or_concat e with rfl|⟨n,s,w⟩
    .refine Z5 rfl ?_
     unfold Bf;refine Z5 rfl ?_
     rw [B,A];refine Q9 (k:=?_)
     refine Q8 (by simp [Y5]) ?_;refine d _ ?_ (by simp)
     have:=l.add g (hst.gap i h) (fun a ha=>by simp at ha)
     rw [hfe] at this;exact this
    .rw [List.concat_eq_append] at w
     subst w;have C:(((n ++ [s]).length:Nat):Int)-1=((n.length:Nat):Int):=by simp
     have r:(((n.length:Nat):Int)).toNat=n.length:=by omega
     refine Y7 (by simp <;> omega) ?_;rw [C,r]
     refine Q9 (k:=?_);refine Q8 (by simp <;> omega) ?_
     rw [Gd n s rfl];unfold Bf
     by_cases hs:s.R_=gl es i
     .refine Y7 (by simp [hs]) ?_
      rw [C,r,A];refine Q9 (k:=?_)
      refine Q9 (k:=?_);refine Q8 (by simp <;> omega) ?_
      rw [Gd n s rfl,MF n s _ rfl];refine d _ ?_ (by simp at j ⊢;omega)
      rw [List.map_append] at l;have:=l.grow (a:=s.rn) hs g fun t o y=>(hst.gap i h t o y).trans hfe
      rw [List.map_append];exact this
     .refine Z5 (by simpa using hs) ?_
      rw [B,A];refine Q9 (k:=?_)
      refine Q8 (by simp [Y5] at j ⊢;omega) ?_;refine d _ ?_ (by simp at j ⊢;omega)
      have:=l.add g (hst.gap i h) (fun a ha G=>by
       rw [List.map_append] at ha;simp at ha
       subst ha;exact absurd G hs)
      rw [hfe] at this;rw [List.map_append];exact this
  .have h:i+1=es.length:=by simp at h;omega
   unfold Rj;congr 1
   refine (Kg (.of_runs l.runs) fun x=>?_).symm;rw [Dq];exact hst.done h l x
def Gj(l:List Span):List Int:=l.flatMap fun s=>[s.L_,s.R_]
theorem yH(l:List Span):(Gj l).length=2*l.length:=by
 induction l with
 | nil=>rfl
 | cons s l ih=>unfold Gj at ih ⊢;rw [List.flatMap_cons,List.length_append,ih];simp;omega
theorem bN{l:List Span}{c:List Int}(hc:ZZ c)(hm:∀ s ∈ l,s.L_ ∈ c/\s.R_ ∈ c){i:Nat}(hi:i+1<c.length){t:Int}(h1:gl c i<=t)(h2:t<gl c (i+1)):J9 l t=J9 l (gl c i):=by
 unfold J9
 induction l with
 | nil=>rfl
 | cons s l ih=>
  rw [List.any_cons,List.any_cons,ih fun q f=>hm q (by simp [f])];congr 1
  obtain ⟨e,a⟩:=hm s (by simp);have b:=hc.gap hi h1 h2 e
  have g:=hc.gap hi h1 h2 a;unfold Span.has
  have d1:decide (s.L_<=t)=decide (s.L_<=gl c i):=by simp only [b]
  have d:decide (t<s.R_)=decide (gl c i<s.R_):=by rw [decide_eq_decide];omega
  rw [d1,d]
theorem bP{l:List Span}{t:Int}(h:∀ s ∈ l,¬ (s.L_<=t/\t<s.R_)):J9 l t=false:=by
 unfold J9;rw [List.any_eq_false]
 intro s a;have:=h s a
 simp only [Span.has,Bool.and_eq_true,decide_eq_true_eq];exact this
theorem Q7D{F:Nat}(hF:Q7<=F){a b:List Span}(ha:a.length<=1000000)(hb:b.length<=1000000){k:Bool->Bool->Bool}(hk:k false false=false){q:Bool->Bool->Option Bool}(hq:∀ u v,q u v=some (k u v)):
  Rl F a b q=some (QS fun x=>k (J9 a x) (J9 b x)):=by
 have h:=hF;unfold Q7 at hF
 unfold Rl;refine Q3 (Q6h h ha hb) ?_
 have K:(a++b).length<=2000000:=by rw [List.length_append];omega
 refine KP (l:=a++b) (I:=fun l s=>s++Gj l=Gj (a++b)) (fun _ _=>some (QS fun x=>k (J9 a x) (J9 b x))) (fun g i s o n E=>?_) (fun g s n=>?_) (by omega) rfl
 .have A:=yH (a++b)
  have L:s.length+2<=(Gj (a++b)).length:=by
   rw [<-n,List.length_append,yH];simp;omega
  unfold Rk;refine Y7 (Vj o) ?_
  refine Q9 (k:=?_);simp only [Int.toNat_natCast]
  refine Q8 (by simp [Y5];omega) ?_;refine Q9 (k:=?_)
  refine E _ ?_;rw [<-n,List.append_assoc];rfl
 .have y:s=Gj (a++b):=by rw [<-n];simp [Gj]
  show Rk F a b q (a++b) g (((a++b).length:Nat):Int) s=_;unfold Rk
  refine Z5 (Ua _) ?_;unfold LG
  have A:=yH (a++b);obtain ⟨r,M,w,B,z⟩:=Q4T (l:=s) (by rw [y];unfold Y5;omega)
  refine Q3 M ?_;have G:r.length<=4000000:=by rw [z,y];omega
  refine Q3 (kR h (by unfold Y5;omega)) ?_;have H:=yI r
  have d:=yJ r w;have c:∀ l,l=a\/l=b->∀ s ∈ l,s.L_ ∈ dd r/\s.R_ ∈ dd r:=by
   intro l j q C;have:q ∈ a++b:=by rcases j with rfl|rfl <;> simp [C]
   have m:∀ v,v ∈ [q.L_,q.R_]->v ∈ dd r:=fun v J=>(SA r v).2 ((B v).2 (by rw [y];exact List.mem_flatMap.2 ⟨q,this,J⟩))
   exact ⟨m _ (by simp),m _ (by simp)⟩
  refine Q9G h ha hb hq (f:=fun x=>k (J9 a x) (J9 b x)) ⟨d,fun i o t D m=>?_,fun t p=>?_,fun t p=>?_⟩ (fun _=>rfl) (by omega)
  .simp only [bN d (c a (.inl rfl)) o D m,bN d (c b (.inr rfl)) o D m]
  .have e:∀ l,l=a\/l=b->J9 l t=false:=fun l j=>bP fun q hq=>by have:=p _ (c l j q hq).1;omega
   simp only [e a (.inl rfl),e b (.inr rfl),hk]
  .have e:∀ l,l=a\/l=b->J9 l t=false:=fun l j=>bP fun q hq=>by have:=p _ (c l j q hq).2;omega
   simp only [e a (.inl rfl),e b (.inr rfl),hk]
theorem KB{F:Nat}(hF:Q7<=F){a b:List Rect}(hl:a.length+b.length<=16000)(ha:∀ r ∈ a,r.L_<r.R_)(hb:∀ r ∈ b,r.L_<r.R_){k:Bool->Bool->Bool}(hk:k false false=false){q:Bool->Bool->Option Bool}(hq:∀ u v,q u v=some (k u v)):
  Zn F a b q=some (cn fun x y=>k (Q4 a x y) (Q4 b x y)):=by
 unfold Zn;have d:Grid (Za b (Za a [])) (Vp [a,b]) fun x y=>k (Q4 a x y) (Q4 b x y):=
  Grid.of (VN b (VN a .nil)) (Q1g _) (fun r c=>⟨(ZF b _ _).2 (.inl ((ZF a _ _).2 (.inr ⟨r,c,.inl rfl⟩))),(ZF b _ _).2 (.inl ((ZF a _ _).2 (.inr ⟨r,c,.inr rfl⟩)))⟩)
   (fun r c=>⟨(ZF b _ _).2 (.inr ⟨r,c,.inl rfl⟩),(ZF b _ _).2 (.inr ⟨r,c,.inr rfl⟩)⟩) (yO _ (by simp)) (yO _ (by simp)) hk
 have e:=qZ a (ls:=[a,b]) (by simp);have hB:=qZ b (ls:=[a,b]) (by simp)
 have i:Wt [a,b]=a.length+b.length:=by simp [Wt]
 have f:=Q1f [a,b];have j:=Q1i (a:=a) (b:=b)
 refine Q3 (LZ hF (by omega) (by simp)) ?_;refine Q3 (gZ hF d.rows d.step (by omega) (fun y=>?_) (fun y=>?_)) rfl
 .unfold qe
  have h:=(e.x y).spn_len;have g:=(hB.x y).spn_len
  have m:=Cn (l:=a);have n:=Cn (l:=b)
  refine Q3 (Ru hF (by omega) ha y) ?_;refine Q3 (Ru hF (by omega) hb y) ?_
  refine Q3 (Q7D hF (by omega) (by omega) hk hq) ?_;congr 2
  funext x
  rw [(e.rows.sp y).2 x,(hB.rows.sp y).2 x]
 .have:=(d.x y).spn_len
  omega
def Sm(r:Rect):Prop:= -1000000<=r.L_/\r.L_<=1000000 /\ -1000000<=r.w_/\r.w_<=1000000 /\ -1000000<=r.R_/\r.R_<=1000000 /\ -1000000<=r.H_/\r.H_<=1000000
theorem Q5A{r:Rect}(h:QP r=true):Sm r:=by
 rw [ZT] at h;unfold Sm;omega
def KV(a b:Rect):Int:=G7 0 (Ql a.H_ b.H_-G7 a.w_ b.w_)
def JH(a b:Rect):Int:=G7 0 (Ql a.R_ b.R_-G7 a.L_ b.L_)
def ge(a b:Rect):Bool:=a.R_==b.L_||b.R_==a.L_
def MB(a b:Rect):Bool:=a.H_==b.w_||b.H_==a.w_
def yP(a b:Rect):Int:=(if ge a b=true then KV a b else 0)+(if MB a b=true then JH a b else 0)
theorem Z0e{a b:Rect}(ha:Sm a)(hb:Sm b):0<=KV a b/\KV a b<=2000000 /\ -2000000<=Ql a.H_ b.H_-G7 a.w_ b.w_/\Ql a.H_ b.H_-G7 a.w_ b.w_<=2000000:=by
 unfold Sm at ha hb;unfold KV G7 Ql
 repeat' split
 all_goals omega
theorem Z0f{a b:Rect}(ha:Sm a)(hb:Sm b):0<=JH a b/\JH a b<=2000000 /\ -2000000<=Ql a.R_ b.R_-G7 a.L_ b.L_/\Ql a.R_ b.R_-G7 a.L_ b.L_<=2000000:=by
 unfold Sm at ha hb;unfold JH G7 Ql
 repeat' split
 all_goals omega
theorem Q1q{F:Nat}{a b:Rect}(ha:Sm a)(hb:Sm b){v:Int}(h1:0<=v)(h2:v<=2000000)(c:Bool):PY F a b v c=some (v+if c=true then JH a b else 0):=by
 obtain ⟨f,e,d,g⟩:=Z0f ha hb;unfold PY
 cases c with
 | true=>
  refine Y7 rfl ?_;refine Q8 (V9 (by omega) (by omega)) ?_
  show gd (Q6 (v+JH a b)) _=_;refine Q8 (V9 (by omega) (by omega)) ?_
  rfl
 | false=>
  refine Z5 rfl ?_;show some v=some (v+0)
  rw [Int.add_zero]
theorem Q1r{F:Nat}{a b:Rect}(ha:Sm a)(hb:Sm b){v:Int}(h1:0<=v)(h2:v<=2000000):GS F a b v=some (v+if MB a b=true then JH a b else 0):=by
 unfold GS;rw [Q1q ha hb h1 h2,Q1q ha hb h1 h2]
 unfold MB
 cases a.H_==b.w_ <;> rfl
theorem Q1s{F:Nat}{a b:Rect}(ha:Sm a)(hb:Sm b)(c:Bool):PZ F a b c=some ((if c=true then KV a b else 0)+if MB a b=true then JH a b else 0):=by
 obtain ⟨f,e,d,g⟩:=Z0e ha hb;unfold PZ
 cases c with
 | true=>
  refine Y7 rfl ?_;refine Q8 (V9 (by omega) (by omega)) ?_
  show gd (Q6 (0+KV a b)) _=_;refine Q8 (V9 (by omega) (by omega)) ?_
  show GS F a b (0+KV a b)=_;rw [Q1r ha hb (by omega) (by omega)]
  simp
 | false=>
  refine Z5 rfl ?_;rw [Q1r ha hb (by omega) (by omega)]
  rfl
theorem Q6p(F:Nat){a b:Rect}(ha:Sm a)(hb:Sm b):MC F a b=some (yP a b):=by
 unfold MC;rw [Q1s ha hb,Q1s ha hb]
 unfold yP ge
 cases a.R_==b.L_ <;> rfl
def Zh(a b:Rect):Bool:=decide (0<yP a b)
theorem gi{F:Nat}{q:List Rect}{r:Rect}{i:Nat}(hi:i<q.length)(hl:q.length<=1000000)(hq:∀ s ∈ q,Sm s)(hr:Sm r):
  Ba F r q i=some (if Zh (gl q i) r=true then q++[r] else q,Zh (gl q i) r):=by
 unfold Ba;refine Q8 (by omega) ?_
 simp only [Int.toNat_natCast];refine Q3 (Q6p F (hq _ (J7 hi)) hr) ?_
 show MD F r q (Zh (gl q i) r)=_;unfold MD
 cases Zh (gl q i) r with
 | true=>
  refine Y7 rfl ?_;refine Q8 (by simp [Y5];omega) rfl
 | false=>exact Z5 rfl rfl
theorem Z0O{F:Nat}(hF:Q7<=F){l q:List Rect}{k:Nat}(hk:k<q.length)(hl:l.length<=900000)(hql:q.length<=900000)(hq:∀ s ∈ q,Sm s)(hr:∀ r ∈ l,Sm r):
  Mh F l q k=some (l,if l.any (Zh (gl q k))=true then q++[gl l (l.findIdx (Zh (gl q k)))] else q,QB (Zh (gl q k)) l):=by
 unfold Q7 at hF;unfold Mh
 refine K9 (fun z:Int×List Rect=>∃ i:Nat,z=((i:Int),q)/\i<=l.length/\∀ j,j<i->Zh (gl q k) (gl l j)=false) (fun z=>l.length-z.1.toNat) (fun c z g f=>?_) ⟨0,rfl,by omega,fun j m=>by omega⟩ (by simp;omega);obtain ⟨i,rfl,n,d⟩:=g
 simp only at f ⊢;unfold kv
 refine Z6 (fun h=>?_) (fun h=>?_)
 .have h:i<l.length:=by simpa using h
  refine Q9 (k:=?_);simp only [Int.toNat_natCast]
  refine Q3 (gi hk (by omega) hq (hr _ (J7 h))) ?_;simp only
  refine Z6 (fun a=>?_) (fun a=>?_)
  .have b:l.any (Zh (gl q k))=true:=List.any_eq_true.2 ⟨_,J7 h,a⟩
   rw [if_pos a,QB,if_pos b,if_pos b,Gf h d a]
  .rw [a,if_neg (by simp)]
   refine Q9 (k:=?_);refine f _ ⟨i+1,rfl,h,fun j m=>?_⟩ (by simp only;omega)
   rcases Nat.lt_or_ge j i with e|e
   .exact d j e
   .have:j=i:=by omega
    subst this;exact a
 .have h:¬ i<l.length:=by simpa using h
  have:i=l.length:=by omega
  subst this;have b:=JU d
  rw [QB,b];rfl
theorem Z2x{F:Nat}(hF:Q7<=F){l q:List Rect}{k:Nat}(hk:k<q.length)(hl:l.length+q.length<=900000)(hq:∀ s ∈ q,Sm s)(hr:∀ r ∈ l,Sm r):
  Mo F l q k=some (q++l.filter (Zh (gl q k)),l.filter fun r=> !Zh (gl q k) r):=by
 have I:=hF;unfold Q7 at hF
 unfold Mo;refine Q3 (Z0O I hk (by omega) (by omega) hq hr) ?_
 generalize a:Zh (gl q k)=p;simp only
 by_cases f:l.any p=true
 .obtain ⟨x,c,E⟩:=List.any_eq_true.1 f
  have d:l.findIdx p<l.length:=List.findIdx_lt_length_of_exists ⟨x,c,E⟩;have y:p (gl l (l.findIdx p))=true:=by rw [G8 d];exact List.findIdx_getElem (w:=d)
  have A:∀ j,j<l.findIdx p->p (gl l j)=false:=by
   intro j t;rw [G8 (by omega)]
   simpa using List.not_of_lt_findIdx t
  rw [QB,if_pos f,if_pos f];refine Z5 (by simp) ?_
  refine Q9 (k:=?_);generalize l.findIdx p=i0 at *
  have D:(l.take i0).filter (fun r=> !p r)=l.take i0:=by
   rw [List.filter_eq_self];intro x c
   obtain ⟨j,t,rfl⟩:=List.getElem_of_mem c;have g : j<i0:=by simp at t;omega
   have:=A j g
   rw [G8 (by omega)] at this;simp [this]
  have G:(l.take i0).filter p=[]:=by
   rw [List.filter_eq_nil_iff];intro x c
   obtain ⟨j,t,rfl⟩:=List.getElem_of_mem c;have g : j<i0:=by simp at t;omega
   have:=A j g
   rw [G8 (by omega)] at this;simp [this]
  have O:(l.take (i0+1)).filter (fun r=> !p r)=l.take i0:=by
   rw [Qx d,List.filter_append,D];simp [y]
  have H:(l.take (i0+1)).filter p=[gl l i0]:=by
   rw [Qx d,List.filter_append,G];simp [y]
  refine K9 (fun z:Int×Int×List Rect×List Rect=>∃ (i j:Nat) (b:List Rect),z=((i:Int),(j:Int),b,q++(l.take j).filter p)/\i<j/\j<=l.length/\b.length=l.length/\(∀ m,j<=m->gl b m=gl l m)/\b.take i=(l.take j).filter fun r=> !p r)
   (fun z=>l.length-z.2.1.toNat) (fun J z L C=>?_) ⟨i0,i0+1,l,by rw [H];rfl,by omega,by omega,rfl,fun _ _=>rfl,O.symm⟩ (by simp only;omega)
  obtain ⟨i,j,b,rfl,M,t,e,n,o⟩:=L;simp only at C ⊢
  unfold kH;rw [e]
  have N:((l.take j).filter p).length<=j:=by
   have:=List.length_filter_le p (l.take j)
   simp at this;omega
  have K:gl (q++(l.take j).filter p) k=gl q k:=by simp [gl,List.getD_eq_getElem?_getD,List.getElem?_append,hk]
  refine Z6 (fun h=>?_) (fun h=>?_)
  .have h:j<l.length:=by simpa using h
   refine Q9 (k:=?_);simp only [Int.toNat_natCast]
   rw [n j (Nat.le_refl _)];refine Q3 (gi (by simp;omega) (by simp;omega) (fun s B=>?_) (hr _ (J7 h))) ?_
   .rcases List.mem_append.1 B with B|B
    .exact hq s B
    .exact hr s (List.mem_of_mem_take (List.mem_filter.1 B).1)
   rw [K,a];have v:(l.take (j+1)).filter (fun r=> !p r)=(l.take j).filter (fun r=> !p r)++(if p (gl l j)=true then [] else [gl l j]):=by
    rw [Qx h,List.filter_append]
    by_cases a:p (gl l j)=true
    .rw [if_pos a];simp [a]
    .rw [if_neg a];simp [a]
   have u:(l.take (j+1)).filter p=(l.take j).filter p++(if p (gl l j)=true then [gl l j] else []):=by
    rw [Qx h,List.filter_append]
    by_cases a:p (gl l j)=true
    .rw [if_pos a];simp [a]
    .rw [if_neg a];simp [a]
   simp only
   refine Z6 (fun a=>?_) (fun a=>?_)
   .have a:p (gl l j)=false:=by simpa using a
    refine Q9 (k:=?_);refine Q9 (k:=?_)
    unfold PS;refine Q9 (k:=?_)
    rw [a,if_neg (by simp)];refine C _ ⟨i+1,j+1,b.set i (gl l j),?_,by omega,by omega,by simp [e],fun m P=>?_,?_⟩ (by simp only;omega)
    .rw [u,a,if_neg (by simp),List.append_nil];rfl
    .rw [XK _ _ _ _ (by omega),if_neg (by omega)];exact n m (by omega)
    .rw [v,if_neg (by rw [a];simp), <-o,Qx (by simp;omega),Fy _ _ _ _ (Nat.le_refl _),XK _ _ _ _ (by omega),if_pos rfl]
   .have a:p (gl l j)=true:=by simpa using a
    unfold PS;refine Q9 (k:=?_)
    rw [a,if_pos rfl];refine C _ ⟨i,j+1,b,?_,by omega,by omega,e,fun m P=>n m (by omega),?_⟩ (by simp only;omega)
    .rw [u,a,if_pos rfl, <-List.append_assoc];rfl
    .rw [v,if_pos a,List.append_nil,o]
  .have h:¬ j<l.length:=by simpa using h
   have Q:j=l.length:=by omega
   unfold FSq;simp only [Int.toNat_natCast,yR,e]
   refine Q9 (k:=?_);refine Q9 (k:=?_)
   rw [FA _ _ _ (by omega),o,List.take_of_length_le (by omega)]
 .have f:l.any p=false:=by simpa using f
  rw [QB,f];refine Y7 rfl ?_
  have D:l.filter p=[]:=by
   rw [List.filter_eq_nil_iff];intro x c
   have:=List.any_eq_false.1 f x c
   simpa using this
  have G:l.filter (fun r=> !p r)=l:=by
   rw [List.filter_eq_self];intro x c
   have:=List.any_eq_false.1 f x c
   simpa using this
  rw [D,G];simp
def jn:Nat->List Rect->Nat->List Rect->List Rect×List Rect
 | 0,q,_,rest=>(q,rest)
 | n+1,q,k,rest=>if k<q.length then jn n (q++rest.filter (Zh (gl q k))) (k+1) (rest.filter fun r=> !Zh (gl q k) r) else (q,rest)
def VK:List Rect->List Rect×List Rect
 | []=>([],[])
 | a::l=>jn (l.length+2) [a] 0 l
theorem Q0z{α:Type}(p:α->Bool)(l:List α):(l.filter p).length+(l.filter fun r=> !p r).length=l.length:=by
 induction l with
 | nil=>rfl
 | cons a l ih=>by_cases h:p a=true <;> simp [h] <;> omega
theorem Z4B{F:Nat}{l:List Rect}(h:l.length<=Y5):MA F l=some l:=by
 unfold MA
 cases h:l with
 | nil=>
  show XL _ _=_;unfold XL
  exact @Q8 _ _ (Classical.propDecidable _) _ _ rfl rfl
 | cons a l' =>
  have:(a::l').length=l'.length+1:=rfl
  show (gd _ _)=_;rw [<-h]
  refine Q9 (k:=?_);simp
theorem Q6r{F:Nat}(hF:Q7<=F){l:List Rect}(hne:l≠[])(hl:l.length<=400000)(hs:∀ r ∈ l,Sm r):ME F l=some (VK l):=by
 have f:=hF;unfold Q7 at hF
 cases l with
 | nil=>exact absurd rfl hne
 | cons a l=>
  simp only [List.length_cons] at hl;unfold ME
  refine Q8 (by simp only [List.length_cons];omega) ?_;refine Q8 (by simp only [List.length_cons];omega) ?_
  have o:(1:Int).toNat=1:=rfl;rw [o]
  refine Q3 (Z4B (by simp [Y5];omega)) ?_;simp only [List.drop_succ_cons,List.drop_zero,List.take_succ_cons,List.take_zero]
  refine K9 (fun z:List Rect×Int×List Rect=>∃ (n k:Nat) (q b:List Rect),z=(b,(k:Int),q)/\k<=q.length/\q.length+b.length=l.length+1/\(∀ r ∈ q++b,Sm r)/\l.length+2<=n+k/\jn n q k b=VK (a::l))
   (fun z=>l.length+2-z.2.1.toNat) (fun g z m j=>?_) ⟨l.length+2,0,[a],l,rfl,by simp,by simp;omega,fun r c=>hs r (by simpa using c),by omega,rfl⟩ (by simp;omega)
  obtain ⟨n,k,q,b,rfl,p,i,d,u,e⟩:=m;simp only at j ⊢
  unfold gg Lh
  cases n with
  | zero=>omega
  | succ n=>
  rw [jn] at e;refine Z6 (fun h=>?_) (fun h=>?_)
  .have h:k<q.length:=by simpa using h
   rw [if_pos h] at e;refine Q3 (Z2x f h (by omega) (fun s hs=>d s (by simp [hs])) (fun s hs=>d s (by simp [hs]))) ?_
   refine Q9 (k:=?_);have t:=Q0z (Zh (gl q k)) b
   refine j _ ⟨n,k+1,_,_,rfl,by simp;omega,by simp;omega,fun r c=>d r ?_,by omega,e⟩ (by simp only;omega);simp only [List.mem_append,List.mem_filter] at c ⊢
   rcases c with (c|c) | c
   .exact .inl c
   .exact .inr c.1
   .exact .inr c.1
  .have h:¬ k<q.length:=by simpa using h
   rw [if_neg h] at e;unfold Lg
   rw [e]
def Apt(r s:Rect):Prop:=∀ x y,r.has x y=true->s.has x y=true->False
def Q2F(q:List Rect):Prop:=∀ i,0<i->i<q.length->∃ j,j<i/\Zh (gl q j) (gl q i)=true
structure JnOk (q rest q' rest' : List Rect):Prop where
 perm:(q' ++ rest').Perm (q++rest)
 chain:Q2F q'
 pre:q <+: q'
 apart:∀ r ∈ q',∀ s ∈ rest',Zh r s=false
theorem Q9c{α:Type}(p:α->Bool)(l:List α):(l.filter p++l.filter fun r=> !p r).Perm l:=List.filter_append_perm p l
theorem Z0G:∀ (n:Nat) (q:List Rect) (k:Nat) (rest:List Rect),q.length+rest.length<n+k->k<=q.length->Q2F q->(∀ i,i<k->∀ s ∈ rest,Zh (gl q i) s=false)->JnOk q rest (jn n q k rest).1 (jn n q k rest).2:=by
 intro n
 induction n with
 | zero=>intro q k rest o v;omega
 | succ n ih=>
  intro q k rest o v g m;rw [jn]
  by_cases hk:k<q.length
  .rw [if_pos hk]
   have x:=Q0z (Zh (gl q k)) rest;have c:∀ i,i<q.length->gl (q++rest.filter (Zh (gl q k))) i=gl q i:=fun i a=>by simp [gl,List.getD_eq_getElem?_getD,List.getElem?_append,a]
   have h:=ih (q++rest.filter (Zh (gl q k))) (k+1) (rest.filter fun r=> !Zh (gl q k) r) (by simp;omega) (by simp;omega) (fun i a e=>?_) (fun i a s f=>?_)
   .refine ⟨h.perm.trans ?_,h.chain,?_,h.apart⟩
    .rw [List.append_assoc]
     exact (Q9c _ rest).append_left q
    .exact (List.prefix_append _ _).trans h.pre
   .by_cases hiq:i<q.length
    .obtain ⟨j,t,w⟩:=g i a hiq
     exact ⟨j,t,by rw [c i hiq,c j (by omega)];exact w⟩
    .refine ⟨k,by omega,?_⟩
     rw [c k hk];have p:gl (q++rest.filter (Zh (gl q k))) i ∈ rest.filter (Zh (gl q k)):=by
      have d : i-q.length<(rest.filter (Zh (gl q k))).length:=by simp at e;omega
      have:gl (q++rest.filter (Zh (gl q k))) i=gl (rest.filter (Zh (gl q k))) (i-q.length):=by
       simp [gl,List.getD_eq_getElem?_getD,List.getElem?_append,hiq]
      rw [this];exact J7 d
     exact (List.mem_filter.1 p).2
   .have b:=List.mem_filter.1 f
    rcases Nat.lt_or_ge i k with l|l
    .rw [c i (by omega)];exact m i l s b.1
    .have:i=k:=by omega
     subst this;rw [c i hk];simpa using b.2
  .rw [if_neg hk]
   refine ⟨List.Perm.refl _,g,List.prefix_refl _,fun r u s f=>?_⟩;obtain ⟨i,a,rfl⟩:=List.getElem_of_mem u
   have:=m i (by simp only at a;omega) s f
   rwa [G8 a] at this
theorem bK(a:Rect)(l:List Rect):JnOk [a] l (VK (a::l)).1 (VK (a::l)).2:=
 Z0G (l.length+2) [a] 0 l (by simp;omega) (by simp) (fun i b c=>by simp at c;omega) (fun i b=>by omega)
def KQ:Nat->List Rect->List (List Rect)
 | 0,_=>[]
 | _+1,[]=>[]
 | n+1,a::l=>(VK (a::l)).1::KQ n (VK (a::l)).2
def KR(l:List Rect):List (List Rect):=KQ l.length l
theorem JnOk.lens{a:Rect}{l q r:List Rect}(h:JnOk [a] l q r):q≠[]/\r.length<=l.length:=by
 have d:=h.perm.length_eq;simp at d
 obtain ⟨t,c⟩:=h.pre;have:1<=q.length:=by rw [<-c];simp
 exact ⟨fun b=>by rw [b] at this;simp at this,by omega⟩
theorem Q9g:∀ (n:Nat) (l:List Rect),l.length<=n->(KQ n l).flatten.Perm l:=by
 intro n
 induction n with
 | zero=>intro l b;have:l=[]:=List.eq_nil_of_length_eq_zero (by omega);subst this;exact List.Perm.refl _
 | succ n ih=>
  intro l b
  cases l with
  | nil=>exact List.Perm.refl _
  | cons a l=>
   have h:=bK a l;have:=h.lens.2
   simp only [KQ,List.flatten_cons];simp only [List.length_cons] at b
   exact ((ih _ (by omega)).append_left _).trans h.perm
theorem cw(l:List Rect):(KR l).flatten.Perm l:=Q9g _ l (Nat.le_refl _)
def Gp(a b:Int×Int):Int:=if a.1<b.1 then -1 else if b.1<a.1 then 1 else if a.2<b.2 then -1 else if b.2<a.2 then 1 else 0
def YB(a b:Int×Int):Prop:=a.1<b.1\/(a.1=b.1/\a.2<b.2)
theorem Q1C{a b:Int×Int}:Gp a b<0↔YB a b:=by
 unfold Gp YB
 repeat' split
 all_goals omega
theorem Q1D{a b:Int×Int}:0<=Gp a b↔¬ YB a b:=by rw [<-Q1C];omega
theorem bd{a b:Int×Int}(h:YB a b):¬ YB b a:=by unfold YB at *;omega
theorem bc{a b:Int×Int}(h:a≠b):YB a b\/YB b a:=by
 unfold YB;have:a.1≠b.1\/a.2≠b.2:=by
  rcases Int.decEq a.1 b.1 with c|c
  .exact .inl c
  .right;intro d;exact h (Prod.ext c d)
 omega
def Dj(a b:Int×Int):Bool:=decide (a.1<b.1)||(decide (a.1=b.1)&&decide (a.2<=b.2))
theorem SH(a b:Int×Int):Dj a b=true↔¬ YB b a:=by
 unfold Dj YB;simp only [Bool.or_eq_true,Bool.and_eq_true,decide_eq_true_eq]
 omega
theorem Q4W{α:Type}{x:List α}{q:α->α->Option Int}(k:α->Int×Int)(hl:x.length<=Y5)(hq:∀ a ∈ x,∀ b ∈ x,q a b=some (Gp (k a) (k b)))(hd:x.Pairwise fun a b=>k a≠k b):
  ∃ r,Vz x q=some r/\r.Perm x/\r.Pairwise fun a b=>YB (k a) (k b):=by
 let r:=x.mergeSort fun a b=>Dj (k a) (k b)
 have l:r.Perm x:=List.mergeSort_perm x _;have s:r.Pairwise fun a b=>Dj (k a) (k b)=true:=List.pairwise_mergeSort (le:=fun a b=>Dj (k a) (k b)) (fun a b c e t=>by rw [SH] at *;unfold YB at *;omega) (fun a b=>by
  rw [Bool.or_eq_true,SH,SH];unfold YB;omega) x
 have n : r.Pairwise fun a b=>k a≠k b:=(l.pairwise_iff fun {a b} h=>Ne.symm h).2 hd
 have f:r.Pairwise fun a b=>YB (k a) (k b):=(s.and n).imp fun h=>by
  rcases bc h.2 with e|e
  .exact e
  .exact absurd e ((SH _ _).1 h.1)
 have d:∀ a,a ∈ r->a ∈ x:=fun a g=>l.mem_iff.1 g
 refine ⟨r,Q4X hl ⟨l,?_,fun a g=>?_⟩,l,f⟩
 .rw [List.pairwise_iff_getElem] at f ⊢
  intro i j p o m;have e:=f i j p o m
  refine ⟨⟨_,hq _ (d _ (List.getElem_mem p)) _ (d _ (List.getElem_mem o)),Q1C.2 e⟩,⟨_,hq _ (d _ (List.getElem_mem o)) _ (d _ (List.getElem_mem p)),Q1D.2 (bd e)⟩⟩
 .exact ⟨_,hq _ (d a g) _ (d a g),Q1D.2 fun h=>bd h h⟩
theorem Yg.apt{l:List Rect}(h:Yg l):l.Pairwise Apt:=by
 obtain ⟨b,e,rfl⟩:=h;unfold flat
 rw [List.pairwise_flatMap];refine ⟨fun c f=>?_,?_⟩
 .unfold z7
  rw [List.pairwise_map];refine (e.sp c f).ch.imp fun h x y a d=>?_
  rw [Zp] at a d;simp only at a d
  omega
 .refine e.runs.ch.imp fun h r g s i x y a d=>?_
  obtain ⟨u,_,rfl⟩:=List.mem_map.1 g;obtain ⟨v,_,rfl⟩:=List.mem_map.1 i
  rw [Zp] at a d;simp only at a d
  have:=h.1
  omega
theorem Q9f{l p:List Rect}(hp:p ∈ KR l){r:Rect}(hr:r ∈ p):r ∈ l:=(cw l).mem_iff.1 (List.mem_flatten.2 ⟨p,hp,hr⟩)
theorem Q1A(F:Nat)(hF:Q7<=F)(u v:Int):Pa F [u,v]=some (if u≠0 then u else v):=by
 unfold Q7 at hF;obtain ⟨F,rfl⟩:∃ G,F=G+3:=⟨F-3,by omega⟩
 unfold Pa;show Gn _ [u,v] _ 0=_
 unfold Gn;refine Y7 (by simp) ?_
 refine Q8 (by simp) ?_;have b:gl [u,v] (0:Int).toNat=u:=rfl
 rw [b]
 by_cases hu:u=0
 .subst hu
  refine Z5 (by simp) ?_;refine Q8 (V9 (by omega) (by omega)) ?_
  rw [if_neg (by simp)];show Gn _ [0,v] _ (0+1)=_
  unfold Gn;refine Y7 (by simp) ?_
  refine Q8 (by simp) ?_;have a:gl [0,v] ((0:Int)+1).toNat=v:=rfl
  rw [a]
  by_cases hv:v=0
  .subst hv
   refine Z5 (by simp) ?_;refine Q8 (V9 (by omega) (by omega)) ?_
   show Gn _ [0,0] _ (0+1+1)=_;unfold Gn
   exact Z5 (by simp) rfl
  .exact Y7 (by simpa using hv) rfl
 .rw [if_pos hu]
  exact Y7 (by simpa using hu) rfl
theorem Q7P{F:Nat}(hF:Q7<=F){l:List Rect}(hl:l.length<=120)(hp:∀ r ∈ l,QP r=true):Bp F l=some (if 120<(cn (Q4 l)).length then (⟨[]⟩,1) else (⟨cn (Q4 l)⟩,0)):=by
 unfold Bp;refine Z5 (by simp;omega) ?_
 refine Q3 (Mt hF (fun r=> !QP r) (by omega) (fun r _=>by unfold LS;rw [gP];rfl)) ?_;refine Z5 ?_ ?_
 .rw [List.any_eq_false]
  intro r a;rw [hp r a];simp
 .refine Q3 (LI hF (by omega) (fun r a=>((ZT r).1 (hp r a)).2.1)) ?_
  refine Q3 (Br F _) ?_;rfl
noncomputable def JG(l:List Rect):Re_×Int:=if 120<l.length then (⟨[]⟩,1) else (⟨l⟩,0)
theorem DA(a b:List Rect):Fin fun x y=>Q4 a x y && !Q4 b x y:=Vn a b 3
section
theorem Pw{r:Rect}(h:QP r=true):J2 [r]:=by
 have b:=(ZT r).1 h;exact ⟨by simp,fun s a=>by rw [List.mem_singleton.1 a];exact h,yT (by omega) (by omega)⟩
theorem Q1x{r:Rect}(h:QP r=true):cn (Q4 [r])=[r]:=(Gs _).1 (Pw h).2.2
section
variable {F:Nat} {a:Re_} {z1:Tape×Re_} {x1 k:Int} {x y:Int}
end
end
theorem Q0r{B:List (Rn (List Span))}{N:Nat}(h:∀ b ∈ B,b.v.length<=N):(flat B).length<=B.length*N:=by
 induction B with
 | nil=>simp [flat]
 | cons c B ih=>
  have e:flat (c::B)=z7 c++flat B:=rfl;have:=ih fun d f=>h d (by simp [f])
  have g:=h c (by simp);rw [e,List.length_append,YN,List.length_cons,Nat.add_mul]
  omega
noncomputable def GF(a b:Re_):Bool:=Qn a.t_&&(Qn b.t_&&decide (cn (fun x y=>z6 (Q4 a.t_ x y) (Q4 b.t_ x y) 3)=[]))
theorem Q3f{a b:Re_}(ha:J2 a.t_)(hb:J2 b.t_):GF a b=true↔∀ x y,Q4 a.t_ x y=true->Q4 b.t_ x y=true:=by
 unfold GF;rw [YX ha,YX hb,Bool.true_and,Bool.true_and,decide_eq_true_eq,Q1y (Vn _ _ _)]
 constructor
 .intro h x y c
  have:=h x y
  simp only [z6] at this;rw [c] at this
  simpa using this
 .intro h x y
  simp only [z6]
  cases c:Q4 a.t_ x y with
  | false=>rfl
  | true=>rw [h x y c];rfl
theorem Q4b{l:List Int}{M:Int}(h:∀ x ∈ l,0<=x/\x<=M):0<=l.sum/\l.sum<=M*l.length:=by
 induction l with
 | nil=>simp
 | cons x l ih=>
  have c:=h x (by simp);have d:=ih fun y b=>h y (by simp [b])
  simp only [List.sum_cons,List.length_cons];have e:M*((l.length+1:Nat):Int)=M*l.length+M:=by rw [Int.natCast_add,Int.mul_add];simp
  omega
theorem xD{f:Rect->Int}{l:List Rect}{j:Nat}(h:j<l.length):((l.take (j+1)).map f).sum=((l.take j).map f).sum+f (gl l j):=by
 rw [Qx h,List.map_append,List.sum_append];simp
def Wg(r:Rect):Int:=(r.R_-r.L_)*(r.H_-r.w_)
def area(l:List Rect):Int:=(l.map Wg).sum
theorem Q2b{r:Rect}(h:QP r=true):0<=Wg r/\Wg r<=268435456:=by
 rw [ZT] at h;unfold Wg
 have c:0<=r.R_-r.L_/\r.R_-r.L_<=16384:=by omega
 have b:0<=r.H_-r.w_/\r.H_-r.w_<=16384:=by omega
 refine ⟨Int.mul_nonneg c.1 b.1,?_⟩;have:=Int.mul_le_mul c.2 b.2 b.1 (by omega)
 omega
theorem SpOk.half{n:Int}:∀ {l:List Span},SpOk l->∀ {a:Int},a<=n+1->(∀ s ∈ l,a<=s.L_/\s.R_<=n)->2*(l.length:Int)<=n+1-a
 | [],_,a,ha,_=>by simp;omega
 | s::l,h,a,ha,hb=>by
  have d:=hb s (by simp);have e:=h.pos s (by simp)
  have c:SpOk l:=⟨fun q b=>h.pos q (by simp [b]),(List.pairwise_cons.1 h.ch).2⟩;have:=SpOk.half (n:=n) c (a:=s.R_+1) (by omega) fun q b=>⟨by have:=(List.pairwise_cons.1 h.ch).1 q b;omega,(hb q (by simp [b])).2⟩
  rw [List.length_cons];omega
theorem Yg.half{l:List Rect}(hc:Yg l){n:Nat}(hb:QN n l):l.length<=n*((n+1) / 2):=by
 obtain ⟨b,hB,rfl⟩:=hc;have f:∀ c ∈ b,∃ s,s ∈ c.v:=fun c hc=>List.exists_mem_of_ne_nil _ (hB.ne c hc)
 have d:∀ c ∈ b,∀ s ∈ c.v,(⟨s.L_,c.lo,s.R_,c.hi⟩:Rect) ∈ flat b:=fun c hc s e=>List.mem_flatMap.2 ⟨c,hc,List.mem_map.2 ⟨s,e,rfl⟩⟩
 have h:(b.length:Int)<=n-0:=hB.runs.len (by omega) fun c hc=>by
  obtain ⟨s,e⟩:=f c hc;have:=hb _ (d c hc s e)
  simp only at this;omega
 have g:∀ c ∈ b,c.v.length<=(n+1) / 2:=fun c hc=>by
  have:=(hB.sp c hc).half (n:=n) (a:=0) (by omega) fun s e=>by
   have:=hb _ (d c hc s e)
   simp only at this ⊢;omega
  omega
 have i:=Q0r g;have j:b.length*((n+1) / 2)<=n*((n+1) / 2):=Nat.mul_le_mul_right _ (by omega)
 omega
def Yi(f:Nat->Int):Nat->Int
 | 0=>0
 | n+1=>Yi f n+f n
theorem Kd{f g:Nat->Int}{n:Nat}(h:∀ i,i<n->f i=g i):Yi f n=Yi g n:=by
 induction n with
 | zero=>rfl
 | succ n ih=>rw [Yi,Yi,ih fun i b=>h i (by omega),h n (by omega)]
theorem xG(f g:Nat->Int)(n:Nat):Yi (fun i=>f i+g i) n=Yi f n+Yi g n:=by
 induction n with
 | zero=>rfl
 | succ n ih=>rw [Yi,Yi,Yi,ih];omega
theorem FD(n:Nat):Yi (fun _=>0) n=0:=by
 induction n with
 | zero=>rfl
 | succ n ih=>rw [Yi,ih];rfl
theorem xF(c lo hi:Int)(h0:0<=lo)(h1:lo<=hi)(n:Nat):Yi (fun i=>if lo<=(i:Int)/\(i:Int)<hi then c else 0) n=(if (n:Int)<=lo then 0 else if (n:Int)<=hi then n-lo else hi-lo)*c:=by
 induction n with
 | zero=>rw [Yi,if_pos (by omega),Int.zero_mul]
 | succ n ih=>
  rw [Yi,ih];simp only [Int.natCast_succ]
  by_cases a:(n:Int)<lo
  .rw [if_pos (by omega),if_neg (by omega),if_pos (by omega)];omega
  .by_cases b:(n:Int)<hi
   .rw [if_pos (show lo<=(n:Int)/\(n:Int)<hi by omega),if_neg (show ¬ (n:Int)+1<=lo by omega),if_pos (show (n:Int)+1<=hi by omega)]
    by_cases e:(n:Int)<=lo
    .have:(n:Int)=lo:=by omega
     rw [if_pos e,show (n:Int)+1-lo=1 by omega,Int.zero_mul,Int.one_mul];omega
    .rw [if_neg e,if_pos (by omega),show (n:Int)+1-lo=(n-lo)+1 by omega,Int.add_mul,Int.one_mul]
   .rw [if_neg (show ¬ (lo<=(n:Int)/\(n:Int)<hi) by omega),if_neg (show ¬ (n:Int)+1<=lo by omega)]
    by_cases e:(n:Int)<=lo
    .have d:lo=hi:=by omega
     have f:(n:Int)=lo:=by omega
     rw [if_pos e]
     by_cases e3:(n:Int)+1<=hi
     .omega
     .rw [if_neg e3,d,Int.sub_self];omega
    .rw [if_neg e]
     by_cases e4:(n:Int)<=hi
     .rw [if_pos e4,if_neg (by omega),show (n:Int)=hi by omega];omega
     .rw [if_neg e4,if_neg (by omega)];omega
def Um(N:Nat)(S:Int->Int->Bool):Int:=Yi (fun x=>Yi (fun y=>if S x y=true then 1 else 0) N) N
theorem Q1v{N:Nat}{S T:Int->Int->Bool}(h:∀ x y,S x y=true->T x y=true->False):Um N (fun x y=>S x y||T x y)=Um N S+Um N T:=by
 unfold Um;rw [<-xG]
 refine Kd fun x _=>?_
 rw [<-xG];refine Kd fun y _=>?_
 have:=h x y
 cases e:S x y <;> cases e2:T x y <;> simp_all
theorem Z2S{N:Nat}{S:Int->Int->Bool}(h:∀ x y,S x y=false):Um N S=0:=by
 unfold Um;rw [Kd (g:=fun _=>0) fun x _=>by rw [Kd (g:=fun _=>0) fun y _=>by rw [h];rfl,FD],FD]
theorem Z2T{N:Nat}{r:Rect}(h1:0<=r.L_)(h2:r.L_<=r.R_)(h3:r.R_<=N)(h4:0<=r.w_)(h5:r.w_<=r.H_)(h6:r.H_<=N):Um N r.has=Wg r:=by
 have e:∀ x:Nat,Yi (fun y=>if r.has x y=true then 1 else 0) N=if r.L_<=(x:Int)/\(x:Int)<r.R_ then r.H_-r.w_ else 0:=fun x=>by
  by_cases hx:r.L_<=(x:Int)/\(x:Int)<r.R_
  .rw [if_pos hx,Kd (g:=fun i=>if r.w_<=(i:Int)/\(i:Int)<r.H_ then 1 else 0) fun y _=>by
    by_cases hy:r.w_<=(y:Int)/\(y:Int)<r.H_
    .rw [if_pos ((Zp r x y).2 ⟨hx.1,hx.2,hy.1,hy.2⟩),if_pos hy]
    .rw [if_neg (fun h=>hy (by have:=(Zp r x y).1 h;omega)),if_neg hy],xF 1 _ _ h4 h5]
   by_cases a:(N:Int)<=r.w_
   .rw [if_pos a];omega
   .rw [if_neg a];split <;> omega
  .rw [if_neg hx,Kd (g:=fun _=>0) fun y _=>by rw [if_neg (fun h=>hx (by have:=(Zp r x y).1 h;omega))],FD]
 unfold Um;rw [Kd fun x _=>e x,xF _ _ _ h1 h2]
 unfold Wg
 by_cases a:(N:Int)<=r.L_
 .rw [if_pos a,show r.R_-r.L_=0 by omega]
 .rw [if_neg a]
  by_cases b:(N:Int)<=r.R_
  .rw [if_pos b,show (N:Int)=r.R_ by omega]
  .rw [if_neg b]
@[irreducible] def sq (S:Int->Int->Bool):Int:=Um 16384 S
theorem PP(S:Int->Int->Bool):sq S=Um 16384 S:=by unfold sq;rfl
theorem Q1Z:∀ {l:List Rect},l.Pairwise Apt->(∀ r ∈ l,QP r=true)->area l=sq (Q4 l)
 | [],_,_=>by
  rw [PP,Z2S (S:=Q4 []) (fun x y=>rfl)];rfl
 | r::l,ha,hp=>by
  have c:=(ZT r).1 (hp r (by simp));have b:=Q1Z (l:=l) (List.pairwise_cons.1 ha).2 fun q c=>hp q (by simp [c])
  have e:Q4 (r::l)=fun x y=>r.has x y||Q4 l x y:=by
   funext x y;simp [Q4]
  rw [PP] at b ⊢;rw [e,Q1v (fun x y g h=>by
   obtain ⟨s,d,f⟩:=(WQ l x y).1 h;exact (List.pairwise_cons.1 ha).1 s d x y g f),Z2T (by omega) (by omega) (by omega) (by omega) (by omega) (by omega), <-b]
  simp [area]
theorem J2.area{l:List Rect}(h:J2 l):area l=sq (Q4 l):=Q1Z h.2.2.apt h.2.1
section
def Ok{R:Type}(x:Option R)(G:R->Prop):Prop:=∃ r,x=some r/\G r
theorem JC{R:Type}{r:R}{G:R->Prop}(h:G r):Ok (some r) G:=⟨r,rfl,h⟩
theorem Qd{R:Type}{p:Prop}[Decidable p]{x:Option R}{G:R->Prop}(h:p)(k:Ok x G):Ok (gd p x) G:=by unfold gd;rw [if_pos h];exact k
theorem QW{α R:Type}{x:Option α}{f:α->Option R}{a:α}{G:R->Prop}(h:x=some a)(k:Ok (f a) G):Ok (x.bind f) G:=by rw [h];exact k
theorem Zg{R:Type}{b:Bool}{x y:Option R}{G:R->Prop}(ht:b=true->Ok x G)(hf:b=false->Ok y G):Ok (br b x y) G:=by cases b;exact hf rfl;exact ht rfl
theorem JD{σ R:Type}{body:(σ->Option R)->σ->Option R}{G:R->Prop}(I:σ->Prop)(μ:σ->Nat)(round:∀ again z,I z->(∀ z',I z' -> μ z' < μ z->Ok (again z') G)->Ok (body again z) G):∀ {n:Nat} {z:σ},I z->μ z<n->Ok (Z9 body n z) G:=by
 intro n
 induction n with
 | zero=>intro z _ h;omega
 | succ n ih=>
  intro z b h;exact round _ z b fun z' c d=>ih c (by omega)
section
variable (R:List Rect)
end
variable {F:Nat} {a:Re_}
end
theorem LO{F:Nat}(hF:Q7<=F){l:List Rect}(hl:l.length<=1000000)(hp:∀ r ∈ l,QP r=true):Xb F l=some (area l):=by
 unfold Q7 at hF;have b:∀ j,0<=((l.take j).map Wg).sum/\((l.take j).map Wg).sum<=268435456*1000000:=fun j=>by
  have:=Q4b (l:=(l.take j).map Wg) (M:=268435456) (fun x e=>by
   obtain ⟨s,i,rfl⟩:=List.mem_map.1 e;exact Q2b (hp s (List.mem_of_mem_take i)))
  simp only [List.length_map,List.length_take] at this;omega
 unfold Xb;refine K9 (fun z:Int×Int=>∃ j:Nat,z=(((l.take j).map Wg).sum,(j:Int))/\j<=l.length) (fun z=>l.length-z.2.toNat) (fun c z f d=>?_) ⟨0,by simp,by omega⟩ (by simp;omega)
 obtain ⟨j,rfl,p⟩:=f;simp only at d ⊢
 have o:=b j;have m:=b (j+1)
 unfold gV;refine Z6 (fun h=>?_) (fun h=>?_)
 .have h:j<l.length:=by simpa using h
  refine Q9 (k:=?_);simp only [Int.toNat_natCast]
  have g:=(ZT _).1 (hp _ (J7 h));have n:=Q2b (hp _ (J7 h))
  rw [xD h] at m;refine Q8 (V9 (by omega) (by omega)) ?_
  refine Q8 (V9 (by omega) (by omega)) ?_;show gd (Q6 (Wg (gl l j))) _=_
  refine Q8 (V9 (by omega) (by omega)) ?_;show gd (Q6 (((l.take j).map Wg).sum+Wg (gl l j))) _=_
  refine Q8 (V9 (by omega) (by omega)) ?_;refine Q9 (k:=?_)
  refine d _ ⟨j+1,?_,h⟩ (by simp only;omega);rw [xD h];rfl
 .have h:¬ j<l.length:=by simpa using h
  have:j=l.length:=by omega
  subst this;rw [List.take_length]
  rfl
theorem zv{F:Nat}{t:Tape}(ht:TOk t){n:Int}(h1:1<=n)(h2:n<=1099511627776):∃ t' b,KZ F t n=some (t',b)/\TOk t':=by
 obtain ⟨e,k,c,d,_,_⟩:=QQ (F:=F) ht h1 h2;refine ⟨e,k==n-1,?_,d⟩
 unfold KZ;refine Q3 c ?_
 refine Q8 (V9 (by omega) (by omega)) rfl
section
theorem kL{F:Nat}(hF:Q7<=F){a b:List Rect}(ha:a.length<=1000000)(hb:b.length<=1000000):My F [a,b]=some (a++b):=by
 unfold Q7 at hF;obtain ⟨m,rfl⟩:∃ m,F=m+3:=⟨F-3,by omega⟩
 have d:gl [a,b] (0:Int).toNat=a:=rfl;have c:gl [a,b] (1:Int).toNat=b:=rfl
 have k1:Mx (m+3) [a,b] (((a.length:Nat):Int)+((b.length:Nat):Int))=some (a++b):=by
  unfold Mx;refine Q3 (a:=[]) (by unfold Uf;rw [if_pos (by unfold Y5;omega)]) ?_
  show Kp (m+3) [a,b] _ 0 []=_;unfold Kp
  refine Y7 rfl ?_;rw [d]
  refine Q9 (k:=?_);refine Q8 (by simp [Y5];omega) ?_
  refine Q9 (k:=?_);show Kp (m+3) [a,b] _ 1 ([]++a)=_
  unfold Kp;refine Y7 rfl ?_
  rw [c];refine Q9 (k:=?_)
  refine Q8 (by simp [Y5];omega) ?_;refine Q9 (k:=?_)
  show Kp (m+3) [a,b] _ 2 (([]++a)++b)=_;unfold Kp
  refine Z5 rfl ?_;unfold FY
  simp
 show Kq (m+3) [a,b] _ 0 0=_;unfold Kq
 refine Y7 rfl ?_;rw [d]
 refine Q9 (k:=?_);refine Q9 (k:=?_)
 refine Z5 (by simp <;> omega) ?_;refine Q9 (k:=?_)
 show Kq (m+3) [a,b] _ (0+((a.length:Nat):Int)) 1=_;unfold Kq
 refine Y7 rfl ?_;rw [c]
 refine Q9 (k:=?_);refine Q9 (k:=?_)
 refine Z5 (by simp <;> omega) ?_;refine Q9 (k:=?_)
 show Kq (m+3) [a,b] _ (0+((a.length:Nat):Int)+((b.length:Nat):Int)) 2=_;unfold Kq
 refine Z5 rfl ?_;rw [Int.zero_add]
 exact k1
def zs(k:Int):Int:=if 0<=k/\k<=7 then 0 else if 8<=k/\k<=11 then 1 else 2
theorem Q2N(F:Nat)(k:Int):Hr F k=some (zs k):=by
 have l:WZ F k true=some 0:=rfl;have j:UY F true=some 1:=rfl
 have o:UY F false=some 2:=rfl;have e:∀ n:Int,(k==n)=decide (k=n):=fun n=>by rw [Bool.eq_iff_iff];simp
 unfold Hr;simp only [e]
 by_cases h:0<=k/\k<=7
 .have f:zs k=0:=by unfold zs;rw [if_pos h]
  rw [f];have b:∀ {n:Int} {x:Option Int},(k≠n->x=some 0)->br (decide (k=n)) (WZ F k (decide (k=n))) x=some 0:=fun {n x} hx=>by
   refine Z6 (fun d=>by rw [d];exact l) (fun d=>hx (by simpa using d))
  refine b fun q=>b fun p=>b fun r=>b fun t=>b fun u=>b fun s=>b fun v=>?_
  rw [show decide (k=7)=true by rw [decide_eq_true_eq];omega];exact l
 .have c:∀ n:Int,0<=n->n<=7->decide (k=n)=false:=fun n m i=>by rw [decide_eq_false_iff_not];omega
  rw [c 0 (by omega) (by omega),c 1 (by omega) (by omega),c 2 (by omega) (by omega),c 3 (by omega) (by omega),c 4 (by omega) (by omega),c 5 (by omega) (by omega),c 6 (by omega) (by omega),c 7 (by omega) (by omega)];simp only [br]
  unfold WZ;simp only [br,e]
  by_cases i:8<=k/\k<=11
  .have f:zs k=1:=by unfold zs;rw [if_neg h,if_pos i]
   rw [f];have b:∀ {n:Int} {x:Option Int},(k≠n->x=some 1)->br (decide (k=n)) (UY F (decide (k=n))) x=some 1:=fun {n x} hx=>by
    refine Z6 (fun d=>by rw [d];exact j) (fun d=>hx (by simpa using d))
   refine b fun q=>b fun p=>b fun r=>?_
   rw [show decide (k=11)=true by rw [decide_eq_true_eq];omega];exact j
  .have f:zs k=2:=by unfold zs;rw [if_neg h,if_neg i]
   rw [f];have g:∀ n:Int,8<=n->n<=11->decide (k=n)=false:=fun n m i=>by rw [decide_eq_false_iff_not];omega
   rw [g 8 (by omega) (by omega),g 9 (by omega) (by omega),g 10 (by omega) (by omega),g 11 (by omega) (by omega)];exact o
def zp(w:Int)(k:Int):Bool:=zs k==w
theorem Q2P(F:Nat)(k w:Int):Hs F k w=some (zp w k):=by
 unfold Hs;exact Q3 (Q2N F k) rfl
structure LB (n:Nat) (L:List A2_):Prop where
 vl:VL L
 box:∀ f ∈ L,QN n f.g_.t_
 n15:n<=15
theorem Z1i{l:List Rect}(hc:Yg l){n:Nat}(hb:QN n l)(hn:n<=15):l.length<=120:=by
 have b:=hc.half hb;have c:n*((n+1) / 2)<=15*8:=Nat.mul_le_mul hn (by omega)
 omega
theorem CY{S:Int->Int->Bool}(hf:Fin S){n:Nat}(hn:n<=15)(hb:∀ x y,S x y=true->0<=x/\x<n/\0<=y/\y<n):J2 (cn S)/\QN n (cn S):=by
 have h:=Q1R (n:=(n:Int)) hf hb;exact ⟨⟨Z1i (UT hf) h hn,h.prop (by omega),UT hf⟩,h⟩
theorem bh{l:List Rect}(h:J2 l):JG l=(⟨l⟩,0):=by
 have:=h.1
 unfold JG;rw [if_neg (by omega)]
variable {F n:Nat} {L:List A2_} {d:Int}
theorem LB.rbox(hL:LB n L)(d:Int)(p:Int->Bool):QN n (Zf L d p):=fun r b=>by
 obtain ⟨f,c,b⟩:=Q9H b;exact hL.box f c r b
theorem LB.rval(hL:LB n L)(d:Int)(p:Int->Bool):J2 (cn (Q4 (Zf L d p)))/\QN n (cn (Q4 (Zf L d p))):=CY (QZ _) hL.n15 fun x y h=>(hL.rbox d p).in h
theorem vT(hF:Q7<=F)(hL:LB n L)(d w:Int):Po F L d w=some (⟨cn (Q4 (Zf L d (zp w)))⟩,0):=by
 have c:=hL.vl.len;unfold Po
 refine Q3 (Q0E hF (by omega) (fun f b=>hL.vl.rlen b) d (zp w) (fun f _=>Q2P F f.k_ w)) ?_;have g:=Q8M (L:=L) (fun f b=>hL.vl.rlen b) d (zp w)
 refine Q3 (LX hF (by omega) fun r e=>?_) ?_
 .have:=hL.rbox d (zp w) r e
  omega
 .have:=(hL.rval d (zp w)).1.1
  rw [if_neg (by omega)]
theorem CN(hF:Q7<=F)(hv:VL L)(d1:0<=d)(d2:d<=36864){a:Re_}(ha:J2 a.t_){m:Int}(m1:0<=m)(m2:m<=268435456):GD F L d m a=some 0:=by
 unfold GD;refine Q3 (Q0G hF L d) ?_
 rw [if_neg (by simp [(DX L).2 hv]),if_neg (by omega)];refine Z5 rfl ?_
 refine Q3 (Wn hF a) ?_;rw [YX ha]
 refine Z5 rfl ?_;refine Z5 (by rw [decide_eq_false_iff_not];omega) ?_
 rw [show decide ((268435456:Int)<m)=false by rw [decide_eq_false_iff_not];omega];rfl
theorem Q2U(hF:Q7<=F)(hL:LB n L)(d1:0<=d)(d2:d<=36864):Hu F L d=some (⟨cn (Q4 (Zf L d (zp 0)))⟩,0):=by
 unfold Hu;refine Q3 (CN hF hL.vl d1 d2 J2.nil (by omega) (by omega)) ?_
 refine Z5 rfl ?_;exact Q3 (vT hF hL d 0) rfl
noncomputable def VV(L:List A2_)(d:Int)(a:List Rect):List Rect:=cn fun x y=>Q4 (Zf L d (zp 1)) x y&&Q4 a x y
noncomputable def VA(L:List A2_)(d m:Int)(a:List Rect):List Rect:=((KR (VV L d a)).filter fun p=>decide (m<area p)).flatten
theorem Q0x(a b:List Rect):Fin fun x y=>Q4 a x y&&Q4 b x y:=Vn a b 2
theorem xU(hL:LB n L)(d:Int)(a:List Rect):J2 (VV L d a)/\QN n (VV L d a):=CY (Q0x _ _) hL.n15 fun x y h=>(hL.rbox d (zp 1)).in (Bool.and_eq_true _ _ ▸ h).1
theorem Q5c{m:Int}{a:List Rect}{r:Rect}(h:r ∈ VA L d m a):r ∈ VV L d a:=by
 obtain ⟨p,c,b⟩:=List.mem_flatten.1 h;exact Q9f (List.mem_filter.1 c).1 b
theorem xW(hL:LB n L)(d m:Int)(a:List Rect):QN n (VA L d m a):=fun r b=>(xU hL d a).2 r (Q5c b)
theorem xV(hL:LB n L)(d m:Int)(a:List Rect):J2 (cn (Q4 (VA L d m a)))/\QN n (cn (Q4 (VA L d m a))):=CY (QZ _) hL.n15 fun x y h=>(xW hL d m a).in h
theorem Q0s{p:List Rect->Bool}:∀ Q:List (List Rect),(Q.filter p).flatten.length<=Q.flatten.length
 | []=>Nat.le_refl _
 | q::Q=>by
  have:=Q0s (p:=p) Q
  rw [List.filter_cons,List.flatten_cons,List.length_append];split
  .rw [List.flatten_cons,List.length_append];omega
  .omega
theorem Q2R(hF:Q7<=F)(hL:LB n L)(d1:0<=d)(d2:d<=36864){a:Re_}(ha:J2 a.t_){m:Int}(m1:0<=m)(m2:m<=268435456):Ht F L d m a=some (⟨cn (Q4 (VA L d m a.t_))⟩,0):=by
 have c:=hF;unfold Q7 at hF
 have D:=xU hL d a.t_;have s:=D.1.1
 have K:=ha.1;have H:=hL.rval d (zp 1)
 have N:=H.1.1;unfold Ht
 refine Q3 (CN c hL.vl d1 d2 ha m1 m2) ?_;refine Z5 rfl ?_
 refine Q3 (vT c hL d 1) ?_;refine Z5 rfl ?_
 refine Q3 (KB c (by omega) (fun r f=>(H.1.2.2.pos f).1) (fun r f=>(ha.2.2.pos f).1) (k:=fun u v=>u&&v) rfl (fun u v=>by cases u <;> cases v <;> rfl)) ?_;have e:(cn fun x y=>Q4 (cn (Q4 (Zf L d (zp 1)))) x y&&Q4 a.t_ x y)=VV L d a.t_:=by
  unfold VV;congr 1
  funext x y
  rw [ZM (QZ _)]
 rw [e];refine Z5 (by rw [decide_eq_false_iff_not];omega) ?_
 have U:=(cw (VV L d a.t_)).length_eq;refine K9 (fun z:List Rect×List Rect=>∃ (k:Nat) (Q:List (List Rect)),Q++KQ k z.1=KR (VV L d a.t_)/\z.1.length<=k/\z.1.length<=120/\z.2=(Q.filter fun p=>decide (m<area p)).flatten/\∀ r ∈ z.1,r ∈ VV L d a.t_) (fun z=>z.1.length) (fun i z I E=>?_) ⟨_,[],rfl,Nat.le_refl _,s,rfl,fun _ h=>h⟩ (by simp only;omega)
 obtain ⟨l,J⟩:=z;obtain ⟨k,Q,j,C,G,rfl,t⟩:=I
 simp only at j C G t E ⊢;have V:Q.flatten.length<=120:=by
  have:=congrArg (fun q=>(List.flatten q).length) j
  simp only [List.flatten_append,List.length_append] at this;omega
 have O:=Q0s (p:=fun p=>decide (m<area p)) Q;unfold vU
 cases l with
 | nil=>
  refine Z5 (by simp) ?_;unfold CP
  have P:KQ k []=[]:=by cases k <;> rfl
  rw [P,List.append_nil] at j;subst j
  refine Q3 (LX c (by omega) fun r f=>?_) ?_
  .have:=xW hL d m a.t_ r f
   omega
  .have:=(xV hL d m a.t_).1.1
   unfold VA at this;rw [if_neg (by omega)];rfl
 | cons b l=>
  refine Y7 (by simp) ?_;refine Q3 (Q6r c (by simp) (by omega) (fun r f=>Q5A (D.1.2.1 r (t r f)))) ?_
  cases k with
  | zero=>simp at C
  | succ k=>
  simp only [KQ] at j;have w:=bK b l
  have B:=w.perm.length_eq;simp only [List.length_append,List.length_cons,List.length_nil] at B C G
  have T:∀ r ∈ (VK (b::l)).1,r ∈ VV L d a.t_:=fun r f=>t r (w.perm.mem_iff.1 (List.mem_append.2 (.inl f)))
  have S:1<=(VK (b::l)).1.length:=by
   have:=w.lens.1
   exact List.length_pos_iff.2 this
  refine Q3 (LO c (by omega) fun r f=>D.1.2.1 r (T r f)) ?_;have g:∀ o,o=(((Q++[(VK (b::l)).1])).filter fun p=>decide (m<area p)).flatten->i ((VK (b::l)).2,o)=some (⟨cn (Q4 (VA L d m a.t_))⟩,0):=fun o M=>by
   refine E _ ⟨k,Q++[(VK (b::l)).1],by rw [<-j,List.append_assoc];rfl,by simp only;omega,by simp only;omega,M,fun r f=>t r (w.perm.mem_iff.1 (List.mem_append.2 (.inr f)))⟩ (by simp only [List.length_cons];omega)
  refine Z6 (fun A=>?_) (fun A=>?_)
  .refine Q8 (by simp only [Y5];omega) ?_
   refine g _ ?_;rw [List.filter_append,List.filter_cons,A];simp
  .refine g _ ?_
   rw [List.filter_append,List.filter_cons,A];simp
noncomputable def UN(L:List A2_)(d m:Int)(a:List Rect)(x y:Int):Bool:=Q4 a x y && !(Q4 (Zf L d (zp 0)) x y||Q4 (VA L d m a) x y)
theorem yn(L:List A2_)(d m:Int)(a:List Rect):Fin (UN L d m a):=by
 have:=DA a (Zf L d (zp 0)++VA L d m a)
 simp only [Tj] at this;exact this
end
section
theorem cY{a b:Re_}(ha:J2 a.t_)(hb:J2 b.t_)(h:∀ x y,Q4 a.t_ x y=true->Q4 b.t_ x y=true->False):Zo a b=false:=by
 rw [<-Bool.not_eq_true];intro c
 unfold Zo at c;rw [YX ha,YX hb,Bool.true_and,Bool.true_and,qU ha.2.1 hb.2.1] at c
 obtain ⟨x,y,e,f⟩:=c;exact h x y e f
theorem LayT.lb{L:List A2_}(h:LayT L):LB 9 L:=⟨h.vl,fun f b=>(h.fea f b).1.reg.box,by omega⟩
variable {F n:Nat} {L:List A2_} {d:Int}
theorem Q3v{w n:Int}(h0:0<=w)(hn:0<n):0<=w.tmod n/\w.tmod n<n:=⟨Int.tmod_nonneg _ h0,Int.tmod_lt_of_pos _ hn⟩
end
section
variable {F n:Nat} {L:List A2_} {d:Int}
end
section
variable {F:Nat}
end
section
variable {F n:Nat} {L:List A2_} {d:Int}
end
section
variable {F:Nat} {L:List A2_} {d:Int}
theorem vg:∀ {l:List Int},ZZ l->∀ {lo hi:Int},(∀ v ∈ l,lo<=v/\v<=hi)->lo<=hi+1->(l.length:Int)<=hi+1-lo
 | [],_,lo,hi,_,h=>by simp;omega
 | a::l,h,lo,hi,hb,h2=>by
  have c:=List.pairwise_cons.1 h;have e:=hb a (by simp)
  have:=vg (l:=l) c.2 (lo:=a+1) (hi:=hi) (fun v b=>by have:=c.1 v b;have:=hb v (by simp [b]);omega) (by omega)
  rw [List.length_cons];omega
theorem Sd(hF:Q7<=F){a b:List Rect}{how:Int}(ha:a.length<=200000)(hb:b.length<=200000)(pa:∀ r ∈ a,QP r=true)(pb:∀ r ∈ b,QP r=true):Wo F a b how=some (cn fun x y=>z6 (Q4 a x y) (Q4 b x y) how):=by
 refine jU hF ha hb ?_ ?_
 .have:=vg (VN b (VN a (f:=Rect.L_) (g:=Rect.R_) .nil)) (lo:=0) (hi:=16384) (fun v e=>by
   rcases (ZF b _ _).1 e with h|⟨r,c,h⟩
   .rcases (ZF a _ _).1 h with h|⟨r,c,h⟩
    .cases h
    .have h:v=r.L_\/v=r.R_:=h
     have:=(ZT r).1 (pa r c);omega
   .have h:v=r.L_\/v=r.R_:=h
    have:=(ZT r).1 (pb r c);omega) (by omega)
  unfold Za;omega
 .have:=vg (VN b (VN a (f:=Rect.w_) (g:=Rect.H_) .nil)) (lo:=0) (hi:=16384) (fun v e=>by
   rcases (ZF b _ _).1 e with h|⟨r,c,h⟩
   .rcases (ZF a _ _).1 h with h|⟨r,c,h⟩
    .cases h
    .have h:v=r.w_\/v=r.H_:=h
     have:=(ZT r).1 (pa r c);omega
   .have h:v=r.w_\/v=r.H_:=h
    have:=(ZT r).1 (pb r c);omega) (by omega)
  unfold Zx;omega
end
section
def Yz(r:Rg_):Int:=
 if r.year_<0\/100<r.year_ then 18 else if r.c_<0\/40<=r.c_ then 13 else if r.g_.t_.length=0\/Qn r.g_.t_=false then 7 else 0
theorem KO(r:Rg_):Yz r=0↔0<=r.year_/\r.year_<=100/\0<=r.c_/\r.c_<40/\r.g_.t_.length≠0/\J2 r.g_.t_:=by
 unfold Yz;rw [<-Wj]
 by_cases h1:r.year_<0\/100<r.year_
 .rw [if_pos h1];simp;omega
 .rw [if_neg h1]
  by_cases h2:r.c_<0\/40<=r.c_
  .rw [if_pos h2];simp;omega
  .rw [if_neg h2]
   by_cases b:r.g_.t_.length=0\/Qn r.g_.t_=false
   .rw [if_pos b]
    constructor
    .intro h;cases h
    .rintro ⟨_,_,_,_,e,c⟩
     rcases b with b|b
     .exact absurd b e
     .rw [c] at b;cases b
   .rw [if_neg b]
    refine ⟨fun _=>?_,fun _=>rfl⟩;have e:r.g_.t_.length≠0:=fun h=>b (.inl h)
    have c:Qn r.g_.t_=true:=by
     cases hv:Qn r.g_.t_ with
     | true=>rfl
     | false=>exact absurd (.inr hv) b
    exact ⟨by omega,by omega,by omega,by omega,e,c⟩
theorem Z0W{F:Nat}(hF:Q7<=F)(r:Rg_):Tm F r=some (Yz r):=by
 unfold Tm Yz;rw [Yd (Ds F r)]
 unfold Ds;refine Z6 (fun h=>by rw [if_pos (by simpa using h)]) (fun h=>?_)
 rw [if_neg (by simpa using h),Yd (Dr F r)];unfold Dr
 refine Z6 (fun h=>by rw [if_pos (by simpa using h)]) (fun h=>?_);rw [if_neg (by simpa using h)]
 refine Z6 (fun h=>?_) (fun h=>?_)
 .have h:r.g_.t_.length=0:=by simpa using h
  rw [if_pos (.inl h)];rfl
 .have h:r.g_.t_.length≠0:=by simpa using h
  refine Q3 (Wn hF _) ?_;unfold Tl
  refine Z6 (fun b=>?_) (fun b=>?_)
  .rw [if_pos (.inr (by simpa using b))]
  .rw [if_neg (by rintro (h3|h3);exact h h3;rw [h3] at b;cases b)]
def Qo(f g:Rg_):Bool:=decide (f.year_<g.year_)||(decide (f.year_=g.year_)&&decide (f.c_<g.c_))
theorem VJ(f g:Rg_):Qo f g=true↔f.year_<g.year_\/(f.year_=g.year_/\f.c_<g.c_):=by unfold Qo;simp
theorem zl{f g h:Rg_}(h1:Qo f g=true)(h2:Qo g h=true):Qo f h=true:=by
 rw [VJ] at *;omega
theorem Z0Y{F:Nat}(hF:Q7<=F)(f g:Rg_):∃ c,Tn F f g=some c/\(c<0↔Qo f g=true)/\(0<c↔Qo g f=true):=by
 refine ⟨if (if f.year_<g.year_ then (-1:Int) else if g.year_<f.year_ then 1 else 0)≠0 then (if f.year_<g.year_ then (-1:Int) else if g.year_<f.year_ then 1 else 0) else (if f.c_<g.c_ then (-1:Int) else if g.c_<f.c_ then 1 else 0),?_,?_⟩
 .unfold Tn
  exact Q3 (DV _ _ _) (Q3 (DV _ _ _) (Q3 (Q1A F hF _ _) rfl))
 .rw [VJ,VJ]
  by_cases h1:f.year_<g.year_
  .simp [h1];omega
  .by_cases h2:g.year_<f.year_
   .simp [h1,h2];omega
   .by_cases h3:f.c_<g.c_
    .simp [h1,h2,h3];omega
    .by_cases h4:g.c_<f.c_
     .simp [h1,h2,h3,h4];omega
     .simp [h1,h2,h3,h4]
def Yo:Option Rg_->List Rg_->Int
 | _,[]=>0
 | p,f::l=>if Yz f≠0 then Yz f else if p.any (fun g=> !Qo g f) then 3 else Yo (some f) l
def NX(l:List Rg_):Prop:=l.Pairwise fun f g=>f.year_=g.year_->Zo f.g_ g.g_=false
open Classical in
def Zq(l:List Rg_):Int:=if 200<l.length then 1 else if Yo none l≠0 then Yo none l else if NX l then 0 else 11
def Vg(l:List Rg_)(i:Nat):Option Rg_:=if i=0 then none else some (gl l (i-1))
theorem cq(l:List Rg_)(i:Nat):Vg l (i+1)=some (gl l i):=by simp [Vg]
theorem Q2r{l:List Rg_}:NX l↔∀ j,j<l.length->∀ i,i<j->(gl l i).year_=(gl l j).year_->Zo (gl l i).g_ (gl l j).g_=false:=by
 unfold NX;rw [List.pairwise_iff_getElem]
 constructor
 .intro h j b i f e
  rw [G8 b,G8 (by omega)] at *;exact h i j (by omega) b f e
 .intro h i j f b c e
  have:=h j b i c
  rw [G8 b,G8 (by omega)] at this;exact this e
theorem Q8j{F:Nat}(hF:Q7<=F){l:List Rg_}(hl:l.length<=200){y:Int}(h0:NX l->y=0)(h1:¬ NX l->y=11):BB F l=some y:=by
 have t:=hF;unfold Q7 at hF
 unfold BB;refine K9 (fun z:Int=>∃ i:Nat,z=i/\i<=l.length/\∀ j,j<i->∀ a,a<j->(gl l a).year_=(gl l j).year_->Zo (gl l a).g_ (gl l j).g_=false) (fun z=>l.length-z.toNat) (fun u z s D=>?_) ⟨0,rfl,by omega,fun j r=>absurd r (Nat.not_lt_zero j)⟩ (by simp;omega)
 obtain ⟨i,rfl,G,A⟩:=s;unfold jt
 refine Z6 (fun h=>?_) (fun h=>?_)
 .have h:i<l.length:=by simpa using h
  refine Q9 (k:=?_);refine Q9 (k:=?_)
  refine K9 (fun z:Int=>∃ j:Nat,z=j/\j<=i/\∀ a,a<j->(gl l a).year_=(gl l i).year_->Zo (gl l a).g_ (gl l i).g_=false) (fun z=>i-z.toNat) (fun g z s v=>?_) ⟨0,rfl,by omega,fun j r=>absurd r (Nat.not_lt_zero j)⟩ (by simp;omega);obtain ⟨j,rfl,r,B⟩:=s
  unfold js;simp only [Int.toNat_natCast]
  have o:(l.take i).length=i:=by rw [List.length_take];omega
  simp only [o];refine Z6 (fun f=>?_) (fun f=>?_)
  .have f:j<i:=by simpa using f
   have e:gl (l.take i) j=gl l j:=by simp [gl,List.getD_eq_getElem?_getD,f]
   rw [e];refine Q9 (k:=?_)
   have C:∀ b:Bool,b=(decide ((gl l j).year_=(gl l i).year_)&&Zo (gl l j).g_ (gl l i).g_)->BA F j g b=some y:=by
    intro b m;unfold BA
    refine Z6 (fun c=>?_) (fun c=>?_)
    .rw [c,eq_comm,Bool.and_eq_true,decide_eq_true_eq] at m
     rw [h1 fun E=>by rw [Q2r.1 E i h j f m.1] at m;cases m.2]
    .rw [c] at m
     refine Q9 (k:=?_);refine v _ ⟨j+1,by omega,f,fun a w p=>?_⟩ (by omega)
     rcases Nat.lt_or_ge a j with q|q
     .exact B a q p
     .have:a=j:=by omega
      subst this;rw [decide_eq_true p,Bool.true_and] at m
      exact m.symm
   refine Z6 (fun c=>?_) (fun c=>?_)
   .refine Q3 (Q8D t _ _) (C _ ?_)
    have c:(gl l j).year_=(gl l i).year_:=by simpa using c
    rw [decide_eq_true c,Bool.true_and]
   .refine C _ ?_
    have c:¬ (gl l j).year_=(gl l i).year_:=by simpa using c
    rw [decide_eq_false c,Bool.false_and]
  .have f:j=i:=by
    have:¬ j<i:=by simpa using f
    omega
   subst f;unfold qn
   refine Q9 (k:=?_);refine D _ ⟨j+1,by omega,h,fun b m a w p=>?_⟩ (by omega)
   rcases Nat.lt_or_ge b j with q|q
   .exact A b q a w p
   .have:b=j:=by omega
    subst this;exact B a w p
 .have h:i=l.length:=by
   have:¬ i<l.length:=by simpa using h
   omega
  subst h;rw [h0 (Q2r.2 A)];rfl
theorem Q8l{F:Nat}(hF:Q7<=F)(l:List Rg_):RO F l=some (Zq l):=by
 have v:=hF;unfold Q7 at hF
 unfold RO;refine Z6 (fun h=>?_) (fun h=>?_)
 .have h:200<l.length:=by simp at h;omega
  rw [Zq,if_pos h]
 .have h:¬ 200<l.length:=by simp at h;omega
  have w:Yo none l=0->BB F l=some (Zq l):=fun p=>by
   refine Q8j v (by omega) (fun E=>?_) (fun E=>?_)
   .rw [Zq,if_neg h,if_neg (by simp [p]),if_pos E]
   .rw [Zq,if_neg h,if_neg (by simp [p]),if_neg E]
  have A:Yo none l≠0->Zq l=Yo none l:=fun p=>by rw [Zq,if_neg h,if_pos p]
  refine K9 (fun z:Int=>∃ i:Nat,z=i/\i<=l.length/\Yo none l=Yo (Vg l i) (l.drop i)) (fun z=>l.length-z.toNat) (fun e z G H=>?_) ⟨0,rfl,by omega,rfl⟩ (by simp;omega);obtain ⟨i,rfl,J,m⟩:=G
  unfold ju;refine Z6 (fun s=>?_) (fun s=>?_)
  .have s:i<l.length:=by simpa using s
   rw [Yq s,Yo] at m;refine Q9 (k:=?_)
   simp only [Int.toNat_natCast];have t:∀ c:Int,Yz (gl l i)=c->c≠0->Zq l=c:=fun c r q=>by
    rw [if_pos (by rw [r];exact q),r] at m;rw [A (by rw [m];exact q),m]
   have f:Yz (gl l i)=0->∀ b:Bool,b=(Vg l i).any (fun g=> !Qo g (gl l i))->KJ F i e b=some (Zq l):=by
    intro r b B;rw [if_neg (by simp [r])] at m
    unfold KJ;refine Z6 (fun q=>?_) (fun q=>?_)
    .rw [if_pos (B ▸ q)] at m
     rw [A (by rw [m];decide),m]
    .rw [if_neg (by rw [<-B,q];simp)] at m
     refine Q9 (k:=?_);refine H _ ⟨i+1,by omega,s,?_⟩ (by omega)
     rw [m,cq]
   rw [Yd (BE F l i e)];unfold BE
   refine Z6 (fun r=>?_) (fun r=>?_)
   .rw [t 18 (by unfold Yz;rw [if_pos (by simpa using r)]) (by decide)]
   .rw [Yd (BD F l i e)]
    unfold BD;refine Z6 (fun q=>?_) (fun q=>?_)
    .rw [t 13 (by unfold Yz;rw [if_neg (by simpa using r),if_pos (by simpa using q)]) (by decide)]
    .refine Q3 (BR v _) ?_
     rw [Yd (BC F l i e)];unfold BC
     refine Z6 (fun j=>?_) (fun j=>?_)
     .have j:(gl l i).g_.t_.length=0\/Qn (gl l i).g_.t_=false:=by
       rw [Bool.or_eq_true] at j;rcases j with o|o
       .exact .inr (by simpa using o)
       .exact .inl (by simpa using o)
      rw [t 7 (by unfold Yz;rw [if_neg (by simpa using r),if_neg (by simpa using q),if_pos j]) (by decide)]
     .have j:¬ ((gl l i).g_.t_.length=0\/Qn (gl l i).g_.t_=false):=by
       rw [Bool.or_eq_false_iff] at j;simp only [Int.toNat_natCast] at j
       rintro (o|o)
       .rw [o] at j;simp at j
       .rw [o] at j;simp at j
      have o:Yz (gl l i)=0:=by unfold Yz;rw [if_neg (by simpa using r),if_neg (by simpa using q),if_neg j]
      refine Z6 (fun p=>?_) (fun p=>?_)
      .have p:0<i:=by simpa using p
       refine Q9 (k:=?_);refine Q9 (k:=?_)
       have I:((i:Int)-1).toNat=i-1:=by omega
       rw [I];have D:(Vg l i).any (fun g=> !Qo g (gl l i))=!Qo (gl l (i-1)) (gl l i):=by simp [Vg,show i≠0 from by omega]
       refine Z6 (fun C=>?_) (fun C=>?_)
       .refine f o _ ?_
        have C:(gl l i).year_<(gl l (i-1)).year_:=by simpa using C
        rw [D,eq_comm,Bool.not_eq_true', <-Bool.not_eq_true,VJ];omega
       .have C:¬ (gl l i).year_<(gl l (i-1)).year_:=by simpa using C
        refine Q9 (k:=?_);refine Q9 (k:=?_)
        refine Z6 (fun u=>?_) (fun u=>?_)
        .have u:(gl l i).year_=(gl l (i-1)).year_:=by simpa using u
         refine Q9 (k:=?_);refine Q9 (k:=?_)
         refine f o _ ?_;rw [D,Bool.eq_iff_iff,Bool.not_eq_true', <-Bool.not_eq_true,VJ,decide_eq_true_eq]
         simp only [Int.toNat_natCast];omega
        .have u:¬ (gl l i).year_=(gl l (i-1)).year_:=by simpa using u
         refine f o _ ?_;rw [D,eq_comm,Bool.not_eq_false',VJ];omega
      .have p:i=0:=by simp at p;omega
       exact f o _ (by simp [Vg,p])
  .have s:¬ i<l.length:=by simpa using s
   rw [List.drop_of_length_le (by omega)] at m;exact w m
end
theorem Q5K{F:Nat}(hF:Q7<=F){l:List Rg_}{q:Rg_->Option Bool}(p:Rg_->Bool)(hl:l.length<=1000000000)(hq:∀ r ∈ l,q r=some (p r)):Mj F l q=some (QB p l):=by
 unfold Q7 at hF;unfold Mj
 refine K9 (fun z:Int=>∃ i:Nat,z=i/\i<=l.length/\∀ j,j<i->p (gl l j)=false) (fun z=>l.length-z.toNat) (fun e z m o=>?_) ⟨0,rfl,by omega,fun j s=>by omega⟩ (by simp;omega);obtain ⟨i,rfl,t,f⟩:=m
 unfold kx;refine Z6 (fun h=>?_) (fun h=>?_)
 .have h:i<l.length:=by simpa using h
  refine Q9 (k:=?_);refine Q3 (hq _ (J7 h)) ?_
  simp only [Int.toNat_natCast];refine Z6 (fun b=>?_) (fun b=>?_)
  .have c:l.any p=true:=List.any_eq_true.2 ⟨_,J7 h,b⟩
   rw [QB,if_pos c,Gf h f b]
  .refine Q9 (k:=?_)
   refine o _ ⟨i+1,by omega,h,fun j s=>?_⟩ (by omega);rcases Nat.lt_or_ge j i with g|g
   .exact f j g
   .have:j=i:=by omega
    subst this;exact b
 .have h:¬ i<l.length:=by simpa using h
  have:i=l.length:=by omega
  subst this;have c:=JU f
  rw [QB,c];rfl
theorem bV{α:Type}(p:α->Bool)(l:List α):0<=QB p l↔l.any p=true:=by
 unfold QB;split
 .rename_i h;simp [h]
 .rename_i h;simp [h]
theorem Q6d{F:Nat}(hF:Q7<=F){l:List Rg_}{q:Rg_->Option Bool}(p:Rg_->Bool)(hl:l.length<=1000000000)(hq:∀ r ∈ l,q r=some (p r)):Mv F l q=some (l.any p):=by
 unfold Mv;refine Q3 (Q5K hF p hl hq) ?_
 congr 1
 rw [Bool.eq_iff_iff, <-bV,decide_eq_true_iff]
structure GrpOf (gs:List (Int×List Rg_)) (l:List Rg_):Prop where
 nd:(gs.map (·.1)).Nodup
 row:∀ e ∈ gs,e.2=l.filter fun f=>decide (f.year_=e.1)
 key:∀ f ∈ l,∃ e ∈ gs,e.1=f.year_
theorem GrpOf.nil:GrpOf [] []:=⟨by simp,fun e c=>by simp at c,fun f b=>by simp at b⟩
theorem GrpOf.gRow{gs:List (Int×List Rg_)}{l:List Rg_}(h:GrpOf gs l)(y:Int):gRow y gs=l.filter fun f=>decide (f.year_=y):=by
 unfold Go.Ab.gRow;rcases JM y gs with ⟨m,q,i,j⟩|⟨r,b⟩
 .rw [i]
  simp only
  rw [h.row q (List.mem_of_getElem? i),j]
 .rw [r,List.getElem?_eq_none (Nat.le_refl _)]
  simp only
  symm
  rw [List.filter_eq_nil_iff];intro f o c
  obtain ⟨e,p,g⟩:=h.key f o;exact b e p (by rw [g];exact of_decide_eq_true c)
theorem GrpOf.app{gs:List (Int×List Rg_)}{l:List Rg_}(h:GrpOf gs l)(f:Rg_):GrpOf (gApp f.year_ [f] gs) (l++[f]):=by
 obtain ⟨q,z,J,C,D⟩:=Tx (y:=f.year_) (m:=[f]) (gs:=gs);have u:=Q0j (y:=f.year_) (m:=[f]) h.nd
 have A:(gApp f.year_ [f] gs)[G4 f.year_ gs]?=some q:=by rw [C,Db D,if_pos rfl]
 have s:∀ e ∈ gApp f.year_ [f] gs,e=q\/(e ∈ gs/\e.1≠f.year_):=by
  intro e r;obtain ⟨j,c⟩:=List.getElem?_of_mem r
  by_cases b:j=G4 f.year_ gs
  .rw [b,A] at c;cases c;exact .inl rfl
  .right
   have v:=c;rw [C,Db D,if_neg b] at v
   refine ⟨List.mem_of_getElem? v,fun w=>b ?_⟩;exact zc u c A (by rw [w,z])
 refine ⟨u,fun e r=>?_,fun g t=>?_⟩
 .rcases s e r with rfl|⟨E,H⟩
  .rw [J,h.gRow,List.filter_append,z];simp
  .rw [h.row e E,List.filter_append]
   have:([f].filter fun g=>decide (g.year_=e.1))=[]:=by simp;exact fun I=>H I.symm
   rw [this,List.append_nil]
 .rcases List.mem_append.1 t with t|t
  .obtain ⟨e,r,p⟩:=h.key g t
   by_cases w:e.1=f.year_
   .exact ⟨q,List.mem_of_getElem? A,by rw [z, <-p,w]⟩
   .obtain ⟨j,c⟩:=List.getElem?_of_mem r
    have b:j≠G4 f.year_ gs:=by
     rintro rfl;rcases JM f.year_ gs with ⟨_,K,o,B⟩|⟨G,_⟩
     .rw [c] at o;cases o;exact w B
     .rw [G,List.getElem?_eq_none (Nat.le_refl _)] at c;cases c
    refine ⟨e,List.mem_of_getElem? (i:=j) ?_,p⟩;rw [C,Db D,if_neg b];exact c
  .have:g=f:=by simpa using t
   subst this;exact ⟨q,List.mem_of_getElem? A,z⟩
theorem Z1u(y:Int)(m:List Rg_)(gs:List (Int×List Rg_)):(gApp y m gs).length<=gs.length+1:=by
 obtain ⟨q,_,_,h,b⟩:=Tx (y:=y) (m:=m) (gs:=gs);rw [h,Da b]
 split <;> omega
theorem Z0U{F:Nat}(hF:Q7<=F){l:List Rg_}(hl:l.length<=200):∃ gs,zO F l=some gs/\GrpOf gs l/\gs.length<=l.length:=by
 unfold Q7 at hF;have g:∀ (n i:Nat) (gs:List (Int×List Rg_)),i<=l.length->l.length-i<n->GrpOf gs (l.take i)->gs.length<=i->∃ r,Z9 (fun again (z:Int×(List (Int×(List Rg_))))=>XJ F l again z.1 z.2) n ((i:Int),gs)=some r/\GrpOf r l/\r.length<=l.length:=by
  intro n
  induction n with
  | zero=>intro i gs _ h;omega
  | succ n ih=>
   intro i gs o p b e
   by_cases h:i<l.length
   .obtain ⟨r,j,c⟩:=ih (i+1) (gApp (gl l i).year_ [gl l i] gs) h (by omega) (by rw [Qx h];exact b.app _) (by have:=Z1u (gl l i).year_ [gl l i] gs;omega)
    refine ⟨r,?_,c⟩;show XJ F l _ (i:Int) gs=_
    unfold XJ;simp only [Int.toNat_natCast]
    refine Y7 (by simpa using h) ?_;refine Q9 (k:=?_)
    refine Q8 ?_ ?_
    .rw [b.gRow]
     have:=List.length_filter_le (fun f:Rg_=>decide (f.year_=(gl l i).year_)) (l.take i)
     have m:(l.take i).length<=200:=by rw [List.length_take];omega
     simp only [Y5,List.length_cons,List.length_nil];omega
    .refine Q9 (k:=?_)
     exact j
   .have:i=l.length:=by omega
    subst this;refine ⟨gs,?_,by rw [List.take_length] at b;exact b,e⟩
    show XJ F l _ _ gs=_;unfold XJ
    exact Z5 (by simp) rfl
 exact g F 0 [] (Nat.zero_le _) (by omega) (by rw [List.take_zero];exact GrpOf.nil) (Nat.zero_le _)
def Up(e:Int×List Rg_):Prop:=¬ e.2.Pairwise fun f g=>Zo f.g_ g.g_=false
theorem Q1U{gs:List (Int×List Rg_)}{l:List Rg_}(h:GrpOf gs l):NX l↔∀ e ∈ gs,¬ Up e:=by
 unfold NX Up;constructor
 .intro o e c s
  refine s ?_;rw [h.row e c,List.pairwise_filter]
  exact o.imp fun {f g} hh h1 h2=>hh (by simp at h1 h2;omega)
 .intro o
  rw [List.pairwise_iff_getElem];intro i j r p m q
  obtain ⟨e,c,b⟩:=h.key l[i] (List.getElem_mem _);have:=Classical.not_not.1 (o e c)
  rw [h.row e c,List.pairwise_filter,List.pairwise_iff_getElem] at this;exact this i j r p m (by simp [b]) (by simp [b,q])
theorem Q1V{e:Int×List Rg_}:¬ Up e↔∀ j,j<e.2.length->∀ i,i<j->Zo (gl e.2 i).g_ (gl e.2 j).g_=false:=by
 unfold Up;rw [Classical.not_not,List.pairwise_iff_getElem]
 constructor
 .intro h j b i f
  rw [G8 b,G8 (by omega)];exact h i j (by omega) b f
 .intro h i j f b c
  have:=h j b i c
  rw [G8 b,G8 (by omega)] at this;exact this
theorem Z1d{F:Nat}(hF:Q7<=F){e:Int×List Rg_}(hl:e.2.length<=200){rest:List (Int×List Rg_)}{ag:List (Int×List Rg_)->Option Int}{y:Int}(hb:Up e->y=11)(hg:¬ Up e->ag rest=some y):
  Z9 (fun again (z:Int)=>zQ F e rest ag again z) F (0:Int)=some y:=by
 have b:=hF;unfold Q7 at hF
 refine K9 (fun z:Int=>∃ i:Nat,z=i/\i<=e.2.length/\∀ j,j<i->∀ a,a<j->Zo (gl e.2 a).g_ (gl e.2 j).g_=false) (fun z=>e.2.length-z.toNat) (fun again z s t=>?_) ⟨0,rfl,by omega,fun j o=>absurd o (Nat.not_lt_zero j)⟩ (by simp;omega);obtain ⟨i,rfl,A,p⟩:=s
 unfold zQ;simp only [Int.toNat_natCast]
 refine Z6 (fun h=>?_) (fun h=>?_)
 .have h:i<e.2.length:=by simpa using h
  refine Q9 (k:=?_);refine Q9 (k:=?_)
  refine Q3 (Q6d b (fun f=>Zo f.g_ (gl e.2 i).g_) (by rw [List.length_take];omega) (fun r _=>by unfold zR;exact Q3 (gX b _ _) rfl)) ?_;refine Z6 (fun m=>?_) (fun m=>?_)
  .rw [hb fun w=>?_]
   .obtain ⟨f,u,g⟩:=List.any_eq_true.1 m
    obtain ⟨a,l,rfl⟩:=List.getElem_of_mem u;have c:a<i:=by rw [List.length_take] at l;omega
    have:=Q1V.1 (Classical.not_not.2 w) i h a c
    rw [List.getElem_take] at g;rw [G8 (show a<e.2.length by omega)] at this
    rw [this] at g;cases g
  .refine Q9 (k:=?_)
   refine t _ ⟨i+1,by omega,h,fun j o a l=>?_⟩ (by omega);rcases Nat.lt_or_ge j i with q|q
   .exact p j q a l
   .have:j=i:=by omega
    subst this;have v:=List.any_eq_false.1 m (gl e.2 a) (by
     rw [G8 (show a<e.2.length by omega)];have:e.2[a]=(e.2.take j)[a]'(by rw [List.length_take];omega):=by rw [List.getElem_take]
     rw [this];exact List.getElem_mem _)
    simpa using v
 .have h:i=e.2.length:=by
   have:¬ i<e.2.length:=by simpa using h
   omega
  subst h;exact hg (Q1V.2 p)
theorem cV{α:Type}{l:List α}{i:Nat}(hi:i<l.length)(p:α->Prop):(∀ e ∈ l,p e)↔p l[i]/\∀ e ∈ l.eraseIdx i,p e:=by
 constructor
 .exact fun h=>⟨h _ (List.getElem_mem _),fun e b=>h e (List.mem_of_mem_eraseIdx b)⟩
 .rintro ⟨c,f⟩ e b
  obtain ⟨j,g,rfl⟩:=List.getElem_of_mem b
  by_cases hij:j=i
  .subst hij;exact c
  .exact f _ (List.mem_eraseIdx_iff_getElem.2 ⟨j,g,hij,rfl⟩)
theorem Z1e{F:Nat}(hF:Q7<=F):∀ (n:Nat) (gs:List (Int×List Rg_)) (y:Int),gs.length<n->(∀ e ∈ gs,e.2.length<=200)->((∀ e ∈ gs,¬ Up e)->y=0)->((¬ ∀ e ∈ gs,¬ Up e)->y=11) ->
  Z9 (fun again (z:(List (Int×(List Rg_))))=>Tq F again z) n gs=some y:=by
 intro n
 induction n with
 | zero=>intro gs y h;omega
 | succ n ih=>
  intro gs y r c q p;show Tq F _ gs=_
  unfold Tq
  cases gs with
  | nil=>
   rw [Q9D,q (fun e o=>by simp at o)];rfl
  | cons g l=>
   refine Q9C (by simp) fun i j=>?_
   refine Z1d hF (c _ (List.getElem_mem _)) (fun m=>p fun b=>b _ (List.getElem_mem _) m) (fun m=>?_);refine ih _ y (by rw [List.length_eraseIdx];rw [if_pos j];simp at r ⊢;omega) (fun e o=>c e (List.mem_of_mem_eraseIdx o)) (fun b=>q ?_) (fun f=>p fun b=>f ?_)
   .exact (cV j (fun e=>¬ Up e)).2 ⟨m,b⟩
   .exact ((cV j (fun e=>¬ Up e)).1 b).2
theorem Z1c{F:Nat}(hF:Q7<=F)(l:List Rg_):Tr F l=some (Zq l):=by
 have o:=hF;unfold Q7 at hF
 unfold Tr;refine Z6 (fun h=>?_) (fun h=>?_)
 .have h:200<l.length:=by simp at h;omega
  rw [Zq,if_pos h]
 .have h:¬ 200<l.length:=by simp at h;omega
  have u:Yo none l=0->Tp F l=some (Zq l):=fun m=>by
   unfold Tp;obtain ⟨E,A,D,M⟩:=Z0U o (l:=l) (by omega)
   refine Q3 A ?_;have p:E.length<F:=by omega
   refine Z1e o F E _ p (fun e j=>?_) (fun C=>?_) (fun C=>?_)
   .rw [D.row e j]
    have:=List.length_filter_le (fun f:Rg_=>decide (f.year_=e.1)) l
    omega
   .rw [Zq,if_neg h,if_neg (by simp [m]),if_pos ((Q1U D).2 C)]
   .rw [Zq,if_neg h,if_neg (by simp [m]),if_neg fun G=>C ((Q1U D).1 G)]
  have v:Yo none l≠0->Zq l=Yo none l:=fun m=>by rw [Zq,if_neg h,if_pos m]
  refine K9 (fun z:Int=>∃ i:Nat,z=i/\i<=l.length/\Yo none l=Yo (Vg l i) (l.drop i)) (fun z=>l.length-z.toNat) (fun s z H J=>?_) ⟨0,rfl,by omega,rfl⟩ (by simp;omega);obtain ⟨i,rfl,P,j⟩:=H
  unfold bZ;refine Z6 (fun t=>?_) (fun t=>?_)
  .have t:i<l.length:=by simpa using t
   rw [Yq t,Yo] at j;refine Q9 (k:=?_)
   simp only [Int.toNat_natCast];refine Q3 (Z0W o _) ?_
   refine Z6 (fun q=>?_) (fun q=>?_)
   .have q:Yz (gl l i)≠0:=by simpa using q
    rw [if_pos q] at j;rw [v (by rw [j];exact q),j]
   .have q:Yz (gl l i)=0:=by simpa using q
    rw [if_neg (by simp [q])] at j;have r:∀ b:Bool,b=(Vg l i).any (fun g=> !Qo g (gl l i))->Dv F i s b=some (Zq l):=by
     intro b w;unfold Dv
     refine Z6 (fun B=>?_) (fun B=>?_)
     .rw [if_pos (w ▸ B)] at j
      rw [v (by rw [j];decide),j]
     .rw [if_neg (by rw [<-w,B];simp)] at j
      refine Q9 (k:=?_);refine J _ ⟨i+1,by omega,t,?_⟩ (by omega)
      rw [j,cq]
    refine Z6 (fun m=>?_) (fun m=>?_)
    .have m:0<i:=by simpa using m
     refine Q9 (k:=?_);refine Q9 (k:=?_)
     have A:((i:Int)-1).toNat=i-1:=by omega
     rw [A];obtain ⟨c,K,N,O⟩:=Z0Y o (gl l (i-1)) (gl l i)
     refine Q3 K (r _ ?_);have I:(Vg l i).any (fun g=> !Qo g (gl l i))=!Qo (gl l (i-1)) (gl l i):=by simp [Vg,show i≠0 from by omega]
     rw [I,Bool.eq_iff_iff,Bool.not_eq_true', <-Bool.not_eq_true, <-N,decide_eq_true_eq];omega
    .have m:i=0:=by simp at m;omega
     exact r _ (by simp [Vg,m])
  .have t:¬ i<l.length:=by simpa using t
   rw [List.drop_of_length_le (by omega)] at j;exact u j
structure HL (l:List Rg_):Prop where
 len:l.length<=200
 one:∀ f ∈ l,Yz f=0
 asc:l.Pairwise fun f g=>Qo f g=true
 nx:NX l
theorem zS:∀ (l:List Rg_) (p:Option Rg_),Yo p l=0↔(∀ f ∈ l,Yz f=0)/\l.Pairwise (fun f g=>Qo f g=true)/\∀ n,p=some n->∀ f ∈ l,Qo n f=true
 | [],p=>by simp [Yo]
 | f::l,p=>by
  have m:=zS l (some f);unfold Yo
  by_cases h1:Yz f=0
  .rw [if_neg (by simp [h1])]
   by_cases i:p.any (fun g=> !Qo g f)=true
   .rw [if_pos i]
    constructor
    .intro h;cases h
    .rintro ⟨_,_,h⟩
     cases p with
     | none=>simp at i
     | some n=>
      have i:Qo n f=false:=by simpa using i
      rw [h n rfl f (by simp)] at i;cases i
   .rw [if_neg i,m]
    constructor
    .rintro ⟨a,b,c⟩
     refine ⟨fun g e=>?_,List.pairwise_cons.2 ⟨fun g e=>c _ rfl g e,b⟩,fun n j g e=>?_⟩
     .rcases List.mem_cons.1 e with rfl|e
      .exact h1
      .exact a g e
     .subst j
      have i:Qo n f=true:=by simpa using i
      rcases List.mem_cons.1 e with rfl|e
      .exact i
      .exact zl i (c _ rfl g e)
    .rintro ⟨a,b,c⟩
     obtain ⟨q,o⟩:=List.pairwise_cons.1 b;exact ⟨fun g e=>a g (by simp [e]),o,fun n j g e=>by cases j;exact q g e⟩
  .rw [if_pos h1]
   constructor
   .intro h;exact absurd h h1
   .rintro ⟨a,_,_⟩;exact absurd (a f (by simp)) h1
theorem Cq(l:List Rg_):Zq l=0↔HL l:=by
 unfold Zq
 by_cases h:200<l.length
 .rw [if_pos h]
  exact ⟨fun h=>(by cases h),fun c=>by have:=c.len;omega⟩
 .rw [if_neg h]
  by_cases h2:Yo none l=0
  .rw [if_neg (by simp [h2])]
   obtain ⟨a,b,_⟩:=(zS l none).1 h2
   by_cases h3:NX l
   .rw [if_pos h3];exact ⟨fun _=>⟨by omega,a,b,h3⟩,fun _=>rfl⟩
   .rw [if_neg h3];exact ⟨fun h=>(by cases h),fun c=>absurd c.nx h3⟩
  .rw [if_pos h2]
   exact ⟨fun h=>absurd h h2,fun c=>absurd ((zS l none).2 ⟨c.one,c.asc,fun n e=>by cases e⟩) h2⟩
section
variable {F:Nat} {L:List A2_} {d:Int}
end
section
variable {F n:Nat} {L:List A2_} {d:Int}
end
section
variable {F:Nat} {L:List A2_} {d:Int}
theorem Q0d{l:List Rect}(hc:Yg l)(hl:l.length<=120){a:List Rect}(ha:∀ r ∈ a,QP r=true)(hs:∀ x y,Q4 l x y=true->Q4 a x y=true):J2 l:=by
 have c:QN (16384:Int) l:=hc.box fun x y h=>by
  obtain ⟨r,b,e⟩:=(WQ _ _ _).1 (hs x y h);have:=(ZT r).1 (ha r b)
  rw [Zp] at e;omega
 exact ⟨hl,c.prop (by omega),hc⟩
end
section
variable {F:Nat} {L:List A2_} {d:Int}
end
def Zl(y c:Int)(f:Rg_):Bool:=decide (f.year_=y)&&decide (f.c_=c)
def YQ(y:Int)(a:List Rect)(f:Rg_):Rg_:=if f.year_=y then ⟨f.year_,f.c_,⟨cn fun u v=>Q4 f.g_.t_ u v && !Q4 a u v⟩⟩ else f
def QO(l:List Rg_)(y c:Int)(a:List Rect):List Rg_:=(l.filter fun f=> !Zl y c f).map (YQ y a)
def vA(l:List Rg_)(y c:Int)(a:List Rect):List Rect:=match l.find? (Zl y c) with|some f=>cn fun u v=>Q4 f.g_.t_ u v||Q4 a u v|none=>a
def Zi(f:Rg_):Bool:= !decide (f.g_.t_.length=0)
def WI(l:List Rg_):Bool:=decide (200<l.length)||l.any fun f=>decide (120<f.g_.t_.length)
def YR(l:List Rg_)(r:Rg_):Nat:=l.countP fun f=>Qo f r
def XI(l:List Rg_)(r:Rg_):List Rg_:=l.take (YR l r)++[r]++l.drop (YR l r)
def YU(l:List Rg_)(y c:Int)(a:List Rect):List Rg_:=
 if (vA l y c a).length=0 then (QO l y c a).filter Zi else XI ((QO l y c a).filter Zi) ⟨y,c,⟨vA l y c a⟩⟩
def addH(l:List Rg_)(y c:Int)(a:Re_):List Rg_×Int:=
 if Zq l≠0 then ([],Zq l) else if y<0\/100<y then ([],18) else if c<0\/40<=c then ([],13) else if Qn a.t_=false then ([],7)
 else if WI (YU l y c a.t_)=true then ([],1) else (YU l y c a.t_,0)
theorem Q7s(l:List Rg_)(x:Rg_)(y c:Int)(a:List Rect):QO (l++[x]) y c a=QO l y c a++(if Zl y c x=true then [] else [YQ y a x]):=by
 unfold QO;rw [List.filter_append,List.map_append]
 congr 1
 cases h:Zl y c x with
 | true=>simp [h]
 | false=>simp [h]
theorem Q3j(l:List Rg_)(x:Rg_)(y c:Int)(a:List Rect)(h:Zl y c x=true->∀ f ∈ l,Zl y c f=false):vA (l++[x]) y c a=if Zl y c x=true then cn (fun u v=>Q4 x.g_.t_ u v||Q4 a u v) else vA l y c a:=by
 unfold vA;rw [List.find?_append]
 cases hx:Zl y c x with
 | true=>
  have:l.find? (Zl y c)=none:=List.find?_eq_none.2 fun f b=>by rw [h hx f b];simp
  rw [this];simp [hx]
 | false=>simp [hx]
theorem Q3k(l:List Rg_)(y c:Int)(a:List Rect)(h:∀ f ∈ l,Zl y c f=false):vA l y c a=a:=by
 unfold vA;have:l.find? (Zl y c)=none:=List.find?_eq_none.2 fun f b=>by rw [h f b];simp
 rw [this]
theorem gz{l:List Rg_}(h:l.Pairwise fun f g=>Qo f g=true){i:Nat}(hi:i<l.length){y c:Int}(hs:Zl y c (gl l i)=true):∀ f ∈ l.take i,Zl y c f=false:=by
 intro f e;obtain ⟨j,m,rfl⟩:=List.getElem_of_mem e
 have b:j<i:=by rw [List.length_take] at m;omega
 rw [List.getElem_take];have:=List.pairwise_iff_getElem.1 h j i (by omega) hi b
 rw [VJ] at this;rw [G8 hi] at hs
 unfold Zl at hs ⊢;rw [Bool.and_eq_true,decide_eq_true_eq,decide_eq_true_eq] at hs
 rw [<-Bool.not_eq_true,Bool.and_eq_true,decide_eq_true_eq,decide_eq_true_eq];omega
theorem HL.val{l:List Rg_}(h:HL l){f:Rg_}(hf:f ∈ l):J2 f.g_.t_:=((KO f).1 (h.one f hf)).2.2.2.2.2
theorem Q8o{F:Nat}(hF:Q7<=F){l:List Rg_}(h:HL l){y c:Int}{a:Re_}(ha:J2 a.t_){r:List Rg_×Int}(hk:BF F y c (vA l y c a.t_) ((QO l y c a.t_).filter Zi)=some r):
  Z9 (fun again (z:(List Rect)×Int×(List Rg_))=>qo F l y c a again z.1 z.2.1 z.2.2) F (a.t_,(0:Int),([]:List Rg_))=some r:=by
 have s:=hF;unfold Q7 at hF
 have C:=h.len;refine K9 (fun z:(List Rect)×Int×(List Rg_)=>∃ i:Nat,z=(vA (l.take i) y c a.t_,(i:Int),(QO (l.take i) y c a.t_).filter Zi)/\i<=l.length) (fun z=>l.length-z.2.1.toNat) (fun again z M E=>?_) ⟨0,by rw [List.take_zero];rfl,by omega⟩ (by simp only;omega)
 obtain ⟨i,rfl,P⟩:=M;simp only at E ⊢
 unfold qo;simp only [Int.toNat_natCast]
 refine Z6 (fun g=>?_) (fun g=>?_)
 .have g:i<l.length:=by simpa using g
  have t:=h.val (J7 g);have N:((QO (l.take i) y c a.t_).filter Zi).length<=200:=by
   have D:=List.length_filter_le Zi (QO (l.take i) y c a.t_);unfold QO at D ⊢
   rw [List.length_map] at D;have:=List.length_filter_le (fun f=> !Zl y c f) (l.take i)
   have e:(l.take i).length<=l.length:=by rw [List.length_take];omega
   omega
  have j:∀ (v:List Rect) (q:List Rg_),v=vA (l.take (i+1)) y c a.t_->q=(QO (l.take (i+1)) y c a.t_).filter Zi->Xm F i again v q=some r:=by
   rintro v q rfl rfl;unfold Xm
   refine Q9 (k:=?_);exact E _ ⟨i+1,rfl,g⟩ (by simp only;omega)
  have B:=Q3j (l.take i) (gl l i) y c a.t_ (gz h.asc g);have A:=Q7s (l.take i) (gl l i) y c a.t_
  rw [<-Qx g] at B A;have G:∀ w:List Rect,Zl y c (gl l i)=false->(⟨(gl l i).year_,(gl l i).c_,⟨w⟩⟩:Rg_)=YQ y a.t_ (gl l i)->BG F l (vA (l.take i) y c a.t_) i ((QO (l.take i) y c a.t_).filter Zi) again w=some r:=by
   intro w m O;unfold BG
   simp only [Int.toNat_natCast];have I:(QO (l.take (i+1)) y c a.t_).filter Zi=(QO (l.take i) y c a.t_).filter Zi++[(⟨(gl l i).year_,(gl l i).c_,⟨w⟩⟩:Rg_)].filter Zi:=by
    rw [A,if_neg (by rw [m];simp),List.filter_append,O]
   have H:vA (l.take i) y c a.t_=vA (l.take (i+1)) y c a.t_:=by rw [B,if_neg (by rw [m];simp)]
   refine Z6 (fun o=>?_) (fun o=>?_)
   .have o:w.length≠0:=by simp at o;omega
    refine Q9 (k:=?_);refine j _ _ H ?_
    rw [I];congr 1
    simp [Zi,o]
   .have o:w.length=0:=by simp at o;simp [o]
    refine j _ _ H ?_;rw [I]
    simp [Zi,o]
  refine Q9 (k:=?_);have J:∀ b:Bool,b=Zl y c (gl l i)->BH F l y a (vA (l.take i) y c a.t_) i ((QO (l.take i) y c a.t_).filter Zi) again b=some r:=by
   intro b K;unfold BH
   simp only [Int.toNat_natCast];refine Z6 (fun e=>?_) (fun e=>?_)
   .have m:Zl y c (gl l i)=true:=by rw [<-K,e]
    rw [Q3k _ y c a.t_ (gz h.asc g m)];refine Q3 (Sd s (by have:=ha.1;omega) (by have:=t.1;omega) ha.2.1 t.2.1) (j _ _ ?_ ?_)
    .rw [B,if_pos m]
     congr 1
     funext u v
     simp [z6,Bool.or_comm]
    .rw [A,if_pos m,List.append_nil]
   .have m:Zl y c (gl l i)=false:=by rw [<-K,e]
    refine Z6 (fun p=>?_) (fun p=>?_)
    .have p:(gl l i).year_=y:=by simpa using p
     refine Q3 (Sd s (by have:=t.1;omega) (by have:=ha.1;omega) t.2.1 ha.2.1) (G _ m ?_);unfold YQ;rw [if_pos p]
     simp [z6]
    .have p:¬ (gl l i).year_=y:=by simpa using p
     refine G _ m ?_;unfold YQ;rw [if_neg p]
  refine Z6 (fun e=>?_) (fun e=>?_)
  .have e:(gl l i).year_=y:=by simpa using e
   refine J _ ?_;unfold Zl
   rw [decide_eq_true e,Bool.true_and];rfl
  .have e:¬ (gl l i).year_=y:=by simpa using e
   refine J _ ?_;unfold Zl
   rw [decide_eq_false e,Bool.false_and]
 .have g:i=l.length:=by
   have:¬ i<l.length:=by simpa using g
   omega
  subst g;rw [List.take_length]
  exact hk
def Ud(f:Rg_):Int×Int:=(f.year_,f.c_)
theorem SE{f g:Rg_}:YB (Ud f) (Ud g)↔Qo f g=true:=by rw [VJ];unfold YB Ud;exact Iff.rfl
theorem Q1w{l:List Rg_}(h:l.Pairwise fun f g=>Qo f g=true)(r:Rg_):YR l r<=l.length/\(∀ j,j<YR l r->Qo (gl l j) r=true)/\∀ j,YR l r<=j->j<l.length->Qo (gl l j) r=false:=by
 induction l with
 | nil=>exact ⟨Nat.le_refl _,fun j i=>by simp [YR] at i,fun j _ i=>by simp at i⟩
 | cons f l ih=>
  obtain ⟨q,s⟩:=List.pairwise_cons.1 h;obtain ⟨a,b,c⟩:=ih s
  cases hf:Qo f r with
  | true=>
   have e:YR (f::l) r=YR l r+1:=by simp [YR,hf]
   rw [e];refine ⟨by simp;exact a,fun j i=>?_,fun j i o=>?_⟩
   .cases j with
    | zero=>exact hf
    | succ j=>exact b j (by omega)
   .cases j with
    | zero=>omega
    | succ j=>exact c j (by omega) (by simpa using o)
  | false=>
   have m:∀ g ∈ l,Qo g r=false:=fun g p=>by
    rw [<-Bool.not_eq_true];intro t
    rw [zl (q g p) t] at hf;cases hf
   have e:YR (f::l) r=0:=by
    unfold YR;rw [List.countP_eq_zero]
    intro g p;rcases List.mem_cons.1 p with rfl|p
    .rw [hf];simp
    .rw [m g p];simp
   rw [e];refine ⟨Nat.zero_le _,fun j i=>absurd i (Nat.not_lt_zero j),fun j _ o=>?_⟩
   cases j with
   | zero=>exact hf
   | succ j=>
    have i:j<l.length:=by simpa using o
    exact m _ (J7 i)
theorem Z0L(l:List Rg_)(r:Rg_):(XI l r).Perm (l++[r]):=by
 unfold XI;have b:(l.take (YR l r)++[r]++l.drop (YR l r)).Perm (l.take (YR l r)++(l.drop (YR l r)++[r])):=by
  rw [List.append_assoc];exact List.Perm.append_left _ List.perm_append_comm
 rw [<-List.append_assoc,List.take_append_drop] at b;exact b
theorem Z0M{l:List Rg_}(h:l.Pairwise fun f g=>Qo f g=true){r:Rg_}(hr:∀ f ∈ l,Ud f≠Ud r):(XI l r).Pairwise fun f g=>Qo f g=true:=by
 obtain ⟨a,b,c⟩:=Q1w h r;unfold XI
 generalize YR l r=k at *;have t:∀ f ∈ l.take k,Qo f r=true:=fun f e=>by
  obtain ⟨j,p,rfl⟩:=List.getElem_of_mem e;have i:j<k:=by rw [List.length_take] at p;omega
  have:=b j i
  rw [G8 (show j<l.length by omega)] at this;rw [List.getElem_take];exact this
 have s:∀ f ∈ l.drop k,Qo r f=true:=fun f e=>by
  obtain ⟨j,p,rfl⟩:=List.getElem_of_mem e;have i:k+j<l.length:=by rw [List.length_drop] at p;omega
  have o:=c (k+j) (by omega) i;rw [G8 i] at o
  rw [List.getElem_drop];have u:=hr _ (List.getElem_mem i)
  rcases bc u with q|q
  .rw [SE.1 q] at o;cases o
  .exact SE.1 q
 rw [List.pairwise_append,List.pairwise_append];refine ⟨⟨h.sublist (List.take_sublist _ _),List.pairwise_singleton _ _,fun f e g m=>?_⟩,h.sublist (List.drop_sublist _ _),fun f e g m=>?_⟩
 .rw [List.mem_singleton] at m;subst m;exact t f e
 .rcases List.mem_append.1 e with e|e
  .exact zl (t f e) (s g m)
  .rw [List.mem_singleton] at e;subst e;exact s g m
theorem XT(y:Int)(a:List Rect)(f:Rg_):Ud (YQ y a f)=Ud f:=by unfold YQ;split <;> rfl
theorem Q9T(y:Int)(a:List Rect)(f g:Rg_):Qo (YQ y a f) (YQ y a g)=Qo f g:=by
 rw [Bool.eq_iff_iff, <-SE, <-SE,XT,XT]
theorem Lx{l:List Rg_}(h:l.Pairwise fun f g=>Qo f g=true)(y c:Int)(a:List Rect):((QO l y c a).filter Zi).Pairwise fun f g=>Qo f g=true:=by
 refine List.Pairwise.filter _ ?_;unfold QO
 rw [List.pairwise_map];refine List.Pairwise.imp (fun {f g} hh=>?_) (List.Pairwise.filter _ h)
 rw [Q9T];exact hh
theorem Q7r{l:List Rg_}{y c:Int}{a v:List Rect}:∀ f ∈ (QO l y c a).filter Zi,Ud f≠Ud ⟨y,c,⟨v⟩⟩:=by
 intro f h e;have h:=(List.mem_filter.1 h).1
 unfold QO at h;obtain ⟨g,i,rfl⟩:=List.mem_map.1 h
 have b:=(List.mem_filter.1 i).2;rw [XT] at e
 unfold Ud at e;have j:g.year_=y:=congrArg Prod.fst e
 have m:g.c_=c:=congrArg Prod.snd e;unfold Zl at b
 simp [j,m] at b
theorem Z3z{l:List Rg_}(h:l.Pairwise fun f g=>Qo f g=true)(y c:Int)(a:List Rect):(YU l y c a).Pairwise fun f g=>Qo f g=true:=by
 unfold YU;split
 .exact Lx h y c a
 .exact Z0M (Lx h y c a) Q7r
theorem vr(l:List Rg_)(y c:Int)(a:List Rect):((QO l y c a++[(⟨y,c,⟨vA l y c a⟩⟩:Rg_)]).filter Zi).Perm (YU l y c a):=by
 rw [List.filter_append];unfold YU
 split
 .rename_i h
  have:[(⟨y,c,⟨vA l y c a⟩⟩:Rg_)].filter Zi=[]:=by simp [Zi,h]
  rw [this,List.append_nil]
 .rename_i h
  have:[(⟨y,c,⟨vA l y c a⟩⟩:Rg_)].filter Zi=[⟨y,c,⟨vA l y c a⟩⟩]:=by simp [Zi,h]
  rw [this];exact (Z0L _ _).symm
theorem gM(l:List Rg_)(y c:Int)(a:List Rect):(QO l y c a).length<=l.length:=by
 unfold QO;rw [List.length_map]
 exact List.length_filter_le _ _
theorem jw{F:Nat}(hF:Q7<=F){L:List Rg_}(hl:L.length<=201):BI F L=some (if WI L=true then ([],1) else (L,0)):=by
 unfold Q7 at hF;unfold BI
 refine Z6 (fun h=>?_) (fun h=>?_)
 .have h:200<L.length:=by have:=of_decide_eq_true h;omega
  rw [if_pos (by unfold WI;rw [decide_eq_true h,Bool.true_or])]
 .have h:¬ 200<L.length:=by have:=of_decide_eq_false h;omega
  refine K9 (fun z:Int=>∃ i:Nat,z=i/\i<=L.length/\∀ j,j<i->¬ 120<(gl L j).g_.t_.length) (fun z=>L.length-z.toNat) (fun g z o q=>?_) ⟨0,rfl,by omega,fun j e=>absurd e (Nat.not_lt_zero j)⟩ (by simp;omega);obtain ⟨i,rfl,r,m⟩:=o
  unfold jy;simp only [Int.toNat_natCast]
  refine Z6 (fun b=>?_) (fun b=>?_)
  .have b:i<L.length:=by simpa using b
   refine Q9 (k:=?_);refine Z6 (fun c=>?_) (fun c=>?_)
   .have c:120<(gl L i).g_.t_.length:=by have:=of_decide_eq_true c;omega
    rw [if_pos];unfold WI
    rw [Bool.or_eq_true];exact .inr (List.any_eq_true.2 ⟨_,J7 b,decide_eq_true c⟩)
   .have c:¬ 120<(gl L i).g_.t_.length:=by have:=of_decide_eq_false c;omega
    refine Q9 (k:=?_);refine q _ ⟨i+1,by omega,b,fun j e=>?_⟩ (by omega)
    rcases Nat.lt_or_ge j i with l|l
    .exact m j l
    .have:j=i:=by omega
     subst this;exact c
  .have b:i=L.length:=by
    have:¬ i<L.length:=by simpa using b
    omega
   subst b;rw [if_neg]
   .rfl
   .unfold WI
    rw [decide_eq_false h,Bool.false_or,JU (p:=fun f:Rg_=>decide (120<f.g_.t_.length)) fun j e=>decide_eq_false (m j e)];simp
theorem Q8p{F:Nat}(hF:Q7<=F){l:List Rg_}(h:HL l){y c:Int}{a:List Rect}:
  BF F y c (vA l y c a) ((QO l y c a).filter Zi)=some (if WI (YU l y c a)=true then ([],1) else (YU l y c a,0)):=by
 have r:=hF;unfold Q7 at hF
 have u:=h.len;have C:((QO l y c a).filter Zi).length<=200:=by
  have j:=gM l y c a;have f:=List.length_filter_le Zi (QO l y c a)
  omega
 have s:=Lx h.asc y c a;unfold BF YU
 generalize (QO l y c a).filter Zi=R at *;generalize vA l y c a=v at *
 refine Z6 (fun j=>?_) (fun j=>?_)
 .have j:v.length≠0:=by have:=of_decide_eq_true j;omega
  rw [if_neg j];obtain ⟨k1,k2,D⟩:=Q1w s ⟨y,c,⟨v⟩⟩
  unfold XI;generalize YR R ⟨y,c,⟨v⟩⟩=k at *
  refine K9 (fun z:Int=>∃ i:Nat,z=i/\i<=k) (fun z=>R.length-z.toNat) (fun p z A B=>?_) ⟨0,rfl,by omega⟩ (by simp;omega);obtain ⟨i,rfl,E⟩:=A
  have t:i=k->RP F y c v R (i:Int)=some (if WI (R.take k++[(⟨y,c,⟨v⟩⟩:Rg_)]++R.drop k)=true then ([],1) else (R.take k++[⟨y,c,⟨v⟩⟩]++R.drop k,0)):=by
   rintro rfl;unfold RP
   simp only [Int.toNat_natCast];refine Q8 (by omega) (Q8 (by omega) (Q8 (by simp only [Y5];omega) (Q8 (by simp only [Y5,List.length_cons,List.length_nil];omega) (Q8 (by omega) (Q8 (by omega) (Q8 (by simp only [Y5,List.length_cons,List.length_nil];omega) ?_))))))
   have e:((([]:List Rg_)++((R.drop 0).take i))++([(⟨y,c,(⟨v⟩:Re_)⟩:Rg_)]:List Rg_))++((R.drop (0+i)).take (R.length-i))=R.take i++[⟨y,c,⟨v⟩⟩]++R.drop i:=by
    rw [List.nil_append,List.drop_zero,Nat.zero_add,List.take_of_length_le (l:=R.drop i) (by rw [List.length_drop];omega)]
   rw [e];refine jw r ?_
   simp only [List.length_append,List.length_take,List.length_drop,List.length_cons,List.length_nil];omega
  have g:∀ b:Bool,(b=true↔i<R.length/\Qo (gl R i) ⟨y,c,⟨v⟩⟩=true)->KK F y c v R i p b=some (if WI (R.take k++[(⟨y,c,⟨v⟩⟩:Rg_)]++R.drop k)=true then ([],1) else (R.take k++[⟨y,c,⟨v⟩⟩]++R.drop k,0)):=by
   intro b w;unfold KK
   refine Z6 (fun f=>?_) (fun f=>?_)
   .obtain ⟨q,m⟩:=w.1 f
    have o:i<k:=by
     rcases Nat.lt_or_ge i k with o|o
     .exact o
     .rw [D i o q] at m;cases m
    refine Q9 (k:=?_);exact B _ ⟨i+1,by omega,o⟩ (by omega)
   .refine t ?_
    rcases Nat.lt_or_ge i k with o|o
    .have:=w.2 ⟨by omega,k2 i o⟩
     rw [f] at this;cases this
    .omega
  unfold jx;simp only [Int.toNat_natCast]
  refine Z6 (fun f=>?_) (fun f=>?_)
  .have f:i<R.length:=by simpa using f
   refine Q9 (k:=?_);refine Z6 (fun q=>?_) (fun q=>?_)
   .refine g _ ?_
    have q:=of_decide_eq_true q;rw [VJ];simp;omega
   .have q:=of_decide_eq_false q
    refine Q9 (k:=?_);refine Z6 (fun m=>?_) (fun m=>?_)
    .have m:(gl R i).year_=y:=by simpa using m
     refine Q9 (k:=?_);refine g _ ?_
     rw [VJ,decide_eq_true_eq];simp only;omega
    .have m:¬ (gl R i).year_=y:=by simpa using m
     refine g _ ?_;rw [VJ];simp;omega
  .have f:¬ i<R.length:=by simpa using f
   refine g _ ?_;simp;omega
 .have j:v.length=0:=by have:=of_decide_eq_false j;omega
  rw [if_pos j];exact jw r (by omega)
theorem Q8n{F:Nat}(hF:Q7<=F)(l:List Rg_)(y c:Int)(a:Re_):RQ F l y c a=some (addH l y c a):=by
 unfold RQ addH;refine Q3 (Q8l hF l) ?_
 refine Z6 (fun h=>?_) (fun h=>?_)
 .rw [if_pos (by simpa using h)]
 .have h:Zq l=0:=by simpa using h
  rw [if_neg (by simp [h]),Yd (BK F l y c a)];unfold BK
  refine Z6 (fun e=>by rw [if_pos (by simpa using e)]) (fun e=>?_);rw [if_neg (by simpa using e),Yd (BJ F l y c a)]
  unfold BJ;refine Z6 (fun f=>by rw [if_pos (by simpa using f)]) (fun f=>?_)
  rw [if_neg (by simpa using f)];refine Q3 (BR hF _) ?_
  refine Z6 (fun b=>by rw [if_pos (by simpa using b)]) (fun b=>?_);have b:Qn a.t_=true:=by simpa using b
  rw [if_neg (by rw [b];simp)];exact Q8o hF ((Cq l).1 h) ((Wj _).1 b) (Q8p hF ((Cq l).1 h))
theorem cX{a b:Re_}(h:∀ x y,Q4 a.t_ x y=true->Q4 b.t_ x y=true->False):Zo a b=false:=by
 by_cases ha:J2 a.t_
 .by_cases hb:J2 b.t_
  .exact cY ha hb h
  .unfold Zo
   have:Qn b.t_=false:=by rw [<-Bool.not_eq_true,Wj];exact hb
   rw [this];simp
 .unfold Zo
  have:Qn a.t_=false:=by rw [<-Bool.not_eq_true,Wj];exact ha
  rw [this];rfl
theorem zh{a b:Re_}(ha:J2 a.t_)(hb:J2 b.t_)(h:Zo a b=false):∀ x y,Q4 a.t_ x y=true->Q4 b.t_ x y=true->False:=by
 intro x y c e;unfold Zo at h
 rw [YX ha,YX hb,Bool.true_and,Bool.true_and] at h;have:=(qU ha.2.1 hb.2.1).2 ⟨x,y,c,e⟩
 rw [this] at h;cases h
theorem Z0S(a b:List Rect)(x y:Int):Q4 (a++b) x y=(Q4 a x y||Q4 b x y):=by
 rw [Bool.eq_iff_iff,Bool.or_eq_true,WQ,WQ,WQ];constructor
 .rintro ⟨r,c,h⟩
  rcases List.mem_append.1 c with c|c
  .exact .inl ⟨r,c,h⟩
  .exact .inr ⟨r,c,h⟩
 .rintro (⟨r,c,h⟩|⟨r,c,h⟩)
  .exact ⟨r,List.mem_append_left _ c,h⟩
  .exact ⟨r,List.mem_append_right _ c,h⟩
theorem DT(f:Rg_)(y:Int)(a:List Rect){u v:Int}(h:Q4 (YQ y a f).g_.t_ u v=true):Q4 f.g_.t_ u v=true/\(f.year_=y->Q4 a u v=false):=by
 unfold YQ at h;split at h
 .rename_i b
  simp only at h;rw [ZM (DA _ _),Bool.and_eq_true,Bool.not_eq_true'] at h
  exact ⟨h.1,fun _=>h.2⟩
 .rename_i b
  exact ⟨h,fun c=>absurd c b⟩
theorem xe{l:List Rg_}{y c:Int}{a:List Rect}{u v:Int}:Q4 (vA l y c a) u v=true↔Q4 a u v=true\/∃ f,l.find? (Zl y c)=some f/\Q4 f.g_.t_ u v=true:=by
 unfold vA;split
 .rename_i f b
  have:=Vn f.g_.t_ a 1
  simp only [z6,if_true] at this;rw [ZM this,Bool.or_eq_true]
  constructor
  .rintro (h|h)
   .exact .inr ⟨f,b,h⟩
   .exact .inl h
  .rintro (h|⟨g,hg,h⟩)
   .exact .inr h
   .rw [b] at hg;cases hg;exact .inl h
 .rename_i b
  constructor
  .exact fun h=>.inl h
  .rintro (h|⟨g,hg,h⟩)
   .exact h
   .rw [b] at hg;cases hg
theorem vt{l:List Rg_}{y c:Int}{a:List Rect}{f:Rg_}:f ∈ YU l y c a↔(f ∈ QO l y c a\/f=⟨y,c,⟨vA l y c a⟩⟩)/\f.g_.t_.length≠0:=by
 rw [<-(vr l y c a).mem_iff,List.mem_filter,List.mem_append,List.mem_singleton];unfold Zi
 simp
theorem gD(y c:Int)(f:Rg_):Zl y c f=true↔f.year_=y/\f.c_=c:=by unfold Zl;simp
theorem Rf{l:List Rg_}{y c:Int}{a:List Rect}{f:Rg_}:f ∈ QO l y c a↔∃ g ∈ l,Zl y c g=false/\f=YQ y a g:=by
 unfold QO;rw [List.mem_map]
 constructor
 .rintro ⟨g,b,rfl⟩
  have:=List.mem_filter.1 b
  exact ⟨g,this.1,by simpa using this.2,rfl⟩
 .rintro ⟨g,b,e,rfl⟩
  exact ⟨g,List.mem_filter.2 ⟨b,by simpa using e⟩,rfl⟩
theorem Q3t{l:List Rg_}(h:WI l=false):l.length<=200/\∀ f ∈ l,f.g_.t_.length<=120:=by
 unfold WI at h;rw [Bool.or_eq_false_iff] at h
 refine ⟨by have:=of_decide_eq_false h.1;omega,fun f b=>?_⟩;have:=List.any_eq_false.1 h.2 f b
 simp at this;exact this
theorem HL.apart{l:List Rg_}(h:HL l){f g:Rg_}(hf:f ∈ l)(hg:g ∈ l)(hy:f.year_=g.year_)(hc:f.c_≠g.c_):∀ x y,Q4 f.g_.t_ x y=true->Q4 g.g_.t_ x y=true->False:=by
 obtain ⟨i,e,rfl⟩:=List.getElem_of_mem hf;obtain ⟨j,c,rfl⟩:=List.getElem_of_mem hg
 have m:=List.pairwise_iff_getElem.1 h.nx;rcases Nat.lt_trichotomy i j with b|b|b
 .exact zh (h.val hf) (h.val hg) (m i j e c b hy)
 .subst b;exact absurd rfl hc
 .exact fun x y o p=>zh (h.val hg) (h.val hf) (m j i c e b hy.symm) x y p o
theorem HL.add{l:List Rg_}(h:HL l){y c:Int}(hy:0<=y/\y<=100)(hc:0<=c/\c<40){a:List Rect}(ha:J2 a)(ht:WI (YU l y c a)=false):HL (YU l y c a):=by
 obtain ⟨W,S⟩:=Q3t ht;have Q:∀ g ∈ l,∀ x D,Q4 (YQ y a g).g_.t_ x D=true->Q4 g.g_.t_ x D=true:=fun g _ x D q=>(DT g y a q).1
 refine ⟨W,fun f s=>?_,Z3z h.asc y c a,?_⟩
 .have b:=S f s
  obtain ⟨s,o⟩:=vt.1 s;rcases s with s|rfl
  .obtain ⟨g,t,J,rfl⟩:=Rf.1 s
   obtain ⟨g1,U,V,X,g5,Y⟩:=(KO g).1 (h.one g t);unfold YQ at o b ⊢
   split at o <;> rename_i w
   .rw [if_pos w] at b ⊢
    rw [KO];simp only at b o ⊢
    exact ⟨g1,U,V,X,o,Q0d (UT (DA _ _)) b Y.2.1 fun u v q=>by rw [ZM (DA _ _),Bool.and_eq_true] at q;exact q.1⟩
   .rw [if_neg w];exact h.one g t
  .rw [KO]
   simp only at b o ⊢;refine ⟨hy.1,hy.2,hc.1,hc.2,o,?_⟩
   unfold vA at b o ⊢;split at o <;> rename_i O
   .rename_i g
    rw [O] at b;simp only at b
    have p:=Vn g.g_.t_ a 1;simp only [z6,if_true] at p
    refine Q0d (UT p) b (a:=g.g_.t_++a) (fun r B=>?_) fun u v q=>?_
    .rcases List.mem_append.1 B with B|B
     .exact (h.val (List.mem_of_find?_eq_some O)).2.1 r B
     .exact ha.2.1 r B
    .rw [ZM p] at q
     rw [Z0S];exact q
   .exact ha
 .unfold NX
  have A:∀ {f g:Rg_},(f.year_=g.year_->Zo f.g_ g.g_=false)->(g.year_=f.year_->Zo g.g_ f.g_=false):=fun {f g} q m=>by rw [Q9J];exact q m.symm
  refine ((vr l y c a).pairwise_iff A).1 (List.Pairwise.filter _ ?_);rw [List.pairwise_append]
  refine ⟨?_,List.pairwise_singleton _ _,fun f s g t m=>?_⟩
  .unfold QO
   rw [List.pairwise_map,List.pairwise_filter];have hn:=List.pairwise_iff_getElem.1 h.nx
   rw [List.pairwise_iff_getElem];intro i j P N E _ _ m
   have e:∀ f:Rg_,(YQ y a f).year_=f.year_:=fun f=>congrArg Prod.fst (XT y a f)
   rw [e,e] at m;have:=zh (h.val (List.getElem_mem P)) (h.val (List.getElem_mem N)) (hn i j P N E m)
   exact cX fun u v I K=>this u v (DT _ y a I).1 (DT _ y a K).1
  .rw [List.mem_singleton] at t
   subst t;obtain ⟨g,t,J,rfl⟩:=Rf.1 s
   have e:(YQ y a g).year_=g.year_:=congrArg Prod.fst (XT y a g);rw [e] at m
   simp only at m;refine cX fun u v I K=>?_
   obtain ⟨T,Z⟩:=DT _ y a I;rcases xe.1 K with C|⟨k,M,C⟩
   .rw [Z m] at C;cases C
   .have H:=List.mem_of_find?_eq_some M
    have z:=(gD y c k).1 (List.find?_some M);refine h.apart t H (by rw [m,z.1]) (fun G=>?_) u v T C
    rw [<-Bool.not_eq_true,gD] at J;exact J ⟨m,by rw [G,z.2]⟩
theorem HL.nil:HL []:=⟨by simp,fun f b=>by simp at b,.nil,.nil⟩
end
end Go.Ab
