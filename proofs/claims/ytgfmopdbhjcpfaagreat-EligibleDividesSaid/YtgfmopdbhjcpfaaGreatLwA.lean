/- What the plain programs compute, up to the law itself. -/
import Derived.Test.YtgfmopdbhjcpfaaGreatPuB
set_option linter.unusedVariables false
set_option linter.unusedSimpArgs false
set_option maxRecDepth 20000
namespace Go.Ab
noncomputable section
def put:List Int->Int->List Int
 | [],n=>[n]
 | a::l,n=>if a<n then a::put l n else if a=n then a::l else n::a::l
theorem W2W(n:Int)(l:List Int)(i:Nat)(h:i<l.length)(hlt:gl l i<n):put (l.drop i) n=gl l i::put (l.drop (i+1)) n:=by
 rw [Q1P h,put,if_pos hlt]
theorem Z1r{F:Nat}(hF:BIG<=F){l:List Int}(hl:l.length<=1048576)(n:Int):Q9a F l n=some (put l n):=by
 unfold BIG at hF;unfold Q9a
 refine Y8 (fun z:Int=>∃ i:Nat,z=i/\i<=l.length/\put l n=l.take i++put (l.drop i) n) (fun z=>l.length-z.toNat) (fun d z f e=>?_) ⟨0,rfl,by simp,by simp⟩ (by simp;omega);obtain ⟨i,rfl,j,b⟩:=f
 have k2:(∀ h:i<l.length,n<=gl l i)->Z1s F l n (i:Int)=some (put l n):=by
  intro c;unfold Z1s
  refine Q6 (fun h=>?_) (fun h=>?_)
  .have h:i<l.length:=by simpa using h
   have c:=c h;refine Z3 (k:=?_)
   unfold Q8k;rw [Q1P h,put] at b
   refine Q6 (fun a=>?_) (fun a=>?_)
   .have a:gl l i=n:=by simpa using a
    rw [b,if_neg (by omega),if_pos a, <-Q1P h,List.take_append_drop]
   .have a:gl l i≠n:=by simpa using a
    repeat (refine Z3 (k:=?_))
    rw [b,if_neg (by omega),if_neg a, <-Q1P h];simp
  .have h:¬ i<l.length:=by simpa using h
   unfold Q8k;refine Q5 rfl ?_
   repeat (refine Z3 (k:=?_))
   have:i=l.length:=by omega
   subst this;simp [put] at b
   simp [b]
 unfold Z9u;refine Q6 (fun h=>?_) (fun h=>?_)
 .have h:i<l.length:=by simpa using h
  refine Z3 (k:=?_);unfold Q8l
  refine Q6 (fun a=>?_) (fun a=>?_)
  .have a:gl l i<n:=by simpa using a
   refine Z3 (k:=?_);refine e _ ⟨i+1,by omega,h,?_⟩ (by omega)
   rw [b,W2W n l i h a,Q0c h,List.append_assoc];rfl
  .exact k2 fun _=>by simpa using a
 .unfold Q8l
  exact Q5 rfl (k2 fun g=>absurd g (by simpa using h))
def Q1j(r:Rect):Bool:=decide (0<=r.L_)&&(decide (r.L_<r.R_)&&(decide (r.R_<=16384)&&(decide (0<=r.w_)&&(decide (r.w_<r.H_)&&decide (r.H_<=16384)))))
theorem Q0b(r:Rect):Q1j r=true↔0<=r.L_/\r.L_<r.R_/\r.R_<=16384/\0<=r.w_/\r.w_<r.H_/\r.H_<=16384:=by simp [Q1j]
theorem Z5d(F:Nat)(r:Rect):Q5T F r=some (Q1j r):=by
 unfold Q5T;rw [Q4g (K2 F),Q4g (K2 F),Q4g (K2 F),Q4g (K2 F),Q4g (K2 F)]
 rfl
def Q0j(a b:Bool)(how:Int):Bool:=if how=1 then a||b else if how=2 then a&&b else a && !b
theorem Y3M(F:Nat)(a b:Bool)(how:Int):Z4v F a b how=some (Q0j a b how):=by
 unfold Z4v Q0j;rw [W0P,W0P]
 by_cases h1:how=1
 .subst h1;cases a <;> cases b <;> rfl
 .by_cases h2:how=2
  .subst h2;cases a <;> cases b <;> rfl
  .have c:(how==1)=false:=by simpa using h1
   have d:(how==2)=false:=by simpa using h2
   rw [c,d,if_neg h1,if_neg h2]
   cases a <;> cases b <;> rfl
theorem Z5e{F:Nat}(hF:BIG<=F){l:List Rect}(hl:l.length<=LIM)(x y:Int):Q8e F l x y=some (inR l x y):=by
 unfold BIG at hF;unfold LIM at hl
 unfold Q8e;refine Y5V (l:=l) (fun m=>some (inR m x y)) (fun a i b d=>?_) (fun a=>?_) (by omega)
 .unfold Z0C
  refine Z4 (Z0E b) ?_;refine Z3 (k:=?_)
  rw [Q4g (Q0A F i a),Q4g (Q0A F i a),Q4g (Q0A F i a)];unfold Q0A
  have e:inR (gl l i::l.drop (i+1)) x y=((gl l i).has x y||inR (l.drop (i+1)) x y):=rfl;rw [e]
  have c:(decide ((gl l i).L_<=x)&&(decide (x<(gl l i).R_)&&(decide ((gl l i).w_<=y)&&decide (y<(gl l i).H_))))=(gl l i).has x y:=by
   simp only [Rect.has,Bool.and_assoc]
  show br (decide ((gl l i).L_<=x)&&(decide (x<(gl l i).R_)&&(decide ((gl l i).w_<=y)&&decide (y<(gl l i).H_)))) _ _=_;rw [c]
  refine Q6 (fun h=>by rw [h];rfl) (fun h=>?_);refine Z3 (k:=?_)
  rw [d,h,Bool.false_or]
 .unfold Z0C
  exact Q5 (Q3g _) rfl
def Z5M:List Rect->List Rect->Bool
 | [],[]=>true
 | a::l,b::m=>(a.L_==b.L_&&a.R_==b.R_)&&Z5M l m
 | _,_=>false
theorem Y4k:∀ {l m:List Rect},Z5M l m=true->l.length=m.length
 | [],[],_=>rfl
 | [],_::_,h=>by cases h
 | _::_,[],h=>by cases h
 | a::l,b::m,h=>by
  simp only [Z5M,Bool.and_eq_true] at h;simp [Y4k h.2]
theorem Y6V:∀ (l m:List Rect),l.length=m.length->∀ i,i<=l.length->Z5M (l.drop i) (m.drop i)=if h:i<l.length then (((gl l i).L_==(gl m i).L_&&(gl l i).R_==(gl m i).R_)&&Z5M (l.drop (i+1)) (m.drop (i+1))) else true:=by
 intro l m h i b;split
 .rename_i a
  rw [Q1P a,Q1P (l:=m) (by omega)];rfl
 .have:i=l.length:=by omega
  rw [List.drop_of_length_le (by omega),List.drop_of_length_le (by omega)];rfl
theorem Y3L{F:Nat}(hF:BIG<=F){l m:List Rect}(hl:l.length<=LIM):Z4u F l m=some (Z5M l m):=by
 unfold BIG at hF;unfold LIM at hl
 unfold Z4u;refine Q6 (fun h=>?_) (fun h=>?_)
 .have h:l.length≠m.length:=by simp at h;omega
  cases hs:Z5M l m with
  | false=>rfl
  | true=>exact absurd (Y4k hs) h
 .have h:l.length=m.length:=by simp at h;omega
  refine Y8 (fun z:Int=>∃ i:Nat,z=i/\i<=l.length/\Z5M l m=Z5M (l.drop i) (m.drop i)) (fun z=>l.length-z.toNat) (fun f z n j=>?_) ⟨0,rfl,by simp,by simp⟩ (by simp;omega);obtain ⟨i,rfl,g,a⟩:=n
  rw [Y6V l m h i g] at a;unfold Z7X
  refine Q6 (fun b=>?_) (fun b=>?_)
  .have b:i<l.length:=by simpa using b
   rw [dif_pos b] at a;refine Z3 (k:=?_)
   refine Z3 (k:=?_);have o:i<m.length:=by omega
   refine Q6 (fun d=>?_) (fun d=>?_)
   .unfold Q6A
    refine Z4 rfl ?_;have d:(gl l i).L_≠(gl m i).L_:=by simpa using d
    have e:((gl l i).L_==(gl m i).L_)=false:=by simpa using d
    rw [a,e];rfl
   .repeat (refine Z3 (k:=?_))
    have d:(gl l i).L_=(gl m i).L_:=by simpa using d
    have e:((gl l i).L_==(gl m i).L_)=true:=by simpa using d
    rw [e,Bool.true_and] at a;unfold Q6A
    refine Q6 (fun c=>?_) (fun c=>?_)
    .have c:(gl l i).R_≠(gl m i).R_:=by simpa using c
     have e:((gl l i).R_==(gl m i).R_)=false:=by simpa using c
     rw [a,e];rfl
    .have c:(gl l i).R_=(gl m i).R_:=by simpa using c
     have e:((gl l i).R_==(gl m i).R_)=true:=by simpa using c
     rw [e,Bool.true_and] at a;refine Z3 (k:=?_)
     exact j _ ⟨i+1,by omega,b,a⟩ (by omega)
  .have b:¬ i<l.length:=by simpa using b
   rw [dif_neg b] at a;rw [a];rfl
section
theorem Y5c(l:List Int)(n v:Int):v ∈ put l n↔v=n\/v ∈ l:=by
 induction l with
 | nil=>simp [put]
 | cons a l ih=>
  unfold put;split
  .rw [List.mem_cons,ih,List.mem_cons]
   constructor
   .rintro (h|h|h);exact .inr (.inl h);exact .inl h;exact .inr (.inr h)
   .rintro (h|h|h);exact .inr (.inl h);exact .inl h;exact .inr (.inr h)
  .split
   .rename_i h;subst h
    rw [List.mem_cons];constructor
    .intro h;exact .inr h
    .rintro (h|h);exact .inl h;exact h
   .rw [List.mem_cons]
theorem Y8w{l:List Int}(h:Asc l)(n:Int):Asc (put l n):=by
 induction l with
 | nil=>exact List.pairwise_singleton _ _
 | cons a l ih=>
  obtain ⟨d,e⟩:=List.pairwise_cons.1 h;unfold put
  split
  .rename_i c
   refine List.pairwise_cons.2 ⟨fun v b=>?_,ih e⟩;rcases (Y5c l n v).1 b with rfl|b
   .exact c
   .exact d v b
  .split
   .exact h
   .refine List.pairwise_cons.2 ⟨fun v b=>?_,h⟩
    rcases List.mem_cons.1 b with rfl|b
    .omega
    .have:=d v b;omega
theorem Z7e(l:List Int)(n:Int):(put l n).length<=l.length+1:=by
 induction l with
 | nil=>simp [put]
 | cons a l ih=>
  unfold put;split
  .simp;omega
  .split <;> simp
def Q7B(l:List Rect)(xs:List Int):List Int:=l.foldl (fun xs r=>put (put xs r.L_) r.R_) xs
def Z0J(l:List Rect)(ys:List Int):List Int:=l.foldl (fun ys r=>put (put ys r.w_) r.H_) ys
theorem Q8w{f g:Rect->Int}(l:List Rect):∀ {xs:List Int},Asc xs->Asc (l.foldl (fun xs r=>put (put xs (f r)) (g r)) xs):=by
 induction l with
 | nil=>intro xs h;exact h
 | cons r l ih=>intro xs h;exact ih (Y8w (Y8w h _) _)
theorem Q0K{f g:Rect->Int}(l:List Rect):∀ (xs:List Int) (v:Int),v ∈ l.foldl (fun xs r=>put (put xs (f r)) (g r)) xs↔v ∈ xs\/∃ r ∈ l,v=f r\/v=g r:=by
 induction l with
 | nil=>intro xs v;simp
 | cons r l ih=>
  intro xs v;rw [List.foldl_cons,ih,Y5c,Y5c]
  constructor
  .rintro ((h|h|h) | ⟨q,a,h⟩)
   .exact .inr ⟨r,by simp,.inr h⟩
   .exact .inr ⟨r,by simp,.inl h⟩
   .exact .inl h
   .exact .inr ⟨q,by simp [a],h⟩
  .rintro (h|⟨q,a,h⟩)
   .exact .inl (.inr (.inr h))
   .rcases List.mem_cons.1 a with rfl|a
    .rcases h with h|h
     .exact .inl (.inr (.inl h))
     .exact .inl (.inl h)
    .exact .inr ⟨q,a,h⟩
theorem Z7p{f g:Rect->Int}(l:List Rect):∀ (xs:List Int),(l.foldl (fun xs r=>put (put xs (f r)) (g r)) xs).length<=xs.length+2*l.length:=by
 induction l with
 | nil=>intro xs;simp
 | cons r l ih=>
  intro xs;have c:=ih (put (put xs (f r)) (g r))
  have b:=Z7e (put xs (f r)) (g r);have a:=Z7e xs (f r)
  simp only [List.foldl_cons,List.length_cons];omega
section
variable {F:Nat}
theorem Y8q(hF:BIG<=F){a b l:List Rect}{v:Int}(hv:0<=v/\v<=1)(hl:gl [a,b] v.toNat=l){ag:(List Int×List Int×Int)->Option (List Rect)}{y:Option (List Rect)}{xs ys:List Int}(hx:xs.length+2*l.length<=1000000)(hy:ys.length+2*l.length<=1000000)(h:ag (Q7B l xs,Z0J l ys,v+1)=y):Z2 (fun again (z:List Int×List Int×Int)=>Q8Z F a b v ag again z.1 z.2.1 z.2.2) F (xs,ys,0)=y:=by
 have d:=hF;unfold BIG at hF
 refine Y8 (fun z:List Int×List Int×Int=>∃ j:Nat,z.2.2=j/\j<=l.length/\Q7B (l.drop j) z.1=Q7B l xs/\Z0J (l.drop j) z.2.1=Z0J l ys/\z.1.length+2*(l.length-j)<=1000000/\z.2.1.length+2*(l.length-j)<=1000000)
  (fun z=>l.length-z.2.2.toNat) (fun again z o q=>?_) ⟨0,rfl,by omega,by simp,by simp,by simpa using hx,by simpa using hy⟩ (by simp;omega)
 obtain ⟨i,g,t⟩:=z;obtain ⟨j,m,p,f,e,r,n⟩:=o
 simp only at m f e r n;subst m
 unfold Q8Z;simp only [hl,Int.toNat_natCast]
 refine Q6 (fun c=>?_) (fun c=>?_)
 .have c:j<l.length:=by simpa using c
  refine Z3 (k:=?_);have x:=Z7e i (gl l j).L_
  have w:=Z7e (put i (gl l j).L_) (gl l j).R_;have u:=Z7e g (gl l j).w_
  have s:=Z7e (put g (gl l j).w_) (gl l j).H_;refine Q2 (Z1r d (by omega) _) ?_
  refine Q2 (Z1r d (by omega) _) ?_;refine Q2 (Z1r d (by omega) _) ?_
  refine Q2 (Z1r d (by omega) _) ?_;refine Z3 (k:=?_)
  refine q _ ⟨j+1,rfl,by omega,?_,?_,by simp only;omega,by simp only;omega⟩ (by simp only;omega)
  .rw [<-f,Q1P c];rfl
  .rw [<-e,Q1P c];rfl
 .have c:¬ j<l.length:=by simpa using c
  have:j=l.length:=by omega
  subst this;rw [List.drop_length] at f e
  unfold Q8X;refine Z3 (k:=?_)
  have f:i=Q7B l xs:=f;have e:g=Z0J l ys:=e
  rw [f,e];exact h
theorem Y0J(lo hi:Int):J9 ⟨lo,hi,[]⟩=[]:=rfl
theorem Z7l(lo hi:Int)(l:List Span)(s:Span):J9 ⟨lo,hi,l++[s]⟩=J9 ⟨lo,hi,l⟩++[⟨s.L_,lo,s.R_,hi⟩]:=by simp [J9]
theorem Q0I(b:Rn (List Span)):(J9 b).length=b.v.length:=by simp [J9]
theorem Z4D{α:Type}[Emb α](l:List α)(x:α){n:Nat}(h:n=l.length):gl (l++[x]) n=x:=by subst h;simp [gl,List.getD_eq_getElem?_getD]
theorem Z9d{α:Type}(l:List α)(x y:α){n:Nat}(h:n=l.length):(l++[x]).set n y=l++[y]:=by subst h;simp
theorem W0H(hF:BIG<=F){xs ys:List Int}{i k:Nat}{m:List Rect}{r:Rect}{ag:(Int×List Rect)->Option (List Rect)}{y:Option (List Rect)}(hk:k+1<xs.length)(hx:xs.length<=65536)(hm:m.length<=65536)(h:ag ((k:Int)+1,m++[⟨r.L_,r.w_,gl xs (k+1),r.H_⟩])=y):Q0H F xs ys i k (m++[r]) ag true=y:=by
 unfold BIG at hF;unfold Q0H
 refine Z4 rfl ?_;have b:(m++[r]).length=m.length+1:=by simp
 simp only [b];have a:(((m.length+1:Nat):Int)-1).toNat=m.length:=by omega
 have c:((k:Int)+1).toNat=k+1:=by omega
 rw [a,Z4D _ _ rfl,Z9d _ _ _ rfl,c]
 repeat (refine Z3 (k:=?_))
 exact h
theorem W0I(hF:BIG<=F){xs ys:List Int}{i k:Nat}{m:List Rect}{ag:(Int×List Rect)->Option (List Rect)}{y:Option (List Rect)}(hk:k+1<xs.length)(hi:i+1<ys.length)(hx:xs.length<=65536)(hy:ys.length<=65536)(hm:m.length<=65536)(h:ag ((k:Int)+1,m++[⟨gl xs k,gl ys i,gl xs (k+1),gl ys (i+1)⟩])=y):Q0H F xs ys i k m ag false=y:=by
 unfold BIG at hF;unfold Q0H
 refine Q5 rfl ?_;have b:((k:Int)+1).toNat=k+1:=by omega
 have a:((i:Int)+1).toNat=i+1:=by omega
 rw [b,a];simp only [Int.toNat_natCast]
 repeat (refine Z3 (k:=?_))
 exact h
theorem W2s(hF:BIG<=F){a b:List Rect}{how:Int}{xs ys:List Int}{i:Nat}(hi:i+1<ys.length)(hx:xs.length<=65536)(hy:ys.length<=65536)(ha:a.length<=LIM)(hb:b.length<=LIM)(hst:Step false xs fun x=>Q0j (inR a x (gl ys i)) (inR b x (gl ys i)) how){out last:List Rect}{ag:(Int×List Rect×List Rect)->Option (List Rect)}{y:Option (List Rect)}(h:∀ l:List Span,SpOk l->(∀ x,inS l x=Q0j (inR a x (gl ys i)) (inR b x (gl ys i)) how)->l.length<=65536->Q3C F ys i out last ag (J9 ⟨gl ys i,gl ys (i+1),l⟩)=y):
  Z2 (fun again (z:Int×List Rect)=>Q8Y F a b how xs ys i out last ag again z.1 z.2) F (0,[])=y:=by
 have j:=hF;unfold BIG at hF
 refine Y8 (fun z:Int×List Rect=>∃ (k:Nat) (l:List Span),z=((k:Int),J9 ⟨gl ys i,gl ys (i+1),l⟩)/\l.length<=k/\(k+1<=xs.length\/k=0)/\(0<xs.length->Bst false (fun x=>Q0j (inR a x (gl ys i)) (inR b x (gl ys i)) how) (l.map Span.rn) (gl xs k)))
  (fun z=>xs.length-z.1.toNat) (fun again z G v=>?_) ⟨0,[],rfl,Nat.le_refl _,.inr rfl,fun A=>hst.start A⟩ (by simp;omega)
 obtain ⟨k,l,rfl,E,K,f⟩:=G;simp only at v ⊢
 unfold Q8Y;refine Z3 (k:=?_)
 refine Q6 (fun c=>?_) (fun c=>?_)
 .have c:k+1<xs.length:=by simp at c;omega
  have f:=f (by omega);have p:=hst.asc.at_lt (show k<k+1 by omega) c
  simp only [Int.toNat_natCast]
  repeat (refine Z3 (k:=?_))
  refine Q2 (Z5e j ha _ _) ?_
  repeat (refine Z3 (k:=?_))
  refine Q2 (Z5e j hb _ _) ?_;refine Q2 (Y3M _ _ _ _) ?_
  have e:=hst.gap k c;refine Q6 (fun m=>?_) (fun m=>?_)
  .have m:Q0j (inR a (gl xs k) (gl ys i)) (inR b (gl xs k) (gl ys i)) how=false:=by simpa using m
   unfold Q3D;refine Z3 (k:=?_)
   exact v _ ⟨k+1,l,rfl,by omega,.inl (by omega),fun _=>f.skip (by omega) fun t B D=>(e t B D).trans m⟩ (by simp only;omega)
  .have m:Q0j (inR a (gl xs k) (gl ys i)) (inR b (gl xs k) (gl ys i)) how=true:=by simpa using m
   have d:(∀ s,l.getLast?=some s->s.R_≠gl xs k)->Q0H F xs ys i k (J9 ⟨gl ys i,gl ys (i+1),l⟩) again false=y:=by
    intro w;refine W0I j c hi hx hy (by rw [Q0I];simp only;omega) (v _ ⟨k+1,l++[⟨gl xs k,gl xs (k+1)⟩],by rw [Z7l];rfl,by simp;omega,.inl (by omega),fun _=>?_⟩ (by simp only;omega))
    have:=f.add p e (fun q n H=>by
     rw [List.getLast?_map] at n
     cases g:l.getLast? with
     | none=>rw [g] at n;cases n
     | some s=>rw [g] at n;cases n;exact absurd H (w s g))
    simp only [m] at this;rw [List.map_append];exact this
   rcases List.eq_nil_or_concat l with rfl|⟨o,s,r⟩
   .refine Q5 (by simp [Y0J]) ?_
    exact d fun s g=>by simp at g
   .rw [List.concat_eq_append] at r
    subst r;rw [Z7l] at d ⊢
    have u:(J9 ⟨gl ys i,gl ys (i+1),o⟩++[(⟨s.L_,gl ys i,s.R_,gl ys (i+1)⟩:Rect)]).length=o.length+1:=by simp [Q0I]
    have J:o.length+1<=k:=by simpa using E
    simp only [u];have I:(((o.length+1:Nat):Int)-1).toNat=o.length:=by omega
    rw [I,Z4D _ _ (by rw [Q0I])];refine Z4 (by simp) ?_
    repeat (refine Z3 (k:=?_))
    by_cases g:s.R_=gl xs k
    .have C:(s.R_==gl xs k)=true:=by simpa using g
     simp only [C];refine W0H j c hx (by rw [Q0I];simp only;omega) (v _ ⟨k+1,o ++ [⟨s.L_,gl xs (k+1)⟩],by rw [Z7l];rfl,by simp only [List.length_append,List.length_cons,List.length_nil];omega,.inl (by omega),fun _=>?_⟩ (by simp only;omega))
     rw [List.map_append] at f;have:=f.grow (a:=s.rn) g p fun t B D=>(e t B D).trans m
     rw [List.map_append];exact this
    .have C:(s.R_==gl xs k)=false:=by simpa using g
     simp only [C];exact d fun q n=>by simp at n;subst n;exact g
 .have c:¬ k+1<xs.length:=by simp at c;omega
  by_cases A:xs.length=0
  .have:k=0:=by omega
   subst this;have:l=[]:=List.eq_nil_of_length_eq_zero (by omega)
   subst this;exact h [] .nil (fun x=>(hst.empty A x).symm) (by simp)
  .have f:=f (by omega)
   exact h l (.of_runs f.runs) (fun x=>by rw [Z7h];exact hst.done (by omega) f x) (by omega)
theorem W3c{α:Type}[Emb α](l m:List α)(x:α){n:Nat}(h:n=l.length):gl (l++x::m) n=x:=by subst h;simp [gl,List.getD_eq_getElem?_getD]
theorem W1H{α:Type}(l m:List α)(x y:α){n:Nat}(h:n=l.length):(l++x::m).set n y=l++y::m:=by subst h;simp
theorem W0J(hF:BIG<=F){ys:List Int}{i:Nat}(hi:i+1<ys.length)(hy:ys.length<=65536){out:List Rect}{lo hi' : Int}{l:List Span}(hl:l.length<=65536){ag:(Int×List Rect×List Rect)->Option (List Rect)}{y:Option (List Rect)}(h:ag ((i:Int)+1,out,J9 ⟨lo,gl ys (i+1),l⟩)=y):
  Z2 (fun again (z:Int×List Rect)=>Q8h F ys i out (J9 ⟨lo,hi',l⟩) ag again z.1 z.2) F (0,J9 ⟨lo,hi',l⟩)=y:=by
 unfold BIG at hF;refine Y8 (fun z:Int×List Rect=>∃ j:Nat,z=((j:Int),J9 ⟨lo,gl ys (i+1),l.take j⟩++J9 ⟨lo,hi',l.drop j⟩)/\j<=l.length) (fun z=>l.length-z.1.toNat) (fun again z m c=>?_) ⟨0,by simp [J9],by omega⟩ (by simp;omega)
 obtain ⟨j,rfl,n⟩:=m;simp only at c ⊢
 have e:((i:Int)+1).toNat=i+1:=by omega
 unfold Q8h;rw [Q0I]
 simp only
 refine Q6 (fun a=>?_) (fun a=>?_)
 .have a:j<l.length:=by simpa using a
  refine Z3 (k:=?_);refine Z3 (k:=?_)
  have f:l.drop j=l[j]::l.drop (j+1):=List.drop_eq_getElem_cons a;have b:(J9 ⟨lo,gl ys (i+1),l.take j⟩++J9 ⟨lo,hi',l.drop j⟩).length=l.length:=by
   rw [List.length_append,Q0I,Q0I];simp;omega
  refine Q7 (by rw [b];omega) ?_;refine Z3 (k:=?_)
  rw [e];simp only [Int.toNat_natCast]
  have g:J9 ⟨lo,hi',l.drop j⟩=(⟨(l[j]).L_,lo,(l[j]).R_,hi'⟩:Rect)::J9 ⟨lo,hi',l.drop (j+1)⟩:=by rw [f];rfl
  have d:j=(J9 ⟨lo,gl ys (i+1),l.take j⟩).length:=by rw [Q0I];simp;omega
  rw [g,W3c _ _ _ d,W1H _ _ _ _ d];refine c _ ⟨j+1,?_,a⟩ (by simp only;omega)
  rw [List.take_succ_eq_append_getElem a,Z7l];simp
 .have a:¬ j<l.length:=by simpa using a
  have:j=l.length:=by omega
  subst this;unfold Q8g Q2Q
  refine Z3 (k:=?_);rw [List.take_length,List.drop_length,Y0J,List.append_nil]
  exact h
structure RowSt (rowf:Int->List Span) (c:Int) (n:Nat) (out last:List Rect):Prop where
 ex:∃ acc,Bst [] rowf acc c/\(∀ r ∈ acc,r.v≠[])/\((last=[]/\out=flat acc/\∀ r ∈ acc,r.hi<c)\/∃ acc' b,acc=acc' ++ [b]/\b.hi=c/\last=J9 b/\out=flat acc' /\ b.v.length<=65536)
 len:out.length+last.length<=n*65536
theorem Y6n(a b:List (Rn (List Span))):flat (a++b)=flat a++flat b:=by simp [flat]
theorem Y6l(b:Rn (List Span)):flat [b]=J9 b:=by simp [flat]
theorem Y0Y(lo hi lo' hi' : Int):∀ (l m:List Span),Z5M (J9 ⟨lo,hi,l⟩) (J9 ⟨lo',hi',m⟩)=decide (l=m)
 | [],[]=>rfl
 | [],b::m=>rfl
 | a::l,[]=>rfl
 | a::l,b::m=>by
  have i:=Y0Y lo hi lo' hi' l m;have g:J9 ⟨lo,hi,a::l⟩=(⟨a.L_,lo,a.R_,hi⟩:Rect)::J9 ⟨lo,hi,l⟩:=rfl
  have f:J9 ⟨lo',hi',b::m⟩=(⟨b.L_,lo',b.R_,hi'⟩:Rect)::J9 ⟨lo',hi',m⟩:=rfl;rw [g,f,Z5M,i]
  cases a;cases b
  rw [Bool.eq_iff_iff];constructor
  .intro h
   rw [Bool.and_eq_true,Bool.and_eq_true] at h;obtain ⟨⟨d,c⟩,e⟩:=h
   have d:=eq_of_beq d;have c:=eq_of_beq c
   have e:=of_decide_eq_true e;simp only at d c
   rw [d,c,e];exact decide_eq_true rfl
  .intro h
   have h:=of_decide_eq_true h
   injection h with d c
   injection d with e h4
   subst c;subst e;subst h4
   rw [Bool.and_eq_true,Bool.and_eq_true];exact ⟨⟨beq_self_eq_true _,beq_self_eq_true _⟩,decide_eq_true rfl⟩
theorem W2q(hF:BIG<=F){ys:List Int}{i:Nat}(hi:i+1<ys.length)(hy:ys.length<=65536){rowf:Int->List Span}(hst:Step [] ys rowf){out last:List Rect}(hR:RowSt rowf (gl ys i) i out last){ag:(Int×List Rect×List Rect)->Option (List Rect)}{y:Option (List Rect)}(hlen:(rowf (gl ys i)).length<=65536)(h:∀ out' last',RowSt rowf (gl ys (i+1)) (i+1) out' last' -> ag ((i:Int)+1,out',last')=y):
  Q3C F ys i out last ag (J9 ⟨gl ys i,gl ys (i+1),rowf (gl ys i)⟩)=y:=by
 have B:=hF;unfold BIG at hF
 obtain ⟨⟨d,C,f,m⟩,u⟩:=hR;have A:=hst.asc.at_lt (show i<i+1 by omega) hi
 have e:=hst.gap i hi;have H:i*65536<=65536*65536:=Nat.mul_le_mul_right _ (by omega)
 generalize hv:rowf (gl ys i)=v at *;have j:(∀ a,d.getLast?=some a->a.hi=gl ys i->a.v≠v)->flat d=out++last->Q4Y F i out last (J9 ⟨gl ys i,gl ys (i+1),v⟩) ag=y:=by
  intro D o;unfold Q4Y Q2Q
  refine Z3 (k:=?_);refine Z3 (k:=?_)
  refine h _ _ ⟨?_,?_⟩
  .by_cases hv0:v=[]
   .subst hv0
    exact ⟨d,C.skip (by omega) fun t q z=>e t q z,f,.inl ⟨Y0J _ _,o.symm,fun r c=>by have:=C.le r c;omega⟩⟩
   .refine ⟨d++[⟨gl ys i,gl ys (i+1),v⟩],?_,fun r c=>?_,.inr ⟨d,_,rfl,rfl,rfl,o.symm,hlen⟩⟩
    .have:=C.add A (fun t q z=>(e t q z).trans hv.symm) (fun a l E=>by rw [hv];exact D a l E)
     rw [hv] at this;exact this
    .rcases List.mem_append.1 c with c|c
     .exact f r c
     .rw [List.mem_singleton.1 c];exact hv0
  .rw [List.length_append,Q0I,Nat.add_mul];simp only;omega
 unfold Q3C;rcases m with ⟨rfl,rfl,G⟩|⟨g,b,rfl,x,rfl,rfl,w⟩
 .refine Q5 rfl ?_
  unfold Q1e;refine Q5 rfl ?_
  exact j (fun a l E=>by have:=G a (List.mem_of_getLast? l);omega) (by simp)
 .have p:b.v≠[]:=f b (by simp)
  have s:0<b.v.length:=by
   cases hh:b.v with
   | nil=>exact absurd hh p
   | cons _ _=>simp
  have J:J9 b=J9 ⟨b.lo,b.hi,b.v⟩:=rfl;refine Z4 (by rw [Q0I];simpa using s) ?_
  refine Q2 (Y3L B (by rw [Q0I];unfold LIM;omega)) ?_;rw [J,Y0Y]
  refine Q6 (fun n=>?_) (fun n=>?_)
  .have n:b.v=v:=of_decide_eq_true n
   refine Q7 (by rw [Q0I];simp only;omega) ?_;refine Z3 (k:=?_)
   have I:((gl (J9 ⟨b.lo,b.hi,b.v⟩) (0:Int).toNat).H_==gl ys (i:Int).toNat)=true:=by
    have:gl (J9 ⟨b.lo,b.hi,b.v⟩) (0:Int).toNat=(⟨(b.v[0]).L_,b.lo,(b.v[0]).R_,b.hi⟩:Rect):=by
     have:0<(J9 ⟨b.lo,b.hi,b.v⟩).length:=by rw [Q0I];exact s
     show gl (J9 ⟨b.lo,b.hi,b.v⟩) 0=_;rw [K8 this];simp [J9]
    rw [this];simpa using x
   rw [I];unfold Q1e
   refine Z4 rfl ?_;refine W0J B hi hy w ?_
   have K:=C.grow x A fun t q z=>(e t q z).trans n.symm
   refine h _ _ ⟨⟨g ++ [⟨b.lo,gl ys (i+1),b.v⟩],K,fun r c=>?_,.inr ⟨g,_,rfl,rfl,rfl,rfl,w⟩⟩,?_⟩
   .rcases List.mem_append.1 c with c|c
    .exact f r (by simp [c])
    .rw [List.mem_singleton.1 c];exact p
   .rw [Q0I] at u ⊢;rw [Nat.add_mul];exact Nat.le_trans u (Nat.le_add_right _ _)
  .have n:b.v≠v:=of_decide_eq_false n
   unfold Q1e;refine Q5 rfl ?_
   exact j (fun a l E=>by rw [List.getLast?_append] at l;simp at l;subst l;exact n) (by rw [Y6n,Y6l])
theorem W2r(hF:BIG<=F){a b:List Rect}{how:Int}{xs ys:List Int}(hx:xs.length<=65536)(hy:ys.length<=65536)(ha:a.length<=LIM)(hb:b.length<=LIM)(hG:Grid xs ys fun x y=>Q0j (inR a x y) (inR b x y) how):Q5V F a b how xs ys=some (cn fun x y=>Q0j (inR a x y) (inR b x y) how):=by
 have h:=hF;unfold BIG at hF
 unfold Q5V;have d:=hG.step
 have f:=hG.rows;refine Y8 (fun z:Int×List Rect×List Rect=>∃ (i:Nat),z.1=(i:Int)/\((ys.length=0/\i=0/\z.2.1=[]/\z.2.2=[])\/(i+1<=ys.length/\RowSt (fun y=>spn fun x=>Q0j (inR a x y) (inR b x y) how) (gl ys i) i z.2.1 z.2.2)))
  (fun z=>ys.length-z.1.toNat) (fun g z L D=>?_) ⟨0,rfl,?_⟩ (by simp;omega)
 .obtain ⟨N,J,E⟩:=z
  obtain ⟨i,q,e⟩:=L;simp only at q e D ⊢
  subst q;unfold Z3K
  refine Z3 (k:=?_);rcases e with ⟨j,rfl,rfl,rfl⟩|⟨q,v⟩
  .refine Q5 (by simp [j]) ?_
   unfold Q4X;refine Z3 (k:=?_)
   have:=Step.cn f d .nil (fun t=>(d.empty j t).symm) (fun b hb=>by cases hb)
   rw [this.1];rfl
  .refine Q6 (fun c=>?_) (fun c=>?_)
   .have c:i+1<ys.length:=by simp at c;omega
    refine W2s h c hx hy ha hb (hG.x _) fun l K I m=>?_
    have C:spn (fun x=>Q0j (inR a x (gl ys i)) (inR b x (gl ys i)) how)=l:=Z8o K I;have:=W2q h c hy d v (ag:=g) (y:=some (cn fun x y=>Q0j (inR a x y) (inR b x y) how)) (by rw [C];exact m) fun A p s=>D _ ⟨i+1,rfl,.inr ⟨by omega,s⟩⟩ (by simp only;omega)
    rw [C] at this;exact this
   .have c:¬ i+1<ys.length:=by simp at c;omega
    unfold Q4X;obtain ⟨⟨H,w,n,M⟩,B⟩:=v
    have G:i*65536<=65536*65536:=Nat.mul_le_mul_right _ (by omega);refine Z3 (k:=?_)
    have:=Step.cn f d w.runs (fun t=>d.done (by omega) w t) n
    rw [this.1];rcases M with ⟨rfl,rfl,_⟩|⟨u,O,rfl,_,rfl,rfl,_⟩
    .simp
    .rw [Y6n,Y6l]
 .by_cases j:ys.length=0
  .exact .inl ⟨j,rfl,rfl,rfl⟩
  .exact .inr ⟨by omega,⟨⟨[],d.start (by omega),fun r o=>(by cases o),.inl ⟨rfl,rfl,fun r o=>(by cases o)⟩⟩,by simp⟩⟩
theorem Y3p(a b:List Rect)(how:Int):Grid (Q7B b (Q7B a [])) (Z0J b (Z0J a [])) fun x y=>Q0j (inR a x y) (inR b x y) how:=
 Grid.of (Q8w b (Q8w a .nil)) (Q8w b (Q8w a .nil))
  (fun r c=>⟨(Q0K b _ _).2 (.inl ((Q0K a _ _).2 (.inr ⟨r,c,.inl rfl⟩))),(Q0K b _ _).2 (.inl ((Q0K a _ _).2 (.inr ⟨r,c,.inr rfl⟩)))⟩)
  (fun r c=>⟨(Q0K b _ _).2 (.inr ⟨r,c,.inl rfl⟩),(Q0K b _ _).2 (.inr ⟨r,c,.inr rfl⟩)⟩)
  (fun r c=>⟨(Q0K b _ _).2 (.inl ((Q0K a _ _).2 (.inr ⟨r,c,.inl rfl⟩))),(Q0K b _ _).2 (.inl ((Q0K a _ _).2 (.inr ⟨r,c,.inr rfl⟩)))⟩)
  (fun r c=>⟨(Q0K b _ _).2 (.inr ⟨r,c,.inl rfl⟩),(Q0K b _ _).2 (.inr ⟨r,c,.inr rfl⟩)⟩)
  (k:=fun p q=>Q0j p q how) (by show Q0j false false how=false;unfold Q0j;split;rfl;split <;> rfl)
theorem Z3J(hF:BIG<=F){a b:List Rect}{how:Int}(ha:a.length<=200000)(hb:b.length<=200000)(hx:(Q7B b (Q7B a [])).length<=65536)(hy:(Z0J b (Z0J a [])).length<=65536):
  V2 F a b how=some (cn fun x y=>Q0j (inR a x y) (inR b x y) how):=by
 have d:=hF;unfold BIG at hF
 have h:=Y3p a b how;have n:=W2r d hx hy (by unfold LIM;omega) (by unfold LIM;omega) h
 have o:=Z7p (f:=Rect.L_) (g:=Rect.R_) a [];have i:=Z7p (f:=Rect.w_) (g:=Rect.H_) a []
 have m:∀ c:(List Int×List Int×Int)->Option (List Rect),Q3E F a b how c (Q7B b (Q7B a [])) (Z0J b (Z0J a [])) 2=some (cn fun x y=>Q0j (inR a x y) (inR b x y) how):=fun c=>by
  unfold Q3E;exact Q5 rfl n
 have q:(Q7B a []).length<=2*a.length:=by have:=o;simpa [Q7B] using this
 have p:(Z0J a []).length<=2*a.length:=by have:=i;simpa [Z0J] using this
 unfold V2;refine Y8 (fun z:List Int×List Int×Int=>z=([],[],0)\/z=(Q7B a [],Z0J a [],1)\/z=(Q7B b (Q7B a []),Z0J b (Z0J a []),2)) (fun z=>2-z.2.2.toNat) (fun c z j e=>?_) (.inl rfl) (by simp;omega)
 rcases j with rfl|rfl|rfl
 .simp only
  unfold Q3E;refine Z4 rfl ?_
  refine Z3 (k:=?_);refine Y8q d (l:=a) (by omega) rfl (by simp;omega) (by simp;omega) ?_
  exact e _ (.inr (.inl rfl)) (by simp)
 .simp only
  unfold Q3E;refine Z4 rfl ?_
  refine Z3 (k:=?_);refine Y8q d (l:=b) (by omega) rfl (xs:=Q7B a []) (ys:=Z0J a []) (by omega) (by omega) ?_
  exact e _ (.inr (.inr rfl)) (by simp)
 .exact m c
end
end
section
theorem W0p{xs ys:List Int}{S:Int->Int->Bool}(h:Grid xs ys S):Fin S:=by
 have d:=h.step
 by_cases h0:ys.length=0
 .exact (Step.cn h.rows d .nil (fun t=>(d.empty h0 t).symm) (fun b u=>by cases u)).2
 .have n:∀ i,i+1<=ys.length->∃ f,Bst [] (fun y=>spn fun x=>S x y) f (gl ys i)/\∀ r ∈ f,r.v≠[]:=by
   intro i
   induction i with
   | zero=>intro _;exact ⟨[],d.start (by omega),fun r c=>by cases c⟩
   | succ i ih=>
    intro z;obtain ⟨f,l,g⟩:=ih (by omega)
    have k:=d.asc.at_lt (show i<i+1 by omega) (by omega);have e:=d.gap i (by omega)
    by_cases hv:spn (fun x=>S x (gl ys i))=[]
    .exact ⟨f,l.skip (by omega) fun t p q=>(e t p q).trans hv,g⟩
    .rcases List.eq_nil_or_concat f with rfl|⟨s,b,j⟩
     .refine ⟨_,l.add k e (fun a m=>by simp at m),fun r c=>?_⟩
      simp at c;rw [c];exact hv
     .rw [List.concat_eq_append] at j
      subst j
      by_cases hm:b.hi=gl ys i/\b.v=spn fun x=>S x (gl ys i)
      .refine ⟨_,l.grow hm.1 k fun t p q=>(e t p q).trans hm.2.symm,fun r c=>?_⟩
       rcases List.mem_append.1 c with c|c
       .exact g r (by simp [c])
       .rw [List.mem_singleton.1 c];exact g b (by simp)
      .refine ⟨_,l.add k e (fun a m w o=>?_),fun r c=>?_⟩
       .simp at m;subst m;exact hm ⟨w,o⟩
       .rcases List.mem_append.1 c with c|c
        .exact g r c
        .rw [List.mem_singleton.1 c];exact hv
  obtain ⟨f,l,g⟩:=n (ys.length-1) (by omega);exact (Step.cn h.rows d l.runs (fun t=>d.done (by omega) l t) g).2
theorem Q3K(a b:List Rect)(how:Int):Fin fun x y=>Q0j (inR a x y) (inR b x y) how:=W0p (Y3p a b how)
theorem Y9S(l:List Rect):(fun x y=>Q0j (inR l x y) (inR [] x y) 1)=inR l:=by
 funext x y;simp [Q0j,inR]
theorem V3(l:List Rect):Fin (inR l):=by have:=Q3K l [] 1;rwa [Y9S] at this
theorem Z1B(l:List Rect):Q0f l↔cn (inR l)=l:=⟨fun h=>h.eq_cn.symm,fun h=>by rw [<-h];exact Q0f.cn (V3 l)⟩
theorem Z2y{l:List Rect}:(Q7B l []).length<=2*l.length:=by have:=Z7p (f:=Rect.L_) (g:=Rect.R_) l [];simpa [Q7B] using this
theorem Y7u{l:List Rect}:(Z0J l []).length<=2*l.length:=by have:=Z7p (f:=Rect.w_) (g:=Rect.H_) l [];simpa [Z0J] using this
theorem Z6I{a b:List Rect}:(Q7B b (Q7B a [])).length<=2*a.length+2*b.length:=by
 have c:=Z7p (f:=Rect.L_) (g:=Rect.R_) b (Q7B a []);have d:=Z2y (l:=a)
 have c:(Q7B b (Q7B a [])).length<=(Q7B a []).length+2*b.length:=c;omega
theorem Y1j{a b:List Rect}:(Z0J b (Z0J a [])).length<=2*a.length+2*b.length:=by
 have c:=Z7p (f:=Rect.w_) (g:=Rect.H_) b (Z0J a []);have d:=Y7u (l:=a)
 have c:(Z0J b (Z0J a [])).length<=(Z0J a []).length+2*b.length:=c;omega
theorem Q1L{F:Nat}(hF:BIG<=F){a b:List Rect}{how:Int}(h:a.length+b.length<=32768):V2 F a b how=some (cn fun x y=>Q0j (inR a x y) (inR b x y) how):=
 Z3J hF (by omega) (by omega) (by have:=Z6I (a:=a) (b:=b);omega) (by have:=Y1j (a:=a) (b:=b);omega)
theorem Q8f{F:Nat}(hF:BIG<=F){l:List Rect}(h:l.length<=32768):V2 F l [] 1=some (cn (inR l)):=by
 rw [Q1L hF (by simpa using h),Y9S]
theorem Z4A{α:Type}[Emb α][DecidableEq α](l m:List α)(h:l.length=m.length)(i:Nat)(hi:i<l.length):decide (l.drop i=m.drop i)=(decide (gl l i=gl m i)&&decide (l.drop (i+1)=m.drop (i+1))):=by
 rw [Q1P hi,Q1P (l:=m) (by omega)];rw [Bool.eq_iff_iff,Bool.and_eq_true,decide_eq_true_iff,decide_eq_true_iff,decide_eq_true_iff,List.cons.injEq]
theorem Y7R(r s:Rect):((r.L_==s.L_)&&((r.w_==s.w_)&&((r.R_==s.R_)&&((r.H_==s.H_)&&true))))=decide (r=s):=by
 cases r;cases s
 rw [Bool.eq_iff_iff,decide_eq_true_iff];simp
theorem Y2L{F:Nat}(hF:BIG<=F){l m:List Rect}(hm:m.length<=LIM):Z2R F l m=some (decide (l=m)):=by
 unfold BIG at hF;unfold LIM at hm
 unfold Z2R;refine Q6 (fun h=>?_) (fun h=>?_)
 .have h:l.length≠m.length:=by simp at h;omega
  rw [decide_eq_false fun e=>h (by rw [e])]
 .have h:l.length=m.length:=by simp at h;omega
  refine Y8 (fun z:Int=>∃ i:Nat,z=i/\i<=l.length/\decide (l=m)=decide (l.drop i=m.drop i)) (fun z=>l.length-z.toNat) (fun d z g f=>?_) ⟨0,rfl,by omega,by simp⟩ (by simp;omega);obtain ⟨i,rfl,j,c⟩:=g
  unfold Z6m;refine Q6 (fun a=>?_) (fun a=>?_)
  .have a:i<l.length:=by simpa using a
   rw [Z4A l m h i a] at c;refine Z3 (k:=?_)
   refine Z3 (k:=?_);rw [Y7R]
   refine Q6 (fun b=>?_) (fun b=>?_)
   .have b:decide (gl l i=gl m i)=false:=by simpa using b
    rw [c,b];rfl
   .have b:decide (gl l i=gl m i)=true:=by simpa using b
    rw [b,Bool.true_and] at c;refine Z3 (k:=?_)
    exact f _ ⟨i+1,by omega,a,c⟩ (by omega)
  .have a:¬ i<l.length:=by simpa using a
   have:i=l.length:=by omega
   rw [c,List.drop_of_length_le (by omega),List.drop_of_length_le (by omega),decide_eq_true rfl];rfl
def Val(l:List Rect):Prop:=l.length<=120/\(∀ r ∈ l,Q1j r=true)/\Q0f l
open Classical in
noncomputable def Q2H(l:List Rect):Bool:=decide (Val l)
theorem Q0M(l:List Rect):Q2H l=true↔Val l:=by unfold Q2H;exact @decide_eq_true_iff (Val l) (Classical.propDecidable _)
theorem Q8M{l:List Rect}(h:¬ Val l):Q2H l=false:=by rw [<-Bool.not_eq_true,Q0M];exact h
theorem Q1x{l:List Rect}(h:Val l):Q2H l=true:=(Q0M l).2 h
theorem W1a{α:Type}[Emb α]{l:List α}{p:α->Prop}{i:Nat}(h:i<l.length):(∀ x ∈ l.drop i,p x)↔p (gl l i)/\∀ x ∈ l.drop (i+1),p x:=by rw [Q1P h];simp
theorem K3{F:Nat}(hF:BIG<=F)(a:Re_):Q0p F a=some (Q2H a.t_):=by
 have e:=hF;unfold BIG at hF
 obtain ⟨l⟩:=a;simp only
 unfold Q0p;refine Q6 (fun h=>?_) (fun h=>?_)
 .have h:120<l.length:=by simp at h;omega
  rw [Q8M fun f=>by have:=f.1;omega]
 .have h:l.length<=120:=by simp at h;omega
  refine Y8 (fun z:Int=>∃ i:Nat,z=i/\i<=l.length/\((∀ r ∈ l,Q1j r=true)↔∀ r ∈ l.drop i,Q1j r=true)) (fun z=>l.length-z.toNat) (fun g z m j=>?_) ⟨0,rfl,by omega,by simp⟩ (by simp;omega);obtain ⟨i,rfl,n,d⟩:=m
  unfold Z6k;simp only
  refine Q6 (fun b=>?_) (fun b=>?_)
  .have b:i<l.length:=by simpa using b
   rw [W1a (p:=fun r=>Q1j r=true) b] at d;refine Z3 (k:=?_)
   refine Q2 (Z5d _ _) ?_;refine Q6 (fun c=>?_) (fun c=>?_)
   .have c:Q1j (gl l i)=false:=by simpa using c
    rw [Q8M fun f=>by have:=(d.1 f.2.1).1;rw [c] at this;cases this]
   .have c:Q1j (gl l i)=true:=by simpa using c
    refine Z3 (k:=?_);exact j _ ⟨i+1,by omega,b,d.trans ⟨fun h=>h.2,fun h=>⟨c,h⟩⟩⟩ (by omega)
  .have b:¬ i<l.length:=by simpa using b
   rw [List.drop_of_length_le (by omega)] at d;unfold Z2g
   refine Q2 (Q8f e (by simp only;omega)) ?_;refine Q2 (Y2L e (by unfold LIM;simp only;omega)) ?_
   simp only
   by_cases hc:cn (inR l)=l
   .rw [decide_eq_true hc,Q1x ⟨h,d.2 (by simp),(Z1B l).2 hc⟩]
   .rw [decide_eq_false hc,Q8M fun f=>hc ((Z1B l).1 f.2.2)]
theorem Q8i{F:Nat}(l:List Rect):Q3V F l=some (if 120<l.length then (⟨[]⟩,1) else (⟨l⟩,0)):=by
 unfold Q3V;refine Q6 (fun h=>?_) (fun h=>?_)
 .have h:120<l.length:=by simp at h;omega
  rw [if_pos h]
 .have h:¬ 120<l.length:=by simp at h;omega
  rw [if_neg h]
theorem Y5U{F:Nat}(hF:BIG<=F){l:List Rect}(hl:l.length<=120)(hp:∀ r ∈ l,Q1j r=true):Z9t F l=some (if 120<(cn (inR l)).length then (⟨[]⟩,1) else (⟨cn (inR l)⟩,0)):=by
 have c:=hF;unfold BIG at hF
 unfold Z9t;refine Q5 (by simp;omega) ?_
 refine Y8 (fun z:Int=>∃ i:Nat,z=i/\i<=l.length) (fun z=>l.length-z.toNat) (fun b z e d=>?_) ⟨0,rfl,by omega⟩ (by simp;omega);obtain ⟨i,rfl,f⟩:=e
 unfold Y1a;refine Q6 (fun a=>?_) (fun a=>?_)
 .have a:i<l.length:=by simpa using a
  refine Z3 (k:=?_);refine Q2 (Z5d _ _) ?_
  refine Q5 (by rw [Int.toNat_natCast,hp _ (V7 a)];rfl) ?_;refine Z3 (k:=?_)
  exact d _ ⟨i+1,by omega,a⟩ (by omega)
 .unfold Z6n
  refine Q2 (Q8f c (by omega)) ?_;refine Q2 (Q8i _) ?_
  rfl
end
section
open Go.Sort
def Srt(l:List Int):Prop:=l.Pairwise (· <= ·)
theorem Y9A{l:List Int}(hl:l.length<=LIM):∃ r,Z7N l=some r/\Srt r/\(∀ v,v ∈ r↔v ∈ l)/\r.length=l.length:=by
 refine ⟨l.mergeSort fun x y=>decide (x<=y),by unfold Z7N;rw [if_pos hl],?_,fun v=>List.mem_mergeSort,List.length_mergeSort l⟩;have:=List.pairwise_mergeSort (le:=fun x y:Int=>decide (x<=y)) (fun a b c e d=>by simp at *;omega) (fun a b=>by simp;omega) l
 exact this.imp fun h=>by simpa using h
def dd:List Int->List Int
 | []=>[]
 | [a]=>[a]
 | a::b::l=>if a=b then dd (b::l) else a::dd (b::l)
theorem Y1V(l:List Int)(x:Int):dd (l++[x])=if l.getLast?=some x then dd l else dd l++[x]:=by
 match l with
 | []=>simp [dd]
 | [a]=>by_cases h:a=x <;> simp [dd,h]
 | a::b::l=>
  have c:=Y1V (b::l) x;have e:(a::b::l).getLast?=(b::l).getLast?:=by simp [List.getLast?_cons]
  rw [e]
  by_cases h:a=b
  .simp only [List.cons_append,dd,h,if_true] at c ⊢
   exact c
  .simp only [List.cons_append,dd,h,if_false] at c ⊢
   rw [c];split <;> rfl
theorem Y5d(l:List Int)(v:Int):v ∈ dd l↔v ∈ l:=by
 match l with
 | []=>simp [dd]
 | [a]=>simp [dd]
 | a::b::l=>
  have c:=Y5d (b::l) v;unfold dd
  split
  .rename_i h;subst h;rw [c];simp
  .rw [List.mem_cons,c,List.mem_cons (a:=v) (b:=a)]
theorem Y7t(l:List Int)(h:Srt l):Asc (dd l):=by
 match l with
 | []=>exact .nil
 | [a]=>exact List.pairwise_singleton _ _
 | a::b::l=>
  obtain ⟨f,d⟩:=List.pairwise_cons.1 h;have e:=Y7t (b::l) d
  unfold dd;split
  .exact e
  .rename_i g
   refine List.pairwise_cons.2 ⟨fun v c=>?_,e⟩;rw [Y5d] at c
   have:=f b (by simp)
   rcases List.mem_cons.1 c with rfl|c
   .omega
   .have:=(List.pairwise_cons.1 d).1 v c;omega
theorem Y7s(l:List Int):(dd l).length<=l.length:=by
 match l with
 | []=>simp [dd]
 | [a]=>simp [dd]
 | a::b::l=>
  have c:=Y7s (b::l);unfold dd
  split
  .simp at c ⊢;omega
  .simp at c ⊢;omega
theorem Y4s{l:List Int}{i:Nat}(h:i<l.length):(l.take (i+1)).getLast?=some (gl l i):=by rw [Q0c h];simp
theorem Y0H{α:Type}[Emb α](l:List α)(i j:Nat)(x:α)(h:i<l.length):gl (l.set i x) j=if i=j then x else gl l j:=by
 simp only [gl,List.getD_eq_getElem?_getD,List.getElem?_set]
 by_cases hij:i=j
 .subst hij;simp [h]
 .simp [hij]
theorem Z5E{α:Type}(l:List α)(i n:Nat)(x:α)(h:n<=i):(l.set i x).take n=l.take n:=by
 apply List.ext_getElem?;intro j
 simp only [List.getElem?_take,List.getElem?_set];split
 .rw [if_neg (by omega)]
 .rfl
theorem Y2l{α:Type}[Emb α](l:List α)(k n:Nat)(h:k<=l.length):(clr l (0+k) n).take k=l.take k:=by
 apply List.ext_getElem?;intro j
 simp only [List.getElem?_take,clr];split
 .rename_i a
  have:j<l.length:=by omega
  simp only [List.getElem?_map,List.getElem?_range this,Option.map_some];rw [if_neg (by omega),K8 this,List.getElem?_eq_getElem this]
 .rfl
theorem Y5p{α:Type}[Emb α](l:List α)(lo n:Nat):(clr l lo n).length=l.length:=by simp [clr]
theorem Q8D{F:Nat}(hF:BIG<=F){l:List Int}(hl:l.length<=LIM):Q2g F l=some (dd l):=by
 have K:=hF;unfold BIG at hF;unfold LIM at hl
 unfold Q2g;refine Q6 (fun h=>?_) (fun h=>?_)
 .have h:l.length<2:=by simp at h;omega
  match l,h with
  | [],_=>rfl
  | [a],_=>rfl
 .have h:2<=l.length:=by simp at h;omega
  refine Y8 (fun z:Int=>∃ k:Nat,z=k/\1<=k/\k<=l.length/\dd (l.take k)=l.take k) (fun z=>l.length-z.toNat) (fun x z A I=>?_) ⟨1,rfl,by omega,by omega,?_⟩ (by simp;omega)
  .obtain ⟨k,rfl,H,N,v⟩:=A
   unfold Q8F;refine Q6 (fun m=>?_) (fun m=>?_)
   .have m:k<l.length:=by simpa using m
    refine Z3 (k:=?_);refine Z3 (k:=?_)
    refine Z3 (k:=?_);have G:((k:Int)-1).toNat=k-1:=by omega
    rw [G];simp only [Int.toNat_natCast]
    have f:(l.take k).getLast?=some (gl l (k-1)):=by
     have:=Y4s (l:=l) (i:=k-1) (by omega)
     rwa [show k-1+1=k from by omega] at this
    refine Q6 (fun p=>?_) (fun p=>?_)
    .have p:gl l k=gl l (k-1):=by simpa using p
     refine Z3 (k:=?_);have y:dd (l.take (k+1))=l.take k:=by rw [Q0c m,Y1V,f,if_pos (by rw [p]),v]
     refine Y8 (fun z:Int×Int×List Int=>∃ (q r:Nat) (c:List Int),z=((q:Int),(r:Int),c)/\1<=r/\k+r<=l.length/\q+1<=k+r/\1<=q/\c.length=l.length/\(∀ j,q<=j->gl c j=gl l j)/\c.take q=dd (l.take (k+r)))
      (fun z=>l.length-z.2.1.toNat) (fun w z A o=>?_) ⟨k,1,l,rfl,by omega,by omega,by omega,by omega,rfl,fun _ _=>rfl,y.symm⟩ (by simp only;omega)
     obtain ⟨q,r,c,rfl,L,E,J,D,u,g,n⟩:=A;simp only at o ⊢
     unfold Q8E;simp only [Int.toNat_natCast,Nat.zero_add]
     refine Q6 (fun s=>?_) (fun s=>?_)
     .have s:r<l.length-k:=by simp at s;omega
      refine Z3 (k:=?_);refine Z3 (k:=?_)
      refine Z3 (k:=?_);refine Z3 (k:=?_)
      have C:((r:Int)-1).toNat=r-1:=by omega
      rw [C];refine Z3 (k:=?_)
      rw [g (k+r) (by omega),g (k+(r-1)) (by omega)];have B:(l.take (k+r)).getLast?=some (gl l (k+(r-1))):=by
       have:=Y4s (l:=l) (i:=k+(r-1)) (by omega)
       rwa [show k+(r-1)+1=k+r from by omega] at this
      have t:dd (l.take (k+r+1))=if gl l (k+(r-1))=gl l (k+r) then dd (l.take (k+r)) else dd (l.take (k+r))++[gl l (k+r)]:=by
       rw [Q0c (by omega),Y1V,B];simp
      refine Q6 (fun d=>?_) (fun d=>?_)
      .have d:gl l (k+r)≠gl l (k+(r-1)):=by simpa using d
       repeat (refine Z3 (k:=?_))
       refine o _ ⟨q+1,r+1,c.set q (gl l (k+r)),rfl,by omega,by omega,by omega,by omega,by simp [u],fun j M=>?_,?_⟩ (by simp only;omega)
       .rw [Y0H _ _ _ _ (by omega),if_neg (by omega)];exact g j (by omega)
       .rw [show k+(r+1)=k+r+1 from rfl,t,if_neg (fun e=>d e.symm), <-n,Q0c (by simp;omega),Z5E _ _ _ _ (Nat.le_refl _),Y0H _ _ _ _ (by omega),if_pos rfl]
      .have d:gl l (k+r)=gl l (k+(r-1)):=by simpa using d
       unfold Q2y;refine Z3 (k:=?_)
       refine o _ ⟨q,r+1,c,rfl,by omega,by omega,by omega,by omega,u,g,?_⟩ (by simp only;omega);rw [show k+(r+1)=k+r+1 from rfl,t,if_pos d.symm,n]
     .have s:¬ r<l.length-k:=by simp at s;omega
      unfold Q4L;simp only [Int.toNat_natCast,Y5p]
      refine Z3 (k:=?_);refine Z3 (k:=?_)
      rw [Y2l _ _ _ (by omega),n,List.take_of_length_le (by omega)]
    .have p:gl l k≠gl l (k-1):=by simpa using p
     unfold Q4K;refine Z3 (k:=?_)
     refine I _ ⟨k+1,by omega,by omega,m,?_⟩ (by omega);rw [Q0c m,Y1V,f,if_neg (fun e=>p (by simpa using e.symm)),v]
   .have m:¬ k<l.length:=by simpa using m
    have:k=l.length:=by omega
    subst this;rw [List.take_length] at v
    unfold Q4J;rw [v]
  .match l,h with
   | a::b::l,_=>rfl
end
section
open Go.Sort
def Y3S(l:List Rect):List Int:=l.flatMap fun r=>[r.w_,r.H_]
def Z6s(ls:List (List Rect)):List Int:=ls.flatMap Y3S
def Y3n(ls:List (List Rect)):List Int:=dd ((Z6s ls).mergeSort fun x y=>decide (x<=y))
theorem Y9z(l:List Int):Srt (l.mergeSort fun x y=>decide (x<=y)):=by
 have:=List.pairwise_mergeSort (le:=fun x y:Int=>decide (x<=y)) (fun a b c e d=>by simp at *;omega) (fun a b=>by simp;omega) l
 exact this.imp fun h=>by simpa using h
theorem Y6r(ls:List (List Rect)):Asc (Y3n ls):=Y7t _ (Y9z _)
theorem Y5Z(ls:List (List Rect))(v:Int):v ∈ Y3n ls↔∃ l ∈ ls,∃ r ∈ l,v=r.w_\/v=r.H_:=by
 unfold Y3n;rw [Y5d,List.mem_mergeSort]
 simp [Z6s,Y3S]
theorem W0b(l:List Rect):(Y3S l).length=2*l.length:=by
 induction l with
 | nil=>rfl
 | cons r l ih=>
  have:(Y3S (r::l)).length=2+(Y3S l).length:=by simp [Y3S];omega
  rw [this,ih,List.length_cons];omega
def tot(ls:List (List Rect)):Nat:=(ls.map List.length).sum
theorem Y8W(ls:List (List Rect)):(Z6s ls).length=2*tot ls:=by
 induction ls with
 | nil=>rfl
 | cons l ls ih=>
  have:(Z6s (l::ls)).length=(Y3S l).length+(Z6s ls).length:=by simp [Z6s]
  rw [this,ih,W0b];simp [tot];omega
theorem Y3m(ls:List (List Rect)):(Y3n ls).length<=2*tot ls:=by
 unfold Y3n;have:=Y7s ((Z6s ls).mergeSort fun x y=>decide (x<=y))
 rw [List.length_mergeSort,Y8W] at this;exact this
theorem Z5T{F:Nat}(hF:BIG<=F){ls:List (List Rect)}(h:tot ls<=1000000000)(hn:ls.length<=1000000):Q9W F ls=some (Y3n ls):=by
 have f:=hF;unfold BIG at hF
 unfold Q9W;refine (Z2j (l:=ls) (σ:=List Int) (fun b a=>a.length+2*tot b<=2000000000) (fun b a=>some (dd ((a++Z6s b).mergeSort fun x y=>decide (x<=y))))
  (fun e i a o d p=>?_) (fun e a d=>?_) (by omega) (by simp;omega)).trans rfl
 .unfold Z1V
  refine Z4 (Z0E o) ?_;refine Z3 (k:=?_)
  simp only [Int.toNat_natCast];generalize hl:gl ls i=l at *
  have q:tot (l::ls.drop (i+1))=l.length+tot (ls.drop (i+1)):=by simp [tot]
  rw [q] at d;refine (Z2j (l:=l) (σ:=List Int) (fun b a=>a.length+2*b.length+2*tot (ls.drop (i+1))<=2000000000) (fun b a=>some (dd ((a++Y3S b++Z6s (ls.drop (i+1))).mergeSort fun x y=>decide (x<=y))))
   (fun c j a m d g=>?_) (fun c a d=>?_) (by omega) (by omega)).trans ?_
  .simp only
   unfold Z1U;simp only [Int.toNat_natCast,hl]
   refine Z4 (Z0E m) ?_;simp only [List.length_cons] at d
   refine Z3 (k:=?_);refine Z3 (k:=?_)
   refine Z3 (k:=?_);rw [g _ (by simp only [List.length_append,List.length_cons,List.length_nil];omega)]
   simp [Y3S]
  .simp only
   unfold Z1U;simp only [Int.toNat_natCast,hl]
   refine Q5 (Q3g _) ?_;unfold Z1T
   refine Z3 (k:=?_);rw [p _ (by simp only [List.length_nil] at d;omega)]
   simp [Y3S]
  .simp [Z6s]
 .simp only
  unfold Z1V;refine Q5 (Q3g _) ?_
  unfold Z1S;have d:a.length<=2000000000:=by simp [tot] at d;omega
  have n:Z7N a=some (a.mergeSort fun x y=>decide (x<=y)):=by unfold Z7N;rw [if_pos (by unfold LIM;omega)]
  refine Q2 n ?_;refine Q2 (Q8D f (by rw [List.length_mergeSort];unfold LIM;omega)) ?_
  simp [Z6s]
theorem Q7n(F:Nat)(a b:Int):Q2E F a b=some (if a<b then -1 else if b<a then 1 else 0):=by
 unfold Q2E Q9I;refine Q2 rfl (Q2 rfl ?_)
 refine Q5 (by simp) (Q5 (by simp) ?_);refine Q6 (fun h=>?_) (fun h=>?_)
 .have h:a<b:=by simpa using h
  rw [if_pos h]
 .have h:¬ a<b:=by simpa using h
  rw [if_neg h];refine Q6 (fun h=>?_) (fun h=>?_)
  .have h:b<a:=by simpa using h
   rw [if_pos h]
  .have h:¬ b<a:=by simpa using h
   rw [if_neg h]
def cfL(a b:Span):Int:=if a.L_<b.L_ then -1 else if b.L_<a.L_ then 1 else 0
theorem Y1P(a b:Span):ltC cfL a b=decide (a.L_<b.L_):=by
 unfold ltC cfL
 by_cases h:a.L_<b.L_
 .simp [h]
 .by_cases h2:b.L_<a.L_ <;> simp [h,h2]
theorem W3t:SWO (ltC cfL) where
 irrefl x:=by rw [Y1P];simp
 trans x y z h1 h2:=by rw [Y1P] at *;simp at *;omega
 ntrans x y z h1 h2:=by rw [Y1P] at *;simp at *;omega
theorem Y8O{α:Type}[Emb α](cf:α->α->Int)(hO:SWO (ltC cf))(l:List α):(Q9c cf l).Perm l/\(Q9c cf l).Pairwise fun a b=>ltC cf b a=false:=by
 letI inst:Inhabited α:=⟨Emb.d⟩
 have h:=pdq_sorts (ltC cf) hO l.toArray 0 l.length (Lib.bitLen l.length) true true (Nat.zero_le _) (by simp) (.inl rfl);have c:(pdq (ltC cf) l.toArray 0 l.length (Lib.bitLen l.length) true true).size=l.length:=by simpa using h.1.1
 constructor
 .have:=h.1.2.2
  simp only [List.extract_toArray,List.extract_eq_take_drop,Nat.sub_zero,List.drop_zero,List.take_length] at this;have e:((pdq (ltC cf) l.toArray 0 l.length (Lib.bitLen l.length) true true).extract 0 l.length).toList=Q9c cf l:=by
   unfold Q9c;generalize pdq (ltC cf) l.toArray 0 l.length (Lib.bitLen l.length) true true=d at c
   rw [<-c];simp
  rw [e] at this;exact this
 .rw [List.pairwise_iff_getElem]
  intro i j m n k;have g : i<(pdq (ltC cf) l.toArray 0 l.length (Lib.bitLen l.length) true true).size:=by simpa [Q9c] using m
  have f : j<(pdq (ltC cf) l.toArray 0 l.length (Lib.bitLen l.length) true true).size:=by simpa [Q9c] using n
  have:=h.2 i j (Nat.zero_le _) k (by omega)
  rw [getElem!_pos _ j f,getElem!_pos _ i g] at this;simpa [Q9c] using this
def flt(l:List Rect)(y:Int):List Span:=(l.filter fun r=>decide (r.w_<=y)&&decide (y<r.H_)).map fun r=>⟨r.L_,r.R_⟩
theorem Y6k(r:Rect)(l:List Rect)(y:Int):flt (r::l) y=if (decide (r.w_<=y)&&decide (y<r.H_))=true then ⟨r.L_,r.R_⟩::flt l y else flt l y:=by
 unfold flt;rw [List.filter_cons]
 split <;> rfl
theorem W1W(l:List Rect)(x y:Int):inS (flt l y) x=inR l x y:=by
 induction l with
 | nil=>rfl
 | cons r l ih=>
  have e:inR (r::l) x y=(r.has x y||inR l x y):=rfl;rw [Y6k,e, <-ih]
  split
  .rename_i h
   simp only [Bool.and_eq_true,decide_eq_true_eq] at h;simp [inS,Span.has,Rect.has,h.1,h.2]
  .rename_i h
   have:r.has x y=false:=Y2Z (by simp at h;omega)
   rw [this,Bool.false_or]
theorem W2e(l:List Rect)(y:Int):(flt l y).length<=l.length:=by
 unfold flt;rw [List.length_map];exact List.length_filter_le _ _
theorem W2d{l:List Rect}(h:∀ r ∈ l,r.L_<r.R_)(y:Int):∀ s ∈ flt l y,s.L_<s.R_:=by
 intro s b;obtain ⟨r,a,rfl⟩:=List.mem_map.1 b
 exact h r (List.mem_filter.1 a).1
theorem Y1Q(l m:List Span)(x:Int):inS (l++m) x=(inS l x||inS m x):=by simp [inS]
theorem W0l{l m:List Span}(h:l.Perm m)(x:Int):inS l x=inS m x:=by
 rw [Bool.eq_iff_iff];simp only [inS,List.any_eq_true]
 constructor
 .rintro ⟨s,b,a⟩;exact ⟨s,h.mem_iff.1 b,a⟩
 .rintro ⟨s,b,a⟩;exact ⟨s,h.mem_iff.2 b,a⟩
theorem W2a(a b:Int):G2 a b=if a<b then b else a:=rfl
theorem Y8J{F:Nat}(hF:BIG<=F){S:List Span}(hl:S.length<=1000000000)(hpos:∀ s ∈ S,s.L_<s.R_)(hs:S.Pairwise fun a b=>a.L_<=b.L_):
  Z2 (fun again (z:Int×List Span)=>Z3g F S again z.1 z.2) F (0,[])=some (spn fun x=>inS S x):=by
 unfold BIG at hF;refine Y8 (fun z:Int×List Span=>∃ (i:Nat) (d:List Span),z=((i:Int),d)/\i<=S.length/\d.length<=i/\SpOk d/\(∀ x,inS d x=inS (S.take i) x)/\∀ o ∈ d,∀ j,i<=j->j<S.length->o.L_<=(gl S j).L_)
  (fun z=>S.length-z.1.toNat) (fun again z K D=>?_) ⟨0,[],rfl,by omega,Nat.le_refl _,.nil,fun x=>by simp,fun o c=>by cases c⟩ (by simp only;omega)
 obtain ⟨i,d,rfl,R,C,g,v,l⟩:=K;simp only at D ⊢
 unfold Z3g;refine Q6 (fun h=>?_) (fun h=>?_)
 .have h:i<S.length:=by simpa using h
  refine Z3 (k:=?_);simp only [Int.toNat_natCast]
  have O:=hpos _ (V7 h);have q:∀ j,i+1<=j->j<S.length->(gl S i).L_<=(gl S j).L_:=by
   intro j y f;rw [K8 h,K8 f]
   exact List.pairwise_iff_getElem.1 hs i j h f (by omega)
  have m : ∀ x,inS (S.take (i+1)) x=(inS d x||(gl S i).has x):=by
   intro x;rw [Q0c h,Y1Q,v];simp [inS]
  have n:(∀ o,d.getLast?=some o->o.R_<(gl S i).L_)->Q4w F S i d again false=some (spn fun x=>inS S x):=by
   intro r;unfold Q4w
   refine Q5 rfl ?_;refine Z3 (k:=?_)
   unfold Q6u;refine Z3 (k:=?_)
   simp only [Int.toNat_natCast];refine D _ ⟨i+1,d++[gl S i],rfl,h,by simp;omega,⟨fun s hs=>?_,?_⟩,fun x=>?_,fun o c j y f=>?_⟩ (by simp only;omega)
   .rcases List.mem_append.1 hs with hs|hs
    .exact g.pos s hs
    .rw [List.mem_singleton.1 hs];exact O
   .refine List.pairwise_append.2 ⟨g.ch,List.pairwise_singleton _ _,fun o c b B=>?_⟩
    rw [List.mem_singleton.1 B];rcases List.eq_nil_or_concat d with A|⟨t,e,u⟩
    .rw [A] at c;cases c
    .rw [List.concat_eq_append] at u
     subst u;have I:=r e (by simp)
     rcases List.mem_append.1 c with c|c
     .have Q:=(List.pairwise_append.1 g.ch).2.2 o c e (by simp)
      have P:=g.pos e (by simp);omega
     .rw [List.mem_singleton.1 c];exact I
   .rw [m,Y1Q];simp [inS]
   .rcases List.mem_append.1 c with c|c
    .exact l o c j (by omega) f
    .rw [List.mem_singleton.1 c];exact q j y f
  rcases List.eq_nil_or_concat d with A|⟨t,e,u⟩
  .subst A
   refine Q5 rfl ?_;exact n fun o c=>by simp at c
  .rw [List.concat_eq_append] at u
   subst u;have p:(t ++ [e]).length=t.length+1:=by simp
   have G:(((t.length+1:Nat):Int)-1).toNat=t.length:=by omega
   rw [p] at C ⊢;refine Z4 (by simp) ?_
   refine Z3 (k:=?_);refine Z3 (k:=?_)
   rw [G,Z4D _ _ rfl]
   by_cases hc:(gl S i).L_<=e.R_
   .have w:decide ((gl S i).L_<=e.R_)=true:=by simpa using hc
    rw [w];unfold Q4w
    refine Z4 rfl ?_;simp only [p]
    refine Z3 (k:=?_);refine Z3 (k:=?_)
    refine Z3 (k:=?_);refine Z3 (k:=?_)
    rw [G,Z4D _ _ rfl,Z9d _ _ _ rfl];unfold Q6u
    refine Z3 (k:=?_);simp only [Int.toNat_natCast]
    have J:e.L_<=(gl S i).L_:=l e (by simp) i (Nat.le_refl _) h;have N:=g.pos e (by simp)
    have L:e.R_<=G2 e.R_ (gl S i).R_/\(gl S i).R_<=G2 e.R_ (gl S i).R_/\(G2 e.R_ (gl S i).R_=e.R_\/G2 e.R_ (gl S i).R_=(gl S i).R_):=by
     rw [W2a];split <;> omega
    refine D _ ⟨i+1,t ++ [⟨e.L_,G2 e.R_ (gl S i).R_⟩],rfl,h,by simp;omega,⟨fun s hs=>?_,?_⟩,fun x=>?_,fun o c j y f=>?_⟩ (by simp only;omega)
    .rcases List.mem_append.1 hs with hs|hs
     .exact g.pos s (by simp [hs])
     .rw [List.mem_singleton.1 hs];simp only;omega
    .obtain ⟨H,_,M⟩:=List.pairwise_append.1 g.ch
     refine List.pairwise_append.2 ⟨H,List.pairwise_singleton _ _,fun o c b B=>?_⟩;rw [List.mem_singleton.1 B]
     exact M o c e (by simp)
    .rw [m,Y1Q,Y1Q,Bool.or_assoc]
     congr 1
     have E:∀ (s:Span) x,inS [s] x=s.has x:=fun s x=>by simp [inS]
     rw [E,E,Bool.eq_iff_iff];simp only [Span.has,Bool.or_eq_true,Bool.and_eq_true,decide_eq_true_eq]
     omega
    .rcases List.mem_append.1 c with c|c
     .exact l o (by simp [c]) j (by omega) f
     .rw [List.mem_singleton.1 c];exact l e (by simp) j (by omega) f
   .have w:decide ((gl S i).L_<=e.R_)=false:=by simpa using hc
    rw [w];exact n fun o c=>by simp at c;subst c;omega
 .have h:¬ i<S.length:=by simpa using h
  have:i=S.length:=by omega
  subst this;unfold Z3f
  rw [Z8o g fun x=>by rw [v,List.take_length]]
theorem Z3e{F:Nat}(hF:BIG<=F){l:List Rect}(hl:l.length<=1000000000)(hpos:∀ r ∈ l,r.L_<r.R_)(y:Int):Q8R F l y=some (spn fun x=>inR l x y):=by
 have n:=hF;unfold BIG at hF
 unfold Q8R;have o:∀ c:List Span,c=flt l y->Q9z F c=some (spn fun x=>inR l x y):=by
  rintro c rfl;unfold Q9z
  have u:=W2e l y;have j:Y0W (flt l y) (fun v t=>Z1l F v t)=some (Q9c cfL (flt l y)):=
   Y9B cfL (by unfold LIM;omega) W3t fun a b=>by unfold Z1l;rw [Q7n];rfl
  refine Q2 j ?_;obtain ⟨p,m⟩:=Y8O cfL W3t (flt l y)
  have e:(fun x=>inR l x y)=fun x=>inS (Q9c cfL (flt l y)) x:=by funext x;rw [W0l p,W1W]
  rw [e];refine Y8J n (by rw [p.length_eq];omega) (fun s m=>W2d hpos y s (p.mem_iff.1 m)) (m.imp fun {a b} h=>?_)
  rw [Y1P] at h;simp at h;exact h
 refine (Z2j (l:=l) (σ:=List Span) (fun f c=>c.length+f.length<=1000000000/\c++flt f y=flt l y) (fun f c=>some (spn fun x=>inR l x y))
  (fun d i c w g q=>?_) (fun d c g=>?_) (by omega) ⟨by simp;omega,rfl⟩)
 .simp only
  unfold Z3h;refine Z4 (Z0E w) ?_
  refine Z3 (k:=?_);rw [Q4g (Q6w F l i c d)]
  simp only [Int.toNat_natCast];rw [Y6k] at g
  simp only [List.length_cons] at g;unfold Q6w
  refine Q6 (fun h=>?_) (fun h=>?_)
  .rw [if_pos h] at g
   refine Z3 (k:=?_);unfold Q6v
   refine Z3 (k:=?_);simp only [Int.toNat_natCast]
   exact q _ ⟨by simp only [List.length_append,List.length_cons,List.length_nil];omega,by rw [<-g.2];simp⟩
  .rw [h] at g
   unfold Q6v;refine Z3 (k:=?_)
   exact q _ ⟨by omega,by simpa using g.2⟩
 .simp only
  unfold Z3h;refine Q5 (Q3g _) ?_
  exact o c (by have:=g.2;simpa [flt] using this)
end
theorem W1C(r s:Span):((r.L_==s.L_)&&((r.R_==s.R_)&&true))=decide (r=s):=by
 cases r;cases s
 rw [Bool.eq_iff_iff,decide_eq_true_iff];simp
theorem Z5G{F:Nat}(hF:BIG<=F){l m:List Span}(hm:m.length<=LIM):Q4S F l m=some (decide (l=m)):=by
 unfold BIG at hF;unfold LIM at hm
 unfold Q4S;refine Q6 (fun h=>?_) (fun h=>?_)
 .have h:l.length≠m.length:=by simp at h;omega
  rw [decide_eq_false fun e=>h (by rw [e])]
 .have h:l.length=m.length:=by simp at h;omega
  refine Y8 (fun z:Int=>∃ i:Nat,z=i/\i<=l.length/\decide (l=m)=decide (l.drop i=m.drop i)) (fun z=>l.length-z.toNat) (fun d z g f=>?_) ⟨0,rfl,by omega,by simp⟩ (by simp;omega);obtain ⟨i,rfl,j,c⟩:=g
  unfold Q9O;refine Q6 (fun a=>?_) (fun a=>?_)
  .have a:i<l.length:=by simpa using a
   rw [Z4A l m h i a] at c;refine Z3 (k:=?_)
   refine Z3 (k:=?_);rw [W1C]
   refine Q6 (fun b=>?_) (fun b=>?_)
   .have b:decide (gl l i=gl m i)=false:=by simpa using b
    rw [c,b];rfl
   .have b:decide (gl l i=gl m i)=true:=by simpa using b
    rw [b,Bool.true_and] at c;refine Z3 (k:=?_)
    exact f _ ⟨i+1,by omega,a,c⟩ (by omega)
  .have a:¬ i<l.length:=by simpa using a
   have:i=l.length:=by omega
   rw [c,List.drop_of_length_le (by omega),List.drop_of_length_le (by omega),decide_eq_true rfl];rfl
theorem Z5H{F:Nat}(hF:BIG<=F){l m:List Rect}(hm:m.length<=LIM):Q4T F l m=some (decide (l=m)):=by
 unfold BIG at hF;unfold LIM at hm
 unfold Q4T;refine Q6 (fun h=>?_) (fun h=>?_)
 .have h:l.length≠m.length:=by simp at h;omega
  rw [decide_eq_false fun e=>h (by rw [e])]
 .have h:l.length=m.length:=by simp at h;omega
  refine Y8 (fun z:Int=>∃ i:Nat,z=i/\i<=l.length/\decide (l=m)=decide (l.drop i=m.drop i)) (fun z=>l.length-z.toNat) (fun d z g f=>?_) ⟨0,rfl,by omega,by simp⟩ (by simp;omega);obtain ⟨i,rfl,j,c⟩:=g
  unfold Q9Q;refine Q6 (fun a=>?_) (fun a=>?_)
  .have a:i<l.length:=by simpa using a
   rw [Z4A l m h i a] at c;refine Z3 (k:=?_)
   refine Z3 (k:=?_);rw [Y7R]
   refine Q6 (fun b=>?_) (fun b=>?_)
   .have b:decide (gl l i=gl m i)=false:=by simpa using b
    rw [c,b];rfl
   .have b:decide (gl l i=gl m i)=true:=by simpa using b
    rw [b,Bool.true_and] at c;refine Z3 (k:=?_)
    exact f _ ⟨i+1,by omega,a,c⟩ (by omega)
  .have a:¬ i<l.length:=by simpa using a
   have:i=l.length:=by omega
   rw [c,List.drop_of_length_le (by omega),List.drop_of_length_le (by omega),decide_eq_true rfl];rfl
def Band.rn(b:Band):Rn (List Span):=⟨b.w_,b.H_,b.spans_⟩
def fl(l:List Band):List Rect:=flat (l.map Band.rn)
theorem Y5k(b:Band)(l:List Band):fl (b::l)=J9 b.rn++fl l:=rfl
theorem W3e(l:List Band)(N:Nat)(h:∀ b ∈ l,b.spans_.length<=N):(fl l).length<=l.length*N:=by
 induction l with
 | nil=>simp [fl,flat]
 | cons b l ih=>
  have d:=ih fun c a=>h c (by simp [a])
  have e:=h b (by simp);rw [Y5k,List.length_append,Q0I,List.length_cons,Nat.add_mul]
  simp only [Band.rn];omega
theorem Y1u{F:Nat}(hF:BIG<=F){l:List Band}(hl:l.length<=1000000000)(hn:(fl l).length<=LIM)(hs:∀ b ∈ l,b.spans_.length<=1000000000):Z1j F l=some (fl l):=by
 unfold BIG at hF;unfold LIM at hn
 unfold Z1j;refine (Z2j (l:=l) (σ:=List Rect) (fun c a=>a.length+(fl c).length<=4294967296) (fun c a=>some (a++fl c)) (fun f i a m d o=>?_) (fun f a d=>?_) (by omega) (by simp;omega)).trans (by simp)
 .unfold Z0v
  refine Z4 (Z0E m) ?_;refine Z3 (k:=?_)
  simp only [Int.toNat_natCast];have g:=hs _ (V7 m)
  rw [Y5k,List.length_append,Q0I] at d;rw [Y5k]
  generalize hb:gl l i=b at d g ⊢;have d:a.length+(b.spans_.length+(fl (l.drop (i+1))).length)<=4294967296:=d
  refine (Z2j (l:=b.spans_) (σ:=List Rect) (fun c a=>a.length+c.length+(fl (l.drop (i+1))).length<=4294967296) (fun c a=>some (a++(c.map (fun s=>(⟨s.L_,b.w_,s.R_,b.H_⟩:Rect))++fl (l.drop (i+1)))))
   (fun e j a n d h=>?_) (fun e a d=>?_) (by omega) (by omega)).trans rfl
  .unfold Z0u
   simp only [Int.toNat_natCast,hb];refine Z4 (Z0E n) ?_
   simp only [List.length_cons] at d;refine Z3 (k:=?_)
   refine Z3 (k:=?_);refine Z3 (k:=?_)
   rw [h _ (by simp only [List.length_append,List.length_cons,List.length_nil];omega)];simp
  .unfold Z0u
   simp only [Int.toNat_natCast,hb];refine Q5 (Q3g _) ?_
   unfold Z0t;refine Z3 (k:=?_)
   rw [o _ (by simpa using d)];simp
 .unfold Z0v
  refine Q5 (Q3g _) ?_;simp [Z0s,fl,flat]
theorem Z4W{F:Nat}(hF:BIG<=F){cs:List Int}{row:Int->Option (List Span)}{S:Int->Int->Bool}(hS:Y3D S)(hst:Step [] cs fun y=>spn fun x=>S x y)(hc:cs.length<=65536)(hrow:∀ y,row y=some (spn fun x=>S x y))(hlen:∀ y,(spn fun x=>S x y).length<=65536):Q7N F cs row=some (cn S):=by
 have E:=hF;unfold BIG at hF
 unfold Q7N;have D:∀ c:List Band,Runs (c.map Band.rn)->(∀ t,atR [] (c.map Band.rn) t=spn fun x=>S x t)->c.length<=cs.length->(∀ b ∈ c,b.spans_.length<=65536)->Q6S F c=some (cn S):=by
  intro c T o I f;unfold Q6S
  have K:=W3e c 65536 f;have M:c.length*65536<=65536*65536:=Nat.mul_le_mul_right _ (by omega)
  refine Q2 (Y1u E (by omega) (by unfold LIM;omega) (fun b d=>by have:=f b d;omega)) ?_;have P:=(Step.cn hS hst (acc:=(c.map Band.rn).filter fun r=> !r.v.isEmpty) (T.filter _) (fun t=>by
   rw [T.atR_filter _ (fun r _ W=>by simpa using W)];exact o t) (fun b d=>by
   have:=(List.mem_filter.1 d).2
   intro B;rw [B] at this;simp at this)).1
  rw [P];congr 1
  have:∀ l:List (Rn (List Span)),flat l=flat (l.filter fun r=> !r.v.isEmpty):=by
   intro l
   induction l with
   | nil=>rfl
   | cons a l C=>
    rw [List.filter_cons];have e:flat (a::l)=J9 a++flat l:=rfl
    cases o:a.v with
    | nil=>
     have:J9 a=[]:=by simp [J9,o]
     rw [e,this,List.nil_append,C];simp
    | cons s v=>
     simp only [List.isEmpty_cons,Bool.not_false,if_true];have L:flat (a::l.filter fun r=> !r.v.isEmpty)=J9 a++flat (l.filter fun r=> !r.v.isEmpty):=rfl
     rw [e,L, <-C]
  exact this _
 refine Y8 (fun z:Int×List Band=>∃ (i:Nat) (c:List Band),z=((i:Int)+1,c)/\c.length<=i/\(∀ b ∈ c,b.spans_.length<=65536)/\((cs.length=0/\i=0)\/(i+1<=cs.length/\Bst [] (fun y=>spn fun x=>S x y) (c.map Band.rn) (gl cs i))))
  (fun z=>cs.length+1-z.1.toNat) (fun u z X C=>?_) ⟨0,[],rfl,Nat.le_refl _,fun b d=>(List.not_mem_nil d).elim,?_⟩ (by simp;omega)
 .obtain ⟨i,c,rfl,I,f,w⟩:=X
  simp only at C ⊢;unfold Z4X
  rcases w with ⟨G,rfl⟩|⟨Y,H⟩
  .have N:c=[]:=List.eq_nil_of_length_eq_zero (by omega)
   subst N;refine Q5 (by simp;omega) ?_
   exact D [] .nil (fun t=>(hst.empty G t).symm) (by simp) (fun b d=>by cases d)
  .refine Q6 (fun g=>?_) (fun g=>?_)
   .have g:i+1<cs.length:=by simp at g;omega
    have J:=hst.asc.at_lt (show i<i+1 by omega) g;have n:=hst.gap i g
    have U:((i:Int)+1-1).toNat=i:=by omega
    have L:((i:Int)+1).toNat=i+1:=by omega
    rw [U];refine Z3 (k:=?_)
    refine Z3 (k:=?_);refine Z3 (k:=?_)
    refine Z3 (k:=?_);refine Z3 (k:=?_)
    refine Q2 (hrow _) ?_;generalize o:(spn fun x=>S x (gl cs i))=v at *
    have Q:v.length<=65536:=by rw [<-o];exact hlen _
    have m:(∀ q,(c.map Band.rn).getLast?=some q->q.hi=gl cs i->q.v≠v)->Q1G F cs ((i:Int)+1) c v u false=some (cn S):=by
     intro h;unfold Q1G
     refine Q5 rfl ?_;rw [U,L]
     refine Z3 (k:=?_);unfold Q4n
     refine Z3 (k:=?_);refine C _ ⟨i+1,c++[⟨gl cs i,gl cs (i+1),v⟩],by simp,by simp;omega,fun b d=>?_,.inr ⟨by omega,?_⟩⟩ (by simp only;omega)
     .rcases List.mem_append.1 d with d|d
      .exact f b d
      .rw [List.mem_singleton.1 d];exact Q
     .rw [List.map_append]
      have:=H.add J (fun t K M=>(n t K M).trans o.symm) (fun a V B=>by rw [o];exact h a V B)
      rw [o] at this;exact this
    rcases List.eq_nil_or_concat c with G|⟨A,e,B⟩
    .subst G
     refine Q5 rfl ?_;exact m fun q h=>by simp at h
    .rw [List.concat_eq_append] at B
     subst B;have j:(A ++ [e]).length=A.length+1:=by simp
     have R:(((A.length+1:Nat):Int)-1).toNat=A.length:=by omega
     rw [j] at I ⊢;have p:gl (A ++ [e]) A.length=e:=Z4D _ _ rfl
     refine Z4 (by simp) ?_;refine Z3 (k:=?_)
     refine Z3 (k:=?_);rw [R,p]
     by_cases hh:e.H_=gl cs i
     .refine Z4 (by simpa using hh) ?_
      refine Z3 (k:=?_);refine Z3 (k:=?_)
      refine Q2 (Z5G E (by unfold LIM;omega)) ?_
      by_cases hvv:e.spans_=v
      .rw [decide_eq_true hvv]
       unfold Q1G;refine Z4 rfl ?_
       simp only [j];refine Z3 (k:=?_)
       refine Z3 (k:=?_);rw [R,p,Z9d _ _ _ rfl,L]
       unfold Q4n;refine Z3 (k:=?_)
       refine C _ ⟨i+1,A ++ [⟨e.w_,gl cs (i+1),e.spans_⟩],by simp,by simp;omega,fun b d=>?_,.inr ⟨by omega,?_⟩⟩ (by simp only;omega)
       .rcases List.mem_append.1 d with d|d
        .exact f b (by simp [d])
        .rw [List.mem_singleton.1 d];exact f e (by simp)
       .rw [List.map_append] at H ⊢
        exact H.grow (a:=e.rn) hh J fun t K M=>(n t K M).trans hvv.symm
      .rw [decide_eq_false hvv]
       exact m fun q h _=>by rw [List.map_append] at h;simp at h;subst h;exact hvv
     .refine Q5 (by simpa using hh) ?_
      exact m fun q h O=>by rw [List.map_append] at h;simp at h;subst h;exact absurd O hh
   .have g:¬ i+1<cs.length:=by simp at g;omega
    exact D c H.runs (fun t=>hst.done (by omega) H t) (by omega) f
 .by_cases G:cs.length=0
  .exact .inl ⟨G,rfl⟩
  .exact .inr ⟨by omega,hst.start (by omega)⟩
theorem Y0P(ls:List (List Rect)){l:List Rect}(h:l ∈ ls):Y5u (Y3n ls) l:=fun r a=>⟨(Y5Z ls _).2 ⟨l,h,r,a,.inl rfl⟩,(Y5Z ls _).2 ⟨l,h,r,a,.inr rfl⟩⟩
theorem Z9x(l:List Rect){ls:List (List Rect)}(h:l ∈ ls):Grid (Q7B l []) (Y3n ls) (inR l):=by
 have:=Grid.of (xs:=Q7B l []) (ys:=Y3n ls) (a:=l) (b:=[]) (Q8w l .nil) (Y6r ls)
  (fun r c=>⟨(Q0K l _ _).2 (.inr ⟨r,c,.inl rfl⟩),(Q0K l _ _).2 (.inr ⟨r,c,.inr rfl⟩)⟩) (fun r c=>by cases c) (Y0P ls h) (fun r c=>by cases c) (k:=fun p q=>p||q) rfl
 have e:(fun x y=>inR l x y||inR [] x y)=inR l:=by funext x y;simp [inR]
 rwa [e] at this
theorem Z0P{F:Nat}(hF:BIG<=F){l:List Rect}(hl:l.length<=32768)(hpos:∀ r ∈ l,r.L_<r.R_):Q3w F l=some (cn (inR l)):=by
 unfold Q3w;have a:=Z9x l (ls:=[l]) (by simp)
 have c:tot [l]=l.length:=by simp [tot]
 have b:=Y3m [l];refine Q2 (Z5T hF (by omega) (by simp)) ?_
 refine Q2 (Z4W hF a.rows a.step (by omega) (fun y=>?_) (fun y=>?_)) rfl
 .unfold Q7h
  exact Q2 (Z3e hF (by omega) hpos y) rfl
 .have:=(a.x y).spn_len
  have d:=Z2y (l:=l);omega
theorem Z3c{F:Nat}(hF:BIG<=F){l:List Rect}{q:Rect->Option Bool}(p:Rect->Bool)(hl:l.length<=1000000000)(hq:∀ r ∈ l,q r=some (p r)):∃ i:Int,Q4G F l q=some i/\(0<=i↔l.any p=true):=by
 unfold BIG at hF;have c:∀ (n i:Nat),i<=l.length->l.length-i<n->∃ r:Int,Z2 (fun again (z:Int)=>U8 F l q again z) n (i:Int)=some r/\(0<=r↔(l.drop i).any p=true):=by
  intro n
  induction n with
  | zero=>intro i _ h;omega
  | succ n ih=>
   intro i j m;have e:Z2 (fun again (z:Int)=>U8 F l q again z) (n+1) (i:Int)=U8 F l q (Z2 (fun again (z:Int)=>U8 F l q again z) n) (i:Int):=rfl
   rw [e]
   by_cases h:i<l.length
   .rw [Y3z h]
    by_cases a:p (gl l i)=true
    .refine ⟨i,?_,by rw [a];simp⟩
     unfold U8;refine Z4 (Z0E h) ?_
     refine Z3 (k:=?_);exact Q2 (hq _ (V7 h)) (Z4 a rfl)
    .have a:p (gl l i)=false:=by simpa using a
     obtain ⟨r,g,b⟩:=ih (i+1) h (by omega);refine ⟨r,?_,by rw [b,a];simp⟩
     unfold U8;refine Z4 (Z0E h) ?_
     refine Z3 (k:=?_);refine Q2 (hq _ (V7 h)) (Q5 a ?_)
     refine Z3 (k:=?_);exact g
   .have:i=l.length:=by omega
    subst this;refine ⟨-1,?_,by simp⟩
    unfold U8;exact Q5 (Q3g _) rfl
 obtain ⟨r,d,f⟩:=c F 0 (Nat.zero_le _) (by omega);exact ⟨r,d,by simpa using f⟩
theorem Q1O{F:Nat}(hF:BIG<=F){l:List Rect}{q:Rect->Option Bool}(p:Rect->Bool)(hl:l.length<=1000000000)(hq:∀ r ∈ l,q r=some (p r)):G8 F l q=some (l.any p):=by
 obtain ⟨i,a,b⟩:=Z3c hF p hl hq;unfold G8
 refine Q2 a ?_;congr 1
 rw [Bool.eq_iff_iff, <-b,decide_eq_true_iff]
theorem Y0i(F:Nat)(r:Rect):Q9x F r=some (Q1j r):=by
 unfold Q9x;rw [Q4g (J4 F),Q4g (J4 F),Q4g (J4 F),Q4g (J4 F),Q4g (J4 F)]
 rfl
theorem Q0g{F:Nat}(hF:BIG<=F)(a:Re_):Q0z F a=some (Q2H a.t_):=by
 obtain ⟨l⟩:=a;simp only
 unfold Q0z;have b:=hF
 unfold BIG at hF;refine Q6 (fun h=>?_) (fun h=>?_)
 .have h:120<l.length:=by simp at h;omega
  rw [Q8M fun d=>by have:=d.1;omega];rfl
 .have h:l.length<=120:=by simp at h;omega
  refine Q2 (Q1O b (fun r=> !Q1j r) (by simp only;omega) (fun r _=>by unfold Z1Q;rw [Y0i];rfl)) ?_;unfold Q6Q
  refine Q6 (fun e=>?_) (fun e=>?_)
  .rw [Q8M fun d=>?_]
   simp only [List.any_eq_true] at e;obtain ⟨r,c,f⟩:=e
   rw [d.2.1 r c] at f;cases f
  .have g:∀ r ∈ l,Q1j r=true:=by
    intro r c;have:=List.any_eq_false.1 e r c
    simpa using this
   refine Q2 (Z0P b (by simp only;omega) (fun r c=>((Q0b r).1 (g r c)).2.1)) ?_;refine Q2 (Z5H b (by unfold LIM;simp only;omega)) ?_
   simp only
   by_cases hc:cn (inR l)=l
   .rw [decide_eq_true hc,Q1x ⟨h,g,(Z1B l).2 hc⟩]
   .rw [decide_eq_false hc,Q8M fun d=>hc ((Z1B l).1 d.2.2)]
def Z1v{α:Type}(p:α->Bool)(l:List α):Int:=if l.any p then (l.findIdx p:Int) else -1
theorem Z4G{α:Type}[Emb α]{l:List α}{p:α->Bool}{i:Nat}(h:i<l.length)(hb:∀ j,j<i->p (gl l j)=false)(hi:p (gl l i)=true):l.findIdx p=i:=by
 induction l generalizing i with
 | nil=>simp at h
 | cons a l ih=>
  rw [List.findIdx_cons]
  cases i with
  | zero=>
   have:p a=true:=hi
   rw [this];rfl
  | succ i=>
   have b:p a=false:=hb 0 (by omega);rw [b]
   have:=ih (i:=i) (by simpa using h) (fun j c=>hb (j+1) (by omega)) hi
   simp [this]
theorem Q6H{α:Type}[Emb α]{l:List α}{p:α->Bool}(h:∀ j,j<l.length->p (gl l j)=false):l.any p=false:=by
 rw [List.any_eq_false];intro x b
 obtain ⟨j,a,rfl⟩:=List.getElem_of_mem b;have:=h j a
 rw [K8 a] at this;simpa using this
theorem Z1d{F:Nat}(hF:BIG<=F){l:List A2_}{q:A2_->Option Bool}(p:A2_->Bool)(hl:l.length<=1000000000)(hq:∀ r ∈ l,q r=some (p r)):Q1m F l q=some (Z1v p l):=by
 unfold BIG at hF;unfold Q1m
 refine Y8 (fun z:Int=>∃ i:Nat,z=i/\i<=l.length/\∀ j,j<i->p (gl l j)=false) (fun z=>l.length-z.toNat) (fun c z m g=>?_) ⟨0,rfl,by omega,fun j f=>by omega⟩ (by simp;omega);obtain ⟨i,rfl,n,d⟩:=m
 unfold Q4R;refine Q6 (fun h=>?_) (fun h=>?_)
 .have h:i<l.length:=by simpa using h
  refine Z3 (k:=?_);refine Q2 (hq _ (V7 h)) ?_
  simp only [Int.toNat_natCast];refine Q6 (fun a=>?_) (fun a=>?_)
  .have b:l.any p=true:=List.any_eq_true.2 ⟨_,V7 h,a⟩
   rw [Z1v,if_pos b,Z4G h d a]
  .refine Z3 (k:=?_)
   refine g _ ⟨i+1,by omega,h,fun j f=>?_⟩ (by omega);rcases Nat.lt_or_ge j i with e|e
   .exact d j e
   .have:j=i:=by omega
    subst this;exact a
 .have h:¬ i<l.length:=by simpa using h
  have:i=l.length:=by omega
  subst this;have b:=Q6H d
  rw [Z1v,b];rfl
theorem Z0n{F:Nat}(hF:BIG<=F){l:List A2_}{q:A2_->Option Bool}(p:A2_->Bool)(hl:l.length<=1000000000)(hq:∀ r ∈ l,q r=some (p r)):Q0Z F l q=some (l.filter fun r=> !p r):=by
 have A:=hF;unfold BIG at hF
 unfold Q0Z;refine Q2 (Z1d A p hl hq) ?_
 by_cases g:l.any p=true
 .obtain ⟨x,n,v⟩:=List.any_eq_true.1 g
  have d:l.findIdx p<l.length:=List.findIdx_lt_length_of_exists ⟨x,n,v⟩;have y:p (gl l (l.findIdx p))=true:=by rw [K8 d];exact List.findIdx_getElem (w:=d)
  have t:∀ j,j<l.findIdx p->p (gl l j)=false:=by
   intro j s;rw [K8 (by omega)]
   simpa using List.not_of_lt_findIdx s
  rw [Z1v,if_pos g];refine Q5 (by simp) ?_
  refine Z3 (k:=?_);generalize l.findIdx p=i0 at *
  have E:(l.take (i0+1)).filter (fun r=> !p r)=l.take i0:=by
   rw [Q0c d,List.filter_append];have H:(l.take i0).filter (fun r=> !p r)=l.take i0:=by
    rw [List.filter_eq_self];intro x n
    obtain ⟨j,s,rfl⟩:=List.getElem_of_mem n;have B : j<i0:=by simp at s;omega
    have:=t j B
    rw [K8 (by omega)] at this;simp [this]
   rw [H];simp [y]
  refine Y8 (fun z:Int×Int×List A2_=>∃ (i j:Nat) (a:List A2_),z=((i:Int),(j:Int),a)/\i<j/\j<=l.length/\a.length=l.length/\(∀ m,j<=m->gl a m=gl l m)/\a.take i=(l.take j).filter fun r=> !p r)
   (fun z=>l.length-z.2.1.toNat) (fun u z D C=>?_) ⟨i0,i0+1,l,rfl,by omega,by omega,rfl,fun _ _=>rfl,E.symm⟩ (by simp only;omega)
  obtain ⟨i,j,a,rfl,G,s,c,f,e⟩:=D;simp only at C ⊢
  unfold Q4i;rw [c]
  refine Q6 (fun h=>?_) (fun h=>?_)
  .have h:j<l.length:=by simpa using h
   refine Z3 (k:=?_);simp only [Int.toNat_natCast]
   rw [f j (Nat.le_refl _)];refine Q2 (hq _ (V7 h)) ?_
   have o:(l.take (j+1)).filter (fun r=> !p r)=(l.take j).filter (fun r=> !p r)++(if p (gl l j)=true then [] else [gl l j]):=by
    rw [Q0c h,List.filter_append]
    by_cases b:p (gl l j)=true
    .rw [if_pos b];simp [b]
    .rw [if_neg b];simp [b]
   refine Q6 (fun b=>?_) (fun b=>?_)
   .have b:p (gl l j)=false:=by simpa using b
    refine Z3 (k:=?_);refine Z3 (k:=?_)
    unfold G4;refine Z3 (k:=?_)
    refine C _ ⟨i+1,j+1,a.set i (gl l j),rfl,by omega,by omega,by simp [c],fun m I=>?_,?_⟩ (by simp only;omega)
    .rw [Y0H _ _ _ _ (by omega),if_neg (by omega)];exact f m (by omega)
    .rw [o,if_neg (by rw [b];simp), <-e,Q0c (by simp;omega),Z5E _ _ _ _ (Nat.le_refl _),Y0H _ _ _ _ (by omega),if_pos rfl]
   .have b:p (gl l j)=true:=by simpa using b
    unfold G4;refine Z3 (k:=?_)
    refine C _ ⟨i,j+1,a,rfl,by omega,by omega,c,fun m I=>f m (by omega),?_⟩ (by simp only;omega);rw [o,if_pos b,List.append_nil,e]
  .have h:¬ j<l.length:=by simpa using h
   unfold Q1D;simp only [Int.toNat_natCast,Y5p,c]
   refine Z3 (k:=?_);refine Z3 (k:=?_)
   rw [Y2l _ _ _ (by omega),e,List.take_of_length_le (by omega)]
 .have g:l.any p=false:=by simpa using g
  rw [Z1v,g];refine Z4 rfl ?_
  congr 1
  symm
  rw [List.filter_eq_self];intro x n
  have:=List.any_eq_false.1 g x n
  simpa using this
theorem Q9V{F:Nat}{l:List Rect}(hl:l.length<=LIM):Q2L F l=some l:=by
 unfold Q2L
 cases h:l with
 | nil=>
  show gdc _ _=_;unfold gdc
  exact @Q7 _ _ (Classical.propDecidable _) _ _ rfl rfl
 | cons a l' =>
  have:(a::l').length=l'.length+1:=rfl
  show (gd _ _)=_;rw [<-h]
  refine Z3 (k:=?_);simp
noncomputable def Z3M(f:A2_):Int:=
 if f.N_<1\/1073741824<f.N_ then 2 else if f.k_<0\/15<f.k_ then 14 else if f.F_<0\/f.u_<=f.F_\/36865<f.u_ then 9
 else if f.g_.t_.length=0\/Q2H f.g_.t_=false then 7 else 0
theorem Z9q{F:Nat}(hF:BIG<=F)(f:A2_):Z3G F f=some (Z3M f):=by
 have d:∀ b:Bool,(b=true↔f.g_.t_.length=0\/Q2H f.g_.t_=false)->Q5S F b=some (if f.g_.t_.length=0\/Q2H f.g_.t_=false then 7 else 0):=by
  intro b a;unfold Q5S
  refine Q6 (fun h=>by rw [if_pos (a.1 h)]) (fun h=>by rw [if_neg fun c=>by rw [a.2 c] at h;cases h])
 have e:∀ b:Bool,(b=true↔f.F_<0\/f.u_<=f.F_\/36865<f.u_)->Q2O F f b=some (if f.F_<0\/f.u_<=f.F_\/36865<f.u_ then 9 else if f.g_.t_.length=0\/Q2H f.g_.t_=false then 7 else 0):=by
  intro b a;unfold Q2O
  refine Q6 (fun h=>by rw [if_pos (a.1 h)]) (fun h=>?_);rw [if_neg fun c=>by rw [a.2 c] at h;cases h]
  refine Q2 (K3 hF _) ?_;rw [Q7x (Q5S F)]
  exact d _ (by simp [or_comm])
 have g:∀ b:Bool,(b=true↔f.k_<0\/15<f.k_)->Q2P F f b=some (if f.k_<0\/15<f.k_ then 14 else if f.F_<0\/f.u_<=f.F_\/36865<f.u_ then 9 else if f.g_.t_.length=0\/Q2H f.g_.t_=false then 7 else 0):=by
  intro b a;unfold Q2P
  refine Q6 (fun h=>by rw [if_pos (a.1 h)]) (fun h=>?_);rw [if_neg fun c=>by rw [a.2 c] at h;cases h]
  rw [Q7x (Q2O F f),Q7x (Q2O F f)];exact e _ (by simp)
 unfold Z3G Z1p Z3M;rw [Q7x (fun b=>br b (some (2:Int)) (br (decide (f.k_<(0:Int))) (Q2P F f true) (Q2P F f (decide ((15:Int)<f.k_)))))]
 refine Q6 (fun h=>by rw [if_pos (by simpa using h)]) (fun h=>?_);rw [if_neg (by simpa using h),Q7x (Q2P F f)]
 exact g _ (by simp)
theorem Z9J{F:Nat}(hF:BIG<=F)(f:A2_):Q8u F f=some (Z3M f):=by
 have e:∀ b:Bool,(b=true↔f.g_.t_.length=0\/Q2H f.g_.t_=false)->Q2W F b=some (if f.g_.t_.length=0\/Q2H f.g_.t_=false then 7 else 0):=by
  intro b c;unfold Q2W
  refine Q6 (fun h=>by rw [if_pos (c.1 h)]) (fun h=>by rw [if_neg fun d=>by rw [c.2 d] at h;cases h])
 have g:∀ b:Bool,(b=true↔f.F_<0\/f.u_<=f.F_\/36865<f.u_)->Q0q F f b=some (if f.F_<0\/f.u_<=f.F_\/36865<f.u_ then 9 else if f.g_.t_.length=0\/Q2H f.g_.t_=false then 7 else 0):=by
  intro b c;unfold Q0q
  refine Q6 (fun h=>by rw [if_pos (c.1 h)]) (fun h=>?_);rw [if_neg fun d=>by rw [c.2 d] at h;cases h]
  refine Q6 (fun a=>?_) (fun a=>?_)
  .have a:f.g_.t_.length=0:=by simp at a;simp [a]
   exact e _ (by simp [a])
  .have a:f.g_.t_.length≠0:=by simp at a;simpa using a
   exact Q2 (Q0g hF _) (e _ (by simp [a]))
 have i:∀ b:Bool,(b=true↔f.k_<0\/15<f.k_)->Q0r F f b=some (if f.k_<0\/15<f.k_ then 14 else if f.F_<0\/f.u_<=f.F_\/36865<f.u_ then 9 else if f.g_.t_.length=0\/Q2H f.g_.t_=false then 7 else 0):=by
  intro b c;unfold Q0r
  refine Q6 (fun h=>by rw [if_pos (c.1 h)]) (fun h=>?_);rw [if_neg fun d=>by rw [c.2 d] at h;cases h]
  rw [Q7x (Q0q F f),Q7x (Q0q F f)];exact g _ (by simp)
 unfold Q8u Q5g Z3M;rw [Q7x (fun b=>br b (some (2:Int)) (br (decide (f.k_<(0:Int))) (Q0r F f true) (Q0r F f (decide ((15:Int)<f.k_)))))]
 refine Q6 (fun h=>by rw [if_pos (by simpa using h)]) (fun h=>?_);rw [if_neg (by simpa using h),Q7x (Q0r F f)]
 exact i _ (by simp)
noncomputable def Z4b:Option Int->List A2_->Int
 | _,[]=>0
 | p,f::l=>if Z3M f≠0 then Z3M f else if p.any (fun n=>decide (f.N_<=n)) then 3 else Z4b (some f.N_) l
noncomputable def Q6G(l:List A2_):Int:=if 60<l.length then 1 else Z4b none l
def Z8d(l:List A2_)(i:Nat):Option Int:=if i=0 then none else some (gl l (i-1)).N_
theorem Y2R(l:List A2_)(i:Nat):Z8d l (i+1)=some (gl l i).N_:=by simp [Z8d]
theorem Z6d{F:Nat}(hF:BIG<=F)(l:List A2_):Q9X F l=some (Q6G l):=by
 have m:=hF;unfold BIG at hF
 unfold Q9X Q6G;refine Q6 (fun h=>?_) (fun h=>?_)
 .have h:60<l.length:=by simp at h;omega
  rw [if_pos h]
 .have h:¬ 60<l.length:=by simp at h;omega
  rw [if_neg h];refine Y8 (fun z:Int=>∃ i:Nat,z=i/\i<=l.length/\Z4b none l=Z4b (Z8d l i) (l.drop i)) (fun z=>l.length-z.toNat) (fun c z p r=>?_) ⟨0,rfl,by omega,rfl⟩ (by simp;omega)
  obtain ⟨i,rfl,s,a⟩:=p;unfold Z6f
  refine Q6 (fun e=>?_) (fun e=>?_)
  .have e:i<l.length:=by simpa using e
   rw [Q1P e,Z4b] at a;refine Z3 (k:=?_)
   simp only [Int.toNat_natCast];refine Q2 (Z9q m _) ?_
   refine Q6 (fun d=>?_) (fun d=>?_)
   .have d:Z3M (gl l i)≠0:=by simpa using d
    rw [a,if_pos d]
   .have d:Z3M (gl l i)=0:=by simpa using d
    rw [if_neg (by simp [d])] at a;have o:∀ b:Bool,b=(Z8d l i).any (fun n=>decide ((gl l i).N_<=n))->Q5x F i c b=some (Z4b none l):=by
     intro b g;unfold Q5x
     refine Q6 (fun j=>?_) (fun j=>?_)
     .rw [a,if_pos (g ▸ j)]
     .rw [if_neg (by rw [<-g,j];simp)] at a
      refine Z3 (k:=?_);refine r _ ⟨i+1,by omega,e,?_⟩ (by omega)
      rw [a,Y2R]
    refine Q6 (fun f=>?_) (fun f=>?_)
    .have f:0<i:=by simpa using f
     refine Z3 (k:=?_);refine Z3 (k:=?_)
     have q:((i:Int)-1).toNat=i-1:=by omega
     rw [q];exact o _ (by simp [Z8d,show i≠0 from by omega])
    .have f:i=0:=by simp at f;omega
     exact o _ (by simp [Z8d,f])
  .have e:¬ i<l.length:=by simpa using e
   rw [List.drop_of_length_le (by omega)] at a;rw [a];rfl
theorem Y0M{F:Nat}(hF:BIG<=F)(l:List A2_):Q9H F l=some (Q6G l):=by
 have m:=hF;unfold BIG at hF
 unfold Q9H Q6G;refine Q6 (fun h=>?_) (fun h=>?_)
 .have h:60<l.length:=by simp at h;omega
  rw [if_pos h]
 .have h:¬ 60<l.length:=by simp at h;omega
  rw [if_neg h];refine Y8 (fun z:Int=>∃ i:Nat,z=i/\i<=l.length/\Z4b none l=Z4b (Z8d l i) (l.drop i)) (fun z=>l.length-z.toNat) (fun c z p r=>?_) ⟨0,rfl,by omega,rfl⟩ (by simp;omega)
  obtain ⟨i,rfl,s,a⟩:=p;unfold Z3V
  refine Q6 (fun e=>?_) (fun e=>?_)
  .have e:i<l.length:=by simpa using e
   rw [Q1P e,Z4b] at a;refine Z3 (k:=?_)
   simp only [Int.toNat_natCast];refine Q2 (Z9J m _) ?_
   refine Q6 (fun d=>?_) (fun d=>?_)
   .have d:Z3M (gl l i)≠0:=by simpa using d
    rw [a,if_pos d]
   .have d:Z3M (gl l i)=0:=by simpa using d
    rw [if_neg (by simp [d])] at a;have o:∀ b:Bool,b=(Z8d l i).any (fun n=>decide ((gl l i).N_<=n))->Q3O F i c b=some (Z4b none l):=by
     intro b g;unfold Q3O
     refine Q6 (fun j=>?_) (fun j=>?_)
     .rw [a,if_pos (g ▸ j)]
     .rw [if_neg (by rw [<-g,j];simp)] at a
      refine Z3 (k:=?_);refine r _ ⟨i+1,by omega,e,?_⟩ (by omega)
      rw [a,Y2R]
    refine Q6 (fun f=>?_) (fun f=>?_)
    .have f:0<i:=by simpa using f
     refine Z3 (k:=?_);refine Z3 (k:=?_)
     have q:((i:Int)-1).toNat=i-1:=by omega
     rw [q];exact o _ (by simp [Z8d,show i≠0 from by omega])
    .have f:i=0:=by simp at f;omega
     exact o _ (by simp [Z8d,f])
  .have e:¬ i<l.length:=by simpa using e
   rw [List.drop_of_length_le (by omega)] at a;rw [a];rfl
structure VL (l:List A2_):Prop where
 len:l.length<=60
 one:∀ f ∈ l,Z3M f=0
 asc:l.Pairwise fun f g=>f.N_<g.N_
theorem Y3r:∀ (l:List A2_) (p:Option Int),Z4b p l=0↔(∀ f ∈ l,Z3M f=0)/\l.Pairwise (fun f g=>f.N_<g.N_)/\∀ n,p=some n->∀ f ∈ l,n<f.N_
 | [],p=>by simp [Z4b]
 | f::l,p=>by
  have k:=Y3r l (some f.N_);unfold Z4b
  by_cases h1:Z3M f=0
  .rw [if_neg (by simp [h1])]
   by_cases e:p.any (fun n=>decide (f.N_<=n))=true
   .rw [if_pos e]
    constructor
    .intro h;cases h
    .rintro ⟨_,_,h⟩
     cases p with
     | none=>simp at e
     | some n=>
      have e:f.N_<=n:=by simpa using e
      have:=h n rfl f (by simp)
      omega
   .rw [if_neg e,k]
    constructor
    .rintro ⟨a,b,c⟩
     refine ⟨fun g d=>?_,List.pairwise_cons.2 ⟨fun g d=>c _ rfl g d,b⟩,fun n i g d=>?_⟩
     .rcases List.mem_cons.1 d with rfl|d
      .exact h1
      .exact a g d
     .subst i
      have e:n<f.N_:=by simpa using e
      rcases List.mem_cons.1 d with rfl|d
      .exact e
      .have:=c _ rfl g d;omega
    .rintro ⟨a,b,c⟩
     obtain ⟨m,j⟩:=List.pairwise_cons.1 b;exact ⟨fun g d=>a g (by simp [d]),j,fun n i g d=>by cases i;exact m g d⟩
  .rw [if_pos h1]
   constructor
   .intro h;exact absurd h h1
   .rintro ⟨a,_,_⟩;exact absurd (a f (by simp)) h1
theorem Q9r(l:List A2_):Q6G l=0↔VL l:=by
 unfold Q6G
 by_cases h:60<l.length
 .rw [if_pos h]
  exact ⟨fun h=>(by cases h),fun c=>by have:=c.len;omega⟩
 .rw [if_neg h,Y3r]
  exact ⟨fun ⟨a,b,_⟩=>⟨by omega,a,b⟩,fun c=>⟨c.one,c.asc,fun n d=>by cases d⟩⟩
theorem Z1z(f:A2_):Z3M f=0↔1<=f.N_/\f.N_<=1073741824/\0<=f.k_/\f.k_<=15/\0<=f.F_/\f.F_<f.u_/\f.u_<=36865/\f.g_.t_.length≠0/\Val f.g_.t_:=by
 unfold Z3M;rw [<-Q0M]
 by_cases h1:f.N_<1\/1073741824<f.N_
 .rw [if_pos h1];simp;omega
 .rw [if_neg h1]
  by_cases h2:f.k_<0\/15<f.k_
  .rw [if_pos h2];simp;omega
  .rw [if_neg h2]
   by_cases h3:f.F_<0\/f.u_<=f.F_\/36865<f.u_
   .rw [if_pos h3];simp;omega
   .rw [if_neg h3]
    by_cases a:f.g_.t_.length=0\/Q2H f.g_.t_=false
    .rw [if_pos a]
     constructor
     .intro h;cases h
     .rintro ⟨_,_,_,_,_,_,_,c,b⟩
      rcases a with a|a
      .exact absurd a c
      .rw [b] at a;cases a
    .rw [if_neg a]
     refine ⟨fun _=>?_,fun _=>rfl⟩;have c:f.g_.t_.length≠0:=fun h=>a (.inl h)
     have b:Q2H f.g_.t_=true:=by
      cases hv:Q2H f.g_.t_ with
      | true=>rfl
      | false=>exact absurd (.inr hv) a
     refine ⟨by omega,by omega,by omega,by omega,by omega,by omega,by omega,c,b⟩
theorem Z9K{F:Nat}{f:A2_}(h:f.g_.t_.length<=LIM):Q8v F f=some f:=by
 unfold Q8v;exact Q2 (Q9V h) rfl
theorem VL.rlen{l:List A2_}(h:VL l){f:A2_}(hf:f ∈ l):f.g_.t_.length<=120:=((Z1z f).1 (h.one f hf)).2.2.2.2.2.2.2.2.1
theorem Y3h{F:Nat}(hF:BIG<=F){l:List A2_}(h:VL l):Z2V F l=some l:=by
 unfold BIG at hF;have d:=h.len
 unfold Z2V;refine Y8 (fun z:Int×List A2_=>∃ i:Nat,z=((i:Int),l.take i)/\i<=l.length) (fun z=>l.length-z.1.toNat) (fun b z e c=>?_) ⟨0,rfl,by omega⟩ (by simp only;omega)
 obtain ⟨i,rfl,f⟩:=e;simp only at c ⊢
 unfold Z6G;refine Q6 (fun a=>?_) (fun a=>?_)
 .have a:i<l.length:=by simpa using a
  refine Z3 (k:=?_);simp only [Int.toNat_natCast]
  refine Q2 (Z9K (by have:=h.rlen (V7 a);unfold LIM;omega)) ?_;refine Z3 (k:=?_)
  refine Z3 (k:=?_);exact c _ ⟨i+1,by rw [Q0c a];rfl,a⟩ (by simp only;omega)
 .have a:¬ i<l.length:=by simpa using a
  unfold Z2t;rw [List.take_of_length_le (by omega)]
def Z1F(f:A2_)(d:Int):Bool:=decide (f.F_<=d)&&decide (d<f.u_)
theorem Z3T(F:Nat)(f:A2_)(d:Int):Q6D F f d=some (Z1F f d):=by
 unfold Q6D;rw [Q4g (Q6e F)];rfl
theorem Y0K{F:Nat}(hF:BIG<=F)(l:List A2_)(d:Int):Q9G F l d=some (if Q6G l≠0 then Q6G l else if d<0\/36864<d then 9 else 0):=by
 unfold Q9G;refine Q2 (Y0M hF l) ?_
 refine Q6 (fun h=>?_) (fun h=>?_)
 .have h:Q6G l≠0:=by simpa using h
  rw [if_pos h]
 .have h:Q6G l=0:=by simpa using h
  rw [if_neg (by simp [h]),Q7x (Q3L F)];unfold Q3L
  refine Q6 (fun h=>?_) (fun h=>?_)
  .rw [if_pos (by simpa using h)]
  .rw [if_neg (by simpa using h)]
theorem Z3t{F:Nat}(hF:BIG<=F)(l:List A2_)(d:Int):Z2v F l d=some (if Q6G l≠0 then ([],Q6G l) else if d<0\/36864<d then ([],9) else (l.filter fun f=>Z1F f d,0)):=by
 unfold Z2v;refine Q2 (Y0K hF l d) ?_
 by_cases h:Q6G l=0
 .simp only [h,ne_eq,not_true_eq_false,if_false]
  by_cases h2:d<0\/36864<d
  .simp only [h2,if_true]
   exact Z4 rfl rfl
  .simp only [h2,if_false]
   refine Q5 rfl ?_;have b:=(Q9r l).1 h
   refine Q2 (Y3h hF b) ?_;have a:=b.len
   refine Q2 (Z0n hF (fun f=> !Z1F f d) (by omega) (fun f _=>by unfold Z4J;rw [Z3T];rfl)) ?_;simp
 .have e:(if Q6G l≠0 then Q6G l else if d<0\/36864<d then 9 else 0)=Q6G l:=if_pos h
  rw [e,if_pos h];refine Z4 (by simpa using h) rfl
def Q4Z(l:List A2_)(n:Int):Nat:=l.countP fun f=>decide (f.N_<n)
theorem Z8z{l:List A2_}(h:l.Pairwise fun f g=>f.N_<g.N_)(n:Int):Q4Z l n<=l.length/\(∀ j,j<Q4Z l n->(gl l j).N_<n)/\∀ j,Q4Z l n<=j->j<l.length->n<=(gl l j).N_:=by
 induction l with
 | nil=>exact ⟨Nat.le_refl _,fun j i=>by simp [Q4Z] at i,fun j _ i=>by simp at i⟩
 | cons f l ih=>
  obtain ⟨p,m⟩:=List.pairwise_cons.1 h;obtain ⟨a,b,c⟩:=ih m
  by_cases hf:f.N_<n
  .have e:Q4Z (f::l) n=Q4Z l n+1:=by simp [Q4Z,hf]
   rw [e];refine ⟨by simp;exact a,fun j i=>?_,fun j i d=>?_⟩
   .cases j with
    | zero=>exact hf
    | succ j=>exact b j (by omega)
   .cases j with
    | zero=>omega
    | succ j=>exact c j (by omega) (by simpa using d)
  .have k:Q4Z l n=0:=by
    unfold Q4Z;rw [List.countP_eq_zero]
    intro g o;have:=p g o
    simp;omega
   have e:Q4Z (f::l) n=0:=by
    have:Q4Z (f::l) n=Q4Z l n:=by simp [Q4Z,hf]
    rw [this,k]
   rw [e];refine ⟨Nat.zero_le _,fun j i=>by omega,fun j _ d=>?_⟩
   cases j with
   | zero=>show n<=f.N_;omega
   | succ j=>exact c j (by omega) (by simpa using d)
structure TOk (t:Tape):Prop where
 at_:0<=t.at_
 len:t.l_.length<=400
theorem Y6d{F:Nat}(a:Int){n:Int}(h1:1<=n)(h2:n<=1099511627776):∃ k,Z2s F a n=some k/\0<=k/\k<n:=by
 have c:=Int.tmod_lt_of_pos a (show 0<n by omega);have b:=Int.lt_tmod_of_pos a (show 0<n by omega)
 unfold Z2s;generalize a.tmod n=m at *
 by_cases h:m<0
 .refine ⟨m+n,?_,by omega,by omega⟩
  refine Q5 (by simp;omega) ?_;refine Z3 (k:=?_)
  refine Z4 (by simpa using h) ?_;refine Z3 (k:=?_)
  rfl
 .refine ⟨m,?_,by omega,by omega⟩
  refine Q5 (by simp;omega) ?_;refine Z3 (k:=?_)
  exact Q5 (by simpa using h) rfl
theorem Z6{F:Nat}{t:Tape}(ht:TOk t){n:Int}(h1:1<=n)(h2:n<=1099511627776):∃ t' k,Z9 F t n=some (t',k)/\TOk t' /\ 0<=k/\k<n:=by
 obtain ⟨a,b⟩:=ht;unfold Z9
 by_cases h:(t.l_.length:Int)<=t.at_
 .exact ⟨t,0,Z4 (by simpa using h) rfl,⟨a,b⟩,by omega,by omega⟩
 .obtain ⟨k,c,k1,k2⟩:=Y6d (F:=F) (gl t.l_ ((t.at_+1)-1).toNat) h1 h2
  refine ⟨⟨t.l_,t.at_+1⟩,k,?_,⟨by simp only;omega,b⟩,k1,k2⟩;refine Q5 (by simpa using h) ?_
  refine Z3 (k:=?_);refine Z3 (k:=?_)
  refine Z3 (k:=?_);exact Q2 c rfl
theorem U5{F:Nat}{t:Tape}(ht:TOk t){lo hi:Int}(h1:lo<=hi)(h0 : -1099511627<=lo)(h2:hi<=1099511627):∃ t' k,U3 F t lo hi=some (t',k)/\TOk t' /\ lo<=k/\k<=hi:=by
 obtain ⟨t',k,d,a,b,c⟩:=Z6 (F:=F) ht (n:=(hi-lo)+1) (by omega) (by omega);refine ⟨t',lo+k,?_,a,by omega,by omega⟩
 unfold U3;refine Z3 (k:=?_)
 refine Z3 (k:=?_);refine Q2 d ?_
 refine Z3 (k:=?_);rfl
def Box(n:Int)(l:List Rect):Prop:=∀ r ∈ l,0<=r.L_/\r.L_<r.R_/\r.R_<=n/\0<=r.w_/\r.w_<r.H_/\r.H_<=n
theorem Box.prop{n:Int}{l:List Rect}(h:Box n l)(hn:n<=16384):∀ r ∈ l,Q1j r=true:=fun r a=>(Q0b r).2 (by have:=h r a;omega)
theorem Box.in{n:Int}{l:List Rect}(h:Box n l){x y:Int}(hx:inR l x y=true):0<=x/\x<n/\0<=y/\y<n:=by
 obtain ⟨r,b,a⟩:=List.any_eq_true.1 hx;rw [J0] at a
 have:=h r b
 omega
theorem W0v{l:List (Rn (List Span))}{r:Rect}(h:r ∈ flat l):∃ b ∈ l,∃ s ∈ b.v,r=⟨s.L_,b.lo,s.R_,b.hi⟩:=by
 obtain ⟨b,c,a⟩:=List.mem_flatMap.1 h;obtain ⟨s,d,rfl⟩:=List.mem_map.1 a
 exact ⟨b,c,s,d,rfl⟩
theorem Q0f.pos{l:List Rect}(h:Q0f l){r:Rect}(hr:r ∈ l):r.L_<r.R_/\r.w_<r.H_:=by
 obtain ⟨b,d,rfl⟩:=h;obtain ⟨c,a,s,e,rfl⟩:=W0v hr
 exact ⟨(d.sp c a).pos s e,d.runs.pos c a⟩
theorem Q6Y{l:List Rect}{r:Rect}(hr:r ∈ l){x y:Int}(h:r.has x y=true):inR l x y=true:=List.any_eq_true.2 ⟨r,hr,h⟩
theorem Q0f.box{l:List Rect}(h:Q0f l){n:Int}(hn:∀ x y,inR l x y=true->0<=x/\x<n/\0<=y/\y<n):Box n l:=by
 intro r c;obtain ⟨e,d⟩:=h.pos c
 have a:=hn r.L_ r.w_ (Q6Y c ((J0 _ _ _).2 (by omega)));have b:=hn (r.R_-1) (r.H_-1) (Q6Y c ((J0 _ _ _).2 (by omega)))
 omega
theorem W0R{S:Int->Int->Bool}(hf:Fin S){n:Int}(hn:∀ x y,S x y=true->0<=x/\x<n/\0<=y/\y<n):Box n (cn S):=
 (Q0f.cn hf).box fun x y h=>hn x y (by rwa [J5 hf] at h)
theorem Z1A:Q0f []:=⟨[],⟨.nil,fun b a=>(List.not_mem_nil a).elim,fun b a=>(List.not_mem_nil a).elim⟩,rfl⟩
theorem Y0R{r:Rect}(h1:r.L_<r.R_)(h2:r.w_<r.H_):Q0f [r]:=
 ⟨[⟨r.w_,r.H_,[⟨r.L_,r.R_⟩]⟩],⟨⟨fun b a=>by rw [List.mem_singleton.1 a];exact h2,List.pairwise_singleton _ _⟩,fun b a=>by
  rw [List.mem_singleton.1 a];exact ⟨fun s c=>by rw [List.mem_singleton.1 c];exact h1,List.pairwise_singleton _ _⟩,fun b a=>by rw [List.mem_singleton.1 a];simp⟩,rfl⟩
theorem Y8s(n:Int):Box n []:=fun r a=>(List.not_mem_nil a).elim
theorem Val.nil:Val []:=⟨by simp,fun r a=>(List.not_mem_nil a).elim,Z1A⟩
theorem Q8o{F:Nat}{t:Tape}(ht:TOk t){n:Int}(h1:1<=n)(h2:n<=16384):∃ t' r,Q2n F t n=some (t',r)/\TOk t' /\ Box n [r]:=by
 obtain ⟨q,x,e,a,z,s⟩:=Z6 (F:=F) ht (n:=n) (by omega) (by omega);obtain ⟨B,y,d,j,l,C⟩:=Z6 (F:=F) a (n:=n) (by omega) (by omega)
 obtain ⟨m,u,f,g,p,o⟩:=Z6 (F:=F) j (n:=n-x) (by omega) (by omega);obtain ⟨b,v,h,c,w,A⟩:=Z6 (F:=F) g (n:=n-y) (by omega) (by omega)
 refine ⟨b,⟨x,y,(x+1)+u,(y+1)+v⟩,?_,c,fun r i=>?_⟩
 .unfold Q2n
  refine Q2 e ?_;refine Q2 d ?_
  simp only
  refine Z3 (k:=?_);refine Z3 (k:=?_)
  refine Q2 f ?_;simp only
  refine Z3 (k:=?_);refine Z3 (k:=?_)
  refine Z3 (k:=?_);refine Q2 h ?_
  simp only
  refine Z3 (k:=?_);rfl
 .rw [List.mem_singleton.1 i]
  simp only
  omega
structure RegT (n:Int) (a:Re_):Prop where
 box:Box n a.t_
 val:Val a.t_
theorem Z0d{F:Nat}(hF:BIG<=F){t:Tape}(ht:TOk t){n most:Int}(h1:1<=n)(h2:n<=16384)(m1:0<=most)(m2:most<=100):∃ t' a R,Q1Y F t n most=some (t',a)/\TOk t' /\ RegT n a/\(List.length (α:=Rect) R:Int)<=most/\inR a.t_=inR R:=by
 have o:=hF;unfold BIG at hF
 obtain ⟨A,c,C,s,H,I⟩:=Z6 (F:=F) ht (n:=most+1) (by omega) (by omega);have m:∀ (k f:Nat) (t:Tape) (l:List Rect),k<f->TOk t->Box n l->l.length+k<=100->(l.length:Int)+k<=most->∃ t' a R,Z2 (fun again (z:Int×List Int×Int×List Rect)=>Q0W F n again z.1 z.2.1 z.2.2.1 z.2.2.2) f ((k:Int),t.l_,t.at_,l)=some (t',a)/\TOk t' /\ RegT n a/\(List.length (α:=Rect) R:Int)<=most/\inR a.t_=inR R:=by
  intro k
  induction k with
  | zero=>
   intro f t l u ht g G D
   cases f with
   | zero=>omega
   | succ f=>
    have j:=Y5U o (l:=l) (by omega) (g.prop h2);refine ⟨⟨t.l_,t.at_⟩,(if 120<(cn (inR l)).length then ((⟨[]⟩:Re_),(1:Int)) else (⟨cn (inR l)⟩,0)).1,(if 120<(cn (inR l)).length then [] else l),?_,ht,?_⟩
    .show Q0W F n _ 0 t.l_ t.at_ l=_
     unfold Q0W;refine Q5 rfl ?_
     unfold Q6k;exact Q2 j rfl
    .split
     .exact ⟨⟨Y8s _,Val.nil⟩,by simp;omega,rfl⟩
     .rename_i p
      have b:Box n (cn (inR l)):=W0R (V3 l) fun x y h=>g.in h
      exact ⟨⟨b,by simp only;omega,b.prop h2,Q0f.cn (V3 l)⟩,by omega,by funext x y;exact J5 (V3 l) x y⟩
  | succ k ih=>
   intro f t l u ht g G D
   cases f with
   | zero=>omega
   | succ f=>
    obtain ⟨t',r,B,w,v⟩:=Q8o (F:=F) ht h1 h2;obtain ⟨E,a,Q,e,i,b⟩:=ih f t' (l++[r]) (by omega) w (fun q d=>by
     rcases List.mem_append.1 d with d|d
     .exact g q d
     .exact v q d) (by simp;omega) (by simp;omega)
    refine ⟨E,a,Q,?_,i,b⟩;show Q0W F n _ ((k+1:Nat):Int) t.l_ t.at_ l=_
    unfold Q0W;refine Z4 (by simp) ?_
    refine Q2 B ?_;refine Z3 (k:=?_)
    refine Z3 (k:=?_);have:((k+1:Nat):Int)-1=(k:Int):=by omega
    rw [this];exact e
 obtain ⟨t',a,Q,e,i,b⟩:=m c.toNat F A [] (by omega) s (Y8s _) (by simp;omega) (by simp;omega);refine ⟨t',a,Q,?_,i,b⟩
 unfold Q1Y;refine Z3 (k:=?_)
 refine Q2 C ?_;have:(c.toNat:Int)=c:=by omega
 rw [this] at e;exact e
theorem Z0U{F:Nat}(hF:BIG<=F){t:Tape}(ht:TOk t){n most:Int}(h1:1<=n)(h2:n<=16384)(m1:0<=most)(m2:most<=100):∃ t' a,Q1Y F t n most=some (t',a)/\TOk t' /\ RegT n a:=by
 obtain ⟨t',a,_,e,o,h,_⟩:=Z0d hF ht h1 h2 m1 m2;exact ⟨t',a,e,o,h⟩
theorem Z8E{F:Nat}(hF:BIG<=F){t:Tape}(ht:TOk t){n most:Int}(h1:1<=n)(h2:n<=16384)(m1:1<=most)(m2:most<=100):∃ t' a R,Q2r F t n most=some (t',a)/\TOk t' /\ RegT n a/\a.t_.length≠0/\(List.length (α:=Rect) R:Int)<=most/\inR a.t_=inR R:=by
 obtain ⟨e,a,Q,c,d,g,l⟩:=Z0d hF ht h1 h2 (by omega) m2;unfold Q2r
 by_cases h:a.t_.length=0
 .obtain ⟨f,r,i,k,b⟩:=Q8o (F:=F) d h1 h2
  have j:=b r (by simp);refine ⟨⟨f.l_,f.at_⟩,⟨[r]⟩,[r],?_,k,⟨b,by simp,b.prop h2,Y0R (by omega) (by omega)⟩,by simp,by simp;omega,rfl⟩
  refine Q2 c ?_;refine Z4 (by simp only [h];rfl) ?_
  exact Q2 i rfl
 .refine ⟨⟨e.l_,e.at_⟩,⟨a.t_⟩,Q,?_,d,g,h,l⟩
  refine Q2 c ?_;exact Q5 (by simpa using h) rfl
theorem Z9C{F:Nat}(hF:BIG<=F){t:Tape}(ht:TOk t){n most:Int}(h1:1<=n)(h2:n<=16384)(m1:0<=most)(m2:most<=100):∃ t' a,Q2r F t n most=some (t',a)/\TOk t' /\ RegT n a/\a.t_.length≠0:=by
 obtain ⟨e,a,c,d,g⟩:=Z0U hF ht h1 h2 m1 m2;unfold Q2r
 by_cases h:a.t_.length=0
 .obtain ⟨f,r,i,k,b⟩:=Q8o (F:=F) d h1 h2
  have j:=b r (by simp);refine ⟨⟨f.l_,f.at_⟩,⟨[r]⟩,?_,k,⟨b,by simp,b.prop h2,Y0R (by omega) (by omega)⟩,by simp⟩
  refine Q2 c ?_;refine Z4 (by simp only [h];rfl) ?_
  exact Q2 i rfl
 .refine ⟨⟨e.l_,e.at_⟩,⟨a.t_⟩,?_,d,g,h⟩
  refine Q2 c ?_;exact Q5 (by simpa using h) rfl
structure FeaT (f:A2_):Prop where
 kind:0<=f.k_/\f.k_<=15
 F_:0<=f.F_/\f.F_<20
 u_:f.F_<f.u_/\f.u_<=f.F_+30
 reg:RegT 9 f.g_
 ne:f.g_.t_.length≠0
theorem Z6w{F:Nat}(hF:BIG<=F){t:Tape}(ht:TOk t)(n:Int):∃ t' f,Q5d F t n=some (t',f)/\TOk t' /\ FeaT f/\f.N_=n:=by
 obtain ⟨v,a,j,e,x,y⟩:=Z6 (F:=F) ht (n:=20) (by omega) (by omega);obtain ⟨B,b,i,q,z,s⟩:=Z6 (F:=F) e (n:=16) (by omega) (by omega)
 obtain ⟨u,c,l,m,w,A⟩:=U5 (F:=F) q (lo:=1) (hi:=30) (by omega) (by omega) (by omega);obtain ⟨g,r,o,h,p,d⟩:=Z9C hF m (n:=9) (most:=2) (by omega) (by omega) (by omega) (by omega)
 refine ⟨g,⟨n,b,a,a+c,r⟩,?_,h,⟨by simp only;omega,by simp only;omega,by simp only;omega,p,d⟩,rfl⟩;unfold Q5d
 refine Q2 j ?_;refine Q2 i ?_
 refine Q2 l ?_;simp only
 refine Z3 (k:=?_);exact Q2 o rfl
theorem FeaT.one{f:A2_}(h:FeaT f)(h1:1<=f.N_)(h2:f.N_<=1073741824):Z3M f=0:=
 (Z1z f).2 ⟨h1,h2,h.kind.1,h.kind.2,h.F_.1,h.u_.1,by have:=h.F_;have:=h.u_;omega,h.ne,h.reg.val⟩
def Y6f(l:List A2_)(f:A2_):List A2_:=l.take (Q4Z l f.N_)++[f]++l.drop (Q4Z l f.N_)
noncomputable def Y7G(l:List A2_)(f:A2_):List A2_×Int:=
 if Q6G l≠0 then ([],Q6G l) else if Z3M f≠0 then ([],Z3M f) else if Q4Z l f.N_<l.length/\(gl l (Q4Z l f.N_)).N_=f.N_ then ([],6)
 else if l.length=60 then ([],1) else (Y6f l f,0)
theorem Z9r{F:Nat}(hF:BIG<=F)(l:List A2_)(f:A2_):Z7b F l f=some (Y7G l f):=by
 have m:=hF;unfold BIG at hF
 unfold Z7b Y7G;refine Q2 (Z6d m l) ?_
 by_cases h:Q6G l=0
 .refine Q5 (by simp [h]) ?_
  rw [if_neg (by simp [h])];refine Q2 (Z9q m f) ?_
  by_cases h1:Z3M f=0
  .refine Q5 (by simp [h1]) ?_
   rw [if_neg (by simp [h1])];have r:=(Q9r l).1 h
   have q:=r.len;obtain ⟨a,b,c⟩:=Z8z r.asc f.N_
   unfold Y6f;generalize Q4Z l f.N_=k at *
   refine Y8 (fun z:Int=>∃ i:Nat,z=i/\i<=k) (fun z=>l.length-z.toNat) (fun o z t u=>?_) ⟨0,rfl,by omega⟩ (by simp;omega);obtain ⟨i,rfl,v⟩:=t
   have j:i=k->Z1q F l f (i:Int)=some (if k<l.length/\(gl l k).N_=f.N_ then ([],6) else if l.length=60 then ([],1) else (l.take k++[f]++l.drop k,0)):=by
    rintro rfl;unfold Z1q
    have n:∀ b:Bool,(b=true↔i<l.length/\(gl l i).N_=f.N_)->Q8a F l f (i:Int) b=some (if i<l.length/\(gl l i).N_=f.N_ then ([],6) else if l.length=60 then ([],1) else (l.take i++[f]++l.drop i,0)):=by
     intro b p;unfold Q8a
     refine Q6 (fun h=>by rw [if_pos (p.1 h)]) (fun h=>?_);rw [if_neg fun s=>by rw [p.2 s] at h;cases h]
     refine Q6 (fun h=>?_) (fun h=>?_)
     .have h:l.length=60:=by simp at h;omega
      rw [if_pos h]
     .have h:l.length≠60:=by simp at h;omega
      rw [if_neg h];simp only [Int.toNat_natCast]
      refine Z3 (k:=?_);refine Z3 (k:=?_)
      refine Z3 (k:=?_);refine Z3 (k:=?_)
      refine Z3 (k:=?_);simp
    refine Q6 (fun d=>?_) (fun d=>?_)
    .have d:i<l.length:=by simpa using d
     refine Z3 (k:=?_);exact n _ (by simp [d])
    .have d:¬ i<l.length:=by simpa using d
     exact n _ (by simp [d])
   unfold Z9s;refine Q6 (fun d=>?_) (fun d=>?_)
   .have d:i<l.length:=by simpa using d
    refine Z3 (k:=?_);unfold Q8b
    simp only [Int.toNat_natCast];refine Q6 (fun e=>?_) (fun e=>?_)
    .have e:(gl l i).N_<f.N_:=by simpa using e
     refine Z3 (k:=?_);refine u _ ⟨i+1,by omega,?_⟩ (by omega)
     rcases Nat.lt_or_ge i k with g|g
     .exact g
     .have:=c i g d;omega
    .have e:¬ (gl l i).N_<f.N_:=by simpa using e
     refine j ?_;rcases Nat.lt_or_ge i k with g|g
     .exact absurd (b i g) e
     .omega
   .have d:¬ i<l.length:=by simpa using d
    unfold Q8b;exact Q5 rfl (j (by omega))
  .refine Z4 (by simpa using h1) ?_
   rw [if_pos h1]
 .refine Z4 (by simpa using h) ?_
  rw [if_pos h]
theorem Y6e{l:List A2_}{f g:A2_}:g ∈ Y6f l f↔g=f\/g ∈ l:=by
 unfold Y6f;constructor
 .intro h
  rcases List.mem_append.1 h with h|h
  .rcases List.mem_append.1 h with h|h
   .exact .inr (List.mem_of_mem_take h)
   .exact .inl (List.mem_singleton.1 h)
  .exact .inr (List.mem_of_mem_drop h)
 .rintro (rfl|h)
  .simp
  .rw [<-List.take_append_drop (Q4Z l f.N_) l] at h
   rcases List.mem_append.1 h with h|h
   .simp [h]
   .simp [h]
theorem W1U{l:List A2_}{f:A2_}(hl:VL l)(hf:Z3M f=0)(hn:¬ (Q4Z l f.N_<l.length/\(gl l (Q4Z l f.N_)).N_=f.N_))(h60:l.length≠60):VL (Y6f l f):=by
 obtain ⟨a,b,c⟩:=Z8z hl.asc f.N_;have o:=hl.len
 refine ⟨by simp [Y6f];omega,fun g h=>?_,?_⟩
 .rcases Y6e.1 h with rfl|h
  .exact hf
  .exact hl.one g h
 .unfold Y6f
  generalize Q4Z l f.N_=k at *;have r:∀ g ∈ l.take k,g.N_<f.N_:=by
   intro g h;obtain ⟨j,m,rfl⟩:=List.getElem_of_mem h
   have d : j<k:=by simp at m;omega
   have:=b j d
   rw [K8 (by omega)] at this;simpa using this
  have w:∀ g ∈ l.drop k,f.N_<g.N_:=by
   intro g h;obtain ⟨j,m,rfl⟩:=List.getElem_of_mem h
   have d : k+j<l.length:=by simp at m;omega
   have u:=c (k+j) (by omega) d;rw [K8 d] at u
   have A:(l[k+j]).N_≠f.N_:=by
    intro e;rcases Nat.eq_zero_or_pos j with rfl|n
    .exact hn ⟨by omega,by rw [K8 (by omega)];exact e⟩
    .have q:=c k (Nat.le_refl _) (by omega)
     rw [K8 (by omega)] at q;have z:=List.pairwise_iff_getElem.1 hl.asc k (k+j) (by omega) d (by omega)
     omega
   simp only [List.getElem_drop];omega
  have n:=hl.asc;rw [<-List.take_append_drop k l,List.pairwise_append] at n
  obtain ⟨v,s,t⟩:=n;rw [List.append_assoc,List.pairwise_append]
  refine ⟨v,List.pairwise_cons.2 ⟨w,s⟩,fun x p y i=>?_⟩;rcases List.mem_append.1 i with i|i
  .rw [List.mem_singleton.1 i];exact r x p
  .exact t x p y i
structure LayT (l:List A2_):Prop where
 vl:VL l
 fea:∀ f ∈ l,FeaT f/\1<=f.N_/\f.N_<=12
theorem Z8C{F:Nat}(hF:BIG<=F){t:Tape}(ht:TOk t){most:Int}(m1:0<=most)(m2:most<=50):∃ t' l,Q6W F t most=some (t',l)/\TOk t' /\ LayT l/\(l.length:Int)<=most:=by
 have d:=hF;unfold BIG at hF
 obtain ⟨G,c,I,C,L,N⟩:=Z6 (F:=F) ht (n:=most+1) (by omega) (by omega);have q:∀ (k f:Nat) (t:Tape) (l:List A2_),k<f->TOk t->LayT l->(l.length:Int)+k<=most->∃ t' l',Z2 (fun again (z:List A2_×Int×List Int×Int)=>Q1h F again z.1 z.2.1 z.2.2.1 z.2.2.2) f (l,(k:Int),t.l_,t.at_)=some (t',l')/\TOk t' /\ LayT l' /\ (l'.length:Int)<=most:=by
  intro k
  induction k with
  | zero=>
   intro f t l h ht e J
   cases f with
   | zero=>omega
   | succ f=>exact ⟨⟨t.l_,t.at_⟩,l,rfl,ht,e,by omega⟩
  | succ k ih=>
   intro f t l h ht e J
   cases f with
   | zero=>omega
   | succ f=>
    obtain ⟨K,n,A,H,O,M⟩:=U5 (F:=F) ht (lo:=1) (hi:=12) (by omega) (by omega) (by omega);obtain ⟨v,g,w,u,B,D⟩:=Z6w d H n
    have i:=B.one (by omega) (by omega);have E:=(Q9r l).2 e.vl
    have y:((k+1:Nat):Int)-1=(k:Int):=by omega
    by_cases hadd:(Y7G l g).2=0
    .have o:LayT (Y7G l g).1/\(Y7G l g).1.length=l.length+1:=by
      unfold Y7G at hadd ⊢;rw [if_neg (by simp [E]),if_neg (by simp [i])] at hadd ⊢
      by_cases a:Q4Z l g.N_<l.length/\(gl l (Q4Z l g.N_)).N_=g.N_
      .rw [if_pos a] at hadd;cases hadd
      .rw [if_neg a] at hadd ⊢
       by_cases b:l.length=60
       .rw [if_pos b] at hadd;cases hadd
       .rw [if_neg b]
        refine ⟨⟨W1U e.vl i a b,fun x s=>?_⟩,?_⟩
        .rcases Y6e.1 s with rfl|s
         .exact ⟨B,by omega,by omega⟩
         .exact e.fea x s
        .have:=(Z8z e.vl.asc g.N_).1
         simp [Y6f];omega
     obtain ⟨r,p,a,b,m,j⟩:=ih f v (Y7G l g).1 (by omega) u o.1 (by omega);refine ⟨r,p,?_,b,m,j⟩
     show Q1h F _ l ((k+1:Nat):Int) t.l_ t.at_=_;unfold Q1h
     refine Z4 (by simp) ?_;refine Q2 A (Q2 w (Q2 (Z9r d l g) ?_))
     refine Z4 (by simpa using hadd) ?_;unfold Q2q
     refine Z3 (k:=?_);rw [y];exact a
    .obtain ⟨r,p,a,b,m,j⟩:=ih f v l (by omega) u e (by omega)
     refine ⟨r,p,?_,b,m,j⟩;show Q1h F _ l ((k+1:Nat):Int) t.l_ t.at_=_
     unfold Q1h;refine Z4 (by simp) ?_
     refine Q2 A (Q2 w (Q2 (Z9r d l g) ?_));refine Q5 (by simpa using hadd) ?_
     unfold Q2q;refine Z3 (k:=?_)
     rw [y];exact a
 obtain ⟨t',l,a,b,m,j⟩:=q c.toNat F G [] (by omega) C ⟨⟨by simp,fun f h=>(List.not_mem_nil h).elim,.nil⟩,fun f h=>(List.not_mem_nil h).elim⟩ (by simp;omega);refine ⟨t',l,?_,b,m,j⟩
 unfold Q6W;refine Z3 (k:=?_)
 refine Q2 I ?_;have:(c.toNat:Int)=c:=by omega
 rw [this] at a;exact a
theorem Y6c(F:Nat)(l:List Int):∃ t,Z6y F l=some t/\TOk t:=by
 unfold Z6y;have h:Q2b ((l.length:Nat):Int) 400=((min l.length 400:Nat):Int):=by unfold Q2b;split <;> omega
 rw [h];refine ⟨⟨l.take (min l.length 400),0⟩,?_,by simp only;omega,by simp;omega⟩
 refine Z3 (k:=?_);simp
theorem Y7q{R:Type}{body:(Int->Option R)->Int->Option R}{y:Option R}(N:Nat)(step:∀ again (i:Nat),i<N->again ((i:Int)+1)=y->body again (i:Int)=y)(stop:∀ again,body again (N:Int)=y){F:Nat}(hF:N<F):Z2 body F 0=y:=by
 refine Y8 (fun z:Int=>∃ i:Nat,z=i/\i<=N) (fun z=>N-z.toNat) (fun again z b a=>?_) ⟨0,rfl,Nat.zero_le _⟩ (by simp;omega);obtain ⟨i,rfl,c⟩:=b
 rcases Nat.lt_or_ge i N with h|h
 .exact step again i h (a _ ⟨i+1,by omega,h⟩ (by omega))
 .have:i=N:=by omega
  subst this;exact stop again
theorem Runs.len{α:Type}{l:List (Rn α)}(h:Runs l){n:Int}:∀ {a:Int},a<=n->(∀ r ∈ l,a<=r.lo/\r.hi<=n)->(l.length:Int)<=n-a:=by
 induction l with
 | nil=>intro a d _;simp;omega
 | cons r l ih=>
  intro a d b;have f:=b r (by simp)
  have e:=h.pos r (by simp);have:=ih h.tail (a:=r.hi) (by omega) fun q c=>⟨(h.head q c).1,(b q (by simp [c])).2⟩
  rw [List.length_cons];omega
theorem Z4L{S:Int->Int->Bool}(h:Fin S):cn S=[]↔∀ x y,S x y=false:=by
 constructor
 .intro e x y
  rw [<-J5 h,e];rfl
 .intro e
  exact Y4C (l:=[]) ⟨.nil,fun b a=>(List.not_mem_nil a).elim,fun b a=>(List.not_mem_nil a).elim⟩ fun x y=>(e x y).symm
def ovB(r s:Rect):Bool:=decide (r.L_<s.R_)&&(decide (s.L_<r.R_)&&(decide (r.w_<s.H_)&&decide (s.w_<r.H_)))
theorem Z9i(F:Nat)(r s:Rect):Q7L F r s=some (ovB r s):=by
 unfold Q7L;rw [Q4g (Q0n F),Q4g (Q0n F),Q4g (Q0n F)]
 rfl
def ovL(a b:List Rect):Bool:=a.any fun r=>b.any fun s=>ovB r s
theorem Y7U{r s:Rect}(hr:Q1j r=true)(hs:Q1j s=true):ovB r s=true↔∃ x y,r.has x y=true/\s.has x y=true:=by
 rw [Q0b] at hr hs;simp only [J0]
 constructor
 .intro h
  simp only [ovB,Bool.and_eq_true,decide_eq_true_eq] at h;refine ⟨max r.L_ s.L_,max r.w_ s.w_,?_⟩
  omega
 .rintro ⟨x,y,h⟩
  simp only [ovB,Bool.and_eq_true,decide_eq_true_eq];omega
theorem J8(l:List Rect)(x y:Int):inR l x y=true↔∃ r ∈ l,r.has x y=true:=by unfold inR;rw [List.any_eq_true]
theorem Y5a{a b:List Rect}(ha:∀ r ∈ a,Q1j r=true)(hb:∀ r ∈ b,Q1j r=true):ovL a b=true↔∃ x y,inR a x y=true/\inR b x y=true:=by
 simp only [ovL,List.any_eq_true,J8];constructor
 .rintro ⟨r,c,s,d,h⟩
  obtain ⟨x,y,e,f⟩:=(Y7U (ha r c) (hb s d)).1 h;exact ⟨x,y,⟨r,c,e⟩,⟨s,d,f⟩⟩
 .rintro ⟨x,y,⟨r,c,e⟩,⟨s,d,f⟩⟩
  exact ⟨r,c,s,d,(Y7U (ha r c) (hb s d)).2 ⟨x,y,e,f⟩⟩
theorem Y9R{a b:List Rect}:ovL a b=ovL b a:=by
 rw [Bool.eq_iff_iff];simp only [ovL,List.any_eq_true,ovB,Bool.and_eq_true,decide_eq_true_eq]
 constructor <;> (rintro ⟨r,d,s,h,g,e,c,f⟩;exact ⟨s,h,r,d,e,g,f,c⟩)
noncomputable def Q3F(a b:Re_):Bool:=Q2H a.t_&&(Q2H b.t_&&ovL a.t_ b.t_)
theorem Y7k(a b:Re_):Q3F a b=Q3F b a:=by
 unfold Q3F;rw [Y9R]
 cases Q2H a.t_ <;> cases Q2H b.t_ <;> rfl
theorem Y1w{F:Nat}(hF:BIG<=F)(a b:Re_):Z1m F a b=some (Q3F a b):=by
 unfold Z1m Q3F;refine Q2 (Q0g hF a) ?_
 refine Q6 (fun h=>?_) (fun h=>by rw [h];rfl);refine Q2 (Q0g hF b) ?_
 refine Q6 (fun c=>?_) (fun c=>by rw [h,c];rfl);have e:=((Q0M _).1 h).1
 have d:=((Q0M _).1 c).1;refine Q2 (Q1O hF (fun r=>b.t_.any fun s=>ovB r s) (by omega) fun r _=>?_) ?_
 .unfold Z1R
  refine Q2 (Q1O hF (fun s=>ovB r s) (by omega) fun s _=>?_) rfl;unfold Q8S
  rw [Z9i];rfl
 .rw [h,c];rfl
theorem Z2h{F:Nat}(hF:BIG<=F)(a b:Re_):Q7v F a b=some (Q3F a b):=by
 unfold Q7v Q3F;refine Q2 (K3 hF a) ?_
 refine Q6 (fun h=>?_) (fun h=>by rw [h];rfl);refine Q2 (K3 hF b) ?_
 refine Q6 (fun f=>?_) (fun f=>by rw [h,f];rfl);have j:=(Q0M _).1 h
 have d:=(Q0M _).1 f;have m:=j.1
 have l:=d.1;refine Q2 (Q1L hF (by omega)) ?_
 unfold Q5D;rw [h,f]
 show some _=some (ovL a.t_ b.t_);congr 1
 rw [Bool.eq_iff_iff,decide_eq_true_iff,Y5a j.2.1 d.2.1];have i:=Z4L (Q3K a.t_ b.t_ 2)
 have e:∀ x y,Q0j (inR a.t_ x y) (inR b.t_ x y) 2=true↔inR a.t_ x y=true/\inR b.t_ x y=true:=fun x y=>by simp [Q0j]
 constructor
 .intro c
  refine Classical.byContradiction fun k=>?_
  have:cn (fun x y=>Q0j (inR a.t_ x y) (inR b.t_ x y) 2)=[]:=i.2 fun x y=>by
   rw [<-Bool.not_eq_true,e];exact fun g=>k ⟨x,y,g⟩
  rw [this] at c;simp at c
 .rintro ⟨x,y,g⟩
  rcases Nat.eq_zero_or_pos (cn fun x y=>Q0j (inR a.t_ x y) (inR b.t_ x y) 2).length with c|c
  .have:=i.1 (List.eq_nil_of_length_eq_zero c) x y
   rw [(e x y).2 g] at this;cases this
  .omega
theorem Q7M(F:Nat)(l:List Rect):Q2i F l=some (if 120<l.length then (⟨[]⟩,1) else (⟨l⟩,0)):=by
 unfold Q2i;refine Q6 (fun h=>?_) (fun h=>?_)
 .have h:120<l.length:=by simp at h;omega
  rw [if_pos h]
 .have h:¬ 120<l.length:=by simp at h;omega
  rw [if_neg h]
theorem Q3y{F:Nat}(hF:BIG<=F){l:List Rect}(hl:l.length<=32768)(hpos:∀ r ∈ l,r.L_<r.R_):Q1p F l=some (if 120<(cn (inR l)).length then (⟨[]⟩,1) else (⟨cn (inR l)⟩,0)):=by
 unfold Q1p;refine Q2 (Z0P hF hl hpos) ?_
 exact Q2 (Q7M F _) rfl
def W4(L:List A2_)(d:Int)(p:Int->Bool):List Rect:=(L.filter fun f=>Z1F f d&&p f.k_).flatMap fun f=>f.g_.t_
theorem Z0a(f:A2_)(L:List A2_)(d:Int)(p:Int->Bool):W4 (f::L) d p=(if (Z1F f d&&p f.k_)=true then f.g_.t_ else [])++W4 L d p:=by
 unfold W4;rw [List.filter_cons]
 split
 .rw [List.flatMap_cons]
 .rfl
theorem Y2U{L:List A2_}{d:Int}{p:Int->Bool}{r:Rect}(h:r ∈ W4 L d p):∃ f ∈ L,r ∈ f.g_.t_:=by
 obtain ⟨f,b,a⟩:=List.mem_flatMap.1 h;exact ⟨f,(List.mem_filter.1 b).1,a⟩
theorem Y7a{L:List A2_}(h:∀ f ∈ L,f.g_.t_.length<=120)(d:Int)(p:Int->Bool):(W4 L d p).length<=120*L.length:=by
 induction L with
 | nil=>simp [W4]
 | cons f L ih=>
  have b:=ih fun g a=>h g (by simp [a])
  have c:=h f (by simp);rw [Z0a,List.length_append,List.length_cons]
  split
  .omega
  .simp;omega
theorem Q9n{F:Nat}(hF:BIG<=F){L:List A2_}(hl:L.length<=10000)(hr:∀ f ∈ L,f.g_.t_.length<=120)(d:Int){q:Int->Option Bool}(p:Int->Bool)(hq:∀ f ∈ L,q f.k_=some (p f.k_)):
  Q6E F L d q=some (W4 L d p):=by
 unfold BIG at hF;unfold Q6E
 refine Z2j (l:=L) (I:=fun l s=>s.length+120*l.length<=2000000/\∀ f ∈ l,f.g_.t_.length<=120) (fun l s=>some (s++W4 l d p)) (fun a i s j e m=>?_) (fun a s _=>?_) (by omega) ⟨by simp;omega,hr⟩
 .obtain ⟨e,c⟩:=e
  have r:=c _ (List.mem_cons_self ..);rw [List.length_cons] at e
  have n:∀ b:Bool,b=(Z1F (gl L i) d&&p (gl L i).k_)->Q3N F L i s a b=some (s++W4 (gl L i::L.drop (i+1)) d p):=by
   intro b o;unfold Q3N
   rw [Z0a];refine Q6 (fun h=>?_) (fun h=>?_)
   .rw [<-o,if_pos h]
    simp only [Int.toNat_natCast];refine Q7 (by unfold LIM;omega) ?_
    unfold Q3M;refine Z3 (k:=?_)
    rw [m _ ⟨by rw [List.length_append];omega,fun f g=>c f (List.mem_cons_of_mem _ g)⟩,List.append_assoc]
   .rw [<-o,if_neg (by simp [h])]
    unfold Q3M;refine Z3 (k:=?_)
    rw [m _ ⟨by omega,fun f g=>c f (List.mem_cons_of_mem _ g)⟩];rfl
  unfold Q6f;refine Z4 (Z0E j) ?_
  refine Z3 (k:=?_);simp only [Int.toNat_natCast]
  refine Q2 (Z3T F _ d) ?_;refine Q6 (fun h=>?_) (fun h=>?_)
  .refine Q2 (hq _ (V7 j)) ?_
   exact n _ (by rw [h];rfl)
  .exact n _ (by rw [h];rfl)
 .show Q6f F L d q a (L.length:Int) s=_
  unfold Q6f Q9o;refine Q5 (Q3g _) ?_
  simp [W4]
theorem Z4q{F:Nat}(hF:BIG<=F){a b:List Span}(ha:a.length<=1000000)(hb:b.length<=1000000):Q7f F [a,b]=some (a++b):=by
 unfold BIG at hF;obtain ⟨m,rfl⟩:∃ m,F=m+3:=⟨F-3,by omega⟩
 have c:gl [a,b] (0:Int).toNat=a:=rfl;have d:gl [a,b] (1:Int).toNat=b:=rfl
 have k1:Q2w (m+3) [a,b] (((a.length:Nat):Int)+((b.length:Nat):Int))=some (a++b):=by
  unfold Q2w;refine Q2 (a:=[]) (by unfold Y1g;rw [if_pos (by unfold LIM;omega)]) ?_
  show z6 (m+3) [a,b] _ 0 []=_;unfold z6
  refine Z4 rfl ?_;rw [c]
  refine Z3 (k:=?_);refine Q7 (by simp [LIM];omega) ?_
  refine Z3 (k:=?_);show z6 (m+3) [a,b] _ 1 ([]++a)=_
  unfold z6;refine Z4 rfl ?_
  rw [d];refine Z3 (k:=?_)
  refine Q7 (by simp [LIM];omega) ?_;refine Z3 (k:=?_)
  show z6 (m+3) [a,b] _ 2 (([]++a)++b)=_;unfold z6
  refine Q5 rfl ?_;unfold Q4H
  simp
 show z7 (m+3) [a,b] _ 0 0=_;unfold z7
 refine Z4 rfl ?_;rw [c]
 refine Z3 (k:=?_);refine Z3 (k:=?_)
 refine Q5 (by simp <;> omega) ?_;refine Z3 (k:=?_)
 show z7 (m+3) [a,b] _ (0+((a.length:Nat):Int)) 1=_;unfold z7
 refine Z4 rfl ?_;rw [d]
 refine Z3 (k:=?_);refine Z3 (k:=?_)
 refine Q5 (by simp <;> omega) ?_;refine Z3 (k:=?_)
 show z7 (m+3) [a,b] _ (0+((a.length:Nat):Int)+((b.length:Nat):Int)) 2=_;unfold z7
 refine Q5 rfl ?_;rw [Int.zero_add]
 exact k1
theorem Z3A{F:Nat}(hF:BIG<=F){l:List Span}(hl:l.length<=1000000)(x:Int):Q6t F l x=some (inS l x):=by
 unfold BIG at hF;have c:∃ i:Int,Q4F F l (fun a=>Q0X F a x)=some i/\(0<=i↔inS l x=true):=by
  have m:∀ s:Span,Q0X F s x=some (s.has x):=fun s=>by
   unfold Q0X;rw [Q4g (Q3Z F)];rfl
  have f:∀ (n i:Nat),i<=l.length->l.length-i<n->∃ r:Int,Z2 (fun again (z:Int)=>J7 F l (fun a=>Q0X F a x) again z) n (i:Int)=some r/\(0<=r↔inS (l.drop i) x=true):=by
   intro n
   induction n with
   | zero=>intro i _ h;omega
   | succ n ih=>
    intro i q p;show ∃ r:Int,J7 F l (fun a=>Q0X F a x) (Z2 (fun again (z:Int)=>J7 F l (fun a=>Q0X F a x) again z) n) (i:Int)=some r/\_
    by_cases h:i<l.length
    .have e:inS (l.drop i) x=((gl l i).has x||inS (l.drop (i+1)) x):=Y3z h fun s=>s.has x
     rw [e]
     by_cases b:(gl l i).has x=true
     .refine ⟨i,?_,by rw [b];simp⟩
      unfold J7;refine Z4 (Z0E h) ?_
      refine Z3 (k:=?_);exact Q2 (m _) (Z4 b rfl)
     .have b:(gl l i).has x=false:=by simpa using b
      obtain ⟨r,o,d⟩:=ih (i+1) h (by omega);refine ⟨r,?_,by rw [d,b];simp⟩
      unfold J7;refine Z4 (Z0E h) ?_
      refine Z3 (k:=?_);refine Q2 (m _) (Q5 b ?_)
      refine Z3 (k:=?_);exact o
    .have:i=l.length:=by omega
     subst this;refine ⟨-1,?_,by simp [inS]⟩
     unfold J7;exact Q5 (Q3g _) rfl
  obtain ⟨r,g,j⟩:=f F 0 (Nat.zero_le _) (by omega);exact ⟨r,g,by simpa using j⟩
 obtain ⟨i,g,j⟩:=c;unfold Q6t Q3b
 refine Q2 (Q2 g rfl) ?_;congr 1
 rw [Bool.eq_iff_iff, <-j,decide_eq_true_iff]
theorem Y9Z{F:Nat}(hF:BIG<=F){a b:List Span}(ha:a.length<=1000000)(hb:b.length<=1000000){es:List Int}{f:Int->Bool}{k:Bool->Bool->Bool}{q:Bool->Bool->Option Bool}(hq:∀ u v,q u v=some (k u v))(hst:Step false es f)(hf:∀ x,f x=k (inS a x) (inS b x))(hes:es.length<=8000000):Z2 (fun again (z:Int×List Span)=>Q4m F a b q es again z.1 z.2) F ((1:Int),([]:List Span))=some (spn f):=by
 have w:=hF;unfold BIG at hF
 by_cases h0:es.length=0
 .obtain ⟨m,rfl⟩:∃ m,F=m+1:=⟨F-1,by omega⟩
  show Q4m (m+1) a b q es _ 1 []=_;unfold Q4m Q6N
  refine Q5 (by simp [h0]) ?_;rw [Y0f (hst.empty h0)]
 .refine Y8 (fun z:Int×List Span=>∃ (i:Nat) (e:List Span),z=(((i+1:Nat):Int),e)/\i+1<=es.length/\Bst false f (e.map Span.rn) (gl es i)/\e.length<=i) (fun z=>es.length-z.1.toNat) (fun again z D G=>?_) ⟨0,[],rfl,by omega,hst.start (by omega),by simp⟩ (by simp;omega)
  obtain ⟨i,e,rfl,H,j,n⟩:=D;simp only
  unfold Q4m;refine Q6 (fun h=>?_) (fun h=>?_)
  .have h:i+1<es.length:=by simp at h;omega
   have B:(((i+1:Nat):Int)-1).toNat=i:=by omega
   have A:((i+1:Nat):Int).toNat=i+1:=by omega
   have l:=hst.asc.at_lt (show i<i+1 by omega) h;refine Z3 (k:=?_)
   refine Z3 (k:=?_);rw [B]
   refine Q2 (Z3A w ha _) ?_;refine Q2 (Z3A w hb _) ?_
   refine Q2 (hq _ _) ?_;rw [<-hf]
   have d:∀ c : List Span,Bst false f (c.map Span.rn) (gl es (i+1))->c.length<=i+1->Q2D F ((i+1:Nat):Int) again c=some (spn f):=by
    intro c r y;unfold Q2D
    refine Z3 (k:=?_);exact G _ ⟨i+1,c,by simp,h,r,y⟩ (by simp;omega)
   cases hfe:f (gl es i) with
   | false=>
    refine Z4 rfl ?_;exact d e (j.skip (by omega) fun t r y=>(hst.gap i h t r y).trans hfe) (by omega)
   | true=>
    refine Q5 rfl ?_;rcases List.eq_nil_or_concat e with rfl|⟨g,s,o⟩
    .refine Q5 rfl ?_
     unfold Q4l;refine Q5 rfl ?_
     rw [B,A];refine Z3 (k:=?_)
     refine Q7 (by simp [LIM]) ?_;refine d _ ?_ (by simp)
     have:=j.add l (hst.gap i h) (fun a ha=>by simp at ha)
     rw [hfe] at this;exact this
    .rw [List.concat_eq_append] at o
     subst o;have C:(((g ++ [s]).length:Nat):Int)-1=((g.length:Nat):Int):=by simp
     have p:(((g.length:Nat):Int)).toNat=g.length:=by omega
     refine Z4 (by simp <;> omega) ?_;rw [C,p]
     refine Z3 (k:=?_);refine Q7 (by simp <;> omega) ?_
     rw [Z4D g s rfl];unfold Q4l
     by_cases hs:s.R_=gl es i
     .refine Z4 (by simp [hs]) ?_
      rw [C,p,A];refine Z3 (k:=?_)
      refine Z3 (k:=?_);refine Q7 (by simp <;> omega) ?_
      rw [Z4D g s rfl,Z9d g s _ rfl];refine d _ ?_ (by simp at n ⊢;omega)
      rw [List.map_append] at j;have:=j.grow (a:=s.rn) hs l fun t r y=>(hst.gap i h t r y).trans hfe
      rw [List.map_append];exact this
     .refine Q5 (by simpa using hs) ?_
      rw [B,A];refine Z3 (k:=?_)
      refine Q7 (by simp [LIM] at n ⊢;omega) ?_;refine d _ ?_ (by simp at n ⊢;omega)
      have:=j.add l (hst.gap i h) (fun a ha E=>by
       rw [List.map_append] at ha;simp at ha
       subst ha;exact absurd E hs)
      rw [hfe] at this;rw [List.map_append];exact this
  .have h:i+1=es.length:=by simp at h;omega
   unfold Q6N;congr 1
   refine (Z8o (.of_runs j.runs) fun x=>?_).symm;rw [Z7h];exact hst.done h j x
def Y3l(l:List Span):List Int:=l.flatMap fun s=>[s.L_,s.R_]
theorem Y0O(l:List Span):(Y3l l).length=2*l.length:=by
 induction l with
 | nil=>rfl
 | cons s l ih=>unfold Y3l at ih ⊢;rw [List.flatMap_cons,List.length_append,ih];simp;omega
theorem Y8a{l:List Span}{c:List Int}(hc:Asc c)(hm:∀ s ∈ l,s.L_ ∈ c/\s.R_ ∈ c){i:Nat}(hi:i+1<c.length){t:Int}(h1:gl c i<=t)(h2:t<gl c (i+1)):inS l t=inS l (gl c i):=by
 unfold inS
 induction l with
 | nil=>rfl
 | cons s l ih=>
  rw [List.any_cons,List.any_cons,ih fun q g=>hm q (by simp [g])];congr 1
  obtain ⟨d,f⟩:=hm s (by simp);have e:=hc.gap hi h1 h2 d
  have h:=hc.gap hi h1 h2 f;unfold Span.has
  have b:decide (s.L_<=t)=decide (s.L_<=gl c i):=by simp only [e]
  have a:decide (t<s.R_)=decide (gl c i<s.R_):=by rw [decide_eq_decide];omega
  rw [b,a]
theorem W0m{l:List Span}{t:Int}(h:∀ s ∈ l,¬ (s.L_<=t/\t<s.R_)):inS l t=false:=by
 unfold inS;rw [List.any_eq_false]
 intro s a;have:=h s a
 simp only [Span.has,Bool.and_eq_true,decide_eq_true_eq];exact this
theorem Y1v{F:Nat}(hF:BIG<=F){a b:List Span}(ha:a.length<=1000000)(hb:b.length<=1000000){k:Bool->Bool->Bool}(hk:k false false=false){q:Bool->Bool->Option Bool}(hq:∀ u v,q u v=some (k u v)):
  Z1k F a b q=some (spn fun x=>k (inS a x) (inS b x)):=by
 have h:=hF;unfold BIG at hF
 unfold Z1k;refine Q2 (Z4q h ha hb) ?_
 have E:(a++b).length<=2000000:=by rw [List.length_append];omega
 refine Z2j (l:=a++b) (I:=fun l s=>s++Y3l l=Y3l (a++b)) (fun _ _=>some (spn fun x=>k (inS a x) (inS b x))) (fun g i s n o L=>?_) (fun g s o=>?_) (by omega) rfl
 .have B:=Y0O (a++b)
  have M:s.length+2<=(Y3l (a++b)).length:=by
   rw [<-o,List.length_append,Y0O];simp;omega
  unfold Q6O;refine Z4 (Z0E n) ?_
  refine Z3 (k:=?_);simp only [Int.toNat_natCast]
  refine Q7 (by simp [LIM];omega) ?_;refine Z3 (k:=?_)
  refine L _ ?_;rw [<-o,List.append_assoc];rfl
 .have A:s=Y3l (a++b):=by rw [<-o];simp [Y3l]
  show Q6O F a b q (a++b) g (((a++b).length:Nat):Int) s=_;unfold Q6O
  refine Q5 (Q3g _) ?_;unfold Z0w
  have B:=Y0O (a++b);obtain ⟨r,J,w,p,z⟩:=Y9A (l:=s) (by rw [A];unfold LIM;omega)
  refine Q2 J ?_;have K:r.length<=4000000:=by rw [z,A];omega
  refine Q2 (Q8D h (by unfold LIM;omega)) ?_;have G:=Y7s r
  have d:=Y7t r w;have c:∀ l,l=a\/l=b->∀ s ∈ l,s.L_ ∈ dd r/\s.R_ ∈ dd r:=by
   intro l j q y;have:q ∈ a++b:=by rcases j with rfl|rfl <;> simp [y]
   have m:∀ v,v ∈ [q.L_,q.R_]->v ∈ dd r:=fun v H=>(Y5d r v).2 ((p v).2 (by rw [A];exact List.mem_flatMap.2 ⟨q,this,H⟩))
   exact ⟨m _ (by simp),m _ (by simp)⟩
  refine Y9Z h ha hb hq (f:=fun x=>k (inS a x) (inS b x)) ⟨d,fun i n t D m=>?_,fun t C=>?_,fun t C=>?_⟩ (fun _=>rfl) (by omega)
  .simp only [Y8a d (c a (.inl rfl)) n D m,Y8a d (c b (.inr rfl)) n D m]
  .have e:∀ l,l=a\/l=b->inS l t=false:=fun l j=>W0m fun q hq=>by have:=C _ (c l j q hq).1;omega
   simp only [e a (.inl rfl),e b (.inr rfl),hk]
  .have e:∀ l,l=a\/l=b->inS l t=false:=fun l j=>W0m fun q hq=>by have:=C _ (c l j q hq).2;omega
   simp only [e a (.inl rfl),e b (.inr rfl),hk]
theorem Q1W{F:Nat}(hF:BIG<=F){a b:List Rect}(hl:a.length+b.length<=16000)(ha:∀ r ∈ a,r.L_<r.R_)(hb:∀ r ∈ b,r.L_<r.R_){k:Bool->Bool->Bool}(hk:k false false=false){q:Bool->Bool->Option Bool}(hq:∀ u v,q u v=some (k u v)):
  V8 F a b q=some (cn fun x y=>k (inR a x y) (inR b x y)):=by
 unfold V8;have d:Grid (Q7B b (Q7B a [])) (Y3n [a,b]) fun x y=>k (inR a x y) (inR b x y):=
  Grid.of (Q8w b (Q8w a .nil)) (Y6r _) (fun r c=>⟨(Q0K b _ _).2 (.inl ((Q0K a _ _).2 (.inr ⟨r,c,.inl rfl⟩))),(Q0K b _ _).2 (.inl ((Q0K a _ _).2 (.inr ⟨r,c,.inr rfl⟩)))⟩)
   (fun r c=>⟨(Q0K b _ _).2 (.inr ⟨r,c,.inl rfl⟩),(Q0K b _ _).2 (.inr ⟨r,c,.inr rfl⟩)⟩) (Y0P _ (by simp)) (Y0P _ (by simp)) hk
 have e:=Z9x a (ls:=[a,b]) (by simp);have f:=Z9x b (ls:=[a,b]) (by simp)
 have n:tot [a,b]=a.length+b.length:=by simp [tot]
 have g:=Y3m [a,b];have h:=Z6I (a:=a) (b:=b)
 refine Q2 (Z5T hF (by omega) (by simp)) ?_;refine Q2 (Z4W hF d.rows d.step (by omega) (fun y=>?_) (fun y=>?_)) rfl
 .unfold Z0y
  have o:=(e.x y).spn_len;have i:=(f.x y).spn_len
  have j:=Z2y (l:=a);have m:=Z2y (l:=b)
  refine Q2 (Z3e hF (by omega) ha y) ?_;refine Q2 (Z3e hF (by omega) hb y) ?_
  refine Q2 (Y1v hF (by omega) (by omega) hk hq) ?_;congr 2
  funext x
  rw [(e.rows.sp y).2 x,(f.rows.sp y).2 x]
 .have:=(d.x y).spn_len
  omega
def Sm(r:Rect):Prop:= -1000000<=r.L_/\r.L_<=1000000 /\ -1000000<=r.w_/\r.w_<=1000000 /\ -1000000<=r.R_/\r.R_<=1000000 /\ -1000000<=r.H_/\r.H_<=1000000
theorem Y1N{r:Rect}(h:Q1j r=true):Sm r:=by
 rw [Q0b] at h;unfold Sm;omega
def Z5n(a b:Rect):Int:=G2 0 (Q2b a.H_ b.H_-G2 a.w_ b.w_)
def Z3q(a b:Rect):Int:=G2 0 (Q2b a.R_ b.R_-G2 a.L_ b.L_)
def Z1O(a b:Rect):Bool:=a.R_==b.L_||b.R_==a.L_
def Z1N(a b:Rect):Bool:=a.H_==b.w_||b.H_==a.w_
def com(a b:Rect):Int:=(if Z1O a b=true then Z5n a b else 0)+(if Z1N a b=true then Z3q a b else 0)
theorem Y7Y{a b:Rect}(ha:Sm a)(hb:Sm b):0<=Z5n a b/\Z5n a b<=2000000 /\ -2000000<=Q2b a.H_ b.H_-G2 a.w_ b.w_/\Q2b a.H_ b.H_-G2 a.w_ b.w_<=2000000:=by
 unfold Sm at ha hb;unfold Z5n G2 Q2b
 repeat' split
 all_goals omega
theorem Y7Z{a b:Rect}(ha:Sm a)(hb:Sm b):0<=Z3q a b/\Z3q a b<=2000000 /\ -2000000<=Q2b a.R_ b.R_-G2 a.L_ b.L_/\Q2b a.R_ b.R_-G2 a.L_ b.L_<=2000000:=by
 unfold Sm at ha hb;unfold Z3q G2 Q2b
 repeat' split
 all_goals omega
theorem Y4y{F:Nat}{a b:Rect}(ha:Sm a)(hb:Sm b){v:Int}(h1:0<=v)(h2:v<=2000000)(c:Bool):Q4j F a b v c=some (v+if c=true then Z3q a b else 0):=by
 obtain ⟨f,g,e,d⟩:=Y7Z ha hb;unfold Q4j
 cases c with
 | true=>
  refine Z4 rfl ?_;refine Q7 (Z7 (by omega) (by omega)) ?_
  show gd (I64 (v+Z3q a b)) _=_;refine Q7 (Z7 (by omega) (by omega)) ?_
  rfl
 | false=>
  refine Q5 rfl ?_;show some v=some (v+0)
  rw [Int.add_zero]
theorem Y4z{F:Nat}{a b:Rect}(ha:Sm a)(hb:Sm b){v:Int}(h1:0<=v)(h2:v<=2000000):Q2C F a b v=some (v+if Z1N a b=true then Z3q a b else 0):=by
 unfold Q2C;rw [Y4y ha hb h1 h2,Y4y ha hb h1 h2]
 unfold Z1N
 cases a.H_==b.w_ <;> rfl
theorem Y4A{F:Nat}{a b:Rect}(ha:Sm a)(hb:Sm b)(c:Bool):Q4k F a b c=some ((if c=true then Z5n a b else 0)+if Z1N a b=true then Z3q a b else 0):=by
 obtain ⟨f,g,e,d⟩:=Y7Y ha hb;unfold Q4k
 cases c with
 | true=>
  refine Z4 rfl ?_;refine Q7 (Z7 (by omega) (by omega)) ?_
  show gd (I64 (0+Z5n a b)) _=_;refine Q7 (Z7 (by omega) (by omega)) ?_
  show Q2C F a b (0+Z5n a b)=_;rw [Y4z ha hb (by omega) (by omega)]
  simp
 | false=>
  refine Q5 rfl ?_;rw [Y4z ha hb (by omega) (by omega)]
  rfl
theorem Y1q(F:Nat){a b:Rect}(ha:Sm a)(hb:Sm b):Z1f F a b=some (com a b):=by
 unfold Z1f;rw [Y4A ha hb,Y4A ha hb]
 unfold com Z1O
 cases a.R_==b.L_ <;> rfl
def Q0O(a b:Rect):Bool:=decide (0<com a b)
theorem Z2G{F:Nat}{q:List Rect}{r:Rect}{i:Nat}(hi:i<q.length)(hl:q.length<=1000000)(hq:∀ s ∈ q,Sm s)(hr:Sm r):
  Q5p F r q i=some (if Q0O (gl q i) r=true then q++[r] else q,Q0O (gl q i) r):=by
 unfold Q5p;refine Q7 (by omega) ?_
 simp only [Int.toNat_natCast];refine Q2 (Y1q F (hq _ (V7 hi)) hr) ?_
 show Q4V F r q (Q0O (gl q i) r)=_;unfold Q4V
 cases Q0O (gl q i) r with
 | true=>
  refine Z4 rfl ?_;refine Q7 (by simp [LIM];omega) rfl
 | false=>exact Q5 rfl rfl
theorem W1V{F:Nat}(hF:BIG<=F){l q:List Rect}{k:Nat}(hk:k<q.length)(hl:l.length<=900000)(hql:q.length<=900000)(hq:∀ s ∈ q,Sm s)(hr:∀ r ∈ l,Sm r):
  Q1z F l q k=some (l,if l.any (Q0O (gl q k))=true then q++[gl l (l.findIdx (Q0O (gl q k)))] else q,Z1v (Q0O (gl q k)) l):=by
 unfold BIG at hF;unfold Q1z
 refine Y8 (fun z:Int×List Rect=>∃ i:Nat,z=((i:Int),q)/\i<=l.length/\∀ j,j<i->Q0O (gl q k) (gl l j)=false) (fun z=>l.length-z.1.toNat) (fun c z m e=>?_) ⟨0,rfl,by omega,fun j g=>by omega⟩ (by simp;omega);obtain ⟨i,rfl,n,d⟩:=m
 simp only at e ⊢;unfold Q5m
 refine Q6 (fun h=>?_) (fun h=>?_)
 .have h:i<l.length:=by simpa using h
  refine Z3 (k:=?_);simp only [Int.toNat_natCast]
  refine Q2 (Z2G hk (by omega) hq (hr _ (V7 h))) ?_;simp only
  refine Q6 (fun a=>?_) (fun a=>?_)
  .have b:l.any (Q0O (gl q k))=true:=List.any_eq_true.2 ⟨_,V7 h,a⟩
   rw [if_pos a,Z1v,if_pos b,if_pos b,Z4G h d a]
  .rw [a,if_neg (by simp)]
   refine Z3 (k:=?_);refine e _ ⟨i+1,rfl,h,fun j g=>?_⟩ (by simp only;omega)
   rcases Nat.lt_or_ge j i with f|f
   .exact d j f
   .have:j=i:=by omega
    subst this;exact a
 .have h:¬ i<l.length:=by simpa using h
  have:i=l.length:=by omega
  subst this;have b:=Q6H d
  rw [Z1v,b];rfl
theorem W0C{F:Nat}(hF:BIG<=F){l q:List Rect}{k:Nat}(hk:k<q.length)(hl:l.length+q.length<=900000)(hq:∀ s ∈ q,Sm s)(hr:∀ r ∈ l,Sm r):
  Q1n F l q k=some (q++l.filter (Q0O (gl q k)),l.filter fun r=> !Q0O (gl q k) r):=by
 have G:=hF;unfold BIG at hF
 unfold Q1n;refine Q2 (W1V G hk (by omega) (by omega) hq hr) ?_
 generalize a:Q0O (gl q k)=p;simp only
 by_cases f:l.any p=true
 .obtain ⟨x,d,D⟩:=List.any_eq_true.1 f
  have c:l.findIdx p<l.length:=List.findIdx_lt_length_of_exists ⟨x,d,D⟩;have y:p (gl l (l.findIdx p))=true:=by rw [K8 c];exact List.findIdx_getElem (w:=c)
  have u:∀ j,j<l.findIdx p->p (gl l j)=false:=by
   intro j t;rw [K8 (by omega)]
   simpa using List.not_of_lt_findIdx t
  rw [Z1v,if_pos f,if_pos f];refine Q5 (by simp) ?_
  refine Z3 (k:=?_);generalize l.findIdx p=i0 at *
  have J:(l.take i0).filter (fun r=> !p r)=l.take i0:=by
   rw [List.filter_eq_self];intro x d
   obtain ⟨j,t,rfl⟩:=List.getElem_of_mem d;have o : j<i0:=by simp at t;omega
   have:=u j o
   rw [K8 (by omega)] at this;simp [this]
  have E:(l.take i0).filter p=[]:=by
   rw [List.filter_eq_nil_iff];intro x d
   obtain ⟨j,t,rfl⟩:=List.getElem_of_mem d;have o : j<i0:=by simp at t;omega
   have:=u j o
   rw [K8 (by omega)] at this;simp [this]
  have P:(l.take (i0+1)).filter (fun r=> !p r)=l.take i0:=by
   rw [Q0c c,List.filter_append,J];simp [y]
  have H:(l.take (i0+1)).filter p=[gl l i0]:=by
   rw [Q0c c,List.filter_append,E];simp [y]
  refine Y8 (fun z:Int×Int×List Rect×List Rect=>∃ (i j:Nat) (b:List Rect),z=((i:Int),(j:Int),b,q++(l.take j).filter p)/\i<j/\j<=l.length/\b.length=l.length/\(∀ m,j<=m->gl b m=gl l m)/\b.take i=(l.take j).filter fun r=> !p r)
   (fun z=>l.length-z.2.1.toNat) (fun C z O K=>?_) ⟨i0,i0+1,l,by rw [H];rfl,by omega,by omega,rfl,fun _ _=>rfl,P.symm⟩ (by simp only;omega)
  obtain ⟨i,j,b,rfl,M,t,e,n,g⟩:=O;simp only at K ⊢
  unfold Q4U;rw [e]
  have N:((l.take j).filter p).length<=j:=by
   have:=List.length_filter_le p (l.take j)
   simp at this;omega
  have I:gl (q++(l.take j).filter p) k=gl q k:=by simp [gl,List.getD_eq_getElem?_getD,List.getElem?_append,hk]
  refine Q6 (fun h=>?_) (fun h=>?_)
  .have h:j<l.length:=by simpa using h
   refine Z3 (k:=?_);simp only [Int.toNat_natCast]
   rw [n j (Nat.le_refl _)];refine Q2 (Z2G (by simp;omega) (by simp;omega) (fun s v=>?_) (hr _ (V7 h))) ?_
   .rcases List.mem_append.1 v with v|v
    .exact hq s v
    .exact hr s (List.mem_of_mem_take (List.mem_filter.1 v).1)
   rw [I,a];have A:(l.take (j+1)).filter (fun r=> !p r)=(l.take j).filter (fun r=> !p r)++(if p (gl l j)=true then [] else [gl l j]):=by
    rw [Q0c h,List.filter_append]
    by_cases a:p (gl l j)=true
    .rw [if_pos a];simp [a]
    .rw [if_neg a];simp [a]
   have B:(l.take (j+1)).filter p=(l.take j).filter p++(if p (gl l j)=true then [gl l j] else []):=by
    rw [Q0c h,List.filter_append]
    by_cases a:p (gl l j)=true
    .rw [if_pos a];simp [a]
    .rw [if_neg a];simp [a]
   simp only
   refine Q6 (fun a=>?_) (fun a=>?_)
   .have a:p (gl l j)=false:=by simpa using a
    refine Z3 (k:=?_);refine Z3 (k:=?_)
    unfold y9;refine Z3 (k:=?_)
    rw [a,if_neg (by simp)];refine K _ ⟨i+1,j+1,b.set i (gl l j),?_,by omega,by omega,by simp [e],fun m Q=>?_,?_⟩ (by simp only;omega)
    .rw [B,a,if_neg (by simp),List.append_nil];rfl
    .rw [Y0H _ _ _ _ (by omega),if_neg (by omega)];exact n m (by omega)
    .rw [A,if_neg (by rw [a];simp), <-g,Q0c (by simp;omega),Z5E _ _ _ _ (Nat.le_refl _),Y0H _ _ _ _ (by omega),if_pos rfl]
   .have a:p (gl l j)=true:=by simpa using a
    unfold y9;refine Z3 (k:=?_)
    rw [a,if_pos rfl];refine K _ ⟨i,j+1,b,?_,by omega,by omega,e,fun m Q=>n m (by omega),?_⟩ (by simp only;omega)
    .rw [B,a,if_pos rfl, <-List.append_assoc];rfl
    .rw [A,if_pos a,List.append_nil,g]
  .have h:¬ j<l.length:=by simpa using h
   have L:j=l.length:=by omega
   unfold Q1N;simp only [Int.toNat_natCast,Y5p,e]
   refine Z3 (k:=?_);refine Z3 (k:=?_)
   rw [Y2l _ _ _ (by omega),g,List.take_of_length_le (by omega)]
 .have f:l.any p=false:=by simpa using f
  rw [Z1v,f];refine Z4 rfl ?_
  have J:l.filter p=[]:=by
   rw [List.filter_eq_nil_iff];intro x d
   have:=List.any_eq_false.1 f x d
   simpa using this
  have E:l.filter (fun r=> !p r)=l:=by
   rw [List.filter_eq_self];intro x d
   have:=List.any_eq_false.1 f x d
   simpa using this
  rw [J,E];simp
def jn:Nat->List Rect->Nat->List Rect->List Rect×List Rect
 | 0,q,_,rest=>(q,rest)
 | n+1,q,k,rest=>if k<q.length then jn n (q++rest.filter (Q0O (gl q k))) (k+1) (rest.filter fun r=> !Q0O (gl q k) r) else (q,rest)
def Q4M:List Rect->List Rect×List Rect
 | []=>([],[])
 | a::l=>jn (l.length+2) [a] 0 l
theorem Y1h{α:Type}(p:α->Bool)(l:List α):(l.filter p).length+(l.filter fun r=> !p r).length=l.length:=by
 induction l with
 | nil=>rfl
 | cons a l ih=>by_cases h:p a=true <;> simp [h] <;> omega
theorem Y7J{F:Nat}{l:List Rect}(h:l.length<=LIM):Q3q F l=some l:=by
 unfold Q3q
 cases h:l with
 | nil=>
  show gdc _ _=_;unfold gdc
  exact @Q7 _ _ (Classical.propDecidable _) _ _ rfl rfl
 | cons a l' =>
  have:(a::l').length=l'.length+1:=rfl
  show (gd _ _)=_;rw [<-h]
  refine Z3 (k:=?_);simp
theorem Z4T{F:Nat}(hF:BIG<=F){l:List Rect}(hne:l≠[])(hl:l.length<=400000)(hs:∀ r ∈ l,Sm r):Z1g F l=some (Q4M l):=by
 have g:=hF;unfold BIG at hF
 cases l with
 | nil=>exact absurd rfl hne
 | cons a l=>
  simp only [List.length_cons] at hl;unfold Z1g
  refine Q7 (by simp only [List.length_cons];omega) ?_;refine Q7 (by simp only [List.length_cons];omega) ?_
  have o:(1:Int).toNat=1:=rfl;rw [o]
  refine Q2 (Y7J (by simp [LIM];omega)) ?_;simp only [List.drop_succ_cons,List.drop_zero,List.take_succ_cons,List.take_zero]
  refine Y8 (fun z:List Rect×Int×List Rect=>∃ (n k:Nat) (q b:List Rect),z=(b,(k:Int),q)/\k<=q.length/\q.length+b.length=l.length+1/\(∀ r ∈ q++b,Sm r)/\l.length+2<=n+k/\jn n q k b=Q4M (a::l))
   (fun z=>l.length+2-z.2.1.toNat) (fun f z m j=>?_) ⟨l.length+2,0,[a],l,rfl,by simp,by simp;omega,fun r c=>hs r (by simpa using c),by omega,rfl⟩ (by simp;omega)
  obtain ⟨n,k,q,b,rfl,u,i,d,t,e⟩:=m;simp only at j ⊢
  unfold Z4U Z0q
  cases n with
  | zero=>omega
  | succ n=>
  rw [jn] at e;refine Q6 (fun h=>?_) (fun h=>?_)
  .have h:k<q.length:=by simpa using h
   rw [if_pos h] at e;refine Q2 (W0C g h (by omega) (fun s hs=>d s (by simp [hs])) (fun s hs=>d s (by simp [hs]))) ?_
   refine Z3 (k:=?_);have p:=Y1h (Q0O (gl q k)) b
   refine j _ ⟨n,k+1,_,_,rfl,by simp;omega,by simp;omega,fun r c=>d r ?_,by omega,e⟩ (by simp only;omega);simp only [List.mem_append,List.mem_filter] at c ⊢
   rcases c with (c|c) | c
   .exact .inl c
   .exact .inr c.1
   .exact .inr c.1
  .have h:¬ k<q.length:=by simpa using h
   rw [if_neg h] at e;unfold Z0p
   rw [e]
def adj(x y x' y' : Int):Prop:=(x=x' /\ (y'=y+1\/y=y' + 1))\/(y=y' /\ (x'=x+1\/x=x' + 1))
def W3K(S:Int->Int->Bool):Prop:=∀ P:Int->Int->Prop,(∃ x y,S x y=true/\P x y)->(∀ x y x' y',S x y=true->S x' y'=true->adj x y x' y' -> P x y->P x' y')->∀ x y,S x y=true->P x y
theorem line{Q:Int->Prop}{a b:Int}(hs:∀ t,a<=t->t+1<b->(Q t↔Q (t+1))){t0:Int}(h1:a<=t0)(h2:t0<b)(hq:Q t0):∀ t,a<=t->t<b->Q t:=by
 have c:∀ (n:Nat),t0+n<b->Q (t0+n):=by
  intro n
  induction n with
  | zero=>intro _;simpa using hq
  | succ n ih=>
   intro h;have e:t0+((n+1:Nat):Int)=t0+n+1:=by omega
   rw [e];exact (hs (t0+n) (by omega) (by omega)).1 (ih (by omega))
 have d:∀ (n:Nat),a<=t0-n->Q (t0-n):=by
  intro n
  induction n with
  | zero=>intro _;simpa using hq
  | succ n ih=>
   intro h;have:=ih (by omega)
   have e:t0-(n:Int)=t0-((n+1:Nat):Int)+1:=by omega
   rw [e] at this;exact (hs _ h (by omega)).2 this
 intro t f g;rcases Int.le_total t0 t with h|h
 .have e:t=t0+((t-t0).toNat:Int):=by omega
  rw [e];exact c _ (by omega)
 .have e:t=t0-((t0-t).toNat:Int):=by omega
  rw [e];exact d _ (by omega)
theorem Z7c{S:Int->Int->Bool}{P:Int->Int->Prop}(hc:∀ x y x' y',S x y=true->S x' y'=true->adj x y x' y' -> P x y->P x' y'){r:Rect}(hr:∀ x y,r.has x y=true->S x y=true){x0 y0:Int}(h0:r.has x0 y0=true)(hp:P x0 y0):
  ∀ x y,r.has x y=true->P x y:=by
 have e:∀ x y,r.L_<=x->x<r.R_->r.w_<=y->y<r.H_->S x y=true:=fun x y a b c d=>hr x y ((J0 r x y).2 ⟨a,b,c,d⟩)
 rw [J0] at h0;have f:=line (Q:=fun x=>P x y0) (a:=r.L_) (b:=r.R_) (fun t a b=>⟨hc t y0 (t+1) y0 (e _ _ (by omega) (by omega) (by omega) (by omega)) (e _ _ (by omega) (by omega) (by omega) (by omega)) (.inr ⟨rfl,.inl rfl⟩),
  hc (t+1) y0 t y0 (e _ _ (by omega) (by omega) (by omega) (by omega)) (e _ _ (by omega) (by omega) (by omega) (by omega)) (.inr ⟨rfl,.inr rfl⟩)⟩) h0.1 h0.2.1 hp
 intro x y h;rw [J0] at h
 have:=line (Q:=fun y=>P x y) (a:=r.w_) (b:=r.H_) (fun t a b=>⟨hc x t x (t+1) (e _ _ (by omega) (by omega) (by omega) (by omega)) (e _ _ (by omega) (by omega) (by omega) (by omega)) (.inl ⟨rfl,.inl rfl⟩),
  hc x (t+1) x t (e _ _ (by omega) (by omega) (by omega) (by omega)) (e _ _ (by omega) (by omega) (by omega) (by omega)) (.inl ⟨rfl,.inr rfl⟩)⟩) h0.2.2.1 h0.2.2.2 (f x h.1 h.2.1)
 exact this y h.2.2.1 h.2.2.2
def Pos(r:Rect):Prop:=r.L_<r.R_/\r.w_<r.H_
theorem Y5X{r s:Rect}(h:Q0O r s=true)(hr:Pos r)(hs:Pos s):∃ x y x' y',r.has x y=true/\s.has x' y'=true/\adj x y x' y':=by
 unfold Q0O com at h;have h:=of_decide_eq_true h
 unfold Pos at hr hs;simp only [J0]
 by_cases c1:Z1O r s=true/\0<Z5n r s
 .obtain ⟨a,b⟩:=c1
  have c:∃ y,r.w_<=y/\y<r.H_/\s.w_<=y/\y<s.H_:=by
   unfold Z5n G2 Q2b at b;refine ⟨if r.w_<s.w_ then s.w_ else r.w_,?_⟩
   split <;> ((repeat' split at b) <;> omega)
  obtain ⟨y,g,l,f,m⟩:=c;unfold Z1O at a
  simp only [Bool.or_eq_true,beq_iff_eq] at a;rcases a with a|a
  .exact ⟨r.R_-1,y,s.L_,y,by omega,by omega,.inr ⟨rfl,.inl (by omega)⟩⟩
  .exact ⟨r.L_,y,s.R_-1,y,by omega,by omega,.inr ⟨rfl,.inr (by omega)⟩⟩
 .have e:Z1N r s=true/\0<Z3q r s:=by
   by_cases b1:Z1O r s=true
   .have:¬ 0<Z5n r s:=fun d=>c1 ⟨b1,d⟩
    rw [if_pos b1] at h
    by_cases b2:Z1N r s=true
    .rw [if_pos b2] at h;exact ⟨b2,by omega⟩
    .rw [if_neg b2] at h;omega
   .rw [if_neg b1] at h
    by_cases b2:Z1N r s=true
    .rw [if_pos b2] at h;exact ⟨b2,by omega⟩
    .rw [if_neg b2] at h;omega
  obtain ⟨a,b⟩:=e;have c:∃ x,r.L_<=x/\x<r.R_/\s.L_<=x/\x<s.R_:=by
   unfold Z3q G2 Q2b at b;refine ⟨if r.L_<s.L_ then s.L_ else r.L_,?_⟩
   split <;> ((repeat' split at b) <;> omega)
  obtain ⟨x,j,n,i,k⟩:=c;unfold Z1N at a
  simp only [Bool.or_eq_true,beq_iff_eq] at a;rcases a with a|a
  .exact ⟨x,r.H_-1,x,s.w_,by omega,by omega,.inl ⟨rfl,.inl (by omega)⟩⟩
  .exact ⟨x,r.w_,x,s.H_-1,by omega,by omega,.inl ⟨rfl,.inr (by omega)⟩⟩
def Apt(r s:Rect):Prop:=∀ x y,r.has x y=true->s.has x y=true->False
theorem W3S(r s:Rect):0<=Z3q r s/\0<=Z5n r s:=by
 unfold Z3q Z5n G2;constructor <;> split <;> omega
theorem Y6C{r s:Rect}(hd:Apt r s){x y x' y' : Int}(h1:r.has x y=true)(h2:s.has x' y'=true)(ha:adj x y x' y'):Q0O r s=true:=by
 obtain ⟨m,l⟩:=W3S r s;rw [J0] at h1 h2
 have h:∀ u v,r.L_<=u->u<r.R_->r.w_<=v->v<r.H_->s.L_<=u->u<s.R_->s.w_<=v->v<s.H_->False:=fun u v a b c d e f g k=>hd u v ((J0 _ _ _).2 ⟨a,b,c,d⟩) ((J0 _ _ _).2 ⟨e,f,g,k⟩)
 unfold Q0O com;rw [decide_eq_true_eq]
 rcases ha with ⟨rfl,ha⟩|⟨rfl,ha⟩
 .have j:0<Z3q r s:=by
   unfold Z3q G2 Q2b
   repeat' split
   all_goals omega
  have i:Z1N r s=true:=by
   unfold Z1N;simp only [Bool.or_eq_true,beq_iff_eq]
   rcases ha with rfl|rfl
   .left
    rcases Int.lt_or_le (y+1) r.H_ with g|g
    .exact (h x (y+1) (by omega) (by omega) (by omega) g (by omega) (by omega) (by omega) (by omega)).elim
    .rcases Int.lt_or_le s.w_ (y+1) with k|k
     .exact (h x y (by omega) (by omega) (by omega) (by omega) (by omega) (by omega) (by omega) (by omega)).elim
     .omega
   .right
    rcases Int.lt_or_le (y' + 1) s.H_ with g|g
    .exact (h x (y' + 1) (by omega) (by omega) (by omega) (by omega) (by omega) (by omega) (by omega) (by omega)).elim
    .rcases Int.lt_or_le r.w_ (y' + 1) with k|k
     .exact (h x y' (by omega) (by omega) (by omega) (by omega) (by omega) (by omega) (by omega) (by omega)).elim
     .omega
  rw [if_pos i];split <;> omega
 .have j:0<Z5n r s:=by
   unfold Z5n G2 Q2b
   repeat' split
   all_goals omega
  have i:Z1O r s=true:=by
   unfold Z1O;simp only [Bool.or_eq_true,beq_iff_eq]
   rcases ha with rfl|rfl
   .left
    rcases Int.lt_or_le (x+1) r.R_ with g|g
    .exact (h (x+1) y (by omega) (by omega) (by omega) (by omega) (by omega) (by omega) (by omega) (by omega)).elim
    .rcases Int.lt_or_le s.L_ (x+1) with k|k
     .exact (h x y (by omega) (by omega) (by omega) (by omega) (by omega) (by omega) (by omega) (by omega)).elim
     .omega
   .right
    rcases Int.lt_or_le (x' + 1) s.R_ with g|g
    .exact (h (x' + 1) y (by omega) (by omega) (by omega) (by omega) (by omega) (by omega) (by omega) (by omega)).elim
    .rcases Int.lt_or_le r.L_ (x' + 1) with k|k
     .exact (h x' y (by omega) (by omega) (by omega) (by omega) (by omega) (by omega) (by omega) (by omega)).elim
     .omega
  rw [if_pos i];split <;> omega
theorem Y0u(r s:Rect):Q0O r s=Q0O s r:=by
 have f:Z1O r s=Z1O s r:=by unfold Z1O;rw [Bool.or_comm]
 have e:Z1N r s=Z1N s r:=by unfold Z1N;rw [Bool.or_comm]
 have d:∀ a b:Int,Q2b a b=Q2b b a:=fun a b=>by unfold Q2b;split <;> split <;> omega
 have c:∀ a b:Int,G2 a b=G2 b a:=fun a b=>by unfold G2;split <;> split <;> omega
 have g:Z3q r s=Z3q s r:=by unfold Z3q;rw [d r.R_,c r.L_]
 have h:Z5n r s=Z5n s r:=by unfold Z5n;rw [d r.H_,c r.w_]
 unfold Q0O com;rw [f,e,g,h]
def Y4H(q:List Rect):Prop:=∀ i,0<i->i<q.length->∃ j,j<i/\Q0O (gl q j) (gl q i)=true
theorem Y4H.conn{q:List Rect}(h:Y4H q)(hp:∀ r ∈ q,Pos r):W3K (inR q):=by
 intro P ⟨x0,y0,h0,p0⟩ hc;have c:∀ i,i<q.length->∀ x y,(gl q i).has x y=true->inR q x y=true:=fun i a x y z=>Q6Y (V7 a) z
 have d:∀ i j,i<q.length->j<q.length->Q0O (gl q i) (gl q j)=true->(∀ x y,(gl q i).has x y=true->P x y)->∀ x y,(gl q j).has x y=true->P x y:=by
  intro i j a e l n;obtain ⟨x,y,t,w,u,v,B⟩:=Y5X l (hp _ (V7 a)) (hp _ (V7 e))
  exact Z7c hc (c j e) v (hc x y t w (c i a x y u) (c j e t w v) B (n x y u))
 obtain ⟨r,p,b⟩:=(J8 q x0 y0).1 h0;obtain ⟨s,f,rfl⟩:=List.getElem_of_mem p
 rw [<-K8 f] at b;have m:∀ i,i<q.length->(∀ x y,(gl q i).has x y=true->P x y)->∀ x y,(gl q 0).has x y=true->P x y:=by
  intro i
  induction i using Nat.strongRecOn with
  | _ i ih=>
   intro a n;rcases Nat.eq_zero_or_pos i with g|g
   .subst g;exact n
   .obtain ⟨j,e,l⟩:=h i g a
    exact ih j e (by omega) (d i j a (by omega) (by rw [Y0u];exact l) n)
 have k:=m s f (Z7c hc (c s f) b p0);have A:∀ i,i<q.length->∀ x y,(gl q i).has x y=true->P x y:=by
  intro i
  induction i using Nat.strongRecOn with
  | _ i ih=>
   intro a;rcases Nat.eq_zero_or_pos i with g|g
   .subst g;exact k
   .obtain ⟨j,e,l⟩:=h i g a
    exact d j i (by omega) a l (ih j e (by omega))
 intro x y o;obtain ⟨r,p,b⟩:=(J8 q x y).1 o
 obtain ⟨i,a,rfl⟩:=List.getElem_of_mem p;rw [<-K8 a] at b
 exact A i a x y b
structure JnOk (q rest q' rest' : List Rect):Prop where
 perm:(q' ++ rest').Perm (q++rest)
 chain:Y4H q'
 pre:q <+: q'
 apart:∀ r ∈ q',∀ s ∈ rest',Q0O r s=false
theorem Y4Z{α:Type}(p:α->Bool)(l:List α):(l.filter p++l.filter fun r=> !p r).Perm l:=List.filter_append_perm p l
theorem W3z:∀ (n:Nat) (q:List Rect) (k:Nat) (rest:List Rect),q.length+rest.length<n+k->k<=q.length->Y4H q->(∀ i,i<k->∀ s ∈ rest,Q0O (gl q i) s=false)->JnOk q rest (jn n q k rest).1 (jn n q k rest).2:=by
 intro n
 induction n with
 | zero=>intro q k rest p w;omega
 | succ n ih=>
  intro q k rest p w m g;rw [jn]
  by_cases hk:k<q.length
  .rw [if_pos hk]
   have x:=Y1h (Q0O (gl q k)) rest;have d:∀ i,i<q.length->gl (q++rest.filter (Q0O (gl q k))) i=gl q i:=fun i a=>by simp [gl,List.getD_eq_getElem?_getD,List.getElem?_append,a]
   have h:=ih (q++rest.filter (Q0O (gl q k))) (k+1) (rest.filter fun r=> !Q0O (gl q k) r) (by simp;omega) (by simp;omega) (fun i a f=>?_) (fun i a s e=>?_)
   .refine ⟨h.perm.trans ?_,h.chain,?_,h.apart⟩
    .rw [List.append_assoc]
     exact (Y4Z _ rest).append_left q
    .exact (List.prefix_append _ _).trans h.pre
   .by_cases hiq:i<q.length
    .obtain ⟨j,o,t⟩:=m i a hiq
     exact ⟨j,o,by rw [d i hiq,d j (by omega)];exact t⟩
    .refine ⟨k,by omega,?_⟩
     rw [d k hk];have v:gl (q++rest.filter (Q0O (gl q k))) i ∈ rest.filter (Q0O (gl q k)):=by
      have b : i-q.length<(rest.filter (Q0O (gl q k))).length:=by simp at f;omega
      have:gl (q++rest.filter (Q0O (gl q k))) i=gl (rest.filter (Q0O (gl q k))) (i-q.length):=by
       simp [gl,List.getD_eq_getElem?_getD,List.getElem?_append,hiq]
      rw [this];exact V7 b
     exact (List.mem_filter.1 v).2
   .have c:=List.mem_filter.1 e
    rcases Nat.lt_or_ge i k with l|l
    .rw [d i (by omega)];exact g i l s c.1
    .have:i=k:=by omega
     subst this;rw [d i hk];simpa using c.2
  .rw [if_neg hk]
   refine ⟨List.Perm.refl _,m,List.prefix_refl _,fun r u s e=>?_⟩;obtain ⟨i,a,rfl⟩:=List.getElem_of_mem u
   have:=g i (by simp only at a;omega) s e
   rwa [K8 a] at this
theorem Z7f(a:Rect)(l:List Rect):JnOk [a] l (Q4M (a::l)).1 (Q4M (a::l)).2:=
 W3z (l.length+2) [a] 0 l (by simp;omega) (by simp) (fun i b c=>by simp at c;omega) (fun i b=>by omega)
def Q7j:Nat->List Rect->List (List Rect)
 | 0,_=>[]
 | _+1,[]=>[]
 | n+1,a::l=>(Q4M (a::l)).1::Q7j n (Q4M (a::l)).2
def Q7w(l:List Rect):List (List Rect):=Q7j l.length l
theorem JnOk.lens{a:Rect}{l q r:List Rect}(h:JnOk [a] l q r):q≠[]/\r.length<=l.length:=by
 have b:=h.perm.length_eq;simp at b
 obtain ⟨t,c⟩:=h.pre;have:1<=q.length:=by rw [<-c];simp
 exact ⟨fun d=>by rw [d] at this;simp at this,by omega⟩
theorem Y1d:∀ (n:Nat) (l:List Rect),l.length<=n->(Q7j n l).flatten.Perm l:=by
 intro n
 induction n with
 | zero=>intro l b;have:l=[]:=List.eq_nil_of_length_eq_zero (by omega);subst this;exact List.Perm.refl _
 | succ n ih=>
  intro l b
  cases l with
  | nil=>exact List.Perm.refl _
  | cons a l=>
   have h:=Z7f a l;have:=h.lens.2
   simp only [Q7j,List.flatten_cons];simp only [List.length_cons] at b
   exact ((ih _ (by omega)).append_left _).trans h.perm
theorem Y8R:∀ (n:Nat) (l:List Rect),l.length<=n->(∀ p ∈ Q7j n l,p≠[]/\Y4H p)/\(Q7j n l).Pairwise fun p p'=>∀ r ∈ p,∀ s ∈ p',Q0O r s=false:=by
 intro n
 induction n with
 | zero=>intro l d;exact ⟨fun p b=>by simp [Q7j] at b,.nil⟩
 | succ n ih=>
  intro l d
  cases l with
  | nil=>exact ⟨fun p b=>by simp [Q7j] at b,.nil⟩
  | cons a l=>
   have h:=Z7f a l;have g:=h.lens
   simp only [List.length_cons] at d;obtain ⟨f,j⟩:=ih (Q4M (a::l)).2 (by omega)
   have b:=Y1d n (Q4M (a::l)).2 (by omega);simp only [Q7j]
   refine ⟨fun p b=>?_,List.pairwise_cons.2 ⟨fun p' c r i s e=>?_,j⟩⟩
   .rcases List.mem_cons.1 b with rfl|b
    .exact ⟨g.1,h.chain⟩
    .exact f p b
   .exact h.apart r i s (b.mem_iff.1 (List.mem_flatten.2 ⟨p',c,e⟩))
theorem Q7i(l:List Rect):(Q7w l).flatten.Perm l:=Y1d _ l (Nat.le_refl _)
theorem Y2S(l:List Rect):(∀ p ∈ Q7w l,p≠[]/\Y4H p)/\(Q7w l).Pairwise fun p p'=>∀ r ∈ p,∀ s ∈ p',Q0O r s=false:=Y8R _ l (Nat.le_refl _)
def lt2(a b:Int×Int):Prop:=a.1<b.1\/(a.1=b.1/\a.2<b.2)
theorem W1S{a b:Int×Int}(h:a≠b):lt2 a b\/lt2 b a:=by
 unfold lt2;have:a.1≠b.1\/a.2≠b.2:=by
  rcases Int.decEq a.1 b.1 with c|c
  .exact .inl c
  .right;intro d;exact h (Prod.ext c d)
 omega
theorem Q0f.apt{l:List Rect}(h:Q0f l):l.Pairwise Apt:=by
 obtain ⟨b,e,rfl⟩:=h;unfold flat
 rw [List.pairwise_flatMap];refine ⟨fun c g=>?_,?_⟩
 .unfold J9
  rw [List.pairwise_map];refine (e.sp c g).ch.imp fun h x y a d=>?_
  rw [J0] at a d;simp only at a d
  omega
 .refine e.runs.ch.imp fun h r i s f x y a d=>?_
  obtain ⟨u,_,rfl⟩:=List.mem_map.1 i;obtain ⟨v,_,rfl⟩:=List.mem_map.1 f
  rw [J0] at a d;simp only at a d
  have:=h.1
  omega
theorem Y3x{r s:Rect}(h:Apt r s):Apt s r:=fun x y b a=>h x y a b
def W3L(a b:List Rect):Prop:=∀ x y,inR a x y=true->inR b x y=true->False
def W3J(a b:List Rect):Prop:=∀ x y x' y',inR a x y=true->inR b x' y'=true->¬ adj x y x' y'
theorem W1b{x y x' y' : Int}(h:adj x y x' y'):adj x' y' x y:=by unfold adj at *;omega
theorem Y8Q{l:List Rect}(hl:l.Pairwise Apt):(Q7w l).Pairwise fun p p'=>W3L p p' /\ W3J p p':=by
 have j:(Q7w l).flatten.Pairwise Apt:=((Q7i l).pairwise_iff fun {a b} h=>Y3x h).2 hl;rw [List.pairwise_flatten] at j
 refine (j.2.and (Y2S l).2).imp fun {p p'} h=>⟨fun x y i g=>?_,fun x y m n i g k=>?_⟩
 .obtain ⟨r,f,c⟩:=(J8 _ _ _).1 i
  obtain ⟨s,e,d⟩:=(J8 _ _ _).1 g;exact h.1 r f s e x y c d
 .obtain ⟨r,f,c⟩:=(J8 _ _ _).1 i
  obtain ⟨s,e,d⟩:=(J8 _ _ _).1 g;have:=Y6C (h.1 r f s e) c d k
  rw [h.2 r f s e] at this;cases this
theorem W0n{l m:List Rect}(h:l.Perm m)(x y:Int):inR l x y=inR m x y:=by
 rw [Bool.eq_iff_iff,J8,J8];exact ⟨fun ⟨r,hr,h2⟩=>⟨r,h.mem_iff.1 hr,h2⟩,fun ⟨r,hr,h2⟩=>⟨r,h.mem_iff.2 hr,h2⟩⟩
theorem Z6A(L:List (List Rect))(x y:Int):inR L.flatten x y=L.any fun p=>inR p x y:=by
 induction L with
 | nil=>rfl
 | cons p L ih=>rw [List.flatten_cons,Q0F,ih];rfl
theorem Z3L{l p:List Rect}(hp:p ∈ Q7w l){r:Rect}(hr:r ∈ p):r ∈ l:=(Q7i l).mem_iff.1 (List.mem_flatten.2 ⟨p,hp,hr⟩)
theorem Y9O{l p:List Rect}(hp:p ∈ Q7w l):p.length<=l.length:=by
 have a:=(Q7i l).length_eq;rw [<-a]
 exact (List.sublist_flatten_of_mem hp).length_le
noncomputable def Z3D(p:List Rect):Re_:=⟨cn (inR p)⟩
theorem Y7x(F:Nat)(hF:BIG<=F)(u v:Int):Z4M F [u,v]=some (if u≠0 then u else v):=by
 unfold BIG at hF;obtain ⟨F,rfl⟩:∃ G,F=G+3:=⟨F-3,by omega⟩
 unfold Z4M;show Q3o _ [u,v] _ 0=_
 unfold Q3o;refine Z4 (by simp) ?_
 refine Q7 (by simp) ?_;have b:gl [u,v] (0:Int).toNat=u:=rfl
 rw [b]
 by_cases hu:u=0
 .subst hu
  refine Q5 (by simp) ?_;refine Q7 (Z7 (by omega) (by omega)) ?_
  rw [if_neg (by simp)];show Q3o _ [0,v] _ (0+1)=_
  unfold Q3o;refine Z4 (by simp) ?_
  refine Q7 (by simp) ?_;have a:gl [0,v] ((0:Int)+1).toNat=v:=rfl
  rw [a]
  by_cases hv:v=0
  .subst hv
   refine Q5 (by simp) ?_;refine Q7 (Z7 (by omega) (by omega)) ?_
   show Q3o _ [0,0] _ (0+1+1)=_;unfold Q3o
   exact Q5 (by simp) rfl
  .exact Z4 (by simpa using hv) rfl
 .rw [if_pos hu]
  exact Z4 (by simpa using hu) rfl
noncomputable def lim(l:List Rect):Re_×Int:=if 120<l.length then (⟨[]⟩,1) else (⟨l⟩,0)
theorem Z9H(a b:List Rect):Fin fun x y=>inR a x y && !inR b x y:=Q3K a b 3
section
theorem val_one{r:Rect}(h:Q1j r=true):Val [r]:=by
 have b:=(Q0b r).1 h;exact ⟨by simp,fun s a=>by rw [List.mem_singleton.1 a];exact h,Y0R (by omega) (by omega)⟩
section
variable {F:Nat} {a:Re_} {z1:Tape×Re_} {x1 k:Int} {x y:Int}
end
end
section
theorem Step.spansH{xs:List Int}{f:Int->Bool}(h:Step false xs f):∃ l,SpOk l/\(∀ x,inS l x=f x)/\2*l.length<=xs.length:=by
 by_cases h0:xs.length=0
 .exact ⟨[],.nil,fun x=>(h.empty h0 x).symm,by simp⟩
 .have o:∀ i,i+1<=xs.length->∃ l:List Span,Bst false f (l.map Span.rn) (gl xs i)/\2*l.length<=i+1/\((∀ s,l.getLast?=some s->s.R_≠gl xs i)->2*l.length<=i):=by
   intro i
   induction i with
   | zero=>intro v;exact ⟨[],h.start (by omega),by simp,by simp⟩
   | succ i ih=>
    intro v;obtain ⟨l,b,n,d⟩:=ih (by omega)
    have c:=h.asc.at_lt (show i<i+1 by omega) (by omega)
    cases hf:f (gl xs i) with
    | false=>exact ⟨l,b.skip (by omega) fun t p q=>(h.gap i (by omega) t p q).trans hf,by omega,fun _=>by omega⟩
    | true=>
     rcases List.eq_nil_or_concat l with rfl|⟨r,s,j⟩
     .refine ⟨[⟨gl xs i,gl xs (i+1)⟩],?_,by simp,fun e=>absurd rfl (e ⟨gl xs i,gl xs (i+1)⟩ rfl)⟩
      have:=b.add c (h.gap i (by omega)) (fun a g=>by simp at g)
      rw [hf] at this;exact this
     .rw [List.concat_eq_append] at j
      subst j
      by_cases hs:s.R_=gl xs i
      .refine ⟨r ++ [⟨s.L_,gl xs (i+1)⟩],?_,by simp at n ⊢;omega,fun e=>absurd rfl (e ⟨s.L_,gl xs (i+1)⟩ (by simp))⟩
       rw [List.map_append] at b;have:=b.grow (a:=s.rn) hs c fun t p q=>(h.gap i (by omega) t p q).trans hf
       rw [List.map_append];exact this
      .have d:=d fun w m=>by simp at m;rw [<-m];exact hs
       refine ⟨(r ++ [s])++[⟨gl xs i,gl xs (i+1)⟩],?_,by simp at d ⊢;omega,fun e=>absurd rfl (e ⟨gl xs i,gl xs (i+1)⟩ (by simp))⟩;have:=b.add c (h.gap i (by omega)) (fun a g u=>by
        rw [List.map_append] at g;simp at g
        subst g;exact absurd u hs)
       rw [hf] at this;rw [List.map_append];exact this
  obtain ⟨l,b,n,_⟩:=o (xs.length-1) (by omega);refine ⟨l,.of_runs b.runs,fun x=>?_,by omega⟩
  rw [Z7h];exact h.done (by omega) b x
theorem Step.spn_half{xs:List Int}{f:Int->Bool}(h:Step false xs f):2*(spn f).length<=xs.length:=by
 obtain ⟨l,b,d,c⟩:=h.spansH;rw [Z8o b d];exact c
open Classical in
theorem Step.runsL{α:Type}{d:α}{c:List Int}{f:Int->α}(h:Step d c f):∃ acc:List (Rn α),Runs acc/\(∀ t,atR d acc t=f t)/\(∀ b ∈ acc,b.v≠d)/\acc.length<=c.length:=by
 by_cases h0:c.length=0
 .exact ⟨[],.nil,fun x=>(h.empty h0 x).symm,fun b e=>(List.not_mem_nil e).elim,by simp⟩
 .have p:∀ i,i+1<=c.length->∃ l:List (Rn α),Bst d f l (gl c i)/\(∀ b ∈ l,b.v≠d)/\l.length<=i:=by
   intro i
   induction i with
   | zero=>intro hi;exact ⟨[],h.start (by omega),fun b e=>(List.not_mem_nil e).elim,by simp⟩
   | succ i ih=>
    intro hi;obtain ⟨l,m,g,j⟩:=ih (by omega)
    have n:=h.asc.at_lt (show i<i+1 by omega) (by omega)
    by_cases hf:f (gl c i)=d
    .exact ⟨l,m.skip (by omega) fun t q r=>(h.gap i (by omega) t q r).trans hf,g,by omega⟩
    .by_cases hs:∃ a,l.getLast?=some a/\a.hi=gl c i/\a.v=f (gl c i)
     .obtain ⟨a,o,q,r⟩:=hs
      obtain ⟨s,rfl⟩:=List.getLast?_eq_some_iff.1 o;refine ⟨s ++ [{ a with hi:=gl c (i+1) }],m.grow q n fun t A w=>(h.gap i (by omega) t A w).trans r.symm,fun b e=>?_,by simp at j ⊢;omega⟩
      rcases List.mem_append.1 e with e|e
      .exact g b (by simp [e])
      .rw [List.mem_singleton.1 e];exact g a (by simp)
     .refine ⟨l++[⟨gl c i,gl c (i+1),f (gl c i)⟩],m.add n (h.gap i (by omega)) (fun a o z u=>hs ⟨a,o,z,u⟩),fun b e=>?_,by simp at j ⊢;omega⟩
      rcases List.mem_append.1 e with e|e
      .exact g b e
      .rw [List.mem_singleton.1 e];exact hf
  obtain ⟨l,m,g,j⟩:=p (c.length-1) (by omega);exact ⟨l,m.runs,fun x=>h.done (by omega) m x,g,by omega⟩
theorem W3m{α:Type}{d:α}{b:Rn α}:∀ {l:List (Rn α)},Runs l->b ∈ l->atR d l b.lo=b.v:=by
 intro l
 induction l with
 | nil=>intro _ c;cases c
 | cons a l ih=>
  intro e c;rcases List.mem_cons.1 c with rfl|c
  .have:=e.pos b (by simp)
   rw [atR,if_pos ⟨by omega,this⟩]
  .have f:=(e.head b c).1
   rw [atR,if_neg (by omega)];exact ih e.tail c
theorem Y5j{B:List (Rn (List Span))}{N:Nat}(h:∀ b ∈ B,b.v.length<=N):(flat B).length<=B.length*N:=by
 induction B with
 | nil=>simp [flat]
 | cons c B ih=>
  have e:flat (c::B)=J9 c++flat B:=rfl;have:=ih fun d f=>h d (by simp [f])
  have g:=h c (by simp);rw [e,List.length_append,Q0I,List.length_cons,Nat.add_mul]
  omega
theorem Grid.len{xs ys:List Int}{S:Int->Int->Bool}(h:Grid xs ys S){N:Nat}(hN:xs.length<=2*N+1):(cn S).length<=ys.length*N:=by
 obtain ⟨g,e,c,f,i⟩:=h.step.runsL;rw [(Step.cn h.rows h.step e c f).1]
 refine Nat.le_trans (Y5j (N:=N) fun b j=>?_) (Nat.mul_le_mul_right _ i);have:=W3m (d:=[]) e j
 rw [c] at this;have l:=(h.x b.lo).spn_half
 rw [<-this];omega
theorem Z9M(l:List Rect):(cn (inR l)).length<=2*l.length*l.length:=by
 have b:Grid (Q7B l []) (Y3n [l]) (inR l):=Z9x l (by simp);have c:=Z2y (l:=l)
 have e:=Y3m [l];have d:tot [l]=l.length:=by simp [tot]
 exact Nat.le_trans (b.len (N:=l.length) (by omega)) (Nat.mul_le_mul_right _ (by omega))
noncomputable def Z5y(a b:Re_):Bool:=Q2H a.t_&&(Q2H b.t_&&decide (cn (fun x y=>Q0j (inR a.t_ x y) (inR b.t_ x y) 3)=[]))
theorem Z0D{F:Nat}(hF:BIG<=F)(a b:Re_):Q5U F a b=some (Z5y a b):=by
 unfold Q5U Z5y;refine Q2 (K3 hF a) ?_
 refine Q6 (fun h=>?_) (fun h=>by rw [h];rfl);rw [h]
 refine Q2 (K3 hF b) ?_;refine Q6 (fun c=>?_) (fun c=>by rw [c];rfl)
 rw [c];have e:=((Q0M _).1 h).1
 have d:=((Q0M _).1 c).1;refine Q2 (Q1L hF (by omega)) ?_
 show some _=some _;congr 1
 simp only [Bool.true_and];generalize cn _=q
 cases q with
 | nil=>rfl
 | cons r q=>simp;omega
theorem Z6S{a b:Re_}(ha:Val a.t_)(hb:Val b.t_):Z5y a b=true↔∀ x y,inR a.t_ x y=true->inR b.t_ x y=true:=by
 unfold Z5y;rw [Q1x ha,Q1x hb,Bool.true_and,Bool.true_and,decide_eq_true_eq,Z4L (Q3K _ _ _)]
 constructor
 .intro h x y c
  have:=h x y
  simp only [Q0j] at this;rw [c] at this
  simpa using this
 .intro h x y
  simp only [Q0j]
  cases c:inR a.t_ x y with
  | false=>rfl
  | true=>rw [h x y c];rfl
end
theorem Y0a{l:List Int}{M:Int}(h:∀ x ∈ l,0<=x/\x<=M):0<=l.sum/\l.sum<=M*l.length:=by
 induction l with
 | nil=>simp
 | cons x l ih=>
  have d:=h x (by simp);have c:=ih fun y b=>h y (by simp [b])
  simp only [List.sum_cons,List.length_cons];have e:M*((l.length+1:Nat):Int)=M*l.length+M:=by rw [Int.natCast_add,Int.mul_add];simp
  omega
theorem Z9a{f:Rect->Int}{l:List Rect}{j:Nat}(h:j<l.length):((l.take (j+1)).map f).sum=((l.take j).map f).sum+f (gl l j):=by
 rw [Q0c h,List.map_append,List.sum_append];simp
def ar1(r:Rect):Int:=(r.R_-r.L_)*(r.H_-r.w_)
def area(l:List Rect):Int:=(l.map ar1).sum
theorem Y3w{r:Rect}(h:Q1j r=true):0<=ar1 r/\ar1 r<=268435456:=by
 rw [Q0b] at h;unfold ar1
 have c:0<=r.R_-r.L_/\r.R_-r.L_<=16384:=by omega
 have b:0<=r.H_-r.w_/\r.H_-r.w_<=16384:=by omega
 refine ⟨Int.mul_nonneg c.1 b.1,?_⟩;have:=Int.mul_le_mul c.2 b.2 b.1 (by omega)
 omega
theorem Y3N{F:Nat}(hF:BIG<=F){l:List Rect}(hl:l.length<=1000000)(hp:∀ r ∈ l,Q1j r=true):Z4w F l=some (area l):=by
 unfold BIG at hF;have b:∀ j,0<=((l.take j).map ar1).sum/\((l.take j).map ar1).sum<=268435456*1000000:=fun j=>by
  have:=Y0a (l:=(l.take j).map ar1) (M:=268435456) (fun x i=>by
   obtain ⟨s,m,rfl⟩:=List.mem_map.1 i;exact Y3w (hp s (List.mem_of_mem_take m)))
  simp only [List.length_map,List.length_take] at this;omega
 unfold Z4w;refine Y8 (fun z:Int×Int=>∃ j:Nat,z=(((l.take j).map ar1).sum,(j:Int))/\j<=l.length) (fun z=>l.length-z.2.toNat) (fun c z e d=>?_) ⟨0,by simp,by omega⟩ (by simp;omega)
 obtain ⟨j,rfl,n⟩:=e;simp only at d ⊢
 have o:=b j;have f:=b (j+1)
 unfold Z7Z;refine Q6 (fun h=>?_) (fun h=>?_)
 .have h:j<l.length:=by simpa using h
  refine Z3 (k:=?_);simp only [Int.toNat_natCast]
  have g:=(Q0b _).1 (hp _ (V7 h));have p:=Y3w (hp _ (V7 h))
  rw [Z9a h] at f;refine Q7 (Z7 (by omega) (by omega)) ?_
  refine Q7 (Z7 (by omega) (by omega)) ?_;show gd (I64 (ar1 (gl l j))) _=_
  refine Q7 (Z7 (by omega) (by omega)) ?_;show gd (I64 (((l.take j).map ar1).sum+ar1 (gl l j))) _=_
  refine Q7 (Z7 (by omega) (by omega)) ?_;refine Z3 (k:=?_)
  refine d _ ⟨j+1,?_,h⟩ (by simp only;omega);rw [Z9a h];rfl
 .have h:¬ j<l.length:=by simpa using h
  have:j=l.length:=by omega
  subst this;rw [List.take_length]
  rfl
theorem Q3e{F:Nat}(hF:BIG<=F){a:Re_}(hv:Val a.t_):Q3f F a=some (area a.t_):=by
 have:=hv.1
 unfold Q3f;refine Q2 (K3 hF a) ?_
 rw [Q1x hv];refine Q5 rfl ?_
 exact Q2 (Y3N hF (by omega) hv.2.1) rfl
theorem SpOk.half{n:Int}:∀ {l:List Span},SpOk l->∀ {a:Int},a<=n+1->(∀ s ∈ l,a<=s.L_/\s.R_<=n)->2*(l.length:Int)<=n+1-a
 | [],_,a,ha,_=>by simp;omega
 | s::l,h,a,ha,hb=>by
  have e:=hb s (by simp);have d:=h.pos s (by simp)
  have c:SpOk l:=⟨fun q b=>h.pos q (by simp [b]),(List.pairwise_cons.1 h.ch).2⟩;have:=SpOk.half (n:=n) c (a:=s.R_+1) (by omega) fun q b=>⟨by have:=(List.pairwise_cons.1 h.ch).1 q b;omega,(hb q (by simp [b])).2⟩
  rw [List.length_cons];omega
theorem Q0f.half{l:List Rect}(hc:Q0f l){n:Nat}(hb:Box n l):l.length<=n*((n+1) / 2):=by
 obtain ⟨b,f,rfl⟩:=hc;have g:∀ c ∈ b,∃ s,s ∈ c.v:=fun c hc=>List.exists_mem_of_ne_nil _ (f.ne c hc)
 have d:∀ c ∈ b,∀ s ∈ c.v,(⟨s.L_,c.lo,s.R_,c.hi⟩:Rect) ∈ flat b:=fun c hc s e=>List.mem_flatMap.2 ⟨c,hc,List.mem_map.2 ⟨s,e,rfl⟩⟩
 have m:(b.length:Int)<=n-0:=f.runs.len (by omega) fun c hc=>by
  obtain ⟨s,e⟩:=g c hc;have:=hb _ (d c hc s e)
  simp only at this;omega
 have h:∀ c ∈ b,c.v.length<=(n+1) / 2:=fun c hc=>by
  have:=(f.sp c hc).half (n:=n) (a:=0) (by omega) fun s e=>by
   have:=hb _ (d c hc s e)
   simp only at this ⊢;omega
  omega
 have j:=Y5j h;have i:b.length*((n+1) / 2)<=n*((n+1) / 2):=Nat.mul_le_mul_right _ (by omega)
 omega
def Z4m(f:Nat->Int):Nat->Int
 | 0=>0
 | n+1=>Z4m f n+f n
theorem Q7e{f g:Nat->Int}{n:Nat}(h:∀ i,i<n->f i=g i):Z4m f n=Z4m g n:=by
 induction n with
 | zero=>rfl
 | succ n ih=>rw [Z4m,Z4m,ih fun i b=>h i (by omega),h n (by omega)]
theorem Y5B(f g:Nat->Int)(n:Nat):Z4m (fun i=>f i+g i) n=Z4m f n+Z4m g n:=by
 induction n with
 | zero=>rfl
 | succ n ih=>rw [Z4m,Z4m,Z4m,ih];omega
theorem Y0b(n:Nat):Z4m (fun _=>0) n=0:=by
 induction n with
 | zero=>rfl
 | succ n ih=>rw [Z4m,ih];rfl
theorem Y4e(c lo hi:Int)(h0:0<=lo)(h1:lo<=hi)(n:Nat):Z4m (fun i=>if lo<=(i:Int)/\(i:Int)<hi then c else 0) n=(if (n:Int)<=lo then 0 else if (n:Int)<=hi then n-lo else hi-lo)*c:=by
 induction n with
 | zero=>rw [Z4m,if_pos (by omega),Int.zero_mul]
 | succ n ih=>
  rw [Z4m,ih];simp only [Int.natCast_succ]
  by_cases a:(n:Int)<lo
  .rw [if_pos (by omega),if_neg (by omega),if_pos (by omega)];omega
  .by_cases b:(n:Int)<hi
   .rw [if_pos (show lo<=(n:Int)/\(n:Int)<hi by omega),if_neg (show ¬ (n:Int)+1<=lo by omega),if_pos (show (n:Int)+1<=hi by omega)]
    by_cases e:(n:Int)<=lo
    .have:(n:Int)=lo:=by omega
     rw [if_pos e,show (n:Int)+1-lo=1 by omega,Int.zero_mul,Int.one_mul];omega
    .rw [if_neg e,if_pos (by omega),show (n:Int)+1-lo=(n-lo)+1 by omega,Int.add_mul,Int.one_mul]
   .rw [if_neg (show ¬ (lo<=(n:Int)/\(n:Int)<hi) by omega),if_neg (show ¬ (n:Int)+1<=lo by omega)]
    by_cases e:(n:Int)<=lo
    .have d:lo=hi:=by omega
     have f:(n:Int)=lo:=by omega
     rw [if_pos e]
     by_cases e3:(n:Int)+1<=hi
     .omega
     .rw [if_neg e3,d,Int.sub_self];omega
    .rw [if_neg e]
     by_cases e4:(n:Int)<=hi
     .rw [if_pos e4,if_neg (by omega),show (n:Int)=hi by omega];omega
     .rw [if_neg e4,if_neg (by omega)];omega
def cnt(N:Nat)(S:Int->Int->Bool):Int:=Z4m (fun x=>Z4m (fun y=>if S x y=true then 1 else 0) N) N
theorem Y7v{N:Nat}{S T:Int->Int->Bool}(h:∀ x y,S x y=true->T x y=true->False):cnt N (fun x y=>S x y||T x y)=cnt N S+cnt N T:=by
 unfold cnt;rw [<-Y5B]
 refine Q7e fun x _=>?_
 rw [<-Y5B];refine Q7e fun y _=>?_
 have:=h x y
 cases e:S x y <;> cases e2:T x y <;> simp_all
theorem W0K{N:Nat}{S:Int->Int->Bool}(h:∀ x y,S x y=false):cnt N S=0:=by
 unfold cnt;rw [Q7e (g:=fun _=>0) fun x _=>by rw [Q7e (g:=fun _=>0) fun y _=>by rw [h];rfl,Y0b],Y0b]
theorem W2t{N:Nat}{r:Rect}(h1:0<=r.L_)(h2:r.L_<=r.R_)(h3:r.R_<=N)(h4:0<=r.w_)(h5:r.w_<=r.H_)(h6:r.H_<=N):cnt N r.has=ar1 r:=by
 have e:∀ x:Nat,Z4m (fun y=>if r.has x y=true then 1 else 0) N=if r.L_<=(x:Int)/\(x:Int)<r.R_ then r.H_-r.w_ else 0:=fun x=>by
  by_cases hx:r.L_<=(x:Int)/\(x:Int)<r.R_
  .rw [if_pos hx,Q7e (g:=fun i=>if r.w_<=(i:Int)/\(i:Int)<r.H_ then 1 else 0) fun y _=>by
    by_cases hy:r.w_<=(y:Int)/\(y:Int)<r.H_
    .rw [if_pos ((J0 r x y).2 ⟨hx.1,hx.2,hy.1,hy.2⟩),if_pos hy]
    .rw [if_neg (fun h=>hy (by have:=(J0 r x y).1 h;omega)),if_neg hy],Y4e 1 _ _ h4 h5]
   by_cases a:(N:Int)<=r.w_
   .rw [if_pos a];omega
   .rw [if_neg a];split <;> omega
  .rw [if_neg hx,Q7e (g:=fun _=>0) fun y _=>by rw [if_neg (fun h=>hx (by have:=(J0 r x y).1 h;omega))],Y0b]
 unfold cnt;rw [Q7e fun x _=>e x,Y4e _ _ _ h1 h2]
 unfold ar1
 by_cases a:(N:Int)<=r.L_
 .rw [if_pos a,show r.R_-r.L_=0 by omega]
 .rw [if_neg a]
  by_cases b:(N:Int)<=r.R_
  .rw [if_pos b,show (N:Int)=r.R_ by omega]
  .rw [if_neg b]
@[irreducible] def sq (S:Int->Int->Bool):Int:=cnt 16384 S
theorem Z5F(S:Int->Int->Bool):sq S=cnt 16384 S:=by unfold sq;rfl
theorem Y5s:∀ {l:List Rect},l.Pairwise Apt->(∀ r ∈ l,Q1j r=true)->area l=sq (inR l)
 | [],_,_=>by
  rw [Z5F,W0K (S:=inR []) (fun x y=>rfl)];rfl
 | r::l,ha,hp=>by
  have c:=(Q0b r).1 (hp r (by simp));have b:=Y5s (l:=l) (List.pairwise_cons.1 ha).2 fun q c=>hp q (by simp [c])
  have e:inR (r::l)=fun x y=>r.has x y||inR l x y:=by
   funext x y;simp [inR]
  rw [Z5F] at b ⊢;rw [e,Y7v (fun x y f g=>by
   obtain ⟨s,h,d⟩:=(J8 l x y).1 g;exact (List.pairwise_cons.1 ha).1 s h x y f d),W2t (by omega) (by omega) (by omega) (by omega) (by omega) (by omega), <-b]
  simp [area]
theorem Val.area{l:List Rect}(h:Val l):area l=sq (inR l):=Y5s h.2.2.apt h.2.1
section
def Ok{R:Type}(x:Option R)(G:R->Prop):Prop:=∃ r,x=some r/\G r
theorem Z7d{R:Type}{r:R}{G:R->Prop}(h:G r):Ok (some r) G:=⟨r,rfl,h⟩
theorem Q0t{R:Type}{p:Prop}[Decidable p]{x:Option R}{G:R->Prop}(h:p)(k:Ok x G):Ok (gd p x) G:=by unfold gd;rw [if_pos h];exact k
theorem Q3W{α R:Type}{x:Option α}{f:α->Option R}{a:α}{G:R->Prop}(h:x=some a)(k:Ok (f a) G):Ok (x.bind f) G:=by rw [h];exact k
theorem Q2R{R:Type}{b:Bool}{x y:Option R}{G:R->Prop}(ht:b=true->Ok x G)(hf:b=false->Ok y G):Ok (br b x y) G:=by cases b;exact hf rfl;exact ht rfl
theorem Z1t{σ R:Type}{body:(σ->Option R)->σ->Option R}{G:R->Prop}(I:σ->Prop)(μ:σ->Nat)(round:∀ again z,I z->(∀ z',I z' -> μ z' < μ z->Ok (again z') G)->Ok (body again z) G):∀ {n:Nat} {z:σ},I z->μ z<n->Ok (Z2 body n z) G:=by
 intro n
 induction n with
 | zero=>intro z _ h;omega
 | succ n ih=>
  intro z b h;exact round _ z b fun z' c d=>ih c (by omega)
theorem Y2J(F:Nat){a b:Rect}(ha:Sm a)(hb:Sm b)(pa:Pos a)(pb:Pos b):Z2P F a b=some (com a b):=by
 have g:=Y7Z ha hb;have f:=Y7Y ha hb
 unfold Pos at pa pb;have e:Z1O a b=true->Z3q a b=0:=fun h=>by
  unfold Z1O at h;unfold Z3q G2 Q2b at *
  rw [Bool.or_eq_true,beq_iff_eq,beq_iff_eq] at h
  repeat' split
  all_goals omega
 have k1:∀ c,Q5y F a b c=some (if c=true then Z3q a b else 0):=fun c=>by
  unfold Q5y;refine Q6 (fun h=>?_) (fun h=>?_)
  .subst h;exact Q7 (Z7 (by omega) (by omega)) rfl
  .subst h;rfl
 have d:∀ c,Q5z F a b c=some (if c=true then Z5n a b else if Z1N a b=true then Z3q a b else 0):=fun c=>by
  unfold Q5z;refine Q6 (fun h=>?_) (fun h=>?_)
  .subst h;exact Q7 (Z7 (by omega) (by omega)) rfl
  .subst h
   unfold Z1N;refine Q6 (fun h=>?_) (fun h=>?_)
   .rw [k1,h];rfl
   .rw [k1,h];rfl
 unfold Z2P com
 cases hs:Z1O a b with
 | true=>
  rw [e hs];unfold Z1O at hs
  refine Q6 (fun h=>?_) (fun h=>?_)
  .rw [d];simp
  .rw [h,Bool.false_or] at hs
   rw [d,hs];simp
 | false=>
  unfold Z1O at hs;refine Q6 (fun h=>?_) (fun h=>?_)
  .rw [h] at hs;cases hs
  .rw [h,Bool.false_or] at hs
   rw [d,hs];simp
section
variable (R:List Rect)
def nr(i k:Nat):Bool:=Q0O (gl R i) (gl R k)
def Cl(C:Nat->Prop):Prop:=∀ i k,i<R.length->k<R.length->nr R i k=true->(C i↔C k)
structure Lab (p:List Int):Prop where
 len:p.length=R.length
 low:∀ i,i<R.length->0<=gl p i/\gl p i<=(i:Int)
 con:∀ C,Cl R C->∀ i,i<R.length->(C i↔C (gl p i).toNat)
def mu(p:List Int):Nat:=(p.map Int.toNat).sum
structure SI (P:List Int) (i k:Nat) (g:Bool) (p:List Int):Prop where
 lab:Lab R p
 le:mu p<=mu P
 lt:g=true->mu p<mu P
 eq:g=false->p=P/\∀ i' k',i' < R.length->k' < R.length->(i' < i\/(i'=i/\k' < k))->¬ (gl P k' < gl P i' /\ nr R i' k'=true)
end
theorem Y2m:∀ {p:List Int} {i:Nat} {v:Int},i<p.length->0<=v->v<gl p i->mu (p.set i v)<mu p
 | a::p,0,v,_,h0,h=>by
  have h:v<a:=h;simp only [mu,List.set_cons_zero,List.map_cons,List.sum_cons];omega
 | a::p,i+1,v,hi,h0,h=>by
  have:=Y2m (p:=p) (i:=i) (v:=v) (by simpa using hi) h0 h
  simp only [mu] at this;simp only [mu,List.set_cons_succ,List.map_cons,List.sum_cons];omega
theorem Z8L{p:List Int}{i k:Nat}{v:Int}(hi:i<p.length):gl (p.set i v) k=if k=i then v else gl p k:=by
 unfold gl;rw [List.getD_eq_getElem?_getD,List.getD_eq_getElem?_getD,List.getElem?_set]
 by_cases h:i=k
 .subst h;simp [hi]
 .rw [if_neg h,if_neg (Ne.symm h)]
theorem SI.step{R:List Rect}{P:List Int}{i k:Nat}{g:Bool}{p:List Int}(h:SI R P i k g p)(hi:i<R.length)(hk:k<R.length)(h1:gl p k<gl p i)(h2:nr R i k=true):SI R P i (k+1) true (p.set i (gl p k)):=by
 have f:mu (p.set i (gl p k))<mu p:=Y2m (by rw [h.lab.len];exact hi) (h.lab.low k hk).1 h1;have l:=h.le
 refine ⟨⟨by rw [List.length_set,h.lab.len],fun j b=>?_,fun C c j b=>?_⟩,by omega,fun _=>by omega,fun e=>by cases e⟩
 .rw [Z8L (by rw [h.lab.len];exact hi)]
  have m:=h.lab.low k hk;have n:=h.lab.low i hi
  have d:=h.lab.low j b;split
  .rename_i e;subst e;omega
  .exact d
 .rw [Z8L (by rw [h.lab.len];exact hi)]
  split
  .rename_i e
   subst e;rw [c j k hi hk h2]
   exact h.lab.con C c k hk
  .exact h.lab.con C c j b
theorem SI.skip{R:List Rect}{P:List Int}{i k:Nat}{g:Bool}{p:List Int}(h:SI R P i k g p)(hn:¬ (gl p k<gl p i/\nr R i k=true)):SI R P i (k+1) g p:=by
 refine ⟨h.lab,h.le,h.lt,fun e=>?_⟩;obtain ⟨f,m⟩:=h.eq e
 refine ⟨f,fun j l a b c=>?_⟩
 by_cases d:j=i/\l=k
 .obtain ⟨rfl,rfl⟩:=d
  rw [f] at hn;exact hn
 .exact m j l a b (by omega)
theorem SI.next{R:List Rect}{P:List Int}{i:Nat}{g:Bool}{p:List Int}(h:SI R P i R.length g p):SI R P (i+1) 0 g p:=
 ⟨h.lab,h.le,h.lt,fun e=>⟨(h.eq e).1,fun f d a b c=>(h.eq e).2 f d a b (by omega)⟩⟩
variable {F:Nat} {a:Re_}
theorem Y5R(hF:BIG<=F)(hv:Val a.t_){P:List Int}{i:Nat}(hi:i<a.t_.length){Gd:(List Re_)×Int->Prop}{q:List Int}(hq:q.length=a.t_.length){ag:(Bool×Int×List Int)->Option ((List Re_)×Int)}(hc:∀ g p,SI a.t_ P (i+1) 0 g p->Ok (ag (g,((i+1:Nat):Int),p)) Gd){g:Bool}{p:List Int}(h:SI a.t_ P i 0 g p):
  Ok (Z2 (fun again (z:Bool×Int×(List Int))=>Z2f F a (i:Int) q ag again z.1 z.2.1 z.2.2) F (g,(0:Int),p)) Gd:=by
 unfold BIG at hF;have n:=hv.1
 refine Z1t (fun z:Bool×Int×List Int=>∃ k:Nat,z.2.1=k/\k<=a.t_.length/\SI a.t_ P i k z.1 z.2.2) (fun z=>a.t_.length-z.2.1.toNat) (fun again z s r=>?_) ⟨0,rfl,Nat.zero_le _,h⟩ (by simp;omega);obtain ⟨g,w,p⟩:=z
 obtain ⟨k,rfl,e,h⟩:=s;simp only at r h ⊢
 have v:=h.lab.len;have u:((k:Int)+1)=((k+1:Nat):Int):=by omega
 have t:((i:Int)+1)=((i+1:Nat):Int):=by omega
 unfold Z2f;refine Q2R (fun f=>?_) (fun f=>?_)
 .have e:k<a.t_.length:=by rw [decide_eq_true_eq,hq] at f;omega
  have d:∀ g p,SI a.t_ P i (k+1) g p->Ok (Q5B F (k:Int) again g p) Gd:=fun g p h=>by
   unfold Q5B;refine Q0t (Z7 (by omega) (by omega)) ?_
   rw [u];exact r (g,((k+1:Nat):Int),p) ⟨k+1,rfl,e,h⟩ (by simp only [Int.toNat_natCast];omega)
  refine Q0t (by omega) (Q0t (by omega) ?_);simp only [Int.toNat_natCast]
  refine Q2R (fun c=>?_) (fun c=>?_)
  .refine Q0t (by omega) (Q0t (by omega) ?_)
   have m:=V7 hi;have o:=V7 e
   refine Q3W (Y2J F (Y1N (hv.2.1 _ m)) (Y1N (hv.2.1 _ o)) (hv.2.2.pos m) (hv.2.2.pos o)) ?_;unfold Q5C
   refine Q2R (fun b=>?_) (fun b=>?_)
   .refine Q0t (by omega) (Q0t (by omega) ?_)
    simp only [Int.toNat_natCast];exact d _ _ (h.step hi e (by simpa using c) b)
   .refine d _ _ (h.skip fun j=>?_)
    have l:=j.2;unfold nr Q0O at l
    rw [b] at l;cases l
  .unfold Q5C
   refine Q2R (fun b=>by cases b) (fun _=>?_);exact d _ _ (h.skip fun j=>by rw [decide_eq_false_iff_not] at c;exact c j.1)
 .unfold Z2e
  have e:k=a.t_.length:=by rw [decide_eq_false_iff_not,hq] at f;omega
  subst e;refine Q0t (Z7 (by omega) (by omega)) ?_
  rw [t];exact hc g p h.next
def Y9l(R:List Rect)(p:List Int):Prop:=∀ i k,i<R.length->k<R.length->nr R i k=true->gl p i=gl p k
theorem Y5S(hF:BIG<=F)(hv:Val a.t_){Gd:(List Re_)×Int->Prop}(hc:∀ p,Lab a.t_ p->Y9l a.t_ p->Ok (Q5A F a p) Gd){p:List Int}(hp:Lab a.t_ p):Ok (Q8c F a p) Gd:=by
 have w:=hF;unfold BIG at hF
 have C:=hv.1;have J:mu p<=200*200:=by
  have:∀ (l:List Int),(∀ x ∈ l,x.toNat<=200)->mu l<=200*l.length:=by
   intro l B
   induction l with
   | nil=>simp [mu]
   | cons x l r=>
    have b:=r fun y H=>B y (by simp [H])
    have u:=B x (by simp);simp only [mu,List.map_cons,List.sum_cons,List.length_cons] at b ⊢
    omega
  have b:=this p fun x O=>by
   obtain ⟨i,f,rfl⟩:=List.mem_iff_getElem.1 O;have:=hp.low i (by rw [<-hp.len];exact f)
   rw [K8 f] at this;have:=hp.len
   omega
  have:=hp.len
  omega
 unfold Q8c;refine Z1t (fun z:Bool×List Int=>Lab a.t_ z.2/\(z.1=false->Y9l a.t_ z.2)) (fun z=>2*mu z.2+if z.1=true then 1 else 0) (fun s z v r=>?_) ⟨hp,fun e=>by cases e⟩ (by simp only [if_true];omega)
 obtain ⟨g,p⟩:=z;obtain ⟨b,u⟩:=v
 simp only at r b u ⊢;unfold Z6i
 refine Q2R (fun d=>?_) (fun d=>hc p b (u d));subst d
 have M:=b.len;refine Z1t (fun z:Bool×Int×List Int=>∃ i:Nat,z.2.1=i/\i<=a.t_.length/\SI a.t_ p i 0 z.1 z.2.2) (fun z=>a.t_.length-z.2.1.toNat) (fun o z v n=>?_) ⟨0,rfl,Nat.zero_le _,⟨b,Nat.le_refl _,(fun e=>by cases e),fun _=>⟨rfl,fun m j _ _ c=>by omega⟩⟩⟩ (by simp;omega)
 obtain ⟨g,Q,q⟩:=z;obtain ⟨i,rfl,f,h⟩:=v
 simp only at n h ⊢;unfold Z6h
 refine Q2R (fun d=>?_) (fun d=>?_)
 .have f:i<a.t_.length:=by rw [decide_eq_true_eq] at d;omega
  exact Y5R w hv f h.lab.len (fun g q I=>n (g,((i+1:Nat):Int),q) ⟨i+1,rfl,f,I⟩ (by simp only [Int.toNat_natCast];omega)) h
 .have f:i=a.t_.length:=by rw [decide_eq_false_iff_not] at d;omega
  refine r (g,q) ⟨h.lab,fun e=>?_⟩ ?_
  .obtain ⟨E,A⟩:=h.eq e
   simp only at E ⊢;subst E
   intro m j D G t;have N:=A m j D G (by omega)
   have K:=A j m G D (by omega);have L:nr a.t_ j m=true:=by unfold nr at t ⊢;rw [Y0u];exact t
   have S:¬ gl q j < gl q m:=fun c=>N ⟨c,t⟩
   have P:¬ gl q m < gl q j:=fun c=>K ⟨c,L⟩
   omega
  .cases g with
   | true=>have:=h.lt rfl;simp only [if_true];omega
   | false=>have:=h.le;simp;omega
end
def sel(R:List Rect)(p:List Int)(i:Nat):List Rect:=((List.range R.length).filter fun k=>gl p k==(i:Int)).map (gl R)
def Q3Q(R:List Rect)(p:List Int):List (List Rect):=((List.range R.length).filter fun i=>gl p i==(i:Int)).map (sel R p)
theorem Z9I{P:Nat->Bool}(n:Nat):((List.range n).filter P).length<=n:=by
 have:=List.length_filter_le P (List.range n)
 rwa [List.length_range] at this
theorem Z4y{α:Type}{P:Nat->Bool}{f:Nat->α}(k:Nat):((List.range (k+1)).filter P).map f=((List.range k).filter P).map f++if P k=true then [f k] else []:=by
 rw [List.range_succ,List.filter_append,List.map_append];congr 1
 rw [List.filter_cons];split <;> simp
theorem Y5Q{F:Nat}(hF:BIG<=F){a:Re_}(hv:Val a.t_){p:List Int}(hp:Lab a.t_ p):Q5A F a p=some ((Q3Q a.t_ p).map Z3D,0):=by
 have r:=hF;unfold BIG at hF
 have s:=hv.1;have D:=hp.len
 unfold Q5A;refine Y8 (fun z:Int×List Re_=>∃ i:Nat,z.1=i/\i<=a.t_.length/\z.2=(((List.range i).filter fun i=>gl p i==(i:Int)).map fun i=>Z3D (sel a.t_ p i))) (fun z=>a.t_.length-z.1.toNat) (fun g z q t=>?_) ⟨0,rfl,Nat.zero_le _,rfl⟩ (by simp;omega)
 obtain ⟨E,u⟩:=z;obtain ⟨i,rfl,n,rfl⟩:=q
 simp only at t ⊢;have w:((((List.range i).filter fun i=>gl p i==(i:Int)).map fun i=>Z3D (sel a.t_ p i))).length<=i:=by rw [List.length_map];exact Z9I i
 unfold Z6g;refine Q6 (fun h=>?_) (fun h=>?_)
 .have n:i<a.t_.length:=by rw [decide_eq_true_eq] at h;omega
  have B:((i:Int)+1)=((i+1:Nat):Int):=by omega
  refine Q7 (by omega) ?_;simp only [Int.toNat_natCast]
  have d:∀ v,v=(((List.range (i+1)).filter fun i=>gl p i==(i:Int)).map fun i=>Z3D (sel a.t_ p i))->Q4o F (i:Int) g v=some ((Q3Q a.t_ p).map Z3D,0):=fun v hv=>by
   unfold Q4o;refine Q7 (Z7 (by omega) (by omega)) ?_
   rw [B];exact t (((i+1:Nat):Int),v) ⟨i+1,rfl,n,hv⟩ (by simp only [Int.toNat_natCast];omega)
  refine Q6 (fun c=>?_) (fun c=>?_)
  .refine d _ ?_
   rw [Z4y,if_neg,List.append_nil];rw [bne_iff_ne] at c
   rw [beq_iff_eq];exact c
  .have j:(gl p i==(i:Int))=true:=by
    rw [beq_iff_eq];simpa using c
   refine Y8 (fun z:Int×List Rect=>∃ k:Nat,z.1=k/\k<=a.t_.length/\z.2=(((List.range k).filter fun k=>gl p k==(i:Int)).map (gl a.t_))) (fun z=>a.t_.length-z.1.toNat) (fun b z q m=>?_) ⟨0,rfl,Nat.zero_le _,rfl⟩ (by simp;omega);obtain ⟨G,l⟩:=z
   obtain ⟨k,rfl,o,rfl⟩:=q;simp only at m ⊢
   have C:((((List.range k).filter fun k=>gl p k==(i:Int)).map (gl a.t_))).length<=k:=by rw [List.length_map];exact Z9I k
   have A:((k:Int)+1)=((k+1:Nat):Int):=by omega
   unfold Z5b;refine Q6 (fun h=>?_) (fun h=>?_)
   .have o:k<a.t_.length:=by rw [decide_eq_true_eq] at h;omega
    have e:∀ v,v=(((List.range (k+1)).filter fun k=>gl p k==(i:Int)).map (gl a.t_))->Q4p F (k:Int) b v=some ((Q3Q a.t_ p).map Z3D,0):=fun v hv=>by
     unfold Q4p;refine Q7 (Z7 (by omega) (by omega)) ?_
     rw [A];exact m (((k+1:Nat):Int),v) ⟨k+1,rfl,o,hv⟩ (by simp only [Int.toNat_natCast];omega)
    refine Q7 (by omega) ?_;simp only [Int.toNat_natCast]
    refine Q6 (fun f=>?_) (fun f=>?_)
    .refine Q7 (by omega) (Q7 (by simp only [LIM,List.length_cons,List.length_nil];omega) ?_)
     refine e _ ?_;rw [Z4y,if_pos f]
    .refine e _ ?_
     rw [Z4y,if_neg (by rw [f];simp),List.append_nil]
   .have o:k=a.t_.length:=by rw [decide_eq_false_iff_not] at h;omega
    subst o;unfold Z0B
    refine Q2 (Q8f r (by omega)) ?_;refine Q7 (by simp only [LIM,List.length_cons,List.length_nil];omega) ?_
    refine d _ ?_;rw [Z4y,if_pos j]
    rfl
 .have n:i=a.t_.length:=by rw [decide_eq_false_iff_not] at h;omega
  subst n;unfold Z0A Q3Q
  rw [List.map_map];rfl
theorem Y2K{F:Nat}(hF:BIG<=F){a:Re_}(hv:Val a.t_):∃ p,Lab a.t_ p/\Y9l a.t_ p/\Q9Y F a=some ((Q3Q a.t_ p).map Z3D,0):=by
 have d:=hF;unfold BIG at hF
 have s:=hv.1;have c:Ok (Q9Y F a) fun r=>∃ p,Lab a.t_ p/\Y9l a.t_ p/\r=((Q3Q a.t_ p).map Z3D,0):=by
  unfold Q9Y;refine Q3W (K3 d a) ?_
  rw [Q1x hv];refine Q2R (fun h=>by cases h) (fun _=>?_)
  refine Q0t (by simp only [LIM];omega) ?_;simp only [Int.toNat_natCast]
  refine Z1t (fun z:Int×List Int=>∃ i:Nat,z.1=i/\i<=a.t_.length/\z.2.length=a.t_.length/\∀ j,j<i->gl z.2 j=j) (fun z=>a.t_.length-z.1.toNat) (fun l z u t=>?_) ⟨0,rfl,Nat.zero_le _,by simp,fun j f=>by omega⟩ (by simp;omega);obtain ⟨B,q⟩:=z
  obtain ⟨i,rfl,b,n,f⟩:=u;simp only at t n f ⊢
  have w:((i:Int)+1)=((i+1:Nat):Int):=by omega
  unfold Z6j;refine Q2R (fun m=>?_) (fun m=>?_)
  .have b:i<a.t_.length:=by simpa using m
   refine Q0t (by omega) (Q0t (Z7 (by omega) (by omega)) ?_);rw [w]
   simp only [Int.toNat_natCast];refine t (((i+1:Nat):Int),q.set i (i:Int)) ⟨i+1,rfl,b,by simpa using n,fun j h=>?_⟩ (by simp only [Int.toNat_natCast];omega)
   simp only
   rw [Z8L (by omega)];split
   .rename_i e;rw [e]
   .exact f j (by omega)
  .have b:i=a.t_.length:=by
    have:¬ (i<a.t_.length):=by simpa using m
    omega
   subst b;refine Y5S d hv (fun p g o=>⟨_,Y5Q d hv g,p,g,o,rfl⟩) ⟨n,fun i b=>by rw [f i b];omega,fun C A i b=>by rw [f i b];simp⟩
 obtain ⟨r,g,p,o,v,rfl⟩:=c;exact ⟨p,o,v,g⟩
structure Fam (S:Int->Int->Bool) (Q:List (List Rect)):Prop where
 un:∀ x y,S x y=true↔∃ q ∈ Q,inR q x y=true
 ne:∀ q ∈ Q,∃ x y,inR q x y=true
 cn:∀ q ∈ Q,W3K (inR q)
 far:Q.Pairwise fun a b=>W3L a b/\W3J a b
theorem W1R{α:Type}{Rl:α->α->Prop}{l:List α}(h:l.Pairwise Rl){a b:α}(ha:a ∈ l)(hb:b ∈ l):a=b\/Rl a b\/Rl b a:=by
 induction l with
 | nil=>cases ha
 | cons c l ih=>
  rw [List.pairwise_cons] at h;rcases List.mem_cons.1 ha with e|ha2 <;> rcases List.mem_cons.1 hb with f | d
  .exact .inl (e.trans f.symm)
  .subst e;exact .inr (.inl (h.1 _ d))
  .subst f;exact .inr (.inr (h.1 _ ha2))
  .exact ih h.2 ha2 d
theorem Fam.sub{S:Int->Int->Bool}{Q Q' : List (List Rect)}(h:Fam S Q)(h' : Fam S Q'){q q' : List Rect}(hq:q ∈ Q)(hq' : q' ∈ Q'){x y:Int}(h1:inR q x y=true)(h2:inR q' x y=true):∀ u v,inR q u v=true->inR q' u v=true:=by
 refine h.cn q hq (fun u v=>inR q' u v=true) ⟨x,y,h1,h2⟩ fun u v g f l i c d=>?_
 obtain ⟨m,j,b⟩:=(h'.un g f).1 ((h.un g f).2 ⟨q,hq,i⟩);rcases W1R h'.far hq' j with e|e|e
 .rw [e];exact b
 .exact (e.2 _ _ _ _ d b c).elim
 .exact (e.2 _ _ _ _ b d (W1b c)).elim
theorem Fam.uniq{S:Int->Int->Bool}{Q Q' : List (List Rect)}(h:Fam S Q)(h' : Fam S Q'){q:List Rect}(hq:q ∈ Q):∃ q' ∈ Q',inR q=inR q':=by
 obtain ⟨x,y,e⟩:=h.ne q hq;obtain ⟨q',b,f⟩:=(h'.un x y).1 ((h.un x y).2 ⟨q,hq,e⟩)
 refine ⟨q',b,?_⟩;funext u v
 have i:=h.sub h' hq b e f u v;have g:=h'.sub h b hq f e u v
 cases c:inR q u v <;> cases d:inR q' u v <;> simp_all
theorem Y9d{R:List Rect}(ha:R.Pairwise Apt)(hp:∀ r ∈ R,Pos r):Fam (inR R) (Q7w R):=by
 refine ⟨fun x y=>?_,fun q b=>?_,fun q b=>((Y2S R).1 q b).2.conn fun r c=>hp r (Z3L b c),Y8Q ha⟩
 .rw [<-W0n (Q7i R),Z6A,List.any_eq_true]
 .obtain ⟨r,c⟩:=List.exists_mem_of_ne_nil _ ((Y2S R).1 q b).1
  have:=hp r (Z3L b c)
  unfold Pos at this;exact ⟨r.L_,r.w_,Q6Y c ((J0 _ _ _).2 (by omega))⟩
theorem Z1u{R:List Rect}{p:List Int}{i:Nat}{r:Rect}:r ∈ sel R p i↔∃ k,k<R.length/\gl p k=(i:Int)/\gl R k=r:=by
 unfold sel;rw [List.mem_map]
 constructor
 .rintro ⟨k,b,rfl⟩
  rw [List.mem_filter,List.mem_range,beq_iff_eq] at b;exact ⟨k,b.1,b.2,rfl⟩
 .rintro ⟨k,d,c,rfl⟩
  exact ⟨k,by rw [List.mem_filter,List.mem_range,beq_iff_eq];exact ⟨d,c⟩,rfl⟩
theorem W2g{R:List Rect}(ha:R.Pairwise Apt)(hp:∀ r ∈ R,Pos r){p:List Int}(hl:Lab R p)(hs:Y9l R p):Fam (inR R) (Q3Q R p):=by
 have Z:∀ i:Int,Cl R (fun k=>gl p k=i):=fun i j k d b v=>by
  show gl p j=i↔gl p k=i;rw [hs j k d b v]
 have J:∀ k,k<R.length->(gl p k).toNat<R.length/\gl p (gl p k).toNat=gl p k:=fun k b=>by
  have:=hl.low k b
  exact ⟨by omega,(hl.con _ (Z (gl p k)) k b).1 rfl⟩
 have c:∀ q,q ∈ Q3Q R p↔∃ i,i<R.length/\gl p i=(i:Int)/\sel R p i=q:=fun q=>by
  unfold Q3Q;rw [List.mem_map]
  constructor
  .rintro ⟨i,t,rfl⟩
   rw [List.mem_filter,List.mem_range,beq_iff_eq] at t;exact ⟨i,t.1,t.2,rfl⟩
  .rintro ⟨i,l,f,rfl⟩
   exact ⟨i,by rw [List.mem_filter,List.mem_range,beq_iff_eq];exact ⟨l,f⟩,rfl⟩
 have g:∀ k,k<R.length->Pos (gl R k):=fun k b=>hp _ (V7 b)
 have u:∀ j k,j<R.length->k<R.length->j≠k->Apt (gl R j) (gl R k):=fun j k d b z=>by
  rw [List.pairwise_iff_getElem] at ha;rw [K8 d,K8 b]
  rcases Nat.lt_or_ge j k with h|h
  .exact ha j k d b h
  .exact Y3x (ha k j b d (by omega))
 refine ⟨fun x y=>?_,fun q E=>?_,fun q E=>?_,?_⟩
 .constructor
  .intro h
   obtain ⟨r,n,f⟩:=(J8 _ _ _).1 h;obtain ⟨k,b,rfl⟩:=List.mem_iff_getElem.1 n
   have w:=J k b;have h4:=hl.low k b
   refine ⟨sel R p (gl p k).toNat,(c _).2 ⟨_,w.1,by rw [w.2];omega,rfl⟩,(J8 _ _ _).2 ⟨R[k],Z1u.2 ⟨k,b,by omega,K8 b⟩,f⟩⟩
  .rintro ⟨q,E,h⟩
   obtain ⟨i,t,l,rfl⟩:=(c q).1 E;obtain ⟨r,n,f⟩:=(J8 _ _ _).1 h
   obtain ⟨k,b,w,rfl⟩:=Z1u.1 n;exact Q6Y (V7 b) f
 .obtain ⟨i,t,l,rfl⟩:=(c q).1 E
  have:=g i t
  unfold Pos at this;exact ⟨(gl R i).L_,(gl R i).w_,Q6Y (Z1u.2 ⟨i,t,l,rfl⟩) ((J0 _ _ _).2 (by omega))⟩
 .obtain ⟨i,t,l,rfl⟩:=(c q).1 E
  intro P Y X;obtain ⟨x0,y0,f,w⟩:=Y
  obtain ⟨r,n,h4⟩:=(J8 _ _ _).1 f;obtain ⟨O,N,h5,rfl⟩:=Z1u.1 n
  have o:∀ k,k<R.length->gl p k=(i:Int)->∀ x y,(gl R k).has x y=true->inR (sel R p i) x y=true:=fun k b e x y h=>Q6Y (Z1u.2 ⟨k,b,e,rfl⟩) h
  have hC:Cl R (fun k=>gl p k=(i:Int)->∀ x y,(gl R k).has x y=true->P x y):=by
   have H:∀ j k,j<R.length->k<R.length->nr R j k=true->(gl p j=(i:Int)->∀ x y,(gl R j).has x y=true->P x y)->(gl p k=(i:Int)->∀ x y,(gl R k).has x y=true->P x y):=fun j k d b v V e=>by
    have ej:gl p j=(i:Int):=by rw [hs j k d b v];exact e
    obtain ⟨x,y,A,B,M,C,Q⟩:=Y5X v (g j d) (g k b);exact Z7c (S:=inR (sel R p i)) X (o k b e) C (X _ _ _ _ (o j d ej _ _ M) (o k b e _ _ C) Q (V ej _ _ M))
   intro j k d b v;exact ⟨H j k d b v,H k j b d (by unfold nr at v ⊢;rw [Y0u];exact v)⟩
  have G:gl p O=(i:Int)->∀ x y,(gl R O).has x y=true->P x y:=fun e=>Z7c (S:=inR (sel R p i)) X (o O N e) h4 w
  have I:=(hl.con _ hC O N).1 G;rw [h5,Int.toNat_natCast] at I
  intro x y W;obtain ⟨r,n,h6⟩:=(J8 _ _ _).1 W
  obtain ⟨k,b,h7,rfl⟩:=Z1u.1 n;have L:=(hl.con _ hC k b).2
  rw [h7,Int.toNat_natCast] at L;exact L I rfl x y h6
 .unfold Q3Q
  rw [List.pairwise_map];refine List.Pairwise.imp_of_mem ?_ (List.Pairwise.filter _ List.nodup_range)
  intro i j t d z;have K:∀ x y A B,inR (sel R p i) x y=true->inR (sel R p j) A B=true->(x=A /\ y=B)\/adj x y A B -> False:=fun x y A B a1 a2 T=>by
   obtain ⟨r,n,M⟩:=(J8 _ _ _).1 a1;obtain ⟨k,b,C,rfl⟩:=Z1u.1 n
   obtain ⟨s,U,Q⟩:=(J8 _ _ _).1 a2;obtain ⟨m,hm,b4,rfl⟩:=Z1u.1 U
   have D:k≠m:=fun e=>by subst e;rw [C] at b4;exact z (by omega)
   rcases T with ⟨rfl,rfl⟩|T
   .exact u k m b hm D _ _ M Q
   .have:=hs k m b hm (Y6C (u k m b hm D) M Q T)
    rw [C,b4] at this;exact z (by omega)
  exact ⟨fun x y l f=>K _ _ _ _ l f (.inl ⟨rfl,rfl⟩),fun x y A B l f w=>K _ _ _ _ l f (.inr w)⟩
theorem W1I{R:List Rect}{p:List Int}{i:Nat}:(sel R p i).length<=R.length:=by unfold sel;rw [List.length_map];exact Z9I _
theorem Y9K{R:List Rect}{p:List Int}:(Q3Q R p).length<=R.length:=by unfold Q3Q;rw [List.length_map];exact Z9I _
theorem Z5Q{F:Nat}(hF:BIG<=F){l:List Rect}(hl:l.length<=1000000)(hp:∀ r ∈ l,Q1j r=true):Z2H F l=some (area l):=by
 unfold BIG at hF;have b:∀ j,0<=((l.take j).map ar1).sum/\((l.take j).map ar1).sum<=268435456*1000000:=fun j=>by
  have:=Y0a (l:=(l.take j).map ar1) (M:=268435456) (fun x i=>by
   obtain ⟨s,m,rfl⟩:=List.mem_map.1 i;exact Y3w (hp s (List.mem_of_mem_take m)))
  simp only [List.length_map,List.length_take] at this;omega
 unfold Z2H;refine Y8 (fun z:Int×Int=>∃ j:Nat,z=(((l.take j).map ar1).sum,(j:Int))/\j<=l.length) (fun z=>l.length-z.2.toNat) (fun c z e d=>?_) ⟨0,by simp,by omega⟩ (by simp;omega)
 obtain ⟨j,rfl,n⟩:=e;simp only at d ⊢
 have o:=b j;have f:=b (j+1)
 unfold Z5S;refine Q6 (fun h=>?_) (fun h=>?_)
 .have h:j<l.length:=by simpa using h
  refine Z3 (k:=?_);simp only [Int.toNat_natCast]
  have g:=(Q0b _).1 (hp _ (V7 h));have p:=Y3w (hp _ (V7 h))
  rw [Z9a h] at f;refine Q7 (Z7 (by omega) (by omega)) ?_
  refine Q7 (Z7 (by omega) (by omega)) ?_;show gd (I64 (ar1 (gl l j))) _=_
  refine Q7 (Z7 (by omega) (by omega)) ?_;show gd (I64 (((l.take j).map ar1).sum+ar1 (gl l j))) _=_
  refine Q7 (Z7 (by omega) (by omega)) ?_;refine Z3 (k:=?_)
  refine d _ ⟨j+1,?_,h⟩ (by simp only;omega);rw [Z9a h];rfl
 .have h:¬ j<l.length:=by simpa using h
  have:j=l.length:=by omega
  subst this;rw [List.take_length]
  rfl
structure WB (l:List (Rn (List Span))):Prop where
 pos:∀ b ∈ l,b.lo<b.hi
 ord:l.Pairwise fun b c=>b.hi<=c.lo
 sp:∀ b ∈ l,SpOk b.v
theorem Q0s(b:Rn (List Span))(l:List (Rn (List Span))):flat (b::l)=J9 b++flat l:=rfl
theorem Y7M:∀ {l:List (Rn (List Span))},WB l->∃ m,Bands m/\(∀ x y,inR (flat m) x y=inR (flat l) x y)/\(flat m).length<=(flat l).length/\∀ N,(∀ b ∈ l,N<=b.lo)->∀ c ∈ m,N<=c.lo
 | [],_=>⟨[],⟨.nil,(fun b r=>(List.not_mem_nil r).elim),(fun b r=>(List.not_mem_nil r).elim)⟩,fun _ _=>rfl,Nat.le_refl _,fun _ _ c g=>(List.not_mem_nil g).elim⟩
 | b::l,h=>by
  obtain ⟨m,i,o,u,B⟩:=Y7M (l:=l) ⟨fun c g=>h.pos c (by simp [g]),(List.pairwise_cons.1 h.ord).2,fun c g=>h.sp c (by simp [g])⟩;have t:=(List.pairwise_cons.1 h.ord).1
  have p:=B b.hi t;have z:=h.pos b (by simp)
  by_cases hv:b.v=[]
  .have e:J9 b=[]:=by unfold J9;rw [hv];rfl
   refine ⟨m,i,fun x y=>by rw [Q0s,e,o];rfl,by rw [Q0s,e];exact u,fun N j c g=>?_⟩;have:=p c g
   have:=j b (by simp)
   omega
  .cases m with
   | nil=>
    refine ⟨[b],⟨⟨?_,by simp⟩,?_,?_⟩,fun x y=>?_,?_,?_⟩
    .intro c g;rw [List.mem_singleton] at g;subst g;exact z
    .intro c g;rw [List.mem_singleton] at g;subst g;exact h.sp _ (by simp)
    .intro c g;rw [List.mem_singleton] at g;subst g;exact hv
    .rw [Q0s,Q0s,Q0F,Q0F,o]
    .rw [Q0s,Q0s,List.length_append,List.length_append];omega
    .intro N j c g;rw [List.mem_singleton] at g;subst g;exact j _ (by simp)
   | cons c m=>
    have s:=p c (by simp);have C:=i.runs.pos c (by simp)
    have n:=i.runs.head
    by_cases hj:c.lo=b.hi/\c.v=b.v
    .refine ⟨⟨b.lo,c.hi,b.v⟩::m,⟨⟨?_,List.pairwise_cons.2 ⟨?_,(List.pairwise_cons.1 i.runs.ch).2⟩⟩,?_,?_⟩,fun x y=>?_,?_,?_⟩
     .intro d f
      rcases List.mem_cons.1 f with rfl|f
      .show b.lo<c.hi;omega
      .exact i.runs.pos d (by simp [f])
     .intro d f
      have:=n d f
      unfold Rn.R at this ⊢;rw [hj.2] at this;exact this
     .intro d f
      rcases List.mem_cons.1 f with rfl|f
      .exact h.sp b (by simp)
      .exact i.sp d (by simp [f])
     .intro d f
      rcases List.mem_cons.1 f with rfl|f
      .exact hv
      .exact i.ne d (by simp [f])
     .rw [Q0s,Q0s,Q0F,Q0F, <-o,Q0s,Q0F, <-Bool.or_assoc]
      congr 1
      rw [Z7i,Z7i,Z7i,hj.2]
      by_cases a1:b.lo<=y <;> by_cases a2:y<c.hi <;> by_cases a3:c.lo<=y <;> by_cases a4:y<b.hi <;> simp [a1,a2,a3,a4] <;> omega
     .rw [Q0s,List.length_append] at u
      rw [Q0s,Q0s,List.length_append,List.length_append];have e:(J9 ⟨b.lo,c.hi,b.v⟩).length=(J9 b).length:=by unfold J9;rw [List.length_map,List.length_map]
      rw [e];omega
     .intro N j d f
      have q:=j b (by simp);rcases List.mem_cons.1 f with rfl|f
      .exact q
      .have:=p d (by simp [f]);omega
    .refine ⟨b::c::m,⟨⟨?_,List.pairwise_cons.2 ⟨?_,i.runs.ch⟩⟩,?_,?_⟩,fun x y=>?_,?_,?_⟩
     .intro d f
      rcases List.mem_cons.1 f with rfl|f
      .exact z
      .exact i.runs.pos d f
     .intro d f
      unfold Rn.R;rcases List.mem_cons.1 f with rfl|f
      .exact ⟨s,fun w A=>hj ⟨w.symm,A.symm⟩⟩
      .have:=(n d f).1
       exact ⟨by omega,fun w=>by omega⟩
     .intro d f
      rcases List.mem_cons.1 f with rfl|f
      .exact h.sp _ (by simp)
      .exact i.sp d f
     .intro d f
      rcases List.mem_cons.1 f with rfl|f
      .exact hv
      .exact i.ne d f
     .rw [Q0s,Q0s (l:=l),Q0F,Q0F,o]
     .rw [Q0s,Q0s (l:=l),List.length_append,List.length_append];omega
     .intro N j d f
      have q:=j b (by simp);rcases List.mem_cons.1 f with rfl|f
      .exact q
      .have:=p d f;omega
theorem Y4p{α:Type}[DecidableEq α]:∀ {q p:List α},q.Nodup->(∀ r ∈ q,r ∈ p)->q.length<=p.length
 | [],_,_,_=>Nat.zero_le _
 | a::q,p,h,hs=>by
  have c:a ∈ p:=hs a (by simp);have b:=List.nodup_cons.1 h
  have:=Y4p (q:=q) (p:=p.erase a) b.2 fun r d=>(List.mem_erase_of_ne (fun e=>by subst e;exact b.1 d)).2 (hs r (by simp [d]))
  rw [List.length_erase_of_mem c] at this;have:=List.length_pos_of_mem c
  rw [List.length_cons];omega
theorem Z8O{R p:List Rect}(hR:Q0f R)(hp:∀ r ∈ p,r ∈ R):(cn (inR p)).length<=p.length:=by
 have g:=hR.apt;have i:∀ r ∈ R,Pos r:=fun r f=>hR.pos f
 have o:R.Nodup:=by
  refine List.Pairwise.imp_of_mem (fun {a b} ha _ h e=>?_) g;subst e
  have:=i a ha
  unfold Pos at this;have t:a.has a.L_ a.w_=true:=(J0 _ _ _).2 (by omega)
  exact h _ _ t t
 obtain ⟨B,l,rfl⟩:=hR
 let P:Rn (List Span)->Span->Bool:=fun b s=>decide ((⟨s.L_,b.lo,s.R_,b.hi⟩:Rect) ∈ p)
 have A:WB (B.map fun b=>⟨b.lo,b.hi,b.v.filter (P b)⟩):=by
  refine ⟨fun c q=>?_,?_,fun c q=>?_⟩
  .obtain ⟨b,n,rfl⟩:=List.mem_map.1 q
   exact l.runs.pos b n
  .rw [List.pairwise_map]
   exact l.runs.ch.imp fun h=>h.1
  .obtain ⟨b,n,rfl⟩:=List.mem_map.1 q
   have:=l.sp b n
   exact ⟨fun s C=>this.pos s (List.mem_filter.1 C).1,this.ch.filter _⟩
 obtain ⟨m,u,z,w, -⟩:=Y7M A;have e:∀ B:List (Rn (List Span)),flat (B.map fun b=>⟨b.lo,b.hi,b.v.filter (P b)⟩)=(flat B).filter fun r=>decide (r ∈ p):=by
  intro B
  induction B with
  | nil=>rfl
  | cons b B ih=>
   rw [List.map_cons,Q0s,Q0s,List.filter_append,ih];congr 1
   unfold J9;rw [List.filter_map];rfl
 rw [e] at z w;have j:cn (inR p)=flat m:=by
  refine Y4C u fun x y=>?_
  rw [<-u.runs.inR_flat,z];have:inR ((flat B).filter fun r=>decide (r ∈ p)) x y=true↔inR p x y=true:=by
   rw [J8,J8];constructor
   .rintro ⟨r,f,h⟩
    rw [List.mem_filter,decide_eq_true_eq] at f;exact ⟨r,f.2,h⟩
   .rintro ⟨r,f,h⟩
    exact ⟨r,by rw [List.mem_filter,decide_eq_true_eq];exact ⟨hp r f,f⟩,h⟩
  cases c:inR ((flat B).filter fun r=>decide (r ∈ p)) x y <;> cases d:inR p x y <;> simp_all
 rw [j];refine Nat.le_trans w (Y4p (o.filter _) fun r f=>?_)
 rw [List.mem_filter,decide_eq_true_eq] at f;exact f.2
theorem Y5g(l:List Rect):(lim l).1.t_.length<=120:=by
 unfold lim;split
 .simp
 .simp only;omega
theorem W0G(a b:List Rect)(how:Int):(cn fun x y=>Q0j (inR a x y) (inR b x y) how).length<=(2*a.length+2*b.length)*(a.length+b.length):=by
 have d:=Z6I (a:=a) (b:=b);have c:=Y1j (a:=a) (b:=b)
 exact Nat.le_trans ((Y3p a b how).len (N:=a.length+b.length) (by omega)) (Nat.mul_le_mul_right _ c)
theorem Y8P{R:List Rect}(hv:Val R):∀ p ∈ Q7w R,(cn (inR p)).length<=120:=fun p b=>by
 have e:=Z8O hv.2.2 (fun r c=>Z3L b c);have d:=Y9O b
 have:=hv.1
 omega
theorem Q9d{F:Nat}{t:Tape}(ht:TOk t){n:Int}(h1:1<=n)(h2:n<=1099511627776):∃ t' b,Q3k F t n=some (t',b)/\TOk t':=by
 obtain ⟨c,k,d,e,_,_⟩:=Z6 (F:=F) ht h1 h2;refine ⟨c,k==n-1,?_,e⟩
 unfold Q3k;refine Q2 d ?_
 refine Q7 (Z7 (by omega) (by omega)) rfl
section
theorem Q3X{F:Nat}(hF:BIG<=F){a b:List Rect}(ha:a.length<=1000000)(hb:b.length<=1000000):Q2f F [a,b]=some (a++b):=by
 unfold BIG at hF;obtain ⟨m,rfl⟩:∃ m,F=m+3:=⟨F-3,by omega⟩
 have c:gl [a,b] (0:Int).toNat=a:=rfl;have d:gl [a,b] (1:Int).toNat=b:=rfl
 have k1:Q2x (m+3) [a,b] (((a.length:Nat):Int)+((b.length:Nat):Int))=some (a++b):=by
  unfold Q2x;refine Q2 (a:=[]) (by unfold Y1g;rw [if_pos (by unfold LIM;omega)]) ?_
  show z8 (m+3) [a,b] _ 0 []=_;unfold z8
  refine Z4 rfl ?_;rw [c]
  refine Z3 (k:=?_);refine Q7 (by simp [LIM];omega) ?_
  refine Z3 (k:=?_);show z8 (m+3) [a,b] _ 1 ([]++a)=_
  unfold z8;refine Z4 rfl ?_
  rw [d];refine Z3 (k:=?_)
  refine Q7 (by simp [LIM];omega) ?_;refine Z3 (k:=?_)
  show z8 (m+3) [a,b] _ 2 (([]++a)++b)=_;unfold z8
  refine Q5 rfl ?_;unfold Q4I
  simp
 show y5 (m+3) [a,b] _ 0 0=_;unfold y5
 refine Z4 rfl ?_;rw [c]
 refine Z3 (k:=?_);refine Z3 (k:=?_)
 refine Q5 (by simp <;> omega) ?_;refine Z3 (k:=?_)
 show y5 (m+3) [a,b] _ (0+((a.length:Nat):Int)) 1=_;unfold y5
 refine Z4 rfl ?_;rw [d]
 refine Z3 (k:=?_);refine Z3 (k:=?_)
 refine Q5 (by simp <;> omega) ?_;refine Z3 (k:=?_)
 show y5 (m+3) [a,b] _ (0+((a.length:Nat):Int)+((b.length:Nat):Int)) 2=_;unfold y5
 refine Q5 rfl ?_;rw [Int.zero_add]
 exact k1
def zs(k:Int):Int:=if 0<=k/\k<=7 then 0 else if 8<=k/\k<=11 then 1 else 2
theorem Y4I(F:Nat)(k:Int):Z6Q F k=some (zs k):=by
 have l:Q0x F k true=some 0:=rfl;have j:Q2G F true=some 1:=rfl
 have q:Q2G F false=some 2:=rfl;have e:∀ n:Int,(k==n)=decide (k=n):=fun n=>by rw [Bool.eq_iff_iff];simp
 unfold Z6Q;simp only [e]
 by_cases h:0<=k/\k<=7
 .have f:zs k=0:=by unfold zs;rw [if_pos h]
  rw [f];have b:∀ {n:Int} {x:Option Int},(k≠n->x=some 0)->br (decide (k=n)) (Q0x F k (decide (k=n))) x=some 0:=fun {n x} hx=>by
   refine Q6 (fun d=>by rw [d];exact l) (fun d=>hx (by simpa using d))
  refine b fun r=>b fun o=>b fun p=>b fun s=>b fun t=>b fun v=>b fun u=>?_
  rw [show decide (k=7)=true by rw [decide_eq_true_eq];omega];exact l
 .have c:∀ n:Int,0<=n->n<=7->decide (k=n)=false:=fun n m g=>by rw [decide_eq_false_iff_not];omega
  rw [c 0 (by omega) (by omega),c 1 (by omega) (by omega),c 2 (by omega) (by omega),c 3 (by omega) (by omega),c 4 (by omega) (by omega),c 5 (by omega) (by omega),c 6 (by omega) (by omega),c 7 (by omega) (by omega)];simp only [br]
  unfold Q0x;simp only [br,e]
  by_cases g:8<=k/\k<=11
  .have f:zs k=1:=by unfold zs;rw [if_neg h,if_pos g]
   rw [f];have b:∀ {n:Int} {x:Option Int},(k≠n->x=some 1)->br (decide (k=n)) (Q2G F (decide (k=n))) x=some 1:=fun {n x} hx=>by
    refine Q6 (fun d=>by rw [d];exact j) (fun d=>hx (by simpa using d))
   refine b fun r=>b fun o=>b fun p=>?_
   rw [show decide (k=11)=true by rw [decide_eq_true_eq];omega];exact j
  .have f:zs k=2:=by unfold zs;rw [if_neg h,if_neg g]
   rw [f];have i:∀ n:Int,8<=n->n<=11->decide (k=n)=false:=fun n m g=>by rw [decide_eq_false_iff_not];omega
   rw [i 8 (by omega) (by omega),i 9 (by omega) (by omega),i 10 (by omega) (by omega),i 11 (by omega) (by omega)];exact q
def zp(w:Int)(k:Int):Bool:=zs k==w
theorem Z8V(F:Nat)(k w:Int):Z6R F k w=some (zp w k):=by
 unfold Z6R;exact Q2 (Y4I F k) rfl
structure LB (n:Nat) (L:List A2_):Prop where
 vl:VL L
 box:∀ f ∈ L,Box n f.g_.t_
 n15:n<=15
theorem W3b{l:List Rect}(hc:Q0f l){n:Nat}(hb:Box n l)(hn:n<=15):l.length<=120:=by
 have b:=hc.half hb;have c:n*((n+1) / 2)<=15*8:=Nat.mul_le_mul hn (by omega)
 omega
theorem Y4M{S:Int->Int->Bool}(hf:Fin S){n:Nat}(hn:n<=15)(hb:∀ x y,S x y=true->0<=x/\x<n/\0<=y/\y<n):Val (cn S)/\Box n (cn S):=by
 have h:=W0R (n:=(n:Int)) hf hb;exact ⟨⟨W3b (Q0f.cn hf) h hn,h.prop (by omega),Q0f.cn hf⟩,h⟩
variable {F n:Nat} {L:List A2_} {d:Int}
theorem LB.rbox(hL:LB n L)(d:Int)(p:Int->Bool):Box n (W4 L d p):=fun r b=>by
 obtain ⟨f,c,b⟩:=Y2U b;exact hL.box f c r b
theorem LB.rval(hL:LB n L)(d:Int)(p:Int->Bool):Val (cn (inR (W4 L d p)))/\Box n (cn (inR (W4 L d p))):=Y4M (V3 _) hL.n15 fun x y h=>(hL.rbox d p).in h
theorem Y2b(hF:BIG<=F)(hL:LB n L)(d w:Int):Z4d F L d w=some (⟨cn (inR (W4 L d (zp w)))⟩,0):=by
 have c:=hL.vl.len;unfold Z4d
 refine Q2 (Q9n hF (by omega) (fun f b=>hL.vl.rlen b) d (zp w) (fun f _=>Z8V F f.k_ w)) ?_;have g:=Y7a (L:=L) (fun f b=>hL.vl.rlen b) d (zp w)
 refine Q2 (Q3y hF (by omega) fun r e=>?_) ?_
 .have:=hL.rbox d (zp w) r e
  omega
 .have:=(hL.rval d (zp w)).1.1
  rw [if_neg (by omega)]
theorem Q2Y(hF:BIG<=F)(hv:VL L)(d1:0<=d)(d2:d<=36864){a:Re_}(ha:Val a.t_){m:Int}(m1:0<=m)(m2:m<=268435456):Q5h F L d m a=some 0:=by
 unfold Q5h;refine Q2 (Z3t hF L d) ?_
 rw [if_neg (by simp [(Q9r L).2 hv]),if_neg (by omega)];refine Q5 rfl ?_
 refine Q2 (Q0g hF a) ?_;rw [Q1x ha]
 refine Q5 rfl ?_;refine Q5 (by rw [decide_eq_false_iff_not];omega) ?_
 rw [show decide ((268435456:Int)<m)=false by rw [decide_eq_false_iff_not];omega];rfl
theorem Y4K(hF:BIG<=F)(hL:LB n L)(d1:0<=d)(d2:d<=36864):Q8K F L d=some (⟨cn (inR (W4 L d (zp 0)))⟩,0):=by
 unfold Q8K;refine Q2 (Q2Y hF hL.vl d1 d2 Val.nil (by omega) (by omega)) ?_
 refine Q5 rfl ?_;exact Q2 (Y2b hF hL d 0) rfl
noncomputable def Q1K(L:List A2_)(d:Int)(a:List Rect):List Rect:=cn fun x y=>inR (W4 L d (zp 1)) x y&&inR a x y
noncomputable def Z1I(L:List A2_)(d m:Int)(a:List Rect):List Rect:=((Q7w (Q1K L d a)).filter fun p=>decide (m<area p)).flatten
theorem Y1S(a b:List Rect):Fin fun x y=>inR a x y&&inR b x y:=Q3K a b 2
theorem Y5G(hL:LB n L)(d:Int)(a:List Rect):Val (Q1K L d a)/\Box n (Q1K L d a):=Y4M (Y1S _ _) hL.n15 fun x y h=>(hL.rbox d (zp 1)).in (Bool.and_eq_true _ _ ▸ h).1
theorem Y0g{m:Int}{a:List Rect}{r:Rect}(h:r ∈ Z1I L d m a):r ∈ Q1K L d a:=by
 obtain ⟨p,c,b⟩:=List.mem_flatten.1 h;exact Z3L (List.mem_filter.1 c).1 b
theorem Y4h(hL:LB n L)(d m:Int)(a:List Rect):Box n (Z1I L d m a):=fun r b=>(Y5G hL d a).2 r (Y0g b)
theorem Y4g(hL:LB n L)(d m:Int)(a:List Rect):Val (cn (inR (Z1I L d m a)))/\Box n (cn (inR (Z1I L d m a))):=Y4M (V3 _) hL.n15 fun x y h=>(Y4h hL d m a).in h
theorem Z0I{p:List Rect->Bool}:∀ Q:List (List Rect),(Q.filter p).flatten.length<=Q.flatten.length
 | []=>Nat.le_refl _
 | q::Q=>by
  have:=Z0I (p:=p) Q
  rw [List.filter_cons,List.flatten_cons,List.length_append];split
  .rw [List.flatten_cons,List.length_append];omega
  .omega
theorem Y4J(hF:BIG<=F)(hL:LB n L)(d1:0<=d)(d2:d<=36864){a:Re_}(ha:Val a.t_){m:Int}(m1:0<=m)(m2:m<=268435456):Q3u F L d m a=some (⟨cn (inR (Z1I L d m a.t_))⟩,0):=by
 have c:=hF;unfold BIG at hF
 have C:=Y5G hL d a.t_;have s:=C.1.1
 have M:=ha.1;have E:=hL.rval d (zp 1)
 have U:=E.1.1;unfold Q3u
 refine Q2 (Q2Y c hL.vl d1 d2 ha m1 m2) ?_;refine Q5 rfl ?_
 refine Q2 (Y2b c hL d 1) ?_;refine Q5 rfl ?_
 refine Q2 (Q1W c (by omega) (fun r f=>(E.1.2.2.pos f).1) (fun r f=>(ha.2.2.pos f).1) (k:=fun u v=>u&&v) rfl (fun u v=>by cases u <;> cases v <;> rfl)) ?_;have e:(cn fun x y=>inR (cn (inR (W4 L d (zp 1)))) x y&&inR a.t_ x y)=Q1K L d a.t_:=by
  unfold Q1K;congr 1
  funext x y
  rw [J5 (V3 _)]
 rw [e];refine Q5 (by rw [decide_eq_false_iff_not];omega) ?_
 have V:=(Q7i (Q1K L d a.t_)).length_eq;refine Y8 (fun z:List Rect×List Rect=>∃ (k:Nat) (Q:List (List Rect)),Q++Q7j k z.1=Q7w (Q1K L d a.t_)/\z.1.length<=k/\z.1.length<=120/\z.2=(Q.filter fun p=>decide (m<area p)).flatten/\∀ r ∈ z.1,r ∈ Q1K L d a.t_) (fun z=>z.1.length) (fun i z T H=>?_) ⟨_,[],rfl,Nat.le_refl _,s,rfl,fun _ h=>h⟩ (by simp only;omega)
 obtain ⟨l,P⟩:=z;obtain ⟨k,Q,j,B,G,rfl,t⟩:=T
 simp only at j B G t H ⊢;have J:Q.flatten.length<=120:=by
  have:=congrArg (fun q=>(List.flatten q).length) j
  simp only [List.flatten_append,List.length_append] at this;omega
 have S:=Z0I (p:=fun p=>decide (m<area p)) Q;unfold Z0W
 cases l with
 | nil=>
  refine Q5 (by simp) ?_;unfold Z0V
  have K:Q7j k []=[]:=by cases k <;> rfl
  rw [K,List.append_nil] at j;subst j
  refine Q2 (Q3y c (by omega) fun r f=>?_) ?_
  .have:=Y4h hL d m a.t_ r f
   omega
  .have:=(Y4g hL d m a.t_).1.1
   unfold Z1I at this;rw [if_neg (by omega)];rfl
 | cons b l=>
  refine Z4 (by simp) ?_;refine Q2 (Z4T c (by simp) (by omega) (fun r f=>Y1N (C.1.2.1 r (t r f)))) ?_
  cases k with
  | zero=>simp at B
  | succ k=>
  simp only [Q7j] at j;have w:=Z7f b l
  have A:=w.perm.length_eq;simp only [List.length_append,List.length_cons,List.length_nil] at A B G
  have I:∀ r ∈ (Q4M (b::l)).1,r ∈ Q1K L d a.t_:=fun r f=>t r (w.perm.mem_iff.1 (List.mem_append.2 (.inl f)))
  have N:1<=(Q4M (b::l)).1.length:=by
   have:=w.lens.1
   exact List.length_pos_iff.2 this
  refine Q2 (Z5Q c (by omega) fun r f=>C.1.2.1 r (I r f)) ?_;have g:∀ o,o=(((Q++[(Q4M (b::l)).1])).filter fun p=>decide (m<area p)).flatten->i ((Q4M (b::l)).2,o)=some (⟨cn (inR (Z1I L d m a.t_))⟩,0):=fun o O=>by
   refine H _ ⟨k,Q++[(Q4M (b::l)).1],by rw [<-j,List.append_assoc];rfl,by simp only;omega,by simp only;omega,O,fun r f=>t r (w.perm.mem_iff.1 (List.mem_append.2 (.inr f)))⟩ (by simp only [List.length_cons];omega)
  refine Q6 (fun D=>?_) (fun D=>?_)
  .refine Q7 (by simp only [LIM];omega) ?_
   refine g _ ?_;rw [List.filter_append,List.filter_cons,D];simp
  .refine g _ ?_
   rw [List.filter_append,List.filter_cons,D];simp
noncomputable def elS(L:List A2_)(d m:Int)(a:List Rect)(x y:Int):Bool:=inR a x y && !(inR (W4 L d (zp 0)) x y||inR (Z1I L d m a) x y)
theorem Y3f(L:List A2_)(d m:Int)(a:List Rect):Fin (elS L d m a):=by
 have:=Z9H a (W4 L d (zp 0)++Z1I L d m a)
 simp only [Q0F] at this;exact this
end
section
theorem Y2V{a b:Re_}(ha:Val a.t_)(hb:Val b.t_)(h:∀ x y,inR a.t_ x y=true->inR b.t_ x y=true->False):Q3F a b=false:=by
 rw [<-Bool.not_eq_true];intro c
 unfold Q3F at c;rw [Q1x ha,Q1x hb,Bool.true_and,Bool.true_and,Y5a ha.2.1 hb.2.1] at c
 obtain ⟨x,y,e,f⟩:=c;exact h x y e f
theorem LayT.lb{L:List A2_}(h:LayT L):LB 9 L:=⟨h.vl,fun f b=>(h.fea f b).1.reg.box,by omega⟩
variable {F n:Nat} {L:List A2_} {d:Int}
end
section
variable {F n:Nat} {L:List A2_} {d:Int}
theorem Y2H(F:Nat)(f:A2_)(d:Int):Z2N F f d=some (Z1F f d):=by
 unfold Z2N Z1F
 cases decide (f.F_<=d) <;> rfl
def btw(lo hi:Int)(k:Int):Bool:=decide (lo<=k)&&decide (k<=hi)
theorem Y3Q(A B:List A2_)(d:Int)(p:Int->Bool):W4 (A++B) d p=W4 A d p++W4 B d p:=by simp [W4]
end
section
variable {F:Nat}
end
section
variable {F n:Nat} {L:List A2_} {d:Int}
end
section
structure LF6 (L:List A2_):Prop where
 vl:VL L
 tot:∀ (M:List A2_) d p,(∃ i,M=L.take i)->(W4 M d p).length<=300
variable {F:Nat} {L:List A2_} {d:Int}
theorem Y5r:∀ {l:List Int},Asc l->∀ {lo hi:Int},(∀ v ∈ l,lo<=v/\v<=hi)->lo<=hi+1->(l.length:Int)<=hi+1-lo
 | [],_,lo,hi,_,h=>by simp;omega
 | a::l,h,lo,hi,hb,h2=>by
  have c:=List.pairwise_cons.1 h;have e:=hb a (by simp)
  have:=Y5r (l:=l) c.2 (lo:=a+1) (hi:=hi) (fun v b=>by have:=c.1 v b;have:=hb v (by simp [b]);omega) (by omega)
  rw [List.length_cons];omega
theorem Q0E(hF:BIG<=F){a b:List Rect}{how:Int}(ha:a.length<=200000)(hb:b.length<=200000)(pa:∀ r ∈ a,Q1j r=true)(pb:∀ r ∈ b,Q1j r=true):V2 F a b how=some (cn fun x y=>Q0j (inR a x y) (inR b x y) how):=by
 refine Z3J hF ha hb ?_ ?_
 .have:=Y5r (Q8w b (Q8w a (f:=Rect.L_) (g:=Rect.R_) .nil)) (lo:=0) (hi:=16384) (fun v e=>by
   rcases (Q0K b _ _).1 e with h|⟨r,c,h⟩
   .rcases (Q0K a _ _).1 h with h|⟨r,c,h⟩
    .cases h
    .have h:v=r.L_\/v=r.R_:=h
     have:=(Q0b r).1 (pa r c);omega
   .have h:v=r.L_\/v=r.R_:=h
    have:=(Q0b r).1 (pb r c);omega) (by omega)
  unfold Q7B;omega
 .have:=Y5r (Q8w b (Q8w a (f:=Rect.w_) (g:=Rect.H_) .nil)) (lo:=0) (hi:=16384) (fun v e=>by
   rcases (Q0K b _ _).1 e with h|⟨r,c,h⟩
   .rcases (Q0K a _ _).1 h with h|⟨r,c,h⟩
    .cases h
    .have h:v=r.w_\/v=r.H_:=h
     have:=(Q0b r).1 (pa r c);omega
   .have h:v=r.w_\/v=r.H_:=h
    have:=(Q0b r).1 (pb r c);omega) (by omega)
  unfold Z0J;omega
theorem Z7k{l:List Rect}(hc:Q0f l){a:List Rect}(ha:∀ r ∈ a,Q1j r=true)(hs:∀ x y,inR l x y=true->inR a x y=true):∀ r ∈ l,Q1j r=true:=by
 have e:Box (16384:Int) l:=hc.box fun x y h=>by
  obtain ⟨r,c,b⟩:=(J8 _ _ _).1 (hs x y h);have:=(Q0b r).1 (ha r c)
  rw [J0] at b;omega
 exact e.prop (by omega)
theorem LF6.all(h:LF6 L)(d:Int)(p:Int->Bool):(W4 L d p).length<=300:=h.tot L d p ⟨L.length,by simp⟩
theorem LF6.prop(h:VL L)(d:Int)(p:Int->Bool):∀ r ∈ W4 L d p,Q1j r=true:=fun r b=>by
 obtain ⟨f,c,b⟩:=Y2U b;exact ((Z1z f).1 (h.one f c)).2.2.2.2.2.2.2.2.2.1 r b
theorem W1s:zp 0=btw 0 7:=by
 funext k
 unfold zp zs btw;rw [Bool.eq_iff_iff]
 simp only [beq_iff_eq,Bool.and_eq_true,decide_eq_true_eq];split
 .simpa
 .split <;> simp <;> omega
theorem W1r:zp 1=btw 8 11:=by
 funext k
 unfold zp zs btw;rw [Bool.eq_iff_iff]
 simp only [beq_iff_eq,Bool.and_eq_true,decide_eq_true_eq];split
 .simp;omega
 .split <;> simp <;> omega
theorem Z2O(hF:BIG<=F)(hL:LF6 L)(lo hi d:Int):Q6z F L lo hi d=some (cn (inR (W4 L d (btw lo hi)))):=by
 have q:=hF;unfold BIG at hF
 have v:=hL.vl.len;have s:∀ i,(cn (inR (W4 (L.take i) d (btw lo hi)))).length<=180000:=fun i=>by
  have l:=hL.tot (L.take i) d (btw lo hi) ⟨i,rfl⟩;have j:=Z9M (W4 (L.take i) d (btw lo hi))
  have w:2*(W4 (L.take i) d (btw lo hi)).length*(W4 (L.take i) d (btw lo hi)).length<=(2*300)*300:=Nat.mul_le_mul (by omega) (by omega);omega
 unfold Q6z;refine Y8 (fun z:List Rect×Int=>∃ i:Nat,z=(cn (inR (W4 (L.take i) d (btw lo hi))),(i:Int))/\i<=L.length) (fun z=>L.length-z.2.toNat) (fun c z B A=>?_) ⟨0,?_,Nat.zero_le _⟩ (by simp;omega)
 .obtain ⟨i,rfl,C⟩:=B
  simp only at A ⊢;unfold Z3H
  refine Q6 (fun h=>?_) (fun h=>?_)
  .have h:i<L.length:=by simpa using h
   have E:=hL.vl.rlen (V7 h);have e:W4 (L.take (i+1)) d (btw lo hi)=W4 (L.take i) d (btw lo hi)++(if (Z1F (gl L i) d&&btw lo hi (gl L i).k_)=true then (gl L i).g_.t_ else []):=by
    rw [Q0c h,Y3Q,Z0a];congr 1
    rw [show W4 [] d (btw lo hi)=[] from rfl,List.append_nil]
   have t:∀ b,b=(Z1F (gl L i) d&&btw lo hi (gl L i).k_)->Q1X F L (cn (inR (W4 (L.take i) d (btw lo hi)))) (i:Int) c b=some (cn (inR (W4 L d (btw lo hi)))):=fun b u=>by
    have g:∀ o,o=cn (inR (W4 (L.take (i+1)) d (btw lo hi)))->Q3B F (i:Int) c o=some (cn (inR (W4 L d (btw lo hi)))):=fun o G=>by
     unfold Q3B;refine Z3 (k:=?_)
     exact A _ ⟨i+1,by rw [G];simp,h⟩ (by simp only;omega)
    unfold Q1X;refine Q6 (fun j=>?_) (fun j=>?_)
    .simp only [Int.toNat_natCast]
     have:=s i
     refine Q2 (Q0E q (by omega) (by omega) (Z7k (a:=W4 L d (btw lo hi)) (Q0f.cn (V3 _)) (LF6.prop hL.vl d (btw lo hi)) fun x y h=>?_) ((Z1z _).1 (hL.vl.one _ (V7 h))).2.2.2.2.2.2.2.2.2.1) ?_
     .rw [J5 (V3 _)] at h
      obtain ⟨r,m,w⟩:=(J8 _ _ _).1 h;refine Q6Y ?_ w
      unfold W4 at m ⊢;obtain ⟨f,p,m⟩:=List.mem_flatMap.1 m
      rw [List.mem_filter] at p;exact List.mem_flatMap.2 ⟨f,List.mem_filter.2 ⟨List.mem_of_mem_take p.1,p.2⟩,m⟩
     refine g _ ?_;rw [e, <-u,j,if_pos rfl]
     congr 1
     funext x y
     rw [Q0F,J5 (V3 _)];rfl
    .refine g _ ?_
     rw [e, <-u,j,if_neg (by simp),List.append_nil]
   refine Z3 (k:=?_);simp only [Int.toNat_natCast]
   refine Q2 (Y2H F _ d) ?_;refine Q6 (fun l=>Q6 (fun j=>t _ ?_) (fun j=>t _ ?_)) (fun l=>t _ ?_)
   .rw [l];unfold btw;rw [j];rfl
   .rw [l];unfold btw;rw [j];rfl
   .rw [l];rfl
  .have h:¬ i<L.length:=by simpa using h
   unfold Q8W;rw [List.take_of_length_le (by omega)]
 .have D:W4 (L.take 0) d (btw lo hi)=[]:=rfl
  rw [D,(Z4L (V3 [])).2 fun x y=>rfl];rfl
theorem Z5u(hF:BIG<=F)(hL:LF6 L)(d w:Int):Z4d F L d w=some (lim (cn (inR (W4 L d (zp w))))):=by
 have b:=hL.vl.len;unfold Z4d
 refine Q2 (Q9n hF (by omega) (fun f e=>hL.vl.rlen e) d (zp w) (fun f _=>Z8V F f.k_ w)) ?_;have g:=hL.all d (zp w)
 refine Q2 (Q3y hF (by omega) fun r c=>?_) rfl;have:=(Q0b r).1 (LF6.prop hL.vl d (zp w) r c)
 omega
noncomputable def bgn(L:List A2_)(d:Int):Int:=if Q6G L≠0 then Q6G L else if d<0\/36864<d then 9 else 0
theorem Q3A(hF:BIG<=F)(L:List A2_)(d:Int):Q7u F L d=some (bgn L d):=by
 unfold Q7u bgn;refine Q2 (Z6d hF L) ?_
 by_cases h:Q6G L=0
 .rw [h,if_neg (by simp)]
  refine Q5 rfl ?_
  by_cases h1:d<0
  .rw [if_pos (.inl h1)]
   exact Z4 (by simpa using h1) rfl
  .refine Q5 (by simpa using h1) ?_
   by_cases h2:36864<d
   .rw [if_pos (.inr h2),decide_eq_true h2];rfl
   .rw [if_neg (by omega),decide_eq_false h2];rfl
 .rw [if_pos h]
  exact Z4 (by simpa using h) rfl
theorem Y3t{L:List A2_}{d:Int}(h:bgn L d=0):VL L/\0<=d/\d<=36864:=by
 unfold bgn at h
 by_cases h1:Q6G L=0
 .rw [if_neg (by simp [h1])] at h
  refine ⟨(Q9r L).1 h1,?_⟩;split at h
  .cases h
  .omega
 .rw [if_pos h1] at h;exact absurd h h1
noncomputable def chz(L:List A2_)(d m:Int)(a:Re_):Int:=if bgn L d≠0 then bgn L d else if Q2H a.t_=false then 7 else if m<0\/268435456<m then 2 else 0
theorem Z1C(hF:BIG<=F)(L:List A2_)(d m:Int)(a:Re_):Q5h F L d m a=some (chz L d m a):=by
 unfold Q5h chz;refine Q2 (Z3t hF L d) ?_
 have e:(if Q6G L≠0 then (([]:List A2_),Q6G L) else if d<0\/36864<d then ([],9) else (L.filter fun f=>Z1F f d,0)).2=bgn L d:=by
  unfold bgn;split
  .rfl
  .split <;> rfl
 rw [e]
 by_cases h:bgn L d=0
 .rw [h,if_neg (by simp)]
  refine Q5 rfl ?_;refine Q2 (Q0g hF a) ?_
  cases hv:Q2H a.t_ with
  | false=>rfl
  | true=>
   rw [if_neg (by simp)];refine Q5 rfl ?_
   by_cases h1:m<0
   .rw [if_pos (.inl h1)]
    exact Z4 (by simpa using h1) rfl
   .refine Q5 (by simpa using h1) ?_
    by_cases h2:268435456<m
    .rw [if_pos (.inr h2),decide_eq_true h2];rfl
    .rw [if_neg (by omega),decide_eq_false h2];rfl
 .rw [if_pos h]
  exact Z4 (by simpa using h) rfl
theorem W1Z(hF:BIG<=F)(hL:VL L->LF6 L)(d:Int):∃ v,Q8K F L d=some v/\Z2b F L d=some v/\v.1.t_.length<=120/\(bgn L d=0->v=lim (cn (inR (W4 L d (zp 0))))):=by
 by_cases h:bgn L d=0
 .obtain ⟨b,e,c⟩:=Y3t h
  refine ⟨lim (cn (inR (W4 L d (zp 0)))),?_,?_,Y5g _,fun _=>rfl⟩
  .unfold Q8K
   refine Q2 (Q2Y hF b e c Val.nil (by omega) (by omega)) ?_;refine Q5 rfl ?_
   exact Q2 (Z5u hF (hL b) d 0) rfl
  .unfold Z2b
   refine Q2 (Q3A hF L d) ?_;rw [h]
   refine Q5 rfl ?_;refine Q2 (Z2O hF (hL b) 0 7 d) ?_
   rw [<-W1s];exact Q2 (Q8i _) rfl
 .refine ⟨(⟨[]⟩,bgn L d),?_,?_,by simp,fun f=>absurd f h⟩
  .unfold Q8K
   refine Q2 (Z1C hF L d 0 ⟨[]⟩) ?_;unfold chz
   rw [if_pos h];exact Z4 (by simpa using h) rfl
  .unfold Z2b
   refine Q2 (Q3A hF L d) ?_;exact Z4 (by simpa using h) rfl
end
end
end Go.Ab
