/- What the plain programs compute, up to the law itself. -/
import Derived.Test.YtgfmopdbhjcpfaaGreatPuB
set_option linter.unusedVariables false
set_option linter.unusedSimpArgs false
set_option maxRecDepth 20000
namespace Go.Ab
noncomputable section
def put:List Int->Int->List Int
 | [],n=>[n]
 | a::l,n=>if a<n then a::put l n else if a=n then a::l else n::a::l
theorem W2N(n:Int)(l:List Int)(i:Nat)(h:i<l.length)(hlt:gl l i<n):put (l.drop i) n=gl l i::put (l.drop (i+1)) n:=by
 rw [Q1D h,put,if_pos hlt]
theorem Z1i{F:Nat}(hF:BIG<=F){l:List Int}(hl:l.length<=1048576)(n:Int):Q8X F l n=some (put l n):=by
 unfold BIG at hF;unfold Q8X
 refine W4 (fun z:Int=>∃ i:Nat,z=i/\i<=l.length/\put l n=l.take i++put (l.drop i) n) (fun z=>l.length-z.toNat) (fun d z f e=>?_) ⟨0,rfl,by simp,by simp⟩ (by simp;omega);obtain ⟨i,rfl,j,b⟩:=f
 have k2:(∀ h:i<l.length,n<=gl l i)->Z1j F l n (i:Int)=some (put l n):=by
  intro c;unfold Z1j
  refine Q4 (fun h=>?_) (fun h=>?_)
  .have h:i<l.length:=by simpa using h
   have c:=c h;refine Z3 (k:=?_)
   unfold Q8c;rw [Q1D h,put] at b
   refine Q4 (fun a=>?_) (fun a=>?_)
   .have a:gl l i=n:=by simpa using a
    rw [b,if_neg (by omega),if_pos a, <-Q1D h,List.take_append_drop]
   .have a:gl l i≠n:=by simpa using a
    repeat (refine Z3 (k:=?_))
    rw [b,if_neg (by omega),if_neg a, <-Q1D h];simp
  .have h:¬ i<l.length:=by simpa using h
   unfold Q8c;refine Q7 rfl ?_
   repeat (refine Z3 (k:=?_))
   have:i=l.length:=by omega
   subst this;simp [put] at b
   simp [b]
 unfold Z9k;refine Q4 (fun h=>?_) (fun h=>?_)
 .have h:i<l.length:=by simpa using h
  refine Z3 (k:=?_);unfold Q8d
  refine Q4 (fun a=>?_) (fun a=>?_)
  .have a:gl l i<n:=by simpa using a
   refine Z3 (k:=?_);refine e _ ⟨i+1,by omega,h,?_⟩ (by omega)
   rw [b,W2N n l i h a,J6 h,List.append_assoc];rfl
  .exact k2 fun _=>by simpa using a
 .unfold Q8d
  exact Q7 rfl (k2 fun g=>absurd g (by simpa using h))
def Q1y(r:Rect):Bool:=decide (0<=r.L_)&&(decide (r.L_<r.R_)&&(decide (r.R_<=16384)&&(decide (0<=r.w_)&&(decide (r.w_<r.H_)&&decide (r.H_<=16384)))))
theorem Q0n(r:Rect):Q1y r=true↔0<=r.L_/\r.L_<r.R_/\r.R_<=16384/\0<=r.w_/\r.w_<r.H_/\r.H_<=16384:=by simp [Q1y]
theorem Z4R(F:Nat)(r:Rect):Q5J F r=some (Q1y r):=by
 unfold Q5J;rw [Q4b (J7 F),Q4b (J7 F),Q4b (J7 F),Q4b (J7 F),Q4b (J7 F)]
 rfl
def z8(a b:Bool)(how:Int):Bool:=if how=1 then a||b else if how=2 then a&&b else a && !b
theorem Y3u(F:Nat)(a b:Bool)(how:Int):Z4l F a b how=some (z8 a b how):=by
 unfold Z4l z8;rw [W0C,W0C]
 by_cases h1:how=1
 .subst h1;cases a <;> cases b <;> rfl
 .by_cases h2:how=2
  .subst h2;cases a <;> cases b <;> rfl
  .have d:(how==1)=false:=by simpa using h1
   have c:(how==2)=false:=by simpa using h2
   rw [d,c,if_neg h1,if_neg h2]
   cases a <;> cases b <;> rfl
theorem Z4S{F:Nat}(hF:BIG<=F){l:List Rect}(hl:l.length<=LIM)(x y:Int):Q7Y F l x y=some (inR l x y):=by
 unfold BIG at hF;unfold LIM at hl
 unfold Q7Y;refine Y5I (l:=l) (fun m=>some (inR m x y)) (fun a i d b=>?_) (fun a=>?_) (by omega)
 .unfold Z0v
  refine Z6 (Z0x d) ?_;refine Z3 (k:=?_)
  rw [Q4b (Q0s F i a),Q4b (Q0s F i a),Q4b (Q0s F i a)];unfold Q0s
  have e:inR (gl l i::l.drop (i+1)) x y=((gl l i).has x y||inR (l.drop (i+1)) x y):=rfl;rw [e]
  have c:(decide ((gl l i).L_<=x)&&(decide (x<(gl l i).R_)&&(decide ((gl l i).w_<=y)&&decide (y<(gl l i).H_))))=(gl l i).has x y:=by
   simp only [Rect.has,Bool.and_assoc]
  show br (decide ((gl l i).L_<=x)&&(decide (x<(gl l i).R_)&&(decide ((gl l i).w_<=y)&&decide (y<(gl l i).H_)))) _ _=_;rw [c]
  refine Q4 (fun h=>by rw [h];rfl) (fun h=>?_);refine Z3 (k:=?_)
  rw [b,h,Bool.false_or]
 .unfold Z0v
  exact Q7 (Q2W _) rfl
def Z5B:List Rect->List Rect->Bool
 | [],[]=>true
 | a::l,b::m=>(a.L_==b.L_&&a.R_==b.R_)&&Z5B l m
 | _,_=>false
theorem Y3U:∀ {l m:List Rect},Z5B l m=true->l.length=m.length
 | [],[],_=>rfl
 | [],_::_,h=>by cases h
 | _::_,[],h=>by cases h
 | a::l,b::m,h=>by
  simp only [Z5B,Bool.and_eq_true] at h;simp [Y3U h.2]
theorem Y6N:∀ (l m:List Rect),l.length=m.length->∀ i,i<=l.length->Z5B (l.drop i) (m.drop i)=if h:i<l.length then (((gl l i).L_==(gl m i).L_&&(gl l i).R_==(gl m i).R_)&&Z5B (l.drop (i+1)) (m.drop (i+1))) else true:=by
 intro l m h i b;split
 .rename_i a
  rw [Q1D a,Q1D (l:=m) (by omega)];rfl
 .have:i=l.length:=by omega
  rw [List.drop_of_length_le (by omega),List.drop_of_length_le (by omega)];rfl
theorem Y3t{F:Nat}(hF:BIG<=F){l m:List Rect}(hl:l.length<=LIM):Z4k F l m=some (Z5B l m):=by
 unfold BIG at hF;unfold LIM at hl
 unfold Z4k;refine Q4 (fun h=>?_) (fun h=>?_)
 .have h:l.length≠m.length:=by simp at h;omega
  cases hs:Z5B l m with
  | false=>rfl
  | true=>exact absurd (Y3U hs) h
 .have h:l.length=m.length:=by simp at h;omega
  refine W4 (fun z:Int=>∃ i:Nat,z=i/\i<=l.length/\Z5B l m=Z5B (l.drop i) (m.drop i)) (fun z=>l.length-z.toNat) (fun f z g j=>?_) ⟨0,rfl,by simp,by simp⟩ (by simp;omega);obtain ⟨i,rfl,n,a⟩:=g
  rw [Y6N l m h i n] at a;unfold Z7H
  refine Q4 (fun b=>?_) (fun b=>?_)
  .have b:i<l.length:=by simpa using b
   rw [dif_pos b] at a;refine Z3 (k:=?_)
   refine Z3 (k:=?_);have o:i<m.length:=by omega
   refine Q4 (fun d=>?_) (fun d=>?_)
   .unfold Q6w
    refine Z6 rfl ?_;have d:(gl l i).L_≠(gl m i).L_:=by simpa using d
    have e:((gl l i).L_==(gl m i).L_)=false:=by simpa using d
    rw [a,e];rfl
   .repeat (refine Z3 (k:=?_))
    have d:(gl l i).L_=(gl m i).L_:=by simpa using d
    have e:((gl l i).L_==(gl m i).L_)=true:=by simpa using d
    rw [e,Bool.true_and] at a;unfold Q6w
    refine Q4 (fun c=>?_) (fun c=>?_)
    .have c:(gl l i).R_≠(gl m i).R_:=by simpa using c
     have e:((gl l i).R_==(gl m i).R_)=false:=by simpa using c
     rw [a,e];rfl
    .have c:(gl l i).R_=(gl m i).R_:=by simpa using c
     have e:((gl l i).R_==(gl m i).R_)=true:=by simpa using c
     rw [e,Bool.true_and] at a;refine Z3 (k:=?_)
     exact j _ ⟨i+1,by omega,b,a⟩ (by omega)
  .have b:¬ i<l.length:=by simpa using b
   rw [dif_neg b] at a;rw [a];rfl
section
theorem Y4L(l:List Int)(n v:Int):v ∈ put l n↔v=n\/v ∈ l:=by
 induction l with
 | nil=>simp [put]
 | cons a l ih=>
  unfold put;split
  .rw [List.mem_cons,ih,List.mem_cons]
   constructor
   .rintro (h|h|h);exact .inr (.inl h);exact .inl h;exact .inr (.inr h)
   .rintro (h|h|h);exact .inr (.inl h);exact .inl h;exact .inr (.inr h)
  .split
   .rename_i h;subst h
    rw [List.mem_cons];constructor
    .intro h;exact .inr h
    .rintro (h|h);exact .inl h;exact h
   .rw [List.mem_cons]
theorem Y8m{l:List Int}(h:Asc l)(n:Int):Asc (put l n):=by
 induction l with
 | nil=>exact List.pairwise_singleton _ _
 | cons a l ih=>
  obtain ⟨d,e⟩:=List.pairwise_cons.1 h;unfold put
  split
  .rename_i c
   refine List.pairwise_cons.2 ⟨fun v b=>?_,ih e⟩;rcases (Y4L l n v).1 b with rfl|b
   .exact c
   .exact d v b
  .split
   .exact h
   .refine List.pairwise_cons.2 ⟨fun v b=>?_,h⟩
    rcases List.mem_cons.1 b with rfl|b
    .omega
    .have:=d v b;omega
theorem Z6W(l:List Int)(n:Int):(put l n).length<=l.length+1:=by
 induction l with
 | nil=>simp [put]
 | cons a l ih=>
  unfold put;split
  .simp;omega
  .split <;> simp
def Q7v(l:List Rect)(xs:List Int):List Int:=l.foldl (fun xs r=>put (put xs r.L_) r.R_) xs
def Z0B(l:List Rect)(ys:List Int):List Int:=l.foldl (fun ys r=>put (put ys r.w_) r.H_) ys
theorem Q8o{f g:Rect->Int}(l:List Rect):∀ {xs:List Int},Asc xs->Asc (l.foldl (fun xs r=>put (put xs (f r)) (g r)) xs):=by
 induction l with
 | nil=>intro xs h;exact h
 | cons r l ih=>intro xs h;exact ih (Y8m (Y8m h _) _)
theorem Q0z{f g:Rect->Int}(l:List Rect):∀ (xs:List Int) (v:Int),v ∈ l.foldl (fun xs r=>put (put xs (f r)) (g r)) xs↔v ∈ xs\/∃ r ∈ l,v=f r\/v=g r:=by
 induction l with
 | nil=>intro xs v;simp
 | cons r l ih=>
  intro xs v;rw [List.foldl_cons,ih,Y4L,Y4L]
  constructor
  .rintro ((h|h|h) | ⟨q,a,h⟩)
   .exact .inr ⟨r,by simp,.inr h⟩
   .exact .inr ⟨r,by simp,.inl h⟩
   .exact .inl h
   .exact .inr ⟨q,by simp [a],h⟩
  .rintro (h|⟨q,a,h⟩)
   .exact .inl (.inr (.inr h))
   .rcases List.mem_cons.1 a with rfl|a
    .rcases h with h|h
     .exact .inl (.inr (.inl h))
     .exact .inl (.inl h)
    .exact .inr ⟨q,a,h⟩
theorem Z7d{f g:Rect->Int}(l:List Rect):∀ (xs:List Int),(l.foldl (fun xs r=>put (put xs (f r)) (g r)) xs).length<=xs.length+2*l.length:=by
 induction l with
 | nil=>intro xs;simp
 | cons r l ih=>
  intro xs;have b:=ih (put (put xs (f r)) (g r))
  have c:=Z6W (put xs (f r)) (g r);have a:=Z6W xs (f r)
  simp only [List.foldl_cons,List.length_cons];omega
section
variable {F:Nat}
theorem Y8g(hF:BIG<=F){a b l:List Rect}{v:Int}(hv:0<=v/\v<=1)(hl:gl [a,b] v.toNat=l){ag:(List Int×List Int×Int)->Option (List Rect)}{y:Option (List Rect)}{xs ys:List Int}(hx:xs.length+2*l.length<=1000000)(hy:ys.length+2*l.length<=1000000)(h:ag (Q7v l xs,Z0B l ys,v+1)=y):Q9 (fun again (z:List Int×List Int×Int)=>Q8W F a b v ag again z.1 z.2.1 z.2.2) F (xs,ys,0)=y:=by
 have d:=hF;unfold BIG at hF
 refine W4 (fun z:List Int×List Int×Int=>∃ j:Nat,z.2.2=j/\j<=l.length/\Q7v (l.drop j) z.1=Q7v l xs/\Z0B (l.drop j) z.2.1=Z0B l ys/\z.1.length+2*(l.length-j)<=1000000/\z.2.1.length+2*(l.length-j)<=1000000)
  (fun z=>l.length-z.2.2.toNat) (fun again z q r=>?_) ⟨0,rfl,by omega,by simp,by simp,by simpa using hx,by simpa using hy⟩ (by simp;omega)
 obtain ⟨i,g,s⟩:=z;obtain ⟨j,m,n,f,e,p,o⟩:=q
 simp only at m f e p o;subst m
 unfold Q8W;simp only [hl,Int.toNat_natCast]
 refine Q4 (fun c=>?_) (fun c=>?_)
 .have c:j<l.length:=by simpa using c
  refine Z3 (k:=?_);have x:=Z6W i (gl l j).L_
  have t:=Z6W (put i (gl l j).L_) (gl l j).R_;have u:=Z6W g (gl l j).w_
  have w:=Z6W (put g (gl l j).w_) (gl l j).H_;refine Q2 (Z1i d (by omega) _) ?_
  refine Q2 (Z1i d (by omega) _) ?_;refine Q2 (Z1i d (by omega) _) ?_
  refine Q2 (Z1i d (by omega) _) ?_;refine Z3 (k:=?_)
  refine r _ ⟨j+1,rfl,by omega,?_,?_,by simp only;omega,by simp only;omega⟩ (by simp only;omega)
  .rw [<-f,Q1D c];rfl
  .rw [<-e,Q1D c];rfl
 .have c:¬ j<l.length:=by simpa using c
  have:j=l.length:=by omega
  subst this;rw [List.drop_length] at f e
  unfold Q8U;refine Z3 (k:=?_)
  have f:i=Q7v l xs:=f;have e:g=Z0B l ys:=e
  rw [f,e];exact h
theorem Y0z(lo hi:Int):y3 ⟨lo,hi,[]⟩=[]:=rfl
theorem Z7a(lo hi:Int)(l:List Span)(s:Span):y3 ⟨lo,hi,l++[s]⟩=y3 ⟨lo,hi,l⟩++[⟨s.L_,lo,s.R_,hi⟩]:=by simp [y3]
theorem Q0y(b:Rn (List Span)):(y3 b).length=b.v.length:=by simp [y3]
theorem Z4s{α:Type}[Emb α](l:List α)(x:α){n:Nat}(h:n=l.length):gl (l++[x]) n=x:=by subst h;simp [gl,List.getD_eq_getElem?_getD]
theorem Z8S{α:Type}(l:List α)(x y:α){n:Nat}(h:n=l.length):(l++[x]).set n y=l++[y]:=by subst h;simp
theorem W0v(hF:BIG<=F){xs ys:List Int}{i k:Nat}{m:List Rect}{r:Rect}{ag:(Int×List Rect)->Option (List Rect)}{y:Option (List Rect)}(hk:k+1<xs.length)(hx:xs.length<=65536)(hm:m.length<=65536)(h:ag ((k:Int)+1,m++[⟨r.L_,r.w_,gl xs (k+1),r.H_⟩])=y):Q0x F xs ys i k (m++[r]) ag true=y:=by
 unfold BIG at hF;unfold Q0x
 refine Z6 rfl ?_;have c:(m++[r]).length=m.length+1:=by simp
 simp only [c];have b:(((m.length+1:Nat):Int)-1).toNat=m.length:=by omega
 have a:((k:Int)+1).toNat=k+1:=by omega
 rw [b,Z4s _ _ rfl,Z8S _ _ _ rfl,a]
 repeat (refine Z3 (k:=?_))
 exact h
theorem W0w(hF:BIG<=F){xs ys:List Int}{i k:Nat}{m:List Rect}{ag:(Int×List Rect)->Option (List Rect)}{y:Option (List Rect)}(hk:k+1<xs.length)(hi:i+1<ys.length)(hx:xs.length<=65536)(hy:ys.length<=65536)(hm:m.length<=65536)(h:ag ((k:Int)+1,m++[⟨gl xs k,gl ys i,gl xs (k+1),gl ys (i+1)⟩])=y):Q0x F xs ys i k m ag false=y:=by
 unfold BIG at hF;unfold Q0x
 refine Q7 rfl ?_;have a:((k:Int)+1).toNat=k+1:=by omega
 have b:((i:Int)+1).toNat=i+1:=by omega
 rw [a,b];simp only [Int.toNat_natCast]
 repeat (refine Z3 (k:=?_))
 exact h
theorem W2b(hF:BIG<=F){a b:List Rect}{how:Int}{xs ys:List Int}{i:Nat}(hi:i+1<ys.length)(hx:xs.length<=65536)(hy:ys.length<=65536)(ha:a.length<=LIM)(hb:b.length<=LIM)(hst:Step false xs fun x=>z8 (inR a x (gl ys i)) (inR b x (gl ys i)) how){out last:List Rect}{ag:(Int×List Rect×List Rect)->Option (List Rect)}{y:Option (List Rect)}(h:∀ l:List Span,SpOk l->(∀ x,inS l x=z8 (inR a x (gl ys i)) (inR b x (gl ys i)) how)->l.length<=65536->Q3v F ys i out last ag (y3 ⟨gl ys i,gl ys (i+1),l⟩)=y):
  Q9 (fun again (z:Int×List Rect)=>Q8V F a b how xs ys i out last ag again z.1 z.2) F (0,[])=y:=by
 have j:=hF;unfold BIG at hF
 refine W4 (fun z:Int×List Rect=>∃ (k:Nat) (l:List Span),z=((k:Int),y3 ⟨gl ys i,gl ys (i+1),l⟩)/\l.length<=k/\(k+1<=xs.length\/k=0)/\(0<xs.length->Bst false (fun x=>z8 (inR a x (gl ys i)) (inR b x (gl ys i)) how) (l.map Span.rn) (gl xs k)))
  (fun z=>xs.length-z.1.toNat) (fun again z H v=>?_) ⟨0,[],rfl,Nat.le_refl _,.inr rfl,fun C=>hst.start C⟩ (by simp;omega)
 obtain ⟨k,l,rfl,E,K,g⟩:=H;simp only at v ⊢
 unfold Q8V;refine Z3 (k:=?_)
 refine Q4 (fun c=>?_) (fun c=>?_)
 .have c:k+1<xs.length:=by simp at c;omega
  have g:=g (by omega);have u:=hst.asc.at_lt (show k<k+1 by omega) c
  simp only [Int.toNat_natCast]
  repeat (refine Z3 (k:=?_))
  refine Q2 (Z4S j ha _ _) ?_
  repeat (refine Z3 (k:=?_))
  refine Q2 (Z4S j hb _ _) ?_;refine Q2 (Y3u _ _ _ _) ?_
  have e:=hst.gap k c;refine Q4 (fun n=>?_) (fun n=>?_)
  .have n:z8 (inR a (gl xs k) (gl ys i)) (inR b (gl xs k) (gl ys i)) how=false:=by simpa using n
   unfold Q3w;refine Z3 (k:=?_)
   exact v _ ⟨k+1,l,rfl,by omega,.inl (by omega),fun _=>g.skip (by omega) fun t D A=>(e t D A).trans n⟩ (by simp only;omega)
  .have n:z8 (inR a (gl xs k) (gl ys i)) (inR b (gl xs k) (gl ys i)) how=true:=by simpa using n
   have d:(∀ s,l.getLast?=some s->s.R_≠gl xs k)->Q0x F xs ys i k (y3 ⟨gl ys i,gl ys (i+1),l⟩) again false=y:=by
    intro B;refine W0w j c hi hx hy (by rw [Q0y];simp only;omega) (v _ ⟨k+1,l++[⟨gl xs k,gl xs (k+1)⟩],by rw [Z7a];rfl,by simp;omega,.inl (by omega),fun _=>?_⟩ (by simp only;omega))
    have:=g.add u e (fun q m G=>by
     rw [List.getLast?_map] at m
     cases f:l.getLast? with
     | none=>rw [f] at m;cases m
     | some s=>rw [f] at m;cases m;exact absurd G (B s f))
    simp only [n] at this;rw [List.map_append];exact this
   rcases List.eq_nil_or_concat l with rfl|⟨o,s,p⟩
   .refine Q7 (by simp [Y0z]) ?_
    exact d fun s f=>by simp at f
   .rw [List.concat_eq_append] at p
    subst p;rw [Z7a] at d ⊢
    have r:(y3 ⟨gl ys i,gl ys (i+1),o⟩++[(⟨s.L_,gl ys i,s.R_,gl ys (i+1)⟩:Rect)]).length=o.length+1:=by simp [Q0y]
    have I:o.length+1<=k:=by simpa using E
    simp only [r];have J:(((o.length+1:Nat):Int)-1).toNat=o.length:=by omega
    rw [J,Z4s _ _ (by rw [Q0y])];refine Z6 (by simp) ?_
    repeat (refine Z3 (k:=?_))
    by_cases f:s.R_=gl xs k
    .have w:(s.R_==gl xs k)=true:=by simpa using f
     simp only [w];refine W0v j c hx (by rw [Q0y];simp only;omega) (v _ ⟨k+1,o ++ [⟨s.L_,gl xs (k+1)⟩],by rw [Z7a];rfl,by simp only [List.length_append,List.length_cons,List.length_nil];omega,.inl (by omega),fun _=>?_⟩ (by simp only;omega))
     rw [List.map_append] at g;have:=g.grow (a:=s.rn) f u fun t D A=>(e t D A).trans n
     rw [List.map_append];exact this
    .have w:(s.R_==gl xs k)=false:=by simpa using f
     simp only [w];exact d fun q m=>by simp at m;subst m;exact f
 .have c:¬ k+1<xs.length:=by simp at c;omega
  by_cases C:xs.length=0
  .have:k=0:=by omega
   subst this;have:l=[]:=List.eq_nil_of_length_eq_zero (by omega)
   subst this;exact h [] .nil (fun x=>(hst.empty C x).symm) (by simp)
  .have g:=g (by omega)
   exact h l (.of_runs g.runs) (fun x=>by rw [Z6Y];exact hst.done (by omega) g x) (by omega)
theorem W2T{α:Type}[Emb α](l m:List α)(x:α){n:Nat}(h:n=l.length):gl (l++x::m) n=x:=by subst h;simp [gl,List.getD_eq_getElem?_getD]
theorem W1r{α:Type}(l m:List α)(x y:α){n:Nat}(h:n=l.length):(l++x::m).set n y=l++y::m:=by subst h;simp
theorem W0x(hF:BIG<=F){ys:List Int}{i:Nat}(hi:i+1<ys.length)(hy:ys.length<=65536){out:List Rect}{lo hi' : Int}{l:List Span}(hl:l.length<=65536){ag:(Int×List Rect×List Rect)->Option (List Rect)}{y:Option (List Rect)}(h:ag ((i:Int)+1,out,y3 ⟨lo,gl ys (i+1),l⟩)=y):
  Q9 (fun again (z:Int×List Rect)=>Q8a F ys i out (y3 ⟨lo,hi',l⟩) ag again z.1 z.2) F (0,y3 ⟨lo,hi',l⟩)=y:=by
 unfold BIG at hF;refine W4 (fun z:Int×List Rect=>∃ j:Nat,z=((j:Int),y3 ⟨lo,gl ys (i+1),l.take j⟩++y3 ⟨lo,hi',l.drop j⟩)/\j<=l.length) (fun z=>l.length-z.1.toNat) (fun again z g d=>?_) ⟨0,by simp [y3],by omega⟩ (by simp;omega)
 obtain ⟨j,rfl,n⟩:=g;simp only at d ⊢
 have m:((i:Int)+1).toNat=i+1:=by omega
 unfold Q8a;rw [Q0y]
 simp only
 refine Q4 (fun a=>?_) (fun a=>?_)
 .have a:j<l.length:=by simpa using a
  refine Z3 (k:=?_);refine Z3 (k:=?_)
  have f:l.drop j=l[j]::l.drop (j+1):=List.drop_eq_getElem_cons a;have b:(y3 ⟨lo,gl ys (i+1),l.take j⟩++y3 ⟨lo,hi',l.drop j⟩).length=l.length:=by
   rw [List.length_append,Q0y,Q0y];simp;omega
  refine Q6 (by rw [b];omega) ?_;refine Z3 (k:=?_)
  rw [m];simp only [Int.toNat_natCast]
  have e:y3 ⟨lo,hi',l.drop j⟩=(⟨(l[j]).L_,lo,(l[j]).R_,hi'⟩:Rect)::y3 ⟨lo,hi',l.drop (j+1)⟩:=by rw [f];rfl
  have c:j=(y3 ⟨lo,gl ys (i+1),l.take j⟩).length:=by rw [Q0y];simp;omega
  rw [e,W2T _ _ _ c,W1r _ _ _ _ c];refine d _ ⟨j+1,?_,a⟩ (by simp only;omega)
  rw [List.take_succ_eq_append_getElem a,Z7a];simp
 .have a:¬ j<l.length:=by simpa using a
  have:j=l.length:=by omega
  subst this;unfold Q7Z Q2L
  refine Z3 (k:=?_);rw [List.take_length,List.drop_length,Y0z,List.append_nil]
  exact h
structure RowSt (rowf:Int->List Span) (c:Int) (n:Nat) (out last:List Rect):Prop where
 ex:∃ acc,Bst [] rowf acc c/\(∀ r ∈ acc,r.v≠[])/\((last=[]/\out=flat acc/\∀ r ∈ acc,r.hi<c)\/∃ acc' b,acc=acc' ++ [b]/\b.hi=c/\last=y3 b/\out=flat acc' /\ b.v.length<=65536)
 len:out.length+last.length<=n*65536
theorem Y6b(a b:List (Rn (List Span))):flat (a++b)=flat a++flat b:=by simp [flat]
theorem Y6a(b:Rn (List Span)):flat [b]=y3 b:=by simp [flat]
theorem Y0Q(lo hi lo' hi' : Int):∀ (l m:List Span),Z5B (y3 ⟨lo,hi,l⟩) (y3 ⟨lo',hi',m⟩)=decide (l=m)
 | [],[]=>rfl
 | [],b::m=>rfl
 | a::l,[]=>rfl
 | a::l,b::m=>by
  have i:=Y0Q lo hi lo' hi' l m;have g:y3 ⟨lo,hi,a::l⟩=(⟨a.L_,lo,a.R_,hi⟩:Rect)::y3 ⟨lo,hi,l⟩:=rfl
  have f:y3 ⟨lo',hi',b::m⟩=(⟨b.L_,lo',b.R_,hi'⟩:Rect)::y3 ⟨lo',hi',m⟩:=rfl;rw [g,f,Z5B,i]
  cases a;cases b
  rw [Bool.eq_iff_iff];constructor
  .intro h
   rw [Bool.and_eq_true,Bool.and_eq_true] at h;obtain ⟨⟨d,c⟩,e⟩:=h
   have d:=eq_of_beq d;have c:=eq_of_beq c
   have e:=of_decide_eq_true e;simp only at d c
   rw [d,c,e];exact decide_eq_true rfl
  .intro h
   have h:=of_decide_eq_true h
   injection h with d c
   injection d with e h4
   subst c;subst e;subst h4
   rw [Bool.and_eq_true,Bool.and_eq_true];exact ⟨⟨beq_self_eq_true _,beq_self_eq_true _⟩,decide_eq_true rfl⟩
theorem W1Z(hF:BIG<=F){ys:List Int}{i:Nat}(hi:i+1<ys.length)(hy:ys.length<=65536){rowf:Int->List Span}(hst:Step [] ys rowf){out last:List Rect}(hR:RowSt rowf (gl ys i) i out last){ag:(Int×List Rect×List Rect)->Option (List Rect)}{y:Option (List Rect)}(hlen:(rowf (gl ys i)).length<=65536)(h:∀ out' last',RowSt rowf (gl ys (i+1)) (i+1) out' last' -> ag ((i:Int)+1,out',last')=y):
  Q3v F ys i out last ag (y3 ⟨gl ys i,gl ys (i+1),rowf (gl ys i)⟩)=y:=by
 have x:=hF;unfold BIG at hF
 obtain ⟨⟨d,C,f,n⟩,A⟩:=hR;have p:=hst.asc.at_lt (show i<i+1 by omega) hi
 have e:=hst.gap i hi;have H:i*65536<=65536*65536:=Nat.mul_le_mul_right _ (by omega)
 generalize hv:rowf (gl ys i)=v at *;have j:(∀ a,d.getLast?=some a->a.hi=gl ys i->a.v≠v)->flat d=out++last->Q4R F i out last (y3 ⟨gl ys i,gl ys (i+1),v⟩) ag=y:=by
  intro E s;unfold Q4R Q2L
  refine Z3 (k:=?_);refine Z3 (k:=?_)
  refine h _ _ ⟨?_,?_⟩
  .by_cases hv0:v=[]
   .subst hv0
    exact ⟨d,C.skip (by omega) fun t B w=>e t B w,f,.inl ⟨Y0z _ _,s.symm,fun r c=>by have:=C.le r c;omega⟩⟩
   .refine ⟨d++[⟨gl ys i,gl ys (i+1),v⟩],?_,fun r c=>?_,.inr ⟨d,_,rfl,rfl,rfl,s.symm,hlen⟩⟩
    .have:=C.add p (fun t B w=>(e t B w).trans hv.symm) (fun a l D=>by rw [hv];exact E a l D)
     rw [hv] at this;exact this
    .rcases List.mem_append.1 c with c|c
     .exact f r c
     .rw [List.mem_singleton.1 c];exact hv0
  .rw [List.length_append,Q0y,Nat.add_mul];simp only;omega
 unfold Q3v;rcases n with ⟨rfl,rfl,G⟩|⟨g,b,rfl,u,rfl,rfl,o⟩
 .refine Q7 rfl ?_
  unfold Q0V;refine Q7 rfl ?_
  exact j (fun a l D=>by have:=G a (List.mem_of_getLast? l);omega) (by simp)
 .have q:b.v≠[]:=f b (by simp)
  have z:0<b.v.length:=by
   cases hh:b.v with
   | nil=>exact absurd hh q
   | cons _ _=>simp
  have K:y3 b=y3 ⟨b.lo,b.hi,b.v⟩:=rfl;refine Z6 (by rw [Q0y];simpa using z) ?_
  refine Q2 (Y3t x (by rw [Q0y];unfold LIM;omega)) ?_;rw [K,Y0Q]
  refine Q4 (fun m=>?_) (fun m=>?_)
  .have m:b.v=v:=of_decide_eq_true m
   refine Q6 (by rw [Q0y];simp only;omega) ?_;refine Z3 (k:=?_)
   have I:((gl (y3 ⟨b.lo,b.hi,b.v⟩) (0:Int).toNat).H_==gl ys (i:Int).toNat)=true:=by
    have:gl (y3 ⟨b.lo,b.hi,b.v⟩) (0:Int).toNat=(⟨(b.v[0]).L_,b.lo,(b.v[0]).R_,b.hi⟩:Rect):=by
     have:0<(y3 ⟨b.lo,b.hi,b.v⟩).length:=by rw [Q0y];exact z
     show gl (y3 ⟨b.lo,b.hi,b.v⟩) 0=_;rw [y5 this];simp [y3]
    rw [this];simpa using u
   rw [I];unfold Q0V
   refine Z6 rfl ?_;refine W0x x hi hy o ?_
   have J:=C.grow u p fun t B w=>(e t B w).trans m.symm
   refine h _ _ ⟨⟨g ++ [⟨b.lo,gl ys (i+1),b.v⟩],J,fun r c=>?_,.inr ⟨g,_,rfl,rfl,rfl,rfl,o⟩⟩,?_⟩
   .rcases List.mem_append.1 c with c|c
    .exact f r (by simp [c])
    .rw [List.mem_singleton.1 c];exact q
   .rw [Q0y] at A ⊢;rw [Nat.add_mul];exact Nat.le_trans A (Nat.le_add_right _ _)
  .have m:b.v≠v:=of_decide_eq_false m
   unfold Q0V;refine Q7 rfl ?_
   exact j (fun a l D=>by rw [List.getLast?_append] at l;simp at l;subst l;exact m) (by rw [Y6b,Y6a])
theorem W2a(hF:BIG<=F){a b:List Rect}{how:Int}{xs ys:List Int}(hx:xs.length<=65536)(hy:ys.length<=65536)(ha:a.length<=LIM)(hb:b.length<=LIM)(hG:Grid xs ys fun x y=>z8 (inR a x y) (inR b x y) how):Q5K F a b how xs ys=some (cn fun x y=>z8 (inR a x y) (inR b x y) how):=by
 have h:=hF;unfold BIG at hF
 unfold Q5K;have d:=hG.step
 have e:=hG.rows;refine W4 (fun z:Int×List Rect×List Rect=>∃ (i:Nat),z.1=(i:Int)/\((ys.length=0/\i=0/\z.2.1=[]/\z.2.2=[])\/(i+1<=ys.length/\RowSt (fun y=>spn fun x=>z8 (inR a x y) (inR b x y) how) (gl ys i) i z.2.1 z.2.2)))
  (fun z=>ys.length-z.1.toNat) (fun g z L C=>?_) ⟨0,rfl,?_⟩ (by simp;omega)
 .obtain ⟨O,H,G⟩:=z
  obtain ⟨i,q,f⟩:=L;simp only at q f C ⊢
  subst q;unfold Z3y
  refine Z3 (k:=?_);rcases f with ⟨j,rfl,rfl,rfl⟩|⟨q,E⟩
  .refine Q7 (by simp [j]) ?_
   unfold Q4Q;refine Z3 (k:=?_)
   have:=Step.cn e d .nil (fun t=>(d.empty j t).symm) (fun b hb=>by cases hb)
   rw [this.1];rfl
  .refine Q4 (fun c=>?_) (fun c=>?_)
   .have c:i+1<ys.length:=by simp at c;omega
    refine W2b h c hx hy ha hb (hG.x _) fun l J M s=>?_
    have A:spn (fun x=>z8 (inR a x (gl ys i)) (inR b x (gl ys i)) how)=l:=Z8b J M;have:=W1Z h c hy d E (ag:=g) (y:=some (cn fun x y=>z8 (inR a x y) (inR b x y) how)) (by rw [A];exact s) fun w m o=>C _ ⟨i+1,rfl,.inr ⟨by omega,o⟩⟩ (by simp only;omega)
    rw [A] at this;exact this
   .have c:¬ i+1<ys.length:=by simp at c;omega
    unfold Q4Q;obtain ⟨⟨K,v,n,I⟩,D⟩:=E
    have u:i*65536<=65536*65536:=Nat.mul_le_mul_right _ (by omega);refine Z3 (k:=?_)
    have:=Step.cn e d v.runs (fun t=>d.done (by omega) v t) n
    rw [this.1];rcases I with ⟨rfl,rfl,_⟩|⟨B,N,rfl,_,rfl,rfl,_⟩
    .simp
    .rw [Y6b,Y6a]
 .by_cases j:ys.length=0
  .exact .inl ⟨j,rfl,rfl,rfl⟩
  .exact .inr ⟨by omega,⟨⟨[],d.start (by omega),fun r p=>(by cases p),.inl ⟨rfl,rfl,fun r p=>(by cases p)⟩⟩,by simp⟩⟩
theorem Y6g(a b:List Rect)(how:Int):Grid (Q7v b (Q7v a [])) (Z0B b (Z0B a [])) fun x y=>z8 (inR a x y) (inR b x y) how:=
 Grid.of (Q8o b (Q8o a .nil)) (Q8o b (Q8o a .nil))
  (fun r c=>⟨(Q0z b _ _).2 (.inl ((Q0z a _ _).2 (.inr ⟨r,c,.inl rfl⟩))),(Q0z b _ _).2 (.inl ((Q0z a _ _).2 (.inr ⟨r,c,.inr rfl⟩)))⟩)
  (fun r c=>⟨(Q0z b _ _).2 (.inr ⟨r,c,.inl rfl⟩),(Q0z b _ _).2 (.inr ⟨r,c,.inr rfl⟩)⟩)
  (fun r c=>⟨(Q0z b _ _).2 (.inl ((Q0z a _ _).2 (.inr ⟨r,c,.inl rfl⟩))),(Q0z b _ _).2 (.inl ((Q0z a _ _).2 (.inr ⟨r,c,.inr rfl⟩)))⟩)
  (fun r c=>⟨(Q0z b _ _).2 (.inr ⟨r,c,.inl rfl⟩),(Q0z b _ _).2 (.inr ⟨r,c,.inr rfl⟩)⟩)
  (k:=fun p q=>z8 p q how) (by show z8 false false how=false;unfold z8;split;rfl;split <;> rfl)
theorem Z3x(hF:BIG<=F){a b:List Rect}{how:Int}(ha:a.length<=200000)(hb:b.length<=200000)(hx:(Q7v b (Q7v a [])).length<=65536)(hy:(Z0B b (Z0B a [])).length<=65536):
  Y6 F a b how=some (cn fun x y=>z8 (inR a x y) (inR b x y) how):=by
 have d:=hF;unfold BIG at hF
 have n:=Y6g a b how;have h:=W2a d hx hy (by unfold LIM;omega) (by unfold LIM;omega) n
 have j:=Z7d (f:=Rect.L_) (g:=Rect.R_) a [];have i:=Z7d (f:=Rect.w_) (g:=Rect.H_) a []
 have o:∀ c:(List Int×List Int×Int)->Option (List Rect),Q3x F a b how c (Q7v b (Q7v a [])) (Z0B b (Z0B a [])) 2=some (cn fun x y=>z8 (inR a x y) (inR b x y) how):=fun c=>by
  unfold Q3x;exact Q7 rfl h
 have p:(Q7v a []).length<=2*a.length:=by have:=j;simpa [Q7v] using this
 have q:(Z0B a []).length<=2*a.length:=by have:=i;simpa [Z0B] using this
 unfold Y6;refine W4 (fun z:List Int×List Int×Int=>z=([],[],0)\/z=(Q7v a [],Z0B a [],1)\/z=(Q7v b (Q7v a []),Z0B b (Z0B a []),2)) (fun z=>2-z.2.2.toNat) (fun c z m e=>?_) (.inl rfl) (by simp;omega)
 rcases m with rfl|rfl|rfl
 .simp only
  unfold Q3x;refine Z6 rfl ?_
  refine Z3 (k:=?_);refine Y8g d (l:=a) (by omega) rfl (by simp;omega) (by simp;omega) ?_
  exact e _ (.inr (.inl rfl)) (by simp)
 .simp only
  unfold Q3x;refine Z6 rfl ?_
  refine Z3 (k:=?_);refine Y8g d (l:=b) (by omega) rfl (xs:=Q7v a []) (ys:=Z0B a []) (by omega) (by omega) ?_
  exact e _ (.inr (.inr rfl)) (by simp)
 .exact o c
end
end
section
theorem W0i{xs ys:List Int}{S:Int->Int->Bool}(h:Grid xs ys S):Fin S:=by
 have d:=h.step
 by_cases h0:ys.length=0
 .exact (Step.cn h.rows d .nil (fun t=>(d.empty h0 t).symm) (fun b w=>by cases w)).2
 .have p:∀ i,i+1<=ys.length->∃ g,Bst [] (fun y=>spn fun x=>S x y) g (gl ys i)/\∀ r ∈ g,r.v≠[]:=by
   intro i
   induction i with
   | zero=>intro _;exact ⟨[],d.start (by omega),fun r c=>by cases c⟩
   | succ i ih=>
    intro z;obtain ⟨g,k,f⟩:=ih (by omega)
    have l:=d.asc.at_lt (show i<i+1 by omega) (by omega);have e:=d.gap i (by omega)
    by_cases hv:spn (fun x=>S x (gl ys i))=[]
    .exact ⟨g,k.skip (by omega) fun t q o=>(e t q o).trans hv,f⟩
    .rcases List.eq_nil_or_concat g with rfl|⟨s,b,j⟩
     .refine ⟨_,k.add l e (fun a m=>by simp at m),fun r c=>?_⟩
      simp at c;rw [c];exact hv
     .rw [List.concat_eq_append] at j
      subst j
      by_cases hm:b.hi=gl ys i/\b.v=spn fun x=>S x (gl ys i)
      .refine ⟨_,k.grow hm.1 l fun t q o=>(e t q o).trans hm.2.symm,fun r c=>?_⟩
       rcases List.mem_append.1 c with c|c
       .exact f r (by simp [c])
       .rw [List.mem_singleton.1 c];exact f b (by simp)
      .refine ⟨_,k.add l e (fun a m u n=>?_),fun r c=>?_⟩
       .simp at m;subst m;exact hm ⟨u,n⟩
       .rcases List.mem_append.1 c with c|c
        .exact f r c
        .rw [List.mem_singleton.1 c];exact hv
  obtain ⟨g,k,f⟩:=p (ys.length-1) (by omega);exact (Step.cn h.rows d k.runs (fun t=>d.done (by omega) k t) f).2
theorem Q6z(a b:List Rect)(how:Int):Fin fun x y=>z8 (inR a x y) (inR b x y) how:=W0i (Y6g a b how)
theorem Y9K(l:List Rect):(fun x y=>z8 (inR l x y) (inR [] x y) 1)=inR l:=by
 funext x y;simp [z8,inR]
theorem W6(l:List Rect):Fin (inR l):=by have:=Q6z l [] 1;rwa [Y9K] at this
theorem Z1p(l:List Rect):Q1O l↔cn (inR l)=l:=⟨fun h=>h.eq_cn.symm,fun h=>by rw [<-h];exact Q1O.cn (W6 l)⟩
theorem Z2h{l:List Rect}:(Q7v l []).length<=2*l.length:=by have:=Z7d (f:=Rect.L_) (g:=Rect.R_) l [];simpa [Q7v] using this
theorem Y7l{l:List Rect}:(Z0B l []).length<=2*l.length:=by have:=Z7d (f:=Rect.w_) (g:=Rect.H_) l [];simpa [Z0B] using this
theorem Y0Y{a b:List Rect}:(Q7v b (Q7v a [])).length<=2*a.length+2*b.length:=by
 have c:=Z7d (f:=Rect.L_) (g:=Rect.R_) b (Q7v a []);have d:=Z2h (l:=a)
 have c:(Q7v b (Q7v a [])).length<=(Q7v a []).length+2*b.length:=c;omega
theorem Y6h{a b:List Rect}:(Z0B b (Z0B a [])).length<=2*a.length+2*b.length:=by
 have c:=Z7d (f:=Rect.w_) (g:=Rect.H_) b (Z0B a []);have d:=Y7l (l:=a)
 have c:(Z0B b (Z0B a [])).length<=(Z0B a []).length+2*b.length:=c;omega
theorem Q3g{F:Nat}(hF:BIG<=F){a b:List Rect}{how:Int}(h:a.length+b.length<=32768):Y6 F a b how=some (cn fun x y=>z8 (inR a x y) (inR b x y) how):=
 Z3x hF (by omega) (by omega) (by have:=Y0Y (a:=a) (b:=b);omega) (by have:=Y6h (a:=a) (b:=b);omega)
theorem Z2A{F:Nat}(hF:BIG<=F){l:List Rect}(h:l.length<=32768):Y6 F l [] 1=some (cn (inR l)):=by
 rw [Q3g hF (by simpa using h),Y9K]
theorem Z4o{α:Type}[Emb α][DecidableEq α](l m:List α)(h:l.length=m.length)(i:Nat)(hi:i<l.length):decide (l.drop i=m.drop i)=(decide (gl l i=gl m i)&&decide (l.drop (i+1)=m.drop (i+1))):=by
 rw [Q1D hi,Q1D (l:=m) (by omega)];rw [Bool.eq_iff_iff,Bool.and_eq_true,decide_eq_true_iff,decide_eq_true_iff,decide_eq_true_iff,List.cons.injEq]
theorem Y7H(r s:Rect):((r.L_==s.L_)&&((r.w_==s.w_)&&((r.R_==s.R_)&&((r.H_==s.H_)&&true))))=decide (r=s):=by
 cases r;cases s
 rw [Bool.eq_iff_iff,decide_eq_true_iff];simp
theorem Z5Y{F:Nat}(hF:BIG<=F){l m:List Rect}(hm:m.length<=LIM):Q9V F l m=some (decide (l=m)):=by
 unfold BIG at hF;unfold LIM at hm
 unfold Q9V;refine Q4 (fun h=>?_) (fun h=>?_)
 .have h:l.length≠m.length:=by simp at h;omega
  rw [decide_eq_false fun e=>h (by rw [e])]
 .have h:l.length=m.length:=by simp at h;omega
  refine W4 (fun z:Int=>∃ i:Nat,z=i/\i<=l.length/\decide (l=m)=decide (l.drop i=m.drop i)) (fun z=>l.length-z.toNat) (fun d z f g=>?_) ⟨0,rfl,by omega,by simp⟩ (by simp;omega);obtain ⟨i,rfl,j,c⟩:=f
  unfold Z6a;refine Q4 (fun a=>?_) (fun a=>?_)
  .have a:i<l.length:=by simpa using a
   rw [Z4o l m h i a] at c;refine Z3 (k:=?_)
   refine Z3 (k:=?_);rw [Y7H]
   refine Q4 (fun b=>?_) (fun b=>?_)
   .have b:decide (gl l i=gl m i)=false:=by simpa using b
    rw [c,b];rfl
   .have b:decide (gl l i=gl m i)=true:=by simpa using b
    rw [b,Bool.true_and] at c;refine Z3 (k:=?_)
    exact g _ ⟨i+1,by omega,a,c⟩ (by omega)
  .have a:¬ i<l.length:=by simpa using a
   have:i=l.length:=by omega
   rw [c,List.drop_of_length_le (by omega),List.drop_of_length_le (by omega),decide_eq_true rfl];rfl
def Val(l:List Rect):Prop:=l.length<=120/\(∀ r ∈ l,Q1y r=true)/\Q1O l
open Classical in
noncomputable def Q3m(l:List Rect):Bool:=decide (Val l)
theorem Q0Q(l:List Rect):Q3m l=true↔Val l:=by unfold Q3m;exact @decide_eq_true_iff (Val l) (Classical.propDecidable _)
theorem Q8H{l:List Rect}(h:¬ Val l):Q3m l=false:=by rw [<-Bool.not_eq_true,Q0Q];exact h
theorem Q3l{l:List Rect}(h:Val l):Q3m l=true:=(Q0Q l).2 h
theorem W0N{α:Type}[Emb α]{l:List α}{p:α->Prop}{i:Nat}(h:i<l.length):(∀ x ∈ l.drop i,p x)↔p (gl l i)/\∀ x ∈ l.drop (i+1),p x:=by rw [Q1D h];simp
theorem Q2d{F:Nat}(hF:BIG<=F)(a:Re_):Q1I F a=some (Q3m a.t_):=by
 have e:=hF;unfold BIG at hF
 obtain ⟨l⟩:=a;simp only
 unfold Q1I;refine Q4 (fun h=>?_) (fun h=>?_)
 .have h:120<l.length:=by simp at h;omega
  rw [Q8H fun d=>by have:=d.1;omega]
 .have h:l.length<=120:=by simp at h;omega
  refine W4 (fun z:Int=>∃ i:Nat,z=i/\i<=l.length/\((∀ r ∈ l,Q1y r=true)↔∀ r ∈ l.drop i,Q1y r=true)) (fun z=>l.length-z.toNat) (fun g z j m=>?_) ⟨0,rfl,by omega,by simp⟩ (by simp;omega);obtain ⟨i,rfl,n,f⟩:=j
  unfold Z5X;simp only
  refine Q4 (fun b=>?_) (fun b=>?_)
  .have b:i<l.length:=by simpa using b
   rw [W0N (p:=fun r=>Q1y r=true) b] at f;refine Z3 (k:=?_)
   refine Q2 (Z4R _ _) ?_;refine Q4 (fun c=>?_) (fun c=>?_)
   .have c:Q1y (gl l i)=false:=by simpa using c
    rw [Q8H fun d=>by have:=(f.1 d.2.1).1;rw [c] at this;cases this]
   .have c:Q1y (gl l i)=true:=by simpa using c
    refine Z3 (k:=?_);exact m _ ⟨i+1,by omega,b,f.trans ⟨fun h=>h.2,fun h=>⟨c,h⟩⟩⟩ (by omega)
  .have b:¬ i<l.length:=by simpa using b
   rw [List.drop_of_length_le (by omega)] at f;unfold Z1M
   refine Q2 (Z2A e (by simp only;omega)) ?_;refine Q2 (Z5Y e (by unfold LIM;simp only;omega)) ?_
   simp only
   by_cases hc:cn (inR l)=l
   .rw [decide_eq_true hc,Q3l ⟨h,f.2 (by simp),(Z1p l).2 hc⟩]
   .rw [decide_eq_false hc,Q8H fun d=>hc ((Z1p l).1 d.2.2)]
theorem Y2w{F:Nat}(l:List Rect):Z2B F l=some (if 120<l.length then (⟨[]⟩,1) else (⟨l⟩,0)):=by
 unfold Z2B;refine Q4 (fun h=>?_) (fun h=>?_)
 .have h:120<l.length:=by simp at h;omega
  rw [if_pos h]
 .have h:¬ 120<l.length:=by simp at h;omega
  rw [if_neg h]
theorem Y5H{F:Nat}(hF:BIG<=F){l:List Rect}(hl:l.length<=120)(hp:∀ r ∈ l,Q1y r=true):Z9j F l=some (if 120<(cn (inR l)).length then (⟨[]⟩,1) else (⟨cn (inR l)⟩,0)):=by
 have b:=hF;unfold BIG at hF
 unfold Z9j;refine Q7 (by simp;omega) ?_
 refine W4 (fun z:Int=>∃ i:Nat,z=i/\i<=l.length) (fun z=>l.length-z.toNat) (fun c z d e=>?_) ⟨0,rfl,by omega⟩ (by simp;omega);obtain ⟨i,rfl,f⟩:=d
 unfold Y0S;refine Q4 (fun a=>?_) (fun a=>?_)
 .have a:i<l.length:=by simpa using a
  refine Z3 (k:=?_);refine Q2 (Z4R _ _) ?_
  refine Q7 (by rw [Int.toNat_natCast,hp _ (V4 a)];rfl) ?_;refine Z3 (k:=?_)
  exact e _ ⟨i+1,by omega,a⟩ (by omega)
 .unfold Z6b
  refine Q2 (Z2A b (by omega)) ?_;refine Q2 (Y2w _) ?_
  rfl
end
section
open Go.Sort
def Srt(l:List Int):Prop:=l.Pairwise (· <= ·)
theorem Y9v{l:List Int}(hl:l.length<=LIM):∃ r,Z7z l=some r/\Srt r/\(∀ v,v ∈ r↔v ∈ l)/\r.length=l.length:=by
 refine ⟨l.mergeSort fun x y=>decide (x<=y),by unfold Z7z;rw [if_pos hl],?_,fun v=>List.mem_mergeSort,List.length_mergeSort l⟩;have:=List.pairwise_mergeSort (le:=fun x y:Int=>decide (x<=y)) (fun a b c e d=>by simp at *;omega) (fun a b=>by simp;omega) l
 exact this.imp fun h=>by simpa using h
def dd:List Int->List Int
 | []=>[]
 | [a]=>[a]
 | a::b::l=>if a=b then dd (b::l) else a::dd (b::l)
theorem Y1H(l:List Int)(x:Int):dd (l++[x])=if l.getLast?=some x then dd l else dd l++[x]:=by
 match l with
 | []=>simp [dd]
 | [a]=>by_cases h:a=x <;> simp [dd,h]
 | a::b::l=>
  have c:=Y1H (b::l) x;have e:(a::b::l).getLast?=(b::l).getLast?:=by simp [List.getLast?_cons]
  rw [e]
  by_cases h:a=b
  .simp only [List.cons_append,dd,h,if_true] at c ⊢
   exact c
  .simp only [List.cons_append,dd,h,if_false] at c ⊢
   rw [c];split <;> rfl
theorem Y4M(l:List Int)(v:Int):v ∈ dd l↔v ∈ l:=by
 match l with
 | []=>simp [dd]
 | [a]=>simp [dd]
 | a::b::l=>
  have c:=Y4M (b::l) v;unfold dd
  split
  .rename_i h;subst h;rw [c];simp
  .rw [List.mem_cons,c,List.mem_cons (a:=v) (b:=a)]
theorem Y7k(l:List Int)(h:Srt l):Asc (dd l):=by
 match l with
 | []=>exact .nil
 | [a]=>exact List.pairwise_singleton _ _
 | a::b::l=>
  obtain ⟨f,d⟩:=List.pairwise_cons.1 h;have e:=Y7k (b::l) d
  unfold dd;split
  .exact e
  .rename_i g
   refine List.pairwise_cons.2 ⟨fun v c=>?_,e⟩;rw [Y4M] at c
   have:=f b (by simp)
   rcases List.mem_cons.1 c with rfl|c
   .omega
   .have:=(List.pairwise_cons.1 d).1 v c;omega
theorem Y7j(l:List Int):(dd l).length<=l.length:=by
 match l with
 | []=>simp [dd]
 | [a]=>simp [dd]
 | a::b::l=>
  have c:=Y7j (b::l);unfold dd
  split
  .simp at c ⊢;omega
  .simp at c ⊢;omega
theorem Y4a{l:List Int}{i:Nat}(h:i<l.length):(l.take (i+1)).getLast?=some (gl l i):=by rw [J6 h];simp
theorem Y0x{α:Type}[Emb α](l:List α)(i j:Nat)(x:α)(h:i<l.length):gl (l.set i x) j=if i=j then x else gl l j:=by
 simp only [gl,List.getD_eq_getElem?_getD,List.getElem?_set]
 by_cases hij:i=j
 .subst hij;simp [h]
 .simp [hij]
theorem Z5s{α:Type}(l:List α)(i n:Nat)(x:α)(h:n<=i):(l.set i x).take n=l.take n:=by
 apply List.ext_getElem?;intro j
 simp only [List.getElem?_take,List.getElem?_set];split
 .rw [if_neg (by omega)]
 .rfl
theorem Y1W{α:Type}[Emb α](l:List α)(k n:Nat)(h:k<=l.length):(clr l (0+k) n).take k=l.take k:=by
 apply List.ext_getElem?;intro j
 simp only [List.getElem?_take,clr];split
 .rename_i a
  have:j<l.length:=by omega
  simp only [List.getElem?_map,List.getElem?_range this,Option.map_some];rw [if_neg (by omega),y5 this,List.getElem?_eq_getElem this]
 .rfl
theorem Y5b{α:Type}[Emb α](l:List α)(lo n:Nat):(clr l lo n).length=l.length:=by simp [clr]
theorem Q8x{F:Nat}(hF:BIG<=F){l:List Int}(hl:l.length<=LIM):Q1W F l=some (dd l):=by
 have J:=hF;unfold BIG at hF;unfold LIM at hl
 unfold Q1W;refine Q4 (fun h=>?_) (fun h=>?_)
 .have h:l.length<2:=by simp at h;omega
  match l,h with
  | [],_=>rfl
  | [a],_=>rfl
 .have h:2<=l.length:=by simp at h;omega
  refine W4 (fun z:Int=>∃ k:Nat,z=k/\1<=k/\k<=l.length/\dd (l.take k)=l.take k) (fun z=>l.length-z.toNat) (fun B z y I=>?_) ⟨1,rfl,by omega,by omega,?_⟩ (by simp;omega)
  .obtain ⟨k,rfl,E,M,w⟩:=y
   unfold Q8z;refine Q4 (fun m=>?_) (fun m=>?_)
   .have m:k<l.length:=by simpa using m
    refine Z3 (k:=?_);refine Z3 (k:=?_)
    refine Z3 (k:=?_);have H:((k:Int)-1).toNat=k-1:=by omega
    rw [H];simp only [Int.toNat_natCast]
    have f:(l.take k).getLast?=some (gl l (k-1)):=by
     have:=Y4a (l:=l) (i:=k-1) (by omega)
     rwa [show k-1+1=k from by omega] at this
    refine Q4 (fun p=>?_) (fun p=>?_)
    .have p:gl l k=gl l (k-1):=by simpa using p
     refine Z3 (k:=?_);have A:dd (l.take (k+1))=l.take k:=by rw [J6 m,Y1H,f,if_pos (by rw [p]),w]
     refine W4 (fun z:Int×Int×List Int=>∃ (q r:Nat) (c:List Int),z=((q:Int),(r:Int),c)/\1<=r/\k+r<=l.length/\q+1<=k+r/\1<=q/\c.length=l.length/\(∀ j,q<=j->gl c j=gl l j)/\c.take q=dd (l.take (k+r)))
      (fun z=>l.length-z.2.1.toNat) (fun v z y o=>?_) ⟨k,1,l,rfl,by omega,by omega,by omega,by omega,rfl,fun _ _=>rfl,A.symm⟩ (by simp only;omega)
     obtain ⟨q,r,c,rfl,N,D,G,K,t,g,n⟩:=y;simp only at o ⊢
     unfold Q8y;simp only [Int.toNat_natCast,Nat.zero_add]
     refine Q4 (fun s=>?_) (fun s=>?_)
     .have s:r<l.length-k:=by simp at s;omega
      refine Z3 (k:=?_);refine Z3 (k:=?_)
      refine Z3 (k:=?_);refine Z3 (k:=?_)
      have C:((r:Int)-1).toNat=r-1:=by omega
      rw [C];refine Z3 (k:=?_)
      rw [g (k+r) (by omega),g (k+(r-1)) (by omega)];have x:(l.take (k+r)).getLast?=some (gl l (k+(r-1))):=by
       have:=Y4a (l:=l) (i:=k+(r-1)) (by omega)
       rwa [show k+(r-1)+1=k+r from by omega] at this
      have u:dd (l.take (k+r+1))=if gl l (k+(r-1))=gl l (k+r) then dd (l.take (k+r)) else dd (l.take (k+r))++[gl l (k+r)]:=by
       rw [J6 (by omega),Y1H,x];simp
      refine Q4 (fun d=>?_) (fun d=>?_)
      .have d:gl l (k+r)≠gl l (k+(r-1)):=by simpa using d
       repeat (refine Z3 (k:=?_))
       refine o _ ⟨q+1,r+1,c.set q (gl l (k+r)),rfl,by omega,by omega,by omega,by omega,by simp [t],fun j L=>?_,?_⟩ (by simp only;omega)
       .rw [Y0x _ _ _ _ (by omega),if_neg (by omega)];exact g j (by omega)
       .rw [show k+(r+1)=k+r+1 from rfl,u,if_neg (fun e=>d e.symm), <-n,J6 (by simp;omega),Z5s _ _ _ _ (Nat.le_refl _),Y0x _ _ _ _ (by omega),if_pos rfl]
      .have d:gl l (k+r)=gl l (k+(r-1)):=by simpa using d
       unfold Q2r;refine Z3 (k:=?_)
       refine o _ ⟨q,r+1,c,rfl,by omega,by omega,by omega,by omega,t,g,?_⟩ (by simp only;omega);rw [show k+(r+1)=k+r+1 from rfl,u,if_pos d.symm,n]
     .have s:¬ r<l.length-k:=by simp at s;omega
      unfold Q4G;simp only [Int.toNat_natCast,Y5b]
      refine Z3 (k:=?_);refine Z3 (k:=?_)
      rw [Y1W _ _ _ (by omega),n,List.take_of_length_le (by omega)]
    .have p:gl l k≠gl l (k-1):=by simpa using p
     unfold Q4F;refine Z3 (k:=?_)
     refine I _ ⟨k+1,by omega,by omega,m,?_⟩ (by omega);rw [J6 m,Y1H,f,if_neg (fun e=>p (by simpa using e.symm)),w]
   .have m:¬ k<l.length:=by simpa using m
    have:k=l.length:=by omega
    subst this;rw [List.take_length] at w
    unfold Q4E;rw [w]
  .match l,h with
   | a::b::l,_=>rfl
end
section
open Go.Sort
def Y3B(l:List Rect):List Int:=l.flatMap fun r=>[r.w_,r.H_]
def Z6i(ls:List (List Rect)):List Int:=ls.flatMap Y3B
def Y2W(ls:List (List Rect)):List Int:=dd ((Z6i ls).mergeSort fun x y=>decide (x<=y))
theorem Y9u(l:List Int):Srt (l.mergeSort fun x y=>decide (x<=y)):=by
 have:=List.pairwise_mergeSort (le:=fun x y:Int=>decide (x<=y)) (fun a b c d e=>by simp at *;omega) (fun a b=>by simp;omega) l
 exact this.imp fun h=>by simpa using h
theorem Y6f(ls:List (List Rect)):Asc (Y2W ls):=Y7k _ (Y9u _)
theorem Y5M(ls:List (List Rect))(v:Int):v ∈ Y2W ls↔∃ l ∈ ls,∃ r ∈ l,v=r.w_\/v=r.H_:=by
 unfold Y2W;rw [Y4M,List.mem_mergeSort]
 simp [Z6i,Y3B]
theorem Y9T(l:List Rect):(Y3B l).length=2*l.length:=by
 induction l with
 | nil=>rfl
 | cons r l ih=>
  have:(Y3B (r::l)).length=2+(Y3B l).length:=by simp [Y3B];omega
  rw [this,ih,List.length_cons];omega
def tot(ls:List (List Rect)):Nat:=(ls.map List.length).sum
theorem Y8N(ls:List (List Rect)):(Z6i ls).length=2*tot ls:=by
 induction ls with
 | nil=>rfl
 | cons l ls ih=>
  have:(Z6i (l::ls)).length=(Y3B l).length+(Z6i ls).length:=by simp [Z6i]
  rw [this,ih,Y9T];simp [tot];omega
theorem Y2V(ls:List (List Rect)):(Y2W ls).length<=2*tot ls:=by
 unfold Y2W;have:=Y7j ((Z6i ls).mergeSort fun x y=>decide (x<=y))
 rw [List.length_mergeSort,Y8N] at this;exact this
theorem Z5H{F:Nat}(hF:BIG<=F){ls:List (List Rect)}(h:tot ls<=1000000000)(hn:ls.length<=1000000):Q9R F ls=some (Y2W ls):=by
 have g:=hF;unfold BIG at hF
 unfold Q9R;refine (Z1Q (l:=ls) (σ:=List Int) (fun b a=>a.length+2*tot b<=2000000000) (fun b a=>some (dd ((a++Z6i b).mergeSort fun x y=>decide (x<=y))))
  (fun e i a q d p=>?_) (fun e a d=>?_) (by omega) (by simp;omega)).trans rfl
 .unfold Z1F
  refine Z6 (Z0x q) ?_;refine Z3 (k:=?_)
  simp only [Int.toNat_natCast];generalize hl:gl ls i=l at *
  have m:tot (l::ls.drop (i+1))=l.length+tot (ls.drop (i+1)):=by simp [tot]
  rw [m] at d;refine (Z1Q (l:=l) (σ:=List Int) (fun b a=>a.length+2*b.length+2*tot (ls.drop (i+1))<=2000000000) (fun b a=>some (dd ((a++Y3B b++Z6i (ls.drop (i+1))).mergeSort fun x y=>decide (x<=y))))
   (fun c j a n d f=>?_) (fun c a d=>?_) (by omega) (by omega)).trans ?_
  .simp only
   unfold Z1E;simp only [Int.toNat_natCast,hl]
   refine Z6 (Z0x n) ?_;simp only [List.length_cons] at d
   refine Z3 (k:=?_);refine Z3 (k:=?_)
   refine Z3 (k:=?_);rw [f _ (by simp only [List.length_append,List.length_cons,List.length_nil];omega)]
   simp [Y3B]
  .simp only
   unfold Z1E;simp only [Int.toNat_natCast,hl]
   refine Q7 (Q2W _) ?_;unfold Z1D
   refine Z3 (k:=?_);rw [p _ (by simp only [List.length_nil] at d;omega)]
   simp [Y3B]
  .simp [Z6i]
 .simp only
  unfold Z1F;refine Q7 (Q2W _) ?_
  unfold Z1C;have d:a.length<=2000000000:=by simp [tot] at d;omega
  have o:Z7z a=some (a.mergeSort fun x y=>decide (x<=y)):=by unfold Z7z;rw [if_pos (by unfold LIM;omega)]
  refine Q2 o ?_;refine Q2 (Q8x g (by rw [List.length_mergeSort];unfold LIM;omega)) ?_
  simp [Z6i]
theorem Q7h(F:Nat)(a b:Int):Q2z F a b=some (if a<b then -1 else if b<a then 1 else 0):=by
 unfold Q2z Q9D;refine Q2 rfl (Q2 rfl ?_)
 refine Q7 (by simp) (Q7 (by simp) ?_);refine Q4 (fun h=>?_) (fun h=>?_)
 .have h:a<b:=by simpa using h
  rw [if_pos h]
 .have h:¬ a<b:=by simpa using h
  rw [if_neg h];refine Q4 (fun h=>?_) (fun h=>?_)
  .have h:b<a:=by simpa using h
   rw [if_pos h]
  .have h:¬ b<a:=by simpa using h
   rw [if_neg h]
def cfL(a b:Span):Int:=if a.L_<b.L_ then -1 else if b.L_<a.L_ then 1 else 0
theorem Y1C(a b:Span):ltC cfL a b=decide (a.L_<b.L_):=by
 unfold ltC cfL
 by_cases h:a.L_<b.L_
 .simp [h]
 .by_cases h2:b.L_<a.L_ <;> simp [h,h2]
theorem W3m:SWO (ltC cfL) where
 irrefl x:=by rw [Y1C];simp
 trans x y z h1 h2:=by rw [Y1C] at *;simp at *;omega
 ntrans x y z h1 h2:=by rw [Y1C] at *;simp at *;omega
theorem Y8H{α:Type}[Emb α](cf:α->α->Int)(hO:SWO (ltC cf))(l:List α):(Q8Y cf l).Perm l/\(Q8Y cf l).Pairwise fun a b=>ltC cf b a=false:=by
 letI inst:Inhabited α:=⟨Emb.d⟩
 have h:=pdq_sorts (ltC cf) hO l.toArray 0 l.length (Lib.bitLen l.length) true true (Nat.zero_le _) (by simp) (.inl rfl);have c:(pdq (ltC cf) l.toArray 0 l.length (Lib.bitLen l.length) true true).size=l.length:=by simpa using h.1.1
 constructor
 .have:=h.1.2.2
  simp only [List.extract_toArray,List.extract_eq_take_drop,Nat.sub_zero,List.drop_zero,List.take_length] at this;have e:((pdq (ltC cf) l.toArray 0 l.length (Lib.bitLen l.length) true true).extract 0 l.length).toList=Q8Y cf l:=by
   unfold Q8Y;generalize pdq (ltC cf) l.toArray 0 l.length (Lib.bitLen l.length) true true=d at c
   rw [<-c];simp
  rw [e] at this;exact this
 .rw [List.pairwise_iff_getElem]
  intro i j n m f;have g : i<(pdq (ltC cf) l.toArray 0 l.length (Lib.bitLen l.length) true true).size:=by simpa [Q8Y] using n
  have k : j<(pdq (ltC cf) l.toArray 0 l.length (Lib.bitLen l.length) true true).size:=by simpa [Q8Y] using m
  have:=h.2 i j (Nat.zero_le _) f (by omega)
  rw [getElem!_pos _ j k,getElem!_pos _ i g] at this;simpa [Q8Y] using this
def flt(l:List Rect)(y:Int):List Span:=(l.filter fun r=>decide (r.w_<=y)&&decide (y<r.H_)).map fun r=>⟨r.L_,r.R_⟩
theorem Y5Z(r:Rect)(l:List Rect)(y:Int):flt (r::l) y=if (decide (r.w_<=y)&&decide (y<r.H_))=true then ⟨r.L_,r.R_⟩::flt l y else flt l y:=by
 unfold flt;rw [List.filter_cons]
 split <;> rfl
theorem W1F(l:List Rect)(x y:Int):inS (flt l y) x=inR l x y:=by
 induction l with
 | nil=>rfl
 | cons r l ih=>
  have e:inR (r::l) x y=(r.has x y||inR l x y):=rfl;rw [Y5Z,e, <-ih]
  split
  .rename_i h
   simp only [Bool.and_eq_true,decide_eq_true_eq] at h;simp [inS,Span.has,Rect.has,h.1,h.2]
  .rename_i h
   have:r.has x y=false:=Y2J (by simp at h;omega)
   rw [this,Bool.false_or]
theorem W1M(l:List Rect)(y:Int):(flt l y).length<=l.length:=by
 unfold flt;rw [List.length_map];exact List.length_filter_le _ _
theorem W1L{l:List Rect}(h:∀ r ∈ l,r.L_<r.R_)(y:Int):∀ s ∈ flt l y,s.L_<s.R_:=by
 intro s a;obtain ⟨r,b,rfl⟩:=List.mem_map.1 a
 exact h r (List.mem_filter.1 b).1
theorem Y1D(l m:List Span)(x:Int):inS (l++m) x=(inS l x||inS m x):=by simp [inS]
theorem W0c{l m:List Span}(h:l.Perm m)(x:Int):inS l x=inS m x:=by
 rw [Bool.eq_iff_iff];simp only [inS,List.any_eq_true]
 constructor
 .rintro ⟨s,a,b⟩;exact ⟨s,h.mem_iff.1 a,b⟩
 .rintro ⟨s,a,b⟩;exact ⟨s,h.mem_iff.2 a,b⟩
theorem W1I(a b:Int):Q0A a b=if a<b then b else a:=rfl
theorem Y8C{F:Nat}(hF:BIG<=F){S:List Span}(hl:S.length<=1000000000)(hpos:∀ s ∈ S,s.L_<s.R_)(hs:S.Pairwise fun a b=>a.L_<=b.L_):
  Q9 (fun again (z:Int×List Span)=>Z2T F S again z.1 z.2) F (0,[])=some (spn fun x=>inS S x):=by
 unfold BIG at hF;refine W4 (fun z:Int×List Span=>∃ (i:Nat) (d:List Span),z=((i:Int),d)/\i<=S.length/\d.length<=i/\SpOk d/\(∀ x,inS d x=inS (S.take i) x)/\∀ o ∈ d,∀ j,i<=j->j<S.length->o.L_<=(gl S j).L_)
  (fun z=>S.length-z.1.toNat) (fun again z L B=>?_) ⟨0,[],rfl,by omega,Nat.le_refl _,.nil,fun x=>by simp,fun o c=>by cases c⟩ (by simp only;omega)
 obtain ⟨i,d,rfl,R,D,f,v,l⟩:=L;simp only at B ⊢
 unfold Z2T;refine Q4 (fun h=>?_) (fun h=>?_)
 .have h:i<S.length:=by simpa using h
  refine Z3 (k:=?_);simp only [Int.toNat_natCast]
  have M:=hpos _ (V4 h);have r:∀ j,i+1<=j->j<S.length->(gl S i).L_<=(gl S j).L_:=by
   intro j w g;rw [y5 h,y5 g]
   exact List.pairwise_iff_getElem.1 hs i j h g (by omega)
  have n : ∀ x,inS (S.take (i+1)) x=(inS d x||(gl S i).has x):=by
   intro x;rw [J6 h,Y1D,v];simp [inS]
  have m:(∀ o,d.getLast?=some o->o.R_<(gl S i).L_)->Q4p F S i d again false=some (spn fun x=>inS S x):=by
   intro q;unfold Q4p
   refine Q7 rfl ?_;refine Z3 (k:=?_)
   unfold Q6n;refine Z3 (k:=?_)
   simp only [Int.toNat_natCast];refine B _ ⟨i+1,d++[gl S i],rfl,h,by simp;omega,⟨fun s hs=>?_,?_⟩,fun x=>?_,fun o c j w g=>?_⟩ (by simp only;omega)
   .rcases List.mem_append.1 hs with hs|hs
    .exact f.pos s hs
    .rw [List.mem_singleton.1 hs];exact M
   .refine List.pairwise_append.2 ⟨f.ch,List.pairwise_singleton _ _,fun o c b A=>?_⟩
    rw [List.mem_singleton.1 A];rcases List.eq_nil_or_concat d with C|⟨t,e,u⟩
    .rw [C] at c;cases c
    .rw [List.concat_eq_append] at u
     subst u;have N:=q e (by simp)
     rcases List.mem_append.1 c with c|c
     .have P:=(List.pairwise_append.1 f.ch).2.2 o c e (by simp)
      have Q:=f.pos e (by simp);omega
     .rw [List.mem_singleton.1 c];exact N
   .rw [n,Y1D];simp [inS]
   .rcases List.mem_append.1 c with c|c
    .exact l o c j (by omega) g
    .rw [List.mem_singleton.1 c];exact r j w g
  rcases List.eq_nil_or_concat d with C|⟨t,e,u⟩
  .subst C
   refine Q7 rfl ?_;exact m fun o c=>by simp at c
  .rw [List.concat_eq_append] at u
   subst u;have p:(t ++ [e]).length=t.length+1:=by simp
   have E:(((t.length+1:Nat):Int)-1).toNat=t.length:=by omega
   rw [p] at D ⊢;refine Z6 (by simp) ?_
   refine Z3 (k:=?_);refine Z3 (k:=?_)
   rw [E,Z4s _ _ rfl]
   by_cases hc:(gl S i).L_<=e.R_
   .have y:decide ((gl S i).L_<=e.R_)=true:=by simpa using hc
    rw [y];unfold Q4p
    refine Z6 rfl ?_;simp only [p]
    refine Z3 (k:=?_);refine Z3 (k:=?_)
    refine Z3 (k:=?_);refine Z3 (k:=?_)
    rw [E,Z4s _ _ rfl,Z8S _ _ _ rfl];unfold Q6n
    refine Z3 (k:=?_);simp only [Int.toNat_natCast]
    have H:e.L_<=(gl S i).L_:=l e (by simp) i (Nat.le_refl _) h;have O:=f.pos e (by simp)
    have K:e.R_<=Q0A e.R_ (gl S i).R_/\(gl S i).R_<=Q0A e.R_ (gl S i).R_/\(Q0A e.R_ (gl S i).R_=e.R_\/Q0A e.R_ (gl S i).R_=(gl S i).R_):=by
     rw [W1I];split <;> omega
    refine B _ ⟨i+1,t ++ [⟨e.L_,Q0A e.R_ (gl S i).R_⟩],rfl,h,by simp;omega,⟨fun s hs=>?_,?_⟩,fun x=>?_,fun o c j w g=>?_⟩ (by simp only;omega)
    .rcases List.mem_append.1 hs with hs|hs
     .exact f.pos s (by simp [hs])
     .rw [List.mem_singleton.1 hs];simp only;omega
    .obtain ⟨I,_,J⟩:=List.pairwise_append.1 f.ch
     refine List.pairwise_append.2 ⟨I,List.pairwise_singleton _ _,fun o c b A=>?_⟩;rw [List.mem_singleton.1 A]
     exact J o c e (by simp)
    .rw [n,Y1D,Y1D,Bool.or_assoc]
     congr 1
     have G:∀ (s:Span) x,inS [s] x=s.has x:=fun s x=>by simp [inS]
     rw [G,G,Bool.eq_iff_iff];simp only [Span.has,Bool.or_eq_true,Bool.and_eq_true,decide_eq_true_eq]
     omega
    .rcases List.mem_append.1 c with c|c
     .exact l o (by simp [c]) j (by omega) g
     .rw [List.mem_singleton.1 c];exact l e (by simp) j (by omega) g
   .have y:decide ((gl S i).L_<=e.R_)=false:=by simpa using hc
    rw [y];exact m fun o c=>by simp at c;subst c;omega
 .have h:¬ i<S.length:=by simpa using h
  have:i=S.length:=by omega
  subst this;unfold Z2S
  rw [Z8b f fun x=>by rw [v,List.take_length]]
theorem Z2R{F:Nat}(hF:BIG<=F){l:List Rect}(hl:l.length<=1000000000)(hpos:∀ r ∈ l,r.L_<r.R_)(y:Int):Q8M F l y=some (spn fun x=>inR l x y):=by
 have o:=hF;unfold BIG at hF
 unfold Q8M;have n:∀ c:List Span,c=flt l y->Q9s F c=some (spn fun x=>inR l x y):=by
  rintro c rfl;unfold Q9s
  have u:=W1M l y;have m:Y0O (flt l y) (fun w t=>Z1a F w t)=some (Q8Y cfL (flt l y)):=
   Y9w cfL (by unfold LIM;omega) W3m fun a b=>by unfold Z1a;rw [Q7h];rfl
  refine Q2 m ?_;obtain ⟨p,j⟩:=Y8H cfL W3m (flt l y)
  have e:(fun x=>inR l x y)=fun x=>inS (Q8Y cfL (flt l y)) x:=by funext x;rw [W0c p,W1F]
  rw [e];refine Y8C o (by rw [p.length_eq];omega) (fun s j=>W1L hpos y s (p.mem_iff.1 j)) (j.imp fun {a b} h=>?_)
  rw [Y1C] at h;simp at h;exact h
 refine (Z1Q (l:=l) (σ:=List Span) (fun f c=>c.length+f.length<=1000000000/\c++flt f y=flt l y) (fun f c=>some (spn fun x=>inR l x y))
  (fun d i c v g q=>?_) (fun d c g=>?_) (by omega) ⟨by simp;omega,rfl⟩)
 .simp only
  unfold Z2U;refine Z6 (Z0x v) ?_
  refine Z3 (k:=?_);rw [Q4b (Q6p F l i c d)]
  simp only [Int.toNat_natCast];rw [Y5Z] at g
  simp only [List.length_cons] at g;unfold Q6p
  refine Q4 (fun h=>?_) (fun h=>?_)
  .rw [if_pos h] at g
   refine Z3 (k:=?_);unfold Q6o
   refine Z3 (k:=?_);simp only [Int.toNat_natCast]
   exact q _ ⟨by simp only [List.length_append,List.length_cons,List.length_nil];omega,by rw [<-g.2];simp⟩
  .rw [h] at g
   unfold Q6o;refine Z3 (k:=?_)
   exact q _ ⟨by omega,by simpa using g.2⟩
 .simp only
  unfold Z2U;refine Q7 (Q2W _) ?_
  exact n c (by have:=g.2;simpa [flt] using this)
end
theorem W1m(r s:Span):((r.L_==s.L_)&&((r.R_==s.R_)&&true))=decide (r=s):=by
 cases r;cases s
 rw [Bool.eq_iff_iff,decide_eq_true_iff];simp
theorem Z5u{F:Nat}(hF:BIG<=F){l m:List Span}(hm:m.length<=LIM):Q4M F l m=some (decide (l=m)):=by
 unfold BIG at hF;unfold LIM at hm
 unfold Q4M;refine Q4 (fun h=>?_) (fun h=>?_)
 .have h:l.length≠m.length:=by simp at h;omega
  rw [decide_eq_false fun e=>h (by rw [e])]
 .have h:l.length=m.length:=by simp at h;omega
  refine W4 (fun z:Int=>∃ i:Nat,z=i/\i<=l.length/\decide (l=m)=decide (l.drop i=m.drop i)) (fun z=>l.length-z.toNat) (fun d z f g=>?_) ⟨0,rfl,by omega,by simp⟩ (by simp;omega);obtain ⟨i,rfl,j,c⟩:=f
  unfold Q9J;refine Q4 (fun a=>?_) (fun a=>?_)
  .have a:i<l.length:=by simpa using a
   rw [Z4o l m h i a] at c;refine Z3 (k:=?_)
   refine Z3 (k:=?_);rw [W1m]
   refine Q4 (fun b=>?_) (fun b=>?_)
   .have b:decide (gl l i=gl m i)=false:=by simpa using b
    rw [c,b];rfl
   .have b:decide (gl l i=gl m i)=true:=by simpa using b
    rw [b,Bool.true_and] at c;refine Z3 (k:=?_)
    exact g _ ⟨i+1,by omega,a,c⟩ (by omega)
  .have a:¬ i<l.length:=by simpa using a
   have:i=l.length:=by omega
   rw [c,List.drop_of_length_le (by omega),List.drop_of_length_le (by omega),decide_eq_true rfl];rfl
theorem Z5v{F:Nat}(hF:BIG<=F){l m:List Rect}(hm:m.length<=LIM):Q4N F l m=some (decide (l=m)):=by
 unfold BIG at hF;unfold LIM at hm
 unfold Q4N;refine Q4 (fun h=>?_) (fun h=>?_)
 .have h:l.length≠m.length:=by simp at h;omega
  rw [decide_eq_false fun e=>h (by rw [e])]
 .have h:l.length=m.length:=by simp at h;omega
  refine W4 (fun z:Int=>∃ i:Nat,z=i/\i<=l.length/\decide (l=m)=decide (l.drop i=m.drop i)) (fun z=>l.length-z.toNat) (fun d z f g=>?_) ⟨0,rfl,by omega,by simp⟩ (by simp;omega);obtain ⟨i,rfl,j,c⟩:=f
  unfold Q9L;refine Q4 (fun a=>?_) (fun a=>?_)
  .have a:i<l.length:=by simpa using a
   rw [Z4o l m h i a] at c;refine Z3 (k:=?_)
   refine Z3 (k:=?_);rw [Y7H]
   refine Q4 (fun b=>?_) (fun b=>?_)
   .have b:decide (gl l i=gl m i)=false:=by simpa using b
    rw [c,b];rfl
   .have b:decide (gl l i=gl m i)=true:=by simpa using b
    rw [b,Bool.true_and] at c;refine Z3 (k:=?_)
    exact g _ ⟨i+1,by omega,a,c⟩ (by omega)
  .have a:¬ i<l.length:=by simpa using a
   have:i=l.length:=by omega
   rw [c,List.drop_of_length_le (by omega),List.drop_of_length_le (by omega),decide_eq_true rfl];rfl
def Band.rn(b:Band):Rn (List Span):=⟨b.w_,b.H_,b.spans_⟩
def fl(l:List Band):List Rect:=flat (l.map Band.rn)
theorem Y4S(b:Band)(l:List Band):fl (b::l)=y3 b.rn++fl l:=rfl
theorem W2V(l:List Band)(N:Nat)(h:∀ b ∈ l,b.spans_.length<=N):(fl l).length<=l.length*N:=by
 induction l with
 | nil=>simp [fl,flat]
 | cons b l ih=>
  have d:=ih fun c a=>h c (by simp [a])
  have e:=h b (by simp);rw [Y4S,List.length_append,Q0y,List.length_cons,Nat.add_mul]
  simp only [Band.rn];omega
theorem Y1j{F:Nat}(hF:BIG<=F){l:List Band}(hl:l.length<=1000000000)(hn:(fl l).length<=LIM)(hs:∀ b ∈ l,b.spans_.length<=1000000000):Z0Y F l=some (fl l):=by
 unfold BIG at hF;unfold LIM at hn
 unfold Z0Y;refine (Z1Q (l:=l) (σ:=List Rect) (fun c a=>a.length+(fl c).length<=4294967296) (fun c a=>some (a++fl c)) (fun f i a m d o=>?_) (fun f a d=>?_) (by omega) (by simp;omega)).trans (by simp)
 .unfold Z0q
  refine Z6 (Z0x m) ?_;refine Z3 (k:=?_)
  simp only [Int.toNat_natCast];have g:=hs _ (V4 m)
  rw [Y4S,List.length_append,Q0y] at d;rw [Y4S]
  generalize hb:gl l i=b at d g ⊢;have d:a.length+(b.spans_.length+(fl (l.drop (i+1))).length)<=4294967296:=d
  refine (Z1Q (l:=b.spans_) (σ:=List Rect) (fun c a=>a.length+c.length+(fl (l.drop (i+1))).length<=4294967296) (fun c a=>some (a++(c.map (fun s=>(⟨s.L_,b.w_,s.R_,b.H_⟩:Rect))++fl (l.drop (i+1)))))
   (fun e j a n d h=>?_) (fun e a d=>?_) (by omega) (by omega)).trans rfl
  .unfold Z0p
   simp only [Int.toNat_natCast,hb];refine Z6 (Z0x n) ?_
   simp only [List.length_cons] at d;refine Z3 (k:=?_)
   refine Z3 (k:=?_);refine Z3 (k:=?_)
   rw [h _ (by simp only [List.length_append,List.length_cons,List.length_nil];omega)];simp
  .unfold Z0p
   simp only [Int.toNat_natCast,hb];refine Q7 (Q2W _) ?_
   unfold Z0o;refine Z3 (k:=?_)
   rw [o _ (by simpa using d)];simp
 .unfold Z0q
  refine Q7 (Q2W _) ?_;simp [Z0n,fl,flat]
theorem Z4L{F:Nat}(hF:BIG<=F){cs:List Int}{row:Int->Option (List Span)}{S:Int->Int->Bool}(hS:Y3k S)(hst:Step [] cs fun y=>spn fun x=>S x y)(hc:cs.length<=65536)(hrow:∀ y,row y=some (spn fun x=>S x y))(hlen:∀ y,(spn fun x=>S x y).length<=65536):Q7H F cs row=some (cn S):=by
 have I:=hF;unfold BIG at hF
 unfold Q7H;have H:∀ c:List Band,Runs (c.map Band.rn)->(∀ t,atR [] (c.map Band.rn) t=spn fun x=>S x t)->c.length<=cs.length->(∀ b ∈ c,b.spans_.length<=65536)->Q6O F c=some (cn S):=by
  intro c U n E f;unfold Q6O
  have M:=W2V c 65536 f;have L:c.length*65536<=65536*65536:=Nat.mul_le_mul_right _ (by omega)
  refine Q2 (Y1j I (by omega) (by unfold LIM;omega) (fun b d=>by have:=f b d;omega)) ?_;have P:=(Step.cn hS hst (acc:=(c.map Band.rn).filter fun r=> !r.v.isEmpty) (U.filter _) (fun t=>by
   rw [U.atR_filter _ (fun r _ X=>by simpa using X)];exact n t) (fun b d=>by
   have:=(List.mem_filter.1 d).2
   intro B;rw [B] at this;simp at this)).1
  rw [P];congr 1
  have:∀ l:List (Rn (List Span)),flat l=flat (l.filter fun r=> !r.v.isEmpty):=by
   intro l
   induction l with
   | nil=>rfl
   | cons a l C=>
    rw [List.filter_cons];have e:flat (a::l)=y3 a++flat l:=rfl
    cases n:a.v with
    | nil=>
     have:y3 a=[]:=by simp [y3,n]
     rw [e,this,List.nil_append,C];simp
    | cons s v=>
     simp only [List.isEmpty_cons,Bool.not_false,if_true];have K:flat (a::l.filter fun r=> !r.v.isEmpty)=y3 a++flat (l.filter fun r=> !r.v.isEmpty):=rfl
     rw [e,K, <-C]
  exact this _
 refine W4 (fun z:Int×List Band=>∃ (i:Nat) (c:List Band),z=((i:Int)+1,c)/\c.length<=i/\(∀ b ∈ c,b.spans_.length<=65536)/\((cs.length=0/\i=0)\/(i+1<=cs.length/\Bst [] (fun y=>spn fun x=>S x y) (c.map Band.rn) (gl cs i))))
  (fun z=>cs.length+1-z.1.toNat) (fun A z V C=>?_) ⟨0,[],rfl,Nat.le_refl _,fun b d=>(List.not_mem_nil d).elim,?_⟩ (by simp;omega)
 .obtain ⟨i,c,rfl,E,f,w⟩:=V
  simp only at C ⊢;unfold Z4M
  rcases w with ⟨J,rfl⟩|⟨Y,D⟩
  .have Q:c=[]:=List.eq_nil_of_length_eq_zero (by omega)
   subst Q;refine Q7 (by simp;omega) ?_
   exact H [] .nil (fun t=>(hst.empty J t).symm) (by simp) (fun b d=>by cases d)
  .refine Q4 (fun g=>?_) (fun g=>?_)
   .have g:i+1<cs.length:=by simp at g;omega
    have G:=hst.asc.at_lt (show i<i+1 by omega) g;have o:=hst.gap i g
    have R:((i:Int)+1-1).toNat=i:=by omega
    have K:((i:Int)+1).toNat=i+1:=by omega
    rw [R];refine Z3 (k:=?_)
    refine Z3 (k:=?_);refine Z3 (k:=?_)
    refine Z3 (k:=?_);refine Z3 (k:=?_)
    refine Q2 (hrow _) ?_;generalize n:(spn fun x=>S x (gl cs i))=v at *
    have N:v.length<=65536:=by rw [<-n];exact hlen _
    have j:(∀ q,(c.map Band.rn).getLast?=some q->q.hi=gl cs i->q.v≠v)->Q1s F cs ((i:Int)+1) c v A false=some (cn S):=by
     intro m;unfold Q1s
     refine Q7 rfl ?_;rw [R,K]
     refine Z3 (k:=?_);unfold Q4i
     refine Z3 (k:=?_);refine C _ ⟨i+1,c++[⟨gl cs i,gl cs (i+1),v⟩],by simp,by simp;omega,fun b d=>?_,.inr ⟨by omega,?_⟩⟩ (by simp only;omega)
     .rcases List.mem_append.1 d with d|d
      .exact f b d
      .rw [List.mem_singleton.1 d];exact N
     .rw [List.map_append]
      have:=D.add G (fun t M L=>(o t M L).trans n.symm) (fun a W B=>by rw [n];exact m a W B)
      rw [n] at this;exact this
    rcases List.eq_nil_or_concat c with J|⟨u,e,B⟩
    .subst J
     refine Q7 rfl ?_;exact j fun q m=>by simp at m
    .rw [List.concat_eq_append] at B
     subst B;have h:(u ++ [e]).length=u.length+1:=by simp
     have T:(((u.length+1:Nat):Int)-1).toNat=u.length:=by omega
     rw [h] at E ⊢;have p:gl (u ++ [e]) u.length=e:=Z4s _ _ rfl
     refine Z6 (by simp) ?_;refine Z3 (k:=?_)
     refine Z3 (k:=?_);rw [T,p]
     by_cases hh:e.H_=gl cs i
     .refine Z6 (by simpa using hh) ?_
      refine Z3 (k:=?_);refine Z3 (k:=?_)
      refine Q2 (Z5u I (by unfold LIM;omega)) ?_
      by_cases hvv:e.spans_=v
      .rw [decide_eq_true hvv]
       unfold Q1s;refine Z6 rfl ?_
       simp only [h];refine Z3 (k:=?_)
       refine Z3 (k:=?_);rw [T,p,Z8S _ _ _ rfl,K]
       unfold Q4i;refine Z3 (k:=?_)
       refine C _ ⟨i+1,u ++ [⟨e.w_,gl cs (i+1),e.spans_⟩],by simp,by simp;omega,fun b d=>?_,.inr ⟨by omega,?_⟩⟩ (by simp only;omega)
       .rcases List.mem_append.1 d with d|d
        .exact f b (by simp [d])
        .rw [List.mem_singleton.1 d];exact f e (by simp)
       .rw [List.map_append] at D ⊢
        exact D.grow (a:=e.rn) hh G fun t M L=>(o t M L).trans hvv.symm
      .rw [decide_eq_false hvv]
       exact j fun q m _=>by rw [List.map_append] at m;simp at m;subst m;exact hvv
     .refine Q7 (by simpa using hh) ?_
      exact j fun q m O=>by rw [List.map_append] at m;simp at m;subst m;exact absurd O hh
   .have g:¬ i+1<cs.length:=by simp at g;omega
    exact H c D.runs (fun t=>hst.done (by omega) D t) (by omega) f
 .by_cases J:cs.length=0
  .exact .inl ⟨J,rfl⟩
  .exact .inr ⟨by omega,hst.start (by omega)⟩
theorem Y0G(ls:List (List Rect)){l:List Rect}(h:l ∈ ls):Y5h (Y2W ls) l:=fun r a=>⟨(Y5M ls _).2 ⟨l,h,r,a,.inl rfl⟩,(Y5M ls _).2 ⟨l,h,r,a,.inr rfl⟩⟩
theorem Z9o(l:List Rect){ls:List (List Rect)}(h:l ∈ ls):Grid (Q7v l []) (Y2W ls) (inR l):=by
 have:=Grid.of (xs:=Q7v l []) (ys:=Y2W ls) (a:=l) (b:=[]) (Q8o l .nil) (Y6f ls)
  (fun r c=>⟨(Q0z l _ _).2 (.inr ⟨r,c,.inl rfl⟩),(Q0z l _ _).2 (.inr ⟨r,c,.inr rfl⟩)⟩) (fun r c=>by cases c) (Y0G ls h) (fun r c=>by cases c) (k:=fun p q=>p||q) rfl
 have e:(fun x y=>inR l x y||inR [] x y)=inR l:=by funext x y;simp [inR]
 rwa [e] at this
theorem Z0G{F:Nat}(hF:BIG<=F){l:List Rect}(hl:l.length<=32768)(hpos:∀ r ∈ l,r.L_<r.R_):Q3o F l=some (cn (inR l)):=by
 unfold Q3o;have a:=Z9o l (ls:=[l]) (by simp)
 have d:tot [l]=l.length:=by simp [tot]
 have b:=Y2V [l];refine Q2 (Z5H hF (by omega) (by simp)) ?_
 refine Q2 (Z4L hF a.rows a.step (by omega) (fun y=>?_) (fun y=>?_)) rfl
 .unfold Q7c
  exact Q2 (Z2R hF (by omega) hpos y) rfl
 .have:=(a.x y).spn_len
  have c:=Z2h (l:=l);omega
theorem Z2P{F:Nat}(hF:BIG<=F){l:List Rect}{q:Rect->Option Bool}(p:Rect->Bool)(hl:l.length<=1000000000)(hq:∀ r ∈ l,q r=some (p r)):∃ i:Int,Q4B F l q=some i/\(0<=i↔l.any p=true):=by
 unfold BIG at hF;have b:∀ (n i:Nat),i<=l.length->l.length-i<n->∃ r:Int,Q9 (fun again (z:Int)=>U7 F l q again z) n (i:Int)=some r/\(0<=r↔(l.drop i).any p=true):=by
  intro n
  induction n with
  | zero=>intro i _ h;omega
  | succ n ih=>
   intro i m j;have g:Q9 (fun again (z:Int)=>U7 F l q again z) (n+1) (i:Int)=U7 F l q (Q9 (fun again (z:Int)=>U7 F l q again z) n) (i:Int):=rfl
   rw [g]
   by_cases h:i<l.length
   .rw [Y3g h]
    by_cases a:p (gl l i)=true
    .refine ⟨i,?_,by rw [a];simp⟩
     unfold U7;refine Z6 (Z0x h) ?_
     refine Z3 (k:=?_);exact Q2 (hq _ (V4 h)) (Z6 a rfl)
    .have a:p (gl l i)=false:=by simpa using a
     obtain ⟨r,e,c⟩:=ih (i+1) h (by omega);refine ⟨r,?_,by rw [c,a];simp⟩
     unfold U7;refine Z6 (Z0x h) ?_
     refine Z3 (k:=?_);refine Q2 (hq _ (V4 h)) (Q7 a ?_)
     refine Z3 (k:=?_);exact e
   .have:i=l.length:=by omega
    subst this;refine ⟨-1,?_,by simp⟩
    unfold U7;exact Q7 (Q2W _) rfl
 obtain ⟨r,f,d⟩:=b F 0 (Nat.zero_le _) (by omega);exact ⟨r,f,by simpa using d⟩
theorem Q1B{F:Nat}(hF:BIG<=F){l:List Rect}{q:Rect->Option Bool}(p:Rect->Bool)(hl:l.length<=1000000000)(hq:∀ r ∈ l,q r=some (p r)):G3 F l q=some (l.any p):=by
 obtain ⟨i,b,a⟩:=Z2P hF p hl hq;unfold G3
 refine Q2 b ?_;congr 1
 rw [Bool.eq_iff_iff, <-a,decide_eq_true_iff]
theorem Y0a(F:Nat)(r:Rect):Q9q F r=some (Q1y r):=by
 unfold Q9q;rw [Q4b (J1 F),Q4b (J1 F),Q4b (J1 F),Q4b (J1 F),Q4b (J1 F)]
 rfl
theorem Q0q{F:Nat}(hF:BIG<=F)(a:Re_):Q0r F a=some (Q3m a.t_):=by
 obtain ⟨l⟩:=a;simp only
 unfold Q0r;have b:=hF
 unfold BIG at hF;refine Q4 (fun h=>?_) (fun h=>?_)
 .have h:120<l.length:=by simp at h;omega
  rw [Q8H fun c=>by have:=c.1;omega];rfl
 .have h:l.length<=120:=by simp at h;omega
  refine Q2 (Q1B b (fun r=> !Q1y r) (by simp only;omega) (fun r _=>by unfold Z1A;rw [Y0a];rfl)) ?_;unfold Q6M
  refine Q4 (fun e=>?_) (fun e=>?_)
  .rw [Q8H fun c=>?_]
   simp only [List.any_eq_true] at e;obtain ⟨r,d,f⟩:=e
   rw [c.2.1 r d] at f;cases f
  .have g:∀ r ∈ l,Q1y r=true:=by
    intro r d;have:=List.any_eq_false.1 e r d
    simpa using this
   refine Q2 (Z0G b (by simp only;omega) (fun r d=>((Q0n r).1 (g r d)).2.1)) ?_;refine Q2 (Z5v b (by unfold LIM;simp only;omega)) ?_
   simp only
   by_cases hc:cn (inR l)=l
   .rw [decide_eq_true hc,Q3l ⟨h,g,(Z1p l).2 hc⟩]
   .rw [decide_eq_false hc,Q8H fun c=>hc ((Z1p l).1 c.2.2)]
def Z1k{α:Type}(p:α->Bool)(l:List α):Int:=if l.any p then (l.findIdx p:Int) else -1
theorem Z4v{α:Type}[Emb α]{l:List α}{p:α->Bool}{i:Nat}(h:i<l.length)(hb:∀ j,j<i->p (gl l j)=false)(hi:p (gl l i)=true):l.findIdx p=i:=by
 induction l generalizing i with
 | nil=>simp at h
 | cons a l ih=>
  rw [List.findIdx_cons]
  cases i with
  | zero=>
   have:p a=true:=hi
   rw [this];rfl
  | succ i=>
   have b:p a=false:=hb 0 (by omega);rw [b]
   have:=ih (i:=i) (by simpa using h) (fun j c=>hb (j+1) (by omega)) hi
   simp [this]
theorem Q6E{α:Type}[Emb α]{l:List α}{p:α->Bool}(h:∀ j,j<l.length->p (gl l j)=false):l.any p=false:=by
 rw [List.any_eq_false];intro x b
 obtain ⟨j,a,rfl⟩:=List.getElem_of_mem b;have:=h j a
 rw [y5 a] at this;simpa using this
theorem Z0S{F:Nat}(hF:BIG<=F){l:List A2_}{q:A2_->Option Bool}(p:A2_->Bool)(hl:l.length<=1000000000)(hq:∀ r ∈ l,q r=some (p r)):Q1c F l q=some (Z1k p l):=by
 unfold BIG at hF;unfold Q1c
 refine W4 (fun z:Int=>∃ i:Nat,z=i/\i<=l.length/\∀ j,j<i->p (gl l j)=false) (fun z=>l.length-z.toNat) (fun d z g m=>?_) ⟨0,rfl,by omega,fun j f=>by omega⟩ (by simp;omega);obtain ⟨i,rfl,n,c⟩:=g
 unfold Q4L;refine Q4 (fun h=>?_) (fun h=>?_)
 .have h:i<l.length:=by simpa using h
  refine Z3 (k:=?_);refine Q2 (hq _ (V4 h)) ?_
  simp only [Int.toNat_natCast];refine Q4 (fun a=>?_) (fun a=>?_)
  .have b:l.any p=true:=List.any_eq_true.2 ⟨_,V4 h,a⟩
   rw [Z1k,if_pos b,Z4v h c a]
  .refine Z3 (k:=?_)
   refine m _ ⟨i+1,by omega,h,fun j f=>?_⟩ (by omega);rcases Nat.lt_or_ge j i with e|e
   .exact c j e
   .have:j=i:=by omega
    subst this;exact a
 .have h:¬ i<l.length:=by simpa using h
  have:i=l.length:=by omega
  subst this;have b:=Q6E c
  rw [Z1k,b];rfl
theorem Z0i{F:Nat}(hF:BIG<=F){l:List A2_}{q:A2_->Option Bool}(p:A2_->Bool)(hl:l.length<=1000000000)(hq:∀ r ∈ l,q r=some (p r)):Q0P F l q=some (l.filter fun r=> !p r):=by
 have y:=hF;unfold BIG at hF
 unfold Q0P;refine Q2 (Z0S y p hl hq) ?_
 by_cases g:l.any p=true
 .obtain ⟨x,n,v⟩:=List.any_eq_true.1 g
  have f:l.findIdx p<l.length:=List.findIdx_lt_length_of_exists ⟨x,n,v⟩;have B:p (gl l (l.findIdx p))=true:=by rw [y5 f];exact List.findIdx_getElem (w:=f)
  have t:∀ j,j<l.findIdx p->p (gl l j)=false:=by
   intro j s;rw [y5 (by omega)]
   simpa using List.not_of_lt_findIdx s
  rw [Z1k,if_pos g];refine Q7 (by simp) ?_
  refine Z3 (k:=?_);generalize l.findIdx p=i0 at *
  have H:(l.take (i0+1)).filter (fun r=> !p r)=l.take i0:=by
   rw [J6 f,List.filter_append];have I:(l.take i0).filter (fun r=> !p r)=l.take i0:=by
    rw [List.filter_eq_self];intro x n
    obtain ⟨j,s,rfl⟩:=List.getElem_of_mem n;have C : j<i0:=by simp at s;omega
    have:=t j C
    rw [y5 (by omega)] at this;simp [this]
   rw [I];simp [B]
  refine W4 (fun z:Int×Int×List A2_=>∃ (i j:Nat) (a:List A2_),z=((i:Int),(j:Int),a)/\i<j/\j<=l.length/\a.length=l.length/\(∀ m,j<=m->gl a m=gl l m)/\a.take i=(l.take j).filter fun r=> !p r)
   (fun z=>l.length-z.2.1.toNat) (fun A z E u=>?_) ⟨i0,i0+1,l,rfl,by omega,by omega,rfl,fun _ _=>rfl,H.symm⟩ (by simp only;omega)
  obtain ⟨i,j,a,rfl,D,s,c,e,d⟩:=E;simp only at u ⊢
  unfold Q4d;rw [c]
  refine Q4 (fun h=>?_) (fun h=>?_)
  .have h:j<l.length:=by simpa using h
   refine Z3 (k:=?_);simp only [Int.toNat_natCast]
   rw [e j (Nat.le_refl _)];refine Q2 (hq _ (V4 h)) ?_
   have o:(l.take (j+1)).filter (fun r=> !p r)=(l.take j).filter (fun r=> !p r)++(if p (gl l j)=true then [] else [gl l j]):=by
    rw [J6 h,List.filter_append]
    by_cases b:p (gl l j)=true
    .rw [if_pos b];simp [b]
    .rw [if_neg b];simp [b]
   refine Q4 (fun b=>?_) (fun b=>?_)
   .have b:p (gl l j)=false:=by simpa using b
    refine Z3 (k:=?_);refine Z3 (k:=?_)
    unfold K7;refine Z3 (k:=?_)
    refine u _ ⟨i+1,j+1,a.set i (gl l j),rfl,by omega,by omega,by simp [c],fun m G=>?_,?_⟩ (by simp only;omega)
    .rw [Y0x _ _ _ _ (by omega),if_neg (by omega)];exact e m (by omega)
    .rw [o,if_neg (by rw [b];simp), <-d,J6 (by simp;omega),Z5s _ _ _ _ (Nat.le_refl _),Y0x _ _ _ _ (by omega),if_pos rfl]
   .have b:p (gl l j)=true:=by simpa using b
    unfold K7;refine Z3 (k:=?_)
    refine u _ ⟨i,j+1,a,rfl,by omega,by omega,c,fun m G=>e m (by omega),?_⟩ (by simp only;omega);rw [o,if_pos b,List.append_nil,d]
  .have h:¬ j<l.length:=by simpa using h
   unfold Q1p;simp only [Int.toNat_natCast,Y5b,c]
   refine Z3 (k:=?_);refine Z3 (k:=?_)
   rw [Y1W _ _ _ (by omega),d,List.take_of_length_le (by omega)]
 .have g:l.any p=false:=by simpa using g
  rw [Z1k,g];refine Z6 rfl ?_
  congr 1
  symm
  rw [List.filter_eq_self];intro x n
  have:=List.any_eq_false.1 g x n
  simpa using this
theorem Q9Q{F:Nat}{l:List Rect}(hl:l.length<=LIM):Q2F F l=some l:=by
 unfold Q2F
 cases h:l with
 | nil=>
  show gdc _ _=_;unfold gdc
  exact @Q6 _ _ (Classical.propDecidable _) _ _ rfl rfl
 | cons a l' =>
  have:(a::l').length=l'.length+1:=rfl
  show (gd _ _)=_;rw [<-h]
  refine Z3 (k:=?_);simp
noncomputable def Z3z(f:A2_):Int:=
 if f.N_<1\/1073741824<f.N_ then 2 else if f.k_<0\/15<f.k_ then 14 else if f.F_<0\/f.u_<=f.F_\/36865<f.u_ then 9
 else if f.g_.t_.length=0\/Q3m f.g_.t_=false then 7 else 0
theorem Z9g{F:Nat}(hF:BIG<=F)(f:A2_):Z3t F f=some (Z3z f):=by
 have e:∀ b:Bool,(b=true↔f.g_.t_.length=0\/Q3m f.g_.t_=false)->Q5I F b=some (if f.g_.t_.length=0\/Q3m f.g_.t_=false then 7 else 0):=by
  intro b a;unfold Q5I
  refine Q4 (fun h=>by rw [if_pos (a.1 h)]) (fun h=>by rw [if_neg fun c=>by rw [a.2 c] at h;cases h])
 have d:∀ b:Bool,(b=true↔f.F_<0\/f.u_<=f.F_\/36865<f.u_)->Q2J F f b=some (if f.F_<0\/f.u_<=f.F_\/36865<f.u_ then 9 else if f.g_.t_.length=0\/Q3m f.g_.t_=false then 7 else 0):=by
  intro b a;unfold Q2J
  refine Q4 (fun h=>by rw [if_pos (a.1 h)]) (fun h=>?_);rw [if_neg fun c=>by rw [a.2 c] at h;cases h]
  refine Q2 (Q2d hF _) ?_;rw [Q7p (Q5I F)]
  exact e _ (by simp [or_comm])
 have g:∀ b:Bool,(b=true↔f.k_<0\/15<f.k_)->Q2K F f b=some (if f.k_<0\/15<f.k_ then 14 else if f.F_<0\/f.u_<=f.F_\/36865<f.u_ then 9 else if f.g_.t_.length=0\/Q3m f.g_.t_=false then 7 else 0):=by
  intro b a;unfold Q2K
  refine Q4 (fun h=>by rw [if_pos (a.1 h)]) (fun h=>?_);rw [if_neg fun c=>by rw [a.2 c] at h;cases h]
  rw [Q7p (Q2J F f),Q7p (Q2J F f)];exact d _ (by simp)
 unfold Z3t Z1g Z3z;rw [Q7p (fun b=>br b (some (2:Int)) (br (decide (f.k_<(0:Int))) (Q2K F f true) (Q2K F f (decide ((15:Int)<f.k_)))))]
 refine Q4 (fun h=>by rw [if_pos (by simpa using h)]) (fun h=>?_);rw [if_neg (by simpa using h),Q7p (Q2K F f)]
 exact g _ (by simp)
theorem Z9C{F:Nat}(hF:BIG<=F)(f:A2_):Q8m F f=some (Z3z f):=by
 have e:∀ b:Bool,(b=true↔f.g_.t_.length=0\/Q3m f.g_.t_=false)->Q2P F b=some (if f.g_.t_.length=0\/Q3m f.g_.t_=false then 7 else 0):=by
  intro b c;unfold Q2P
  refine Q4 (fun h=>by rw [if_pos (c.1 h)]) (fun h=>by rw [if_neg fun d=>by rw [c.2 d] at h;cases h])
 have g:∀ b:Bool,(b=true↔f.F_<0\/f.u_<=f.F_\/36865<f.u_)->Q0k F f b=some (if f.F_<0\/f.u_<=f.F_\/36865<f.u_ then 9 else if f.g_.t_.length=0\/Q3m f.g_.t_=false then 7 else 0):=by
  intro b c;unfold Q0k
  refine Q4 (fun h=>by rw [if_pos (c.1 h)]) (fun h=>?_);rw [if_neg fun d=>by rw [c.2 d] at h;cases h]
  refine Q4 (fun a=>?_) (fun a=>?_)
  .have a:f.g_.t_.length=0:=by simp at a;simp [a]
   exact e _ (by simp [a])
  .have a:f.g_.t_.length≠0:=by simp at a;simpa using a
   exact Q2 (Q0q hF _) (e _ (by simp [a]))
 have i:∀ b:Bool,(b=true↔f.k_<0\/15<f.k_)->Q0l F f b=some (if f.k_<0\/15<f.k_ then 14 else if f.F_<0\/f.u_<=f.F_\/36865<f.u_ then 9 else if f.g_.t_.length=0\/Q3m f.g_.t_=false then 7 else 0):=by
  intro b c;unfold Q0l
  refine Q4 (fun h=>by rw [if_pos (c.1 h)]) (fun h=>?_);rw [if_neg fun d=>by rw [c.2 d] at h;cases h]
  rw [Q7p (Q0k F f),Q7p (Q0k F f)];exact g _ (by simp)
 unfold Q8m Q5b Z3z;rw [Q7p (fun b=>br b (some (2:Int)) (br (decide (f.k_<(0:Int))) (Q0l F f true) (Q0l F f (decide ((15:Int)<f.k_)))))]
 refine Q4 (fun h=>by rw [if_pos (by simpa using h)]) (fun h=>?_);rw [if_neg (by simpa using h),Q7p (Q0l F f)]
 exact i _ (by simp)
noncomputable def Z3P:Option Int->List A2_->Int
 | _,[]=>0
 | p,f::l=>if Z3z f≠0 then Z3z f else if p.any (fun n=>decide (f.N_<=n)) then 3 else Z3P (some f.N_) l
noncomputable def Q8s(l:List A2_):Int:=if 60<l.length then 1 else Z3P none l
def Z7O(l:List A2_)(i:Nat):Option Int:=if i=0 then none else some (gl l (i-1)).N_
theorem Y2B(l:List A2_)(i:Nat):Z7O l (i+1)=some (gl l i).N_:=by simp [Z7O]
theorem Z5U{F:Nat}(hF:BIG<=F)(l:List A2_):Q9U F l=some (Q8s l):=by
 have m:=hF;unfold BIG at hF
 unfold Q9U Q8s;refine Q4 (fun h=>?_) (fun h=>?_)
 .have h:60<l.length:=by simp at h;omega
  rw [if_pos h]
 .have h:¬ 60<l.length:=by simp at h;omega
  rw [if_neg h];refine W4 (fun z:Int=>∃ i:Nat,z=i/\i<=l.length/\Z3P none l=Z3P (Z7O l i) (l.drop i)) (fun z=>l.length-z.toNat) (fun e z p q=>?_) ⟨0,rfl,by omega,rfl⟩ (by simp;omega)
  obtain ⟨i,rfl,s,a⟩:=p;unfold Z5W
  refine Q4 (fun d=>?_) (fun d=>?_)
  .have d:i<l.length:=by simpa using d
   rw [Q1D d,Z3P] at a;refine Z3 (k:=?_)
   simp only [Int.toNat_natCast];refine Q2 (Z9g m _) ?_
   refine Q4 (fun c=>?_) (fun c=>?_)
   .have c:Z3z (gl l i)≠0:=by simpa using c
    rw [a,if_pos c]
   .have c:Z3z (gl l i)=0:=by simpa using c
    rw [if_neg (by simp [c])] at a;have o:∀ b:Bool,b=(Z7O l i).any (fun n=>decide ((gl l i).N_<=n))->Q5r F i e b=some (Z3P none l):=by
     intro b g;unfold Q5r
     refine Q4 (fun j=>?_) (fun j=>?_)
     .rw [a,if_pos (g ▸ j)]
     .rw [if_neg (by rw [<-g,j];simp)] at a
      refine Z3 (k:=?_);refine q _ ⟨i+1,by omega,d,?_⟩ (by omega)
      rw [a,Y2B]
    refine Q4 (fun f=>?_) (fun f=>?_)
    .have f:0<i:=by simpa using f
     refine Z3 (k:=?_);refine Z3 (k:=?_)
     have r:((i:Int)-1).toNat=i-1:=by omega
     rw [r];exact o _ (by simp [Z7O,show i≠0 from by omega])
    .have f:i=0:=by simp at f;omega
     exact o _ (by simp [Z7O,f])
  .have d:¬ i<l.length:=by simpa using d
   rw [List.drop_of_length_le (by omega)] at a;rw [a];rfl
theorem Y0C{F:Nat}(hF:BIG<=F)(l:List A2_):Q9C F l=some (Q8s l):=by
 have m:=hF;unfold BIG at hF
 unfold Q9C Q8s;refine Q4 (fun h=>?_) (fun h=>?_)
 .have h:60<l.length:=by simp at h;omega
  rw [if_pos h]
 .have h:¬ 60<l.length:=by simp at h;omega
  rw [if_neg h];refine W4 (fun z:Int=>∃ i:Nat,z=i/\i<=l.length/\Z3P none l=Z3P (Z7O l i) (l.drop i)) (fun z=>l.length-z.toNat) (fun e z p q=>?_) ⟨0,rfl,by omega,rfl⟩ (by simp;omega)
  obtain ⟨i,rfl,s,a⟩:=p;unfold Z3J
  refine Q4 (fun d=>?_) (fun d=>?_)
  .have d:i<l.length:=by simpa using d
   rw [Q1D d,Z3P] at a;refine Z3 (k:=?_)
   simp only [Int.toNat_natCast];refine Q2 (Z9C m _) ?_
   refine Q4 (fun c=>?_) (fun c=>?_)
   .have c:Z3z (gl l i)≠0:=by simpa using c
    rw [a,if_pos c]
   .have c:Z3z (gl l i)=0:=by simpa using c
    rw [if_neg (by simp [c])] at a;have o:∀ b:Bool,b=(Z7O l i).any (fun n=>decide ((gl l i).N_<=n))->Q3H F i e b=some (Z3P none l):=by
     intro b g;unfold Q3H
     refine Q4 (fun j=>?_) (fun j=>?_)
     .rw [a,if_pos (g ▸ j)]
     .rw [if_neg (by rw [<-g,j];simp)] at a
      refine Z3 (k:=?_);refine q _ ⟨i+1,by omega,d,?_⟩ (by omega)
      rw [a,Y2B]
    refine Q4 (fun f=>?_) (fun f=>?_)
    .have f:0<i:=by simpa using f
     refine Z3 (k:=?_);refine Z3 (k:=?_)
     have r:((i:Int)-1).toNat=i-1:=by omega
     rw [r];exact o _ (by simp [Z7O,show i≠0 from by omega])
    .have f:i=0:=by simp at f;omega
     exact o _ (by simp [Z7O,f])
  .have d:¬ i<l.length:=by simpa using d
   rw [List.drop_of_length_le (by omega)] at a;rw [a];rfl
structure VL (l:List A2_):Prop where
 len:l.length<=60
 one:∀ f ∈ l,Z3z f=0
 asc:l.Pairwise fun f g=>f.N_<g.N_
theorem Y3a:∀ (l:List A2_) (p:Option Int),Z3P p l=0↔(∀ f ∈ l,Z3z f=0)/\l.Pairwise (fun f g=>f.N_<g.N_)/\∀ n,p=some n->∀ f ∈ l,n<f.N_
 | [],p=>by simp [Z3P]
 | f::l,p=>by
  have m:=Y3a l (some f.N_);unfold Z3P
  by_cases h1:Z3z f=0
  .rw [if_neg (by simp [h1])]
   by_cases e:p.any (fun n=>decide (f.N_<=n))=true
   .rw [if_pos e]
    constructor
    .intro h;cases h
    .rintro ⟨_,_,h⟩
     cases p with
     | none=>simp at e
     | some n=>
      have e:f.N_<=n:=by simpa using e
      have:=h n rfl f (by simp)
      omega
   .rw [if_neg e,m]
    constructor
    .rintro ⟨a,b,c⟩
     refine ⟨fun g d=>?_,List.pairwise_cons.2 ⟨fun g d=>c _ rfl g d,b⟩,fun n i g d=>?_⟩
     .rcases List.mem_cons.1 d with rfl|d
      .exact h1
      .exact a g d
     .subst i
      have e:n<f.N_:=by simpa using e
      rcases List.mem_cons.1 d with rfl|d
      .exact e
      .have:=c _ rfl g d;omega
    .rintro ⟨a,b,c⟩
     obtain ⟨k,j⟩:=List.pairwise_cons.1 b;exact ⟨fun g d=>a g (by simp [d]),j,fun n i g d=>by cases i;exact k g d⟩
  .rw [if_pos h1]
   constructor
   .intro h;exact absurd h h1
   .rintro ⟨a,_,_⟩;exact absurd (a f (by simp)) h1
theorem Z1o(l:List A2_):Q8s l=0↔VL l:=by
 unfold Q8s
 by_cases h:60<l.length
 .rw [if_pos h]
  exact ⟨fun h=>(by cases h),fun c=>by have:=c.len;omega⟩
 .rw [if_neg h,Y3a]
  exact ⟨fun ⟨a,b,_⟩=>⟨by omega,a,b⟩,fun c=>⟨c.one,c.asc,fun n d=>by cases d⟩⟩
theorem Z6U(f:A2_):Z3z f=0↔1<=f.N_/\f.N_<=1073741824/\0<=f.k_/\f.k_<=15/\0<=f.F_/\f.F_<f.u_/\f.u_<=36865/\f.g_.t_.length≠0/\Val f.g_.t_:=by
 unfold Z3z;rw [<-Q0Q]
 by_cases h1:f.N_<1\/1073741824<f.N_
 .rw [if_pos h1];simp;omega
 .rw [if_neg h1]
  by_cases h2:f.k_<0\/15<f.k_
  .rw [if_pos h2];simp;omega
  .rw [if_neg h2]
   by_cases h3:f.F_<0\/f.u_<=f.F_\/36865<f.u_
   .rw [if_pos h3];simp;omega
   .rw [if_neg h3]
    by_cases a:f.g_.t_.length=0\/Q3m f.g_.t_=false
    .rw [if_pos a]
     constructor
     .intro h;cases h
     .rintro ⟨_,_,_,_,_,_,_,c,b⟩
      rcases a with a|a
      .exact absurd a c
      .rw [b] at a;cases a
    .rw [if_neg a]
     refine ⟨fun _=>?_,fun _=>rfl⟩;have c:f.g_.t_.length≠0:=fun h=>a (.inl h)
     have b:Q3m f.g_.t_=true:=by
      cases hv:Q3m f.g_.t_ with
      | true=>rfl
      | false=>exact absurd (.inr hv) a
     refine ⟨by omega,by omega,by omega,by omega,by omega,by omega,by omega,c,b⟩
theorem Z9D{F:Nat}{f:A2_}(h:f.g_.t_.length<=LIM):Q8n F f=some f:=by
 unfold Q8n;exact Q2 (Q9Q h) rfl
theorem VL.rlen{l:List A2_}(h:VL l){f:A2_}(hf:f ∈ l):f.g_.t_.length<=120:=((Z6U f).1 (h.one f hf)).2.2.2.2.2.2.2.2.1
theorem Y2Q{F:Nat}(hF:BIG<=F){l:List A2_}(h:VL l):Z2G F l=some l:=by
 unfold BIG at hF;have c:=h.len
 unfold Z2G;refine W4 (fun z:Int×List A2_=>∃ i:Nat,z=((i:Int),l.take i)/\i<=l.length) (fun z=>l.length-z.1.toNat) (fun b z e d=>?_) ⟨0,rfl,by omega⟩ (by simp only;omega)
 obtain ⟨i,rfl,f⟩:=e;simp only at d ⊢
 unfold Z6u;refine Q4 (fun a=>?_) (fun a=>?_)
 .have a:i<l.length:=by simpa using a
  refine Z3 (k:=?_);simp only [Int.toNat_natCast]
  refine Q2 (Z9D (by have:=h.rlen (V4 a);unfold LIM;omega)) ?_;refine Z3 (k:=?_)
  refine Z3 (k:=?_);exact d _ ⟨i+1,by rw [J6 a];rfl,a⟩ (by simp only;omega)
 .have a:¬ i<l.length:=by simpa using a
  unfold Z2c;rw [List.take_of_length_le (by omega)]
def Z2M(f:A2_)(d:Int):Bool:=decide (f.F_<=d)&&decide (d<f.u_)
theorem Z3G(F:Nat)(f:A2_)(d:Int):Q6A F f d=some (Z2M f d):=by
 unfold Q6A;rw [Q4b (Q5T F)];rfl
theorem Y0A{F:Nat}(hF:BIG<=F)(l:List A2_)(d:Int):Q9B F l d=some (if Q8s l≠0 then Q8s l else if d<0\/36864<d then 9 else 0):=by
 unfold Q9B;refine Q2 (Y0C hF l) ?_
 refine Q4 (fun h=>?_) (fun h=>?_)
 .have h:Q8s l≠0:=by simpa using h
  rw [if_pos h]
 .have h:Q8s l=0:=by simpa using h
  rw [if_neg (by simp [h]),Q7p (Q3E F)];unfold Q3E
  refine Q4 (fun h=>?_) (fun h=>?_)
  .rw [if_pos (by simpa using h)]
  .rw [if_neg (by simpa using h)]
theorem Z7T{F:Nat}(hF:BIG<=F)(l:List A2_)(d:Int):Z2e F l d=some (if Q8s l≠0 then ([],Q8s l) else if d<0\/36864<d then ([],9) else (l.filter fun f=>Z2M f d,0)):=by
 unfold Z2e;refine Q2 (Y0A hF l d) ?_
 by_cases h:Q8s l=0
 .simp only [h,ne_eq,not_true_eq_false,if_false]
  by_cases h2:d<0\/36864<d
  .simp only [h2,if_true]
   exact Z6 rfl rfl
  .simp only [h2,if_false]
   refine Q7 rfl ?_;have a:=(Z1o l).1 h
   refine Q2 (Y2Q hF a) ?_;have b:=a.len
   refine Q2 (Z0i hF (fun f=> !Z2M f d) (by omega) (fun f _=>by unfold Z4y;rw [Z3G];rfl)) ?_;simp
 .have e:(if Q8s l≠0 then Q8s l else if d<0\/36864<d then 9 else 0)=Q8s l:=if_pos h
  rw [e,if_pos h];refine Z6 (by simpa using h) rfl
def Q4T(l:List A2_)(n:Int):Nat:=l.countP fun f=>decide (f.N_<n)
theorem Z8m{l:List A2_}(h:l.Pairwise fun f g=>f.N_<g.N_)(n:Int):Q4T l n<=l.length/\(∀ j,j<Q4T l n->(gl l j).N_<n)/\∀ j,Q4T l n<=j->j<l.length->n<=(gl l j).N_:=by
 induction l with
 | nil=>exact ⟨Nat.le_refl _,fun j i=>by simp [Q4T] at i,fun j _ i=>by simp at i⟩
 | cons f l ih=>
  obtain ⟨p,k⟩:=List.pairwise_cons.1 h;obtain ⟨a,b,c⟩:=ih k
  by_cases hf:f.N_<n
  .have e:Q4T (f::l) n=Q4T l n+1:=by simp [Q4T,hf]
   rw [e];refine ⟨by simp;exact a,fun j i=>?_,fun j i d=>?_⟩
   .cases j with
    | zero=>exact hf
    | succ j=>exact b j (by omega)
   .cases j with
    | zero=>omega
    | succ j=>exact c j (by omega) (by simpa using d)
  .have o:Q4T l n=0:=by
    unfold Q4T;rw [List.countP_eq_zero]
    intro g m;have:=p g m
    simp;omega
   have e:Q4T (f::l) n=0:=by
    have:Q4T (f::l) n=Q4T l n:=by simp [Q4T,hf]
    rw [this,o]
   rw [e];refine ⟨Nat.zero_le _,fun j i=>by omega,fun j _ d=>?_⟩
   cases j with
   | zero=>show n<=f.N_;omega
   | succ j=>exact c j (by omega) (by simpa using d)
theorem Y3w{F:Nat}(hF:BIG<=F){a b:Re_}(h:b.t_.length<=LIM):Q7d F a b=some (decide (a.t_=b.t_)):=by
 unfold Q7d;exact Q2 (Z5Y hF h) rfl
structure TOk (t:Tape):Prop where
 at_:0<=t.at_
 len:t.l_.length<=400
theorem Y5R{F:Nat}(a:Int){n:Int}(h1:1<=n)(h2:n<=1099511627776):∃ k,Z1Y F a n=some k/\0<=k/\k<n:=by
 have c:=Int.tmod_lt_of_pos a (show 0<n by omega);have b:=Int.lt_tmod_of_pos a (show 0<n by omega)
 unfold Z1Y;generalize a.tmod n=m at *
 by_cases h:m<0
 .refine ⟨m+n,?_,by omega,by omega⟩
  refine Q7 (by simp;omega) ?_;refine Z3 (k:=?_)
  refine Z6 (by simpa using h) ?_;refine Z3 (k:=?_)
  rfl
 .refine ⟨m,?_,by omega,by omega⟩
  refine Q7 (by simp;omega) ?_;refine Z3 (k:=?_)
  exact Q7 (by simpa using h) rfl
theorem Z5{F:Nat}{t:Tape}(ht:TOk t){n:Int}(h1:1<=n)(h2:n<=1099511627776):∃ t' k,Z8 F t n=some (t',k)/\TOk t' /\ 0<=k/\k<n:=by
 obtain ⟨a,b⟩:=ht;unfold Z8
 by_cases h:(t.l_.length:Int)<=t.at_
 .exact ⟨t,0,Z6 (by simpa using h) rfl,⟨a,b⟩,by omega,by omega⟩
 .obtain ⟨k,c,k1,k2⟩:=Y5R (F:=F) (gl t.l_ ((t.at_+1)-1).toNat) h1 h2
  refine ⟨⟨t.l_,t.at_+1⟩,k,?_,⟨by simp only;omega,b⟩,k1,k2⟩;refine Q7 (by simpa using h) ?_
  refine Z3 (k:=?_);refine Z3 (k:=?_)
  refine Z3 (k:=?_);exact Q2 c rfl
theorem U3{F:Nat}{t:Tape}(ht:TOk t){lo hi:Int}(h1:lo<=hi)(h0 : -1099511627<=lo)(h2:hi<=1099511627):∃ t' k,V9 F t lo hi=some (t',k)/\TOk t' /\ lo<=k/\k<=hi:=by
 obtain ⟨t',k,d,a,b,c⟩:=Z5 (F:=F) ht (n:=(hi-lo)+1) (by omega) (by omega);refine ⟨t',lo+k,?_,a,by omega,by omega⟩
 unfold V9;refine Z3 (k:=?_)
 refine Z3 (k:=?_);refine Q2 d ?_
 refine Z3 (k:=?_);rfl
def Box(n:Int)(l:List Rect):Prop:=∀ r ∈ l,0<=r.L_/\r.L_<r.R_/\r.R_<=n/\0<=r.w_/\r.w_<r.H_/\r.H_<=n
theorem Box.prop{n:Int}{l:List Rect}(h:Box n l)(hn:n<=16384):∀ r ∈ l,Q1y r=true:=fun r a=>(Q0n r).2 (by have:=h r a;omega)
theorem Box.in{n:Int}{l:List Rect}(h:Box n l){x y:Int}(hx:inR l x y=true):0<=x/\x<n/\0<=y/\y<n:=by
 obtain ⟨r,a,b⟩:=List.any_eq_true.1 hx;rw [y6] at b
 have:=h r a
 omega
theorem W0p{l:List (Rn (List Span))}{r:Rect}(h:r ∈ flat l):∃ b ∈ l,∃ s ∈ b.v,r=⟨s.L_,b.lo,s.R_,b.hi⟩:=by
 obtain ⟨b,d,c⟩:=List.mem_flatMap.1 h;obtain ⟨s,a,rfl⟩:=List.mem_map.1 c
 exact ⟨b,d,s,a,rfl⟩
theorem Q1O.pos{l:List Rect}(h:Q1O l){r:Rect}(hr:r ∈ l):r.L_<r.R_/\r.w_<r.H_:=by
 obtain ⟨b,d,rfl⟩:=h;obtain ⟨c,a,s,e,rfl⟩:=W0p hr
 exact ⟨(d.sp c a).pos s e,d.runs.pos c a⟩
theorem Z9x{l:List Rect}{r:Rect}(hr:r ∈ l){x y:Int}(h:r.has x y=true):inR l x y=true:=List.any_eq_true.2 ⟨r,hr,h⟩
theorem Q1O.box{l:List Rect}(h:Q1O l){n:Int}(hn:∀ x y,inR l x y=true->0<=x/\x<n/\0<=y/\y<n):Box n l:=by
 intro r c;obtain ⟨d,e⟩:=h.pos c
 have a:=hn r.L_ r.w_ (Z9x c ((y6 _ _ _).2 (by omega)));have b:=hn (r.R_-1) (r.H_-1) (Z9x c ((y6 _ _ _).2 (by omega)))
 omega
theorem Y7r{S:Int->Int->Bool}(hf:Fin S){n:Int}(hn:∀ x y,S x y=true->0<=x/\x<n/\0<=y/\y<n):Box n (cn S):=
 (Q1O.cn hf).box fun x y h=>hn x y (by rwa [Q2k hf] at h)
theorem Y4m:Q1O []:=⟨[],⟨.nil,fun b a=>(List.not_mem_nil a).elim,fun b a=>(List.not_mem_nil a).elim⟩,rfl⟩
theorem Y0I{r:Rect}(h1:r.L_<r.R_)(h2:r.w_<r.H_):Q1O [r]:=
 ⟨[⟨r.w_,r.H_,[⟨r.L_,r.R_⟩]⟩],⟨⟨fun b a=>by rw [List.mem_singleton.1 a];exact h2,List.pairwise_singleton _ _⟩,fun b a=>by
  rw [List.mem_singleton.1 a];exact ⟨fun s c=>by rw [List.mem_singleton.1 c];exact h1,List.pairwise_singleton _ _⟩,fun b a=>by rw [List.mem_singleton.1 a];simp⟩,rfl⟩
theorem Y8i(n:Int):Box n []:=fun r a=>(List.not_mem_nil a).elim
theorem Val.nil:Val []:=⟨by simp,fun r a=>(List.not_mem_nil a).elim,Y4m⟩
theorem Q8g{F:Nat}{t:Tape}(ht:TOk t){n:Int}(h1:1<=n)(h2:n<=16384):∃ t' r,Q2f F t n=some (t',r)/\TOk t' /\ Box n [r]:=by
 obtain ⟨A,x,j,g,w,o⟩:=Z5 (F:=F) ht (n:=n) (by omega) (by omega);obtain ⟨C,y,e,c,l,m⟩:=Z5 (F:=F) g (n:=n) (by omega) (by omega)
 obtain ⟨p,u,a,h,q,z⟩:=Z5 (F:=F) c (n:=n-x) (by omega) (by omega);obtain ⟨f,v,d,i,s,B⟩:=Z5 (F:=F) h (n:=n-y) (by omega) (by omega)
 refine ⟨f,⟨x,y,(x+1)+u,(y+1)+v⟩,?_,i,fun r b=>?_⟩
 .unfold Q2f
  refine Q2 j ?_;refine Q2 e ?_
  simp only
  refine Z3 (k:=?_);refine Z3 (k:=?_)
  refine Q2 a ?_;simp only
  refine Z3 (k:=?_);refine Z3 (k:=?_)
  refine Z3 (k:=?_);refine Q2 d ?_
  simp only
  refine Z3 (k:=?_);rfl
 .rw [List.mem_singleton.1 b]
  simp only
  omega
structure RegT (n:Int) (a:Re_):Prop where
 box:Box n a.t_
 val:Val a.t_
theorem Q9Z{F:Nat}(hF:BIG<=F){t:Tape}(ht:TOk t){n most:Int}(h1:1<=n)(h2:n<=16384)(m1:0<=most)(m2:most<=100):∃ t' a R,Q1Q F t n most=some (t',a)/\TOk t' /\ RegT n a/\(List.length (α:=Rect) R:Int)<=most/\inR a.t_=inR R:=by
 have o:=hF;unfold BIG at hF
 obtain ⟨E,c,A,u,H,I⟩:=Z5 (F:=F) ht (n:=most+1) (by omega) (by omega);have i:∀ (k f:Nat) (t:Tape) (l:List Rect),k<f->TOk t->Box n l->l.length+k<=100->(l.length:Int)+k<=most->∃ t' a R,Q9 (fun again (z:Int×List Int×Int×List Rect)=>Q0L F n again z.1 z.2.1 z.2.2.1 z.2.2.2) f ((k:Int),t.l_,t.at_,l)=some (t',a)/\TOk t' /\ RegT n a/\(List.length (α:=Rect) R:Int)<=most/\inR a.t_=inR R:=by
  intro k
  induction k with
  | zero=>
   intro f t l s ht e v D
   cases f with
   | zero=>omega
   | succ f=>
    have m:=Y5H o (l:=l) (by omega) (e.prop h2);refine ⟨⟨t.l_,t.at_⟩,(if 120<(cn (inR l)).length then ((⟨[]⟩:Re_),(1:Int)) else (⟨cn (inR l)⟩,0)).1,(if 120<(cn (inR l)).length then [] else l),?_,ht,?_⟩
    .show Q0L F n _ 0 t.l_ t.at_ l=_
     unfold Q0L;refine Q7 rfl ?_
     unfold Q6c;exact Q2 m rfl
    .split
     .exact ⟨⟨Y8i _,Val.nil⟩,by simp;omega,rfl⟩
     .rename_i p
      have b:Box n (cn (inR l)):=Y7r (W6 l) fun x y h=>e.in h
      exact ⟨⟨b,by simp only;omega,b.prop h2,Q1O.cn (W6 l)⟩,by omega,by funext x y;exact Q2k (W6 l) x y⟩
  | succ k ih=>
   intro f t l s ht e v D
   cases f with
   | zero=>omega
   | succ f=>
    obtain ⟨t',r,B,G,C⟩:=Q8g (F:=F) ht h1 h2;obtain ⟨w,a,Q,g,j,b⟩:=ih f t' (l++[r]) (by omega) G (fun q d=>by
     rcases List.mem_append.1 d with d|d
     .exact e q d
     .exact C q d) (by simp;omega) (by simp;omega)
    refine ⟨w,a,Q,?_,j,b⟩;show Q0L F n _ ((k+1:Nat):Int) t.l_ t.at_ l=_
    unfold Q0L;refine Z6 (by simp) ?_
    refine Q2 B ?_;refine Z3 (k:=?_)
    refine Z3 (k:=?_);have:((k+1:Nat):Int)-1=(k:Int):=by omega
    rw [this];exact g
 obtain ⟨t',a,Q,g,j,b⟩:=i c.toNat F E [] (by omega) u (Y8i _) (by simp;omega) (by simp;omega);refine ⟨t',a,Q,?_,j,b⟩
 unfold Q1Q;refine Z3 (k:=?_)
 refine Q2 A ?_;have:(c.toNat:Int)=c:=by omega
 rw [this] at g;exact g
theorem Z0L{F:Nat}(hF:BIG<=F){t:Tape}(ht:TOk t){n most:Int}(h1:1<=n)(h2:n<=16384)(m1:0<=most)(m2:most<=100):∃ t' a,Q1Q F t n most=some (t',a)/\TOk t' /\ RegT n a:=by
 obtain ⟨t',a,_,e,o,h,_⟩:=Q9Z hF ht h1 h2 m1 m2;exact ⟨t',a,e,o,h⟩
theorem Z8r{F:Nat}(hF:BIG<=F){t:Tape}(ht:TOk t){n most:Int}(h1:1<=n)(h2:n<=16384)(m1:1<=most)(m2:most<=100):∃ t' a R,Q2j F t n most=some (t',a)/\TOk t' /\ RegT n a/\a.t_.length≠0/\(List.length (α:=Rect) R:Int)<=most/\inR a.t_=inR R:=by
 obtain ⟨c,a,Q,f,d,g,k⟩:=Q9Z hF ht h1 h2 (by omega) m2;unfold Q2j
 by_cases h:a.t_.length=0
 .obtain ⟨e,r,i,j,b⟩:=Q8g (F:=F) d h1 h2
  have l:=b r (by simp);refine ⟨⟨e.l_,e.at_⟩,⟨[r]⟩,[r],?_,j,⟨b,by simp,b.prop h2,Y0I (by omega) (by omega)⟩,by simp,by simp;omega,rfl⟩
  refine Q2 f ?_;refine Z6 (by simp only [h];rfl) ?_
  exact Q2 i rfl
 .refine ⟨⟨c.l_,c.at_⟩,⟨a.t_⟩,Q,?_,d,g,h,k⟩
  refine Q2 f ?_;exact Q7 (by simpa using h) rfl
theorem Z9v{F:Nat}(hF:BIG<=F){t:Tape}(ht:TOk t){n most:Int}(h1:1<=n)(h2:n<=16384)(m1:0<=most)(m2:most<=100):∃ t' a,Q2j F t n most=some (t',a)/\TOk t' /\ RegT n a/\a.t_.length≠0:=by
 obtain ⟨c,a,f,d,g⟩:=Z0L hF ht h1 h2 m1 m2;unfold Q2j
 by_cases h:a.t_.length=0
 .obtain ⟨e,r,j,i,b⟩:=Q8g (F:=F) d h1 h2
  have k:=b r (by simp);refine ⟨⟨e.l_,e.at_⟩,⟨[r]⟩,?_,i,⟨b,by simp,b.prop h2,Y0I (by omega) (by omega)⟩,by simp⟩
  refine Q2 f ?_;refine Z6 (by simp only [h];rfl) ?_
  exact Q2 j rfl
 .refine ⟨⟨c.l_,c.at_⟩,⟨a.t_⟩,?_,d,g,h⟩
  refine Q2 f ?_;exact Q7 (by simpa using h) rfl
structure FeaT (f:A2_):Prop where
 kind:0<=f.k_/\f.k_<=15
 F_:0<=f.F_/\f.F_<20
 u_:f.F_<f.u_/\f.u_<=f.F_+30
 reg:RegT 9 f.g_
 ne:f.g_.t_.length≠0
theorem Z6m{F:Nat}(hF:BIG<=F){t:Tape}(ht:TOk t)(n:Int):∃ t' f,Q4X F t n=some (t',f)/\TOk t' /\ FeaT f/\f.N_=n:=by
 obtain ⟨z,a,q,m,y,A⟩:=Z5 (F:=F) ht (n:=20) (by omega) (by omega);obtain ⟨B,b,j,h,w,v⟩:=Z5 (F:=F) m (n:=16) (by omega) (by omega)
 obtain ⟨s,c,e,o,x,u⟩:=U3 (F:=F) h (lo:=1) (hi:=30) (by omega) (by omega) (by omega);obtain ⟨l,r,i,p,g,d⟩:=Z9v hF o (n:=9) (most:=2) (by omega) (by omega) (by omega) (by omega)
 refine ⟨l,⟨n,b,a,a+c,r⟩,?_,p,⟨by simp only;omega,by simp only;omega,by simp only;omega,g,d⟩,rfl⟩;unfold Q4X
 refine Q2 q ?_;refine Q2 j ?_
 refine Q2 e ?_;simp only
 refine Z3 (k:=?_);exact Q2 i rfl
theorem FeaT.one{f:A2_}(h:FeaT f)(h1:1<=f.N_)(h2:f.N_<=1073741824):Z3z f=0:=
 (Z6U f).2 ⟨h1,h2,h.kind.1,h.kind.2,h.F_.1,h.u_.1,by have:=h.F_;have:=h.u_;omega,h.ne,h.reg.val⟩
def Y5T(l:List A2_)(f:A2_):List A2_:=l.take (Q4T l f.N_)++[f]++l.drop (Q4T l f.N_)
noncomputable def Y7w(l:List A2_)(f:A2_):List A2_×Int:=
 if Q8s l≠0 then ([],Q8s l) else if Z3z f≠0 then ([],Z3z f) else if Q4T l f.N_<l.length/\(gl l (Q4T l f.N_)).N_=f.N_ then ([],6)
 else if l.length=60 then ([],1) else (Y5T l f,0)
theorem Z9h{F:Nat}(hF:BIG<=F)(l:List A2_)(f:A2_):Z6T F l f=some (Y7w l f):=by
 have n:=hF;unfold BIG at hF
 unfold Z6T Y7w;refine Q2 (Z5U n l) ?_
 by_cases h:Q8s l=0
 .refine Q7 (by simp [h]) ?_
  rw [if_neg (by simp [h])];refine Q2 (Z9g n f) ?_
  by_cases h1:Z3z f=0
  .refine Q7 (by simp [h1]) ?_
   rw [if_neg (by simp [h1])];have q:=(Z1o l).1 h
   have r:=q.len;obtain ⟨a,b,c⟩:=Z8m q.asc f.N_
   unfold Y5T;generalize Q4T l f.N_=k at *
   refine W4 (fun z:Int=>∃ i:Nat,z=i/\i<=k) (fun z=>l.length-z.toNat) (fun o z s t=>?_) ⟨0,rfl,by omega⟩ (by simp;omega);obtain ⟨i,rfl,v⟩:=s
   have j:i=k->Z1h F l f (i:Int)=some (if k<l.length/\(gl l k).N_=f.N_ then ([],6) else if l.length=60 then ([],1) else (l.take k++[f]++l.drop k,0)):=by
    rintro rfl;unfold Z1h
    have m:∀ b:Bool,(b=true↔i<l.length/\(gl l i).N_=f.N_)->Q7V F l f (i:Int) b=some (if i<l.length/\(gl l i).N_=f.N_ then ([],6) else if l.length=60 then ([],1) else (l.take i++[f]++l.drop i,0)):=by
     intro b p;unfold Q7V
     refine Q4 (fun h=>by rw [if_pos (p.1 h)]) (fun h=>?_);rw [if_neg fun u=>by rw [p.2 u] at h;cases h]
     refine Q4 (fun h=>?_) (fun h=>?_)
     .have h:l.length=60:=by simp at h;omega
      rw [if_pos h]
     .have h:l.length≠60:=by simp at h;omega
      rw [if_neg h];simp only [Int.toNat_natCast]
      refine Z3 (k:=?_);refine Z3 (k:=?_)
      refine Z3 (k:=?_);refine Z3 (k:=?_)
      refine Z3 (k:=?_);simp
    refine Q4 (fun d=>?_) (fun d=>?_)
    .have d:i<l.length:=by simpa using d
     refine Z3 (k:=?_);exact m _ (by simp [d])
    .have d:¬ i<l.length:=by simpa using d
     exact m _ (by simp [d])
   unfold Z9i;refine Q4 (fun d=>?_) (fun d=>?_)
   .have d:i<l.length:=by simpa using d
    refine Z3 (k:=?_);unfold Q7W
    simp only [Int.toNat_natCast];refine Q4 (fun g=>?_) (fun g=>?_)
    .have g:(gl l i).N_<f.N_:=by simpa using g
     refine Z3 (k:=?_);refine t _ ⟨i+1,by omega,?_⟩ (by omega)
     rcases Nat.lt_or_ge i k with e|e
     .exact e
     .have:=c i e d;omega
    .have g:¬ (gl l i).N_<f.N_:=by simpa using g
     refine j ?_;rcases Nat.lt_or_ge i k with e|e
     .exact absurd (b i e) g
     .omega
   .have d:¬ i<l.length:=by simpa using d
    unfold Q7W;exact Q7 rfl (j (by omega))
  .refine Z6 (by simpa using h1) ?_
   rw [if_pos h1]
 .refine Z6 (by simpa using h) ?_
  rw [if_pos h]
theorem Y5S{l:List A2_}{f g:A2_}:g ∈ Y5T l f↔g=f\/g ∈ l:=by
 unfold Y5T;constructor
 .intro h
  rcases List.mem_append.1 h with h|h
  .rcases List.mem_append.1 h with h|h
   .exact .inr (List.mem_of_mem_take h)
   .exact .inl (List.mem_singleton.1 h)
  .exact .inr (List.mem_of_mem_drop h)
 .rintro (rfl|h)
  .simp
  .rw [<-List.take_append_drop (Q4T l f.N_) l] at h
   rcases List.mem_append.1 h with h|h
   .simp [h]
   .simp [h]
theorem W1D{l:List A2_}{f:A2_}(hl:VL l)(hf:Z3z f=0)(hn:¬ (Q4T l f.N_<l.length/\(gl l (Q4T l f.N_)).N_=f.N_))(h60:l.length≠60):VL (Y5T l f):=by
 obtain ⟨a,b,c⟩:=Z8m hl.asc f.N_;have p:=hl.len
 refine ⟨by simp [Y5T];omega,fun g h=>?_,?_⟩
 .rcases Y5S.1 h with rfl|h
  .exact hf
  .exact hl.one g h
 .unfold Y5T
  generalize Q4T l f.N_=k at *;have v:∀ g ∈ l.take k,g.N_<f.N_:=by
   intro g h;obtain ⟨j,m,rfl⟩:=List.getElem_of_mem h
   have d : j<k:=by simp at m;omega
   have:=b j d
   rw [y5 (by omega)] at this;simpa using this
  have t:∀ g ∈ l.drop k,f.N_<g.N_:=by
   intro g h;obtain ⟨j,m,rfl⟩:=List.getElem_of_mem h
   have d : k+j<l.length:=by simp at m;omega
   have r:=c (k+j) (by omega) d;rw [y5 d] at r
   have z:(l[k+j]).N_≠f.N_:=by
    intro e;rcases Nat.eq_zero_or_pos j with rfl|n
    .exact hn ⟨by omega,by rw [y5 (by omega)];exact e⟩
    .have s:=c k (Nat.le_refl _) (by omega)
     rw [y5 (by omega)] at s;have A:=List.pairwise_iff_getElem.1 hl.asc k (k+j) (by omega) d (by omega)
     omega
   simp only [List.getElem_drop];omega
  have n:=hl.asc;rw [<-List.take_append_drop k l,List.pairwise_append] at n
  obtain ⟨q,w,u⟩:=n;rw [List.append_assoc,List.pairwise_append]
  refine ⟨q,List.pairwise_cons.2 ⟨t,w⟩,fun x o y i=>?_⟩;rcases List.mem_append.1 i with i|i
  .rw [List.mem_singleton.1 i];exact v x o
  .exact u x o y i
structure LayT (l:List A2_):Prop where
 vl:VL l
 fea:∀ f ∈ l,FeaT f/\1<=f.N_/\f.N_<=12
theorem Z8p{F:Nat}(hF:BIG<=F){t:Tape}(ht:TOk t){most:Int}(m1:0<=most)(m2:most<=50):∃ t' l,Q6S F t most=some (t',l)/\TOk t' /\ LayT l/\(l.length:Int)<=most:=by
 have e:=hF;unfold BIG at hF
 obtain ⟨J,c,G,D,L,N⟩:=Z5 (F:=F) ht (n:=most+1) (by omega) (by omega);have q:∀ (k f:Nat) (t:Tape) (l:List A2_),k<f->TOk t->LayT l->(l.length:Int)+k<=most->∃ t' l',Q9 (fun again (z:List A2_×Int×List Int×Int)=>Q0Y F again z.1 z.2.1 z.2.2.1 z.2.2.2) f (l,(k:Int),t.l_,t.at_)=some (t',l')/\TOk t' /\ LayT l' /\ (l'.length:Int)<=most:=by
  intro k
  induction k with
  | zero=>
   intro f t l i ht d E
   cases f with
   | zero=>omega
   | succ f=>exact ⟨⟨t.l_,t.at_⟩,l,rfl,ht,d,by omega⟩
  | succ k ih=>
   intro f t l i ht d E
   cases f with
   | zero=>omega
   | succ f=>
    obtain ⟨M,n,B,H,K,O⟩:=U3 (F:=F) ht (lo:=1) (hi:=12) (by omega) (by omega) (by omega);obtain ⟨w,g,u,A,v,I⟩:=Z6m e H n
    have o:=v.one (by omega) (by omega);have C:=(Z1o l).2 d.vl
    have y:((k+1:Nat):Int)-1=(k:Int):=by omega
    by_cases hadd:(Y7w l g).2=0
    .have m:LayT (Y7w l g).1/\(Y7w l g).1.length=l.length+1:=by
      unfold Y7w at hadd ⊢;rw [if_neg (by simp [C]),if_neg (by simp [o])] at hadd ⊢
      by_cases a:Q4T l g.N_<l.length/\(gl l (Q4T l g.N_)).N_=g.N_
      .rw [if_pos a] at hadd;cases hadd
      .rw [if_neg a] at hadd ⊢
       by_cases b:l.length=60
       .rw [if_pos b] at hadd;cases hadd
       .rw [if_neg b]
        refine ⟨⟨W1D d.vl o a b,fun x p=>?_⟩,?_⟩
        .rcases Y5S.1 p with rfl|p
         .exact ⟨v,by omega,by omega⟩
         .exact d.fea x p
        .have:=(Z8m d.vl.asc g.N_).1
         simp [Y5T];omega
     obtain ⟨s,r,a,b,h,j⟩:=ih f w (Y7w l g).1 (by omega) A m.1 (by omega);refine ⟨s,r,?_,b,h,j⟩
     show Q0Y F _ l ((k+1:Nat):Int) t.l_ t.at_=_;unfold Q0Y
     refine Z6 (by simp) ?_;refine Q2 B (Q2 u (Q2 (Z9h e l g) ?_))
     refine Z6 (by simpa using hadd) ?_;unfold Q2i
     refine Z3 (k:=?_);rw [y];exact a
    .obtain ⟨s,r,a,b,h,j⟩:=ih f w l (by omega) A d (by omega)
     refine ⟨s,r,?_,b,h,j⟩;show Q0Y F _ l ((k+1:Nat):Int) t.l_ t.at_=_
     unfold Q0Y;refine Z6 (by simp) ?_
     refine Q2 B (Q2 u (Q2 (Z9h e l g) ?_));refine Q7 (by simpa using hadd) ?_
     unfold Q2i;refine Z3 (k:=?_)
     rw [y];exact a
 obtain ⟨t',l,a,b,h,j⟩:=q c.toNat F J [] (by omega) D ⟨⟨by simp,fun f i=>(List.not_mem_nil i).elim,.nil⟩,fun f i=>(List.not_mem_nil i).elim⟩ (by simp;omega);refine ⟨t',l,?_,b,h,j⟩
 unfold Q6S;refine Z3 (k:=?_)
 refine Q2 G ?_;have:(c.toNat:Int)=c:=by omega
 rw [this] at a;exact a
theorem Y5Q(F:Nat)(l:List Int):∃ t,Z6o F l=some t/\TOk t:=by
 unfold Z6o;have h:Q5S ((l.length:Nat):Int) 400=((min l.length 400:Nat):Int):=by unfold Q5S;split <;> omega
 rw [h];refine ⟨⟨l.take (min l.length 400),0⟩,?_,by simp only;omega,by simp;omega⟩
 refine Z3 (k:=?_);simp
theorem W0o{R:Type}{body:(Int->Option R)->Int->Option R}{y:Option R}(N:Nat)(step:∀ again (i:Nat),i<N->again ((i:Int)+1)=y->body again (i:Int)=y)(stop:∀ again,body again (N:Int)=y){F:Nat}(hF:N<F):Q9 body F 0=y:=by
 refine W4 (fun z:Int=>∃ i:Nat,z=i/\i<=N) (fun z=>N-z.toNat) (fun again z a b=>?_) ⟨0,rfl,Nat.zero_le _⟩ (by simp;omega);obtain ⟨i,rfl,c⟩:=a
 rcases Nat.lt_or_ge i N with h|h
 .exact step again i h (b _ ⟨i+1,by omega,h⟩ (by omega))
 .have:i=N:=by omega
  subst this;exact stop again
theorem Runs.len{α:Type}{l:List (Rn α)}(h:Runs l){n:Int}:∀ {a:Int},a<=n->(∀ r ∈ l,a<=r.lo/\r.hi<=n)->(l.length:Int)<=n-a:=by
 induction l with
 | nil=>intro a d _;simp;omega
 | cons r l ih=>
  intro a d b;have f:=b r (by simp)
  have e:=h.pos r (by simp);have:=ih h.tail (a:=r.hi) (by omega) fun q c=>⟨(h.head q c).1,(b q (by simp [c])).2⟩
  rw [List.length_cons];omega
theorem Z4A{S:Int->Int->Bool}(h:Fin S):cn S=[]↔∀ x y,S x y=false:=by
 constructor
 .intro e x y
  rw [<-Q2k h,e];rfl
 .intro e
  exact Y6l (l:=[]) ⟨.nil,fun b a=>(List.not_mem_nil a).elim,fun b a=>(List.not_mem_nil a).elim⟩ fun x y=>(e x y).symm
def ovB(r s:Rect):Bool:=decide (r.L_<s.R_)&&(decide (s.L_<r.R_)&&(decide (r.w_<s.H_)&&decide (s.w_<r.H_)))
theorem Z8X(F:Nat)(r s:Rect):Q7G F r s=some (ovB r s):=by
 unfold Q7G;rw [Q4b (Q0i F),Q4b (Q0i F),Q4b (Q0i F)]
 rfl
def ovL(a b:List Rect):Bool:=a.any fun r=>b.any fun s=>ovB r s
theorem Y7K{r s:Rect}(hr:Q1y r=true)(hs:Q1y s=true):ovB r s=true↔∃ x y,r.has x y=true/\s.has x y=true:=by
 rw [Q0n] at hr hs;simp only [y6]
 constructor
 .intro h
  simp only [ovB,Bool.and_eq_true,decide_eq_true_eq] at h;refine ⟨max r.L_ s.L_,max r.w_ s.w_,?_⟩
  omega
 .rintro ⟨x,y,h⟩
  simp only [ovB,Bool.and_eq_true,decide_eq_true_eq];omega
theorem Q3j(l:List Rect)(x y:Int):inR l x y=true↔∃ r ∈ l,r.has x y=true:=by unfold inR;rw [List.any_eq_true]
theorem Y1B{a b:List Rect}(ha:∀ r ∈ a,Q1y r=true)(hb:∀ r ∈ b,Q1y r=true):ovL a b=true↔∃ x y,inR a x y=true/\inR b x y=true:=by
 simp only [ovL,List.any_eq_true,Q3j];constructor
 .rintro ⟨r,d,s,c,h⟩
  obtain ⟨x,y,f,e⟩:=(Y7K (ha r d) (hb s c)).1 h;exact ⟨x,y,⟨r,d,f⟩,⟨s,c,e⟩⟩
 .rintro ⟨x,y,⟨r,d,f⟩,⟨s,c,e⟩⟩
  exact ⟨r,d,s,c,(Y7K (ha r d) (hb s c)).2 ⟨x,y,f,e⟩⟩
theorem Y9J{a b:List Rect}:ovL a b=ovL b a:=by
 rw [Bool.eq_iff_iff];simp only [ovL,List.any_eq_true,ovB,Bool.and_eq_true,decide_eq_true_eq]
 constructor <;> (rintro ⟨r,f,s,e,h,c,g,d⟩;exact ⟨s,e,r,f,c,h,d,g⟩)
noncomputable def Q3z(a b:Re_):Bool:=Q3m a.t_&&(Q3m b.t_&&ovL a.t_ b.t_)
theorem Y7b(a b:Re_):Q3z a b=Q3z b a:=by
 unfold Q3z;rw [Y9J]
 cases Q3m a.t_ <;> cases Q3m b.t_ <;> rfl
theorem Y1l{F:Nat}(hF:BIG<=F)(a b:Re_):Z1b F a b=some (Q3z a b):=by
 unfold Z1b Q3z;refine Q2 (Q0q hF a) ?_
 refine Q4 (fun h=>?_) (fun h=>by rw [h];rfl);refine Q2 (Q0q hF b) ?_
 refine Q4 (fun c=>?_) (fun c=>by rw [h,c];rfl);have e:=((Q0Q _).1 h).1
 have d:=((Q0Q _).1 c).1;refine Q2 (Q1B hF (fun r=>b.t_.any fun s=>ovB r s) (by omega) fun r _=>?_) ?_
 .unfold Z1B
  refine Q2 (Q1B hF (fun s=>ovB r s) (by omega) fun s _=>?_) rfl;unfold Q8N
  rw [Z8X];rfl
 .rw [h,c];rfl
theorem Y2v{F:Nat}(hF:BIG<=F)(a b:Re_):Z2z F a b=some (Q3z a b):=by
 unfold Z2z Q3z;refine Q2 (Q2d hF a) ?_
 refine Q4 (fun h=>?_) (fun h=>by rw [h];rfl);refine Q2 (Q2d hF b) ?_
 refine Q4 (fun f=>?_) (fun f=>by rw [h,f];rfl);have i:=(Q0Q _).1 h
 have d:=(Q0Q _).1 f;have m:=i.1
 have l:=d.1;refine Q2 (Q3g hF (by omega)) ?_
 unfold Q5s;rw [h,f]
 show some _=some (ovL a.t_ b.t_);congr 1
 rw [Bool.eq_iff_iff,decide_eq_true_iff,Y1B i.2.1 d.2.1];have j:=Z4A (Q6z a.t_ b.t_ 2)
 have e:∀ x y,z8 (inR a.t_ x y) (inR b.t_ x y) 2=true↔inR a.t_ x y=true/\inR b.t_ x y=true:=fun x y=>by simp [z8]
 constructor
 .intro c
  refine Classical.byContradiction fun k=>?_
  have:cn (fun x y=>z8 (inR a.t_ x y) (inR b.t_ x y) 2)=[]:=j.2 fun x y=>by
   rw [<-Bool.not_eq_true,e];exact fun g=>k ⟨x,y,g⟩
  rw [this] at c;simp at c
 .rintro ⟨x,y,g⟩
  rcases Nat.eq_zero_or_pos (cn fun x y=>z8 (inR a.t_ x y) (inR b.t_ x y) 2).length with c|c
  .have:=j.1 (List.eq_nil_of_length_eq_zero c) x y
   rw [(e x y).2 g] at this;cases this
  .omega
theorem Z2s(F:Nat)(l:List Rect):Q3q F l=some (if 120<l.length then (⟨[]⟩,1) else (⟨l⟩,0)):=by
 unfold Q3q;refine Q4 (fun h=>?_) (fun h=>?_)
 .have h:120<l.length:=by simp at h;omega
  rw [if_pos h]
 .have h:¬ 120<l.length:=by simp at h;omega
  rw [if_neg h]
theorem Q8O{F:Nat}(hF:BIG<=F){l:List Rect}(hl:l.length<=32768)(hpos:∀ r ∈ l,r.L_<r.R_):Q1f F l=some (if 120<(cn (inR l)).length then (⟨[]⟩,1) else (⟨cn (inR l)⟩,0)):=by
 unfold Q1f;refine Q2 (Z0G hF hl hpos) ?_
 exact Q2 (Z2s F _) rfl
def V8(L:List A2_)(d:Int)(p:Int->Bool):List Rect:=(L.filter fun f=>Z2M f d&&p f.k_).flatMap fun f=>f.g_.t_
theorem Z2C(f:A2_)(L:List A2_)(d:Int)(p:Int->Bool):V8 (f::L) d p=(if (Z2M f d&&p f.k_)=true then f.g_.t_ else [])++V8 L d p:=by
 unfold V8;rw [List.filter_cons]
 split
 .rw [List.flatMap_cons]
 .rfl
theorem Y2F{L:List A2_}{d:Int}{p:Int->Bool}{r:Rect}(h:r ∈ V8 L d p):∃ f ∈ L,r ∈ f.g_.t_:=by
 obtain ⟨f,a,b⟩:=List.mem_flatMap.1 h;exact ⟨f,(List.mem_filter.1 a).1,b⟩
theorem Y6S{L:List A2_}(h:∀ f ∈ L,f.g_.t_.length<=120)(d:Int)(p:Int->Bool):(V8 L d p).length<=120*L.length:=by
 induction L with
 | nil=>simp [V8]
 | cons f L ih=>
  have b:=ih fun g a=>h g (by simp [a])
  have c:=h f (by simp);rw [Z2C,List.length_append,List.length_cons]
  split
  .omega
  .simp;omega
theorem Z3H{F:Nat}(hF:BIG<=F){L:List A2_}(hl:L.length<=10000)(hr:∀ f ∈ L,f.g_.t_.length<=120)(d:Int){q:Int->Option Bool}(p:Int->Bool)(hq:∀ f ∈ L,q f.k_=some (p f.k_)):
  Q6B F L d q=some (V8 L d p):=by
 unfold BIG at hF;unfold Q6B
 refine Z1Q (l:=L) (I:=fun l s=>s.length+120*l.length<=2000000/\∀ f ∈ l,f.g_.t_.length<=120) (fun l s=>some (s++V8 l d p)) (fun a i s o g j=>?_) (fun a s _=>?_) (by omega) ⟨by simp;omega,hr⟩
 .obtain ⟨g,c⟩:=g
  have r:=c _ (List.mem_cons_self ..);rw [List.length_cons] at g
  have n:∀ b:Bool,b=(Z2M (gl L i) d&&p (gl L i).k_)->Q3G F L i s a b=some (s++V8 (gl L i::L.drop (i+1)) d p):=by
   intro b m;unfold Q3G
   rw [Z2C];refine Q4 (fun h=>?_) (fun h=>?_)
   .rw [<-m,if_pos h]
    simp only [Int.toNat_natCast];refine Q6 (by unfold LIM;omega) ?_
    unfold Q3F;refine Z3 (k:=?_)
    rw [j _ ⟨by rw [List.length_append];omega,fun f e=>c f (List.mem_cons_of_mem _ e)⟩,List.append_assoc]
   .rw [<-m,if_neg (by simp [h])]
    unfold Q3F;refine Z3 (k:=?_)
    rw [j _ ⟨by omega,fun f e=>c f (List.mem_cons_of_mem _ e)⟩];rfl
  unfold Q5U;refine Z6 (Z0x o) ?_
  refine Z3 (k:=?_);simp only [Int.toNat_natCast]
  refine Q2 (Z3G F _ d) ?_;refine Q4 (fun h=>?_) (fun h=>?_)
  .refine Q2 (hq _ (V4 o)) ?_
   exact n _ (by rw [h];rfl)
  .exact n _ (by rw [h];rfl)
 .show Q5U F L d q a (L.length:Int) s=_
  unfold Q5U Q9k;refine Q7 (Q2W _) ?_
  simp [V8]
theorem Z4g{F:Nat}(hF:BIG<=F){a b:List Span}(ha:a.length<=1000000)(hb:b.length<=1000000):Q7a F [a,b]=some (a++b):=by
 unfold BIG at hF;obtain ⟨m,rfl⟩:∃ m,F=m+3:=⟨F-3,by omega⟩
 have d:gl [a,b] (0:Int).toNat=a:=rfl;have c:gl [a,b] (1:Int).toNat=b:=rfl
 have k1:Q2p (m+3) [a,b] (((a.length:Nat):Int)+((b.length:Nat):Int))=some (a++b):=by
  unfold Q2p;refine Q2 (a:=[]) (by unfold Y0W;rw [if_pos (by unfold LIM;omega)]) ?_
  show G4 (m+3) [a,b] _ 0 []=_;unfold G4
  refine Z6 rfl ?_;rw [d]
  refine Z3 (k:=?_);refine Q6 (by simp [LIM];omega) ?_
  refine Z3 (k:=?_);show G4 (m+3) [a,b] _ 1 ([]++a)=_
  unfold G4;refine Z6 rfl ?_
  rw [c];refine Z3 (k:=?_)
  refine Q6 (by simp [LIM];omega) ?_;refine Z3 (k:=?_)
  show G4 (m+3) [a,b] _ 2 (([]++a)++b)=_;unfold G4
  refine Q7 rfl ?_;unfold Q4C
  simp
 show G5 (m+3) [a,b] _ 0 0=_;unfold G5
 refine Z6 rfl ?_;rw [d]
 refine Z3 (k:=?_);refine Z3 (k:=?_)
 refine Q7 (by simp <;> omega) ?_;refine Z3 (k:=?_)
 show G5 (m+3) [a,b] _ (0+((a.length:Nat):Int)) 1=_;unfold G5
 refine Z6 rfl ?_;rw [c]
 refine Z3 (k:=?_);refine Z3 (k:=?_)
 refine Q7 (by simp <;> omega) ?_;refine Z3 (k:=?_)
 show G5 (m+3) [a,b] _ (0+((a.length:Nat):Int)+((b.length:Nat):Int)) 2=_;unfold G5
 refine Q7 rfl ?_;rw [Int.zero_add]
 exact k1
theorem Z3k{F:Nat}(hF:BIG<=F){l:List Span}(hl:l.length<=1000000)(x:Int):Q6m F l x=some (inS l x):=by
 unfold BIG at hF;have c:∃ i:Int,Q4A F l (fun a=>Q0M F a x)=some i/\(0<=i↔inS l x=true):=by
  have m:∀ s:Span,Q0M F s x=some (s.has x):=fun s=>by
   unfold Q0M;rw [Q4b (Q3P F)];rfl
  have f:∀ (n i:Nat),i<=l.length->l.length-i<n->∃ r:Int,Q9 (fun again (z:Int)=>J4 F l (fun a=>Q0M F a x) again z) n (i:Int)=some r/\(0<=r↔inS (l.drop i) x=true):=by
   intro n
   induction n with
   | zero=>intro i _ h;omega
   | succ n ih=>
    intro i p q;show ∃ r:Int,J4 F l (fun a=>Q0M F a x) (Q9 (fun again (z:Int)=>J4 F l (fun a=>Q0M F a x) again z) n) (i:Int)=some r/\_
    by_cases h:i<l.length
    .have e:inS (l.drop i) x=((gl l i).has x||inS (l.drop (i+1)) x):=Y3g h fun s=>s.has x
     rw [e]
     by_cases b:(gl l i).has x=true
     .refine ⟨i,?_,by rw [b];simp⟩
      unfold J4;refine Z6 (Z0x h) ?_
      refine Z3 (k:=?_);exact Q2 (m _) (Z6 b rfl)
     .have b:(gl l i).has x=false:=by simpa using b
      obtain ⟨r,o,g⟩:=ih (i+1) h (by omega);refine ⟨r,?_,by rw [g,b];simp⟩
      unfold J4;refine Z6 (Z0x h) ?_
      refine Z3 (k:=?_);refine Q2 (m _) (Q7 b ?_)
      refine Z3 (k:=?_);exact o
    .have:i=l.length:=by omega
     subst this;refine ⟨-1,?_,by simp [inS]⟩
     unfold J4;exact Q7 (Q2W _) rfl
  obtain ⟨r,j,d⟩:=f F 0 (Nat.zero_le _) (by omega);exact ⟨r,j,by simpa using d⟩
 obtain ⟨i,j,d⟩:=c;unfold Q6m Q2T
 refine Q2 (Q2 j rfl) ?_;congr 1
 rw [Bool.eq_iff_iff, <-d,decide_eq_true_iff]
theorem Y9Q{F:Nat}(hF:BIG<=F){a b:List Span}(ha:a.length<=1000000)(hb:b.length<=1000000){es:List Int}{f:Int->Bool}{k:Bool->Bool->Bool}{q:Bool->Bool->Option Bool}(hq:∀ u v,q u v=some (k u v))(hst:Step false es f)(hf:∀ x,f x=k (inS a x) (inS b x))(hes:es.length<=8000000):Q9 (fun again (z:Int×List Span)=>Q4h F a b q es again z.1 z.2) F ((1:Int),([]:List Span))=some (spn f):=by
 have w:=hF;unfold BIG at hF
 by_cases h0:es.length=0
 .obtain ⟨m,rfl⟩:∃ m,F=m+1:=⟨F-1,by omega⟩
  show Q4h (m+1) a b q es _ 1 []=_;unfold Q4h Q6J
  refine Q7 (by simp [h0]) ?_;rw [Z9X (hst.empty h0)]
 .refine W4 (fun z:Int×List Span=>∃ (i:Nat) (e:List Span),z=(((i+1:Nat):Int),e)/\i+1<=es.length/\Bst false f (e.map Span.rn) (gl es i)/\e.length<=i) (fun z=>es.length-z.1.toNat) (fun again z E G=>?_) ⟨0,[],rfl,by omega,hst.start (by omega),by simp⟩ (by simp;omega)
  obtain ⟨i,e,rfl,H,g,n⟩:=E;simp only
  unfold Q4h;refine Q4 (fun h=>?_) (fun h=>?_)
  .have h:i+1<es.length:=by simp at h;omega
   have B:(((i+1:Nat):Int)-1).toNat=i:=by omega
   have A:((i+1:Nat):Int).toNat=i+1:=by omega
   have l:=hst.asc.at_lt (show i<i+1 by omega) h;refine Z3 (k:=?_)
   refine Z3 (k:=?_);rw [B]
   refine Q2 (Z3k w ha _) ?_;refine Q2 (Z3k w hb _) ?_
   refine Q2 (hq _ _) ?_;rw [<-hf]
   have d:∀ c : List Span,Bst false f (c.map Span.rn) (gl es (i+1))->c.length<=i+1->Q2x F ((i+1:Nat):Int) again c=some (spn f):=by
    intro c y r;unfold Q2x
    refine Z3 (k:=?_);exact G _ ⟨i+1,c,by simp,h,y,r⟩ (by simp;omega)
   cases hfe:f (gl es i) with
   | false=>
    refine Z6 rfl ?_;exact d e (g.skip (by omega) fun t y r=>(hst.gap i h t y r).trans hfe) (by omega)
   | true=>
    refine Q7 rfl ?_;rcases List.eq_nil_or_concat e with rfl|⟨j,s,p⟩
    .refine Q7 rfl ?_
     unfold Q4g;refine Q7 rfl ?_
     rw [B,A];refine Z3 (k:=?_)
     refine Q6 (by simp [LIM]) ?_;refine d _ ?_ (by simp)
     have:=g.add l (hst.gap i h) (fun a ha=>by simp at ha)
     rw [hfe] at this;exact this
    .rw [List.concat_eq_append] at p
     subst p;have C:(((j ++ [s]).length:Nat):Int)-1=((j.length:Nat):Int):=by simp
     have o:(((j.length:Nat):Int)).toNat=j.length:=by omega
     refine Z6 (by simp <;> omega) ?_;rw [C,o]
     refine Z3 (k:=?_);refine Q6 (by simp <;> omega) ?_
     rw [Z4s j s rfl];unfold Q4g
     by_cases hs:s.R_=gl es i
     .refine Z6 (by simp [hs]) ?_
      rw [C,o,A];refine Z3 (k:=?_)
      refine Z3 (k:=?_);refine Q6 (by simp <;> omega) ?_
      rw [Z4s j s rfl,Z8S j s _ rfl];refine d _ ?_ (by simp at n ⊢;omega)
      rw [List.map_append] at g;have:=g.grow (a:=s.rn) hs l fun t y r=>(hst.gap i h t y r).trans hfe
      rw [List.map_append];exact this
     .refine Q7 (by simpa using hs) ?_
      rw [B,A];refine Z3 (k:=?_)
      refine Q6 (by simp [LIM] at n ⊢;omega) ?_;refine d _ ?_ (by simp at n ⊢;omega)
      have:=g.add l (hst.gap i h) (fun a ha D=>by
       rw [List.map_append] at ha;simp at ha
       subst ha;exact absurd D hs)
      rw [hfe] at this;rw [List.map_append];exact this
  .have h:i+1=es.length:=by simp at h;omega
   unfold Q6J;congr 1
   refine (Z8b (.of_runs g.runs) fun x=>?_).symm;rw [Z6Y];exact hst.done h g x
def Y2U(l:List Span):List Int:=l.flatMap fun s=>[s.L_,s.R_]
theorem Y0F(l:List Span):(Y2U l).length=2*l.length:=by
 induction l with
 | nil=>rfl
 | cons s l ih=>unfold Y2U at ih ⊢;rw [List.flatMap_cons,List.length_append,ih];simp;omega
theorem Y7O{l:List Span}{c:List Int}(hc:Asc c)(hm:∀ s ∈ l,s.L_ ∈ c/\s.R_ ∈ c){i:Nat}(hi:i+1<c.length){t:Int}(h1:gl c i<=t)(h2:t<gl c (i+1)):inS l t=inS l (gl c i):=by
 unfold inS
 induction l with
 | nil=>rfl
 | cons s l ih=>
  rw [List.any_cons,List.any_cons,ih fun q d=>hm q (by simp [d])];congr 1
  obtain ⟨e,a⟩:=hm s (by simp);have f:=hc.gap hi h1 h2 e
  have h:=hc.gap hi h1 h2 a;unfold Span.has
  have b:decide (s.L_<=t)=decide (s.L_<=gl c i):=by simp only [f]
  have g:decide (t<s.R_)=decide (gl c i<s.R_):=by rw [decide_eq_decide];omega
  rw [b,g]
theorem W0d{l:List Span}{t:Int}(h:∀ s ∈ l,¬ (s.L_<=t/\t<s.R_)):inS l t=false:=by
 unfold inS;rw [List.any_eq_false]
 intro s a;have:=h s a
 simp only [Span.has,Bool.and_eq_true,decide_eq_true_eq];exact this
theorem Y1k{F:Nat}(hF:BIG<=F){a b:List Span}(ha:a.length<=1000000)(hb:b.length<=1000000){k:Bool->Bool->Bool}(hk:k false false=false){q:Bool->Bool->Option Bool}(hq:∀ u v,q u v=some (k u v)):
  Z0Z F a b q=some (spn fun x=>k (inS a x) (inS b x)):=by
 have h:=hF;unfold BIG at hF
 unfold Z0Z;refine Q2 (Z4g h ha hb) ?_
 have E:(a++b).length<=2000000:=by rw [List.length_append];omega
 refine Z1Q (l:=a++b) (I:=fun l s=>s++Y2U l=Y2U (a++b)) (fun _ _=>some (spn fun x=>k (inS a x) (inS b x))) (fun g i s o n J=>?_) (fun g s n=>?_) (by omega) rfl
 .have p:=Y0F (a++b)
  have M:s.length+2<=(Y2U (a++b)).length:=by
   rw [<-n,List.length_append,Y0F];simp;omega
  unfold Q6K;refine Z6 (Z0x o) ?_
  refine Z3 (k:=?_);simp only [Int.toNat_natCast]
  refine Q6 (by simp [LIM];omega) ?_;refine Z3 (k:=?_)
  refine J _ ?_;rw [<-n,List.append_assoc];rfl
 .have y:s=Y2U (a++b):=by rw [<-n];simp [Y2U]
  show Q6K F a b q (a++b) g (((a++b).length:Nat):Int) s=_;unfold Q6K
  refine Q7 (Q2W _) ?_;unfold Z0r
  have p:=Y0F (a++b);obtain ⟨r,G,z,C,A⟩:=Y9v (l:=s) (by rw [y];unfold LIM;omega)
  refine Q2 G ?_;have L:r.length<=4000000:=by rw [A,y];omega
  refine Q2 (Q8x h (by unfold LIM;omega)) ?_;have H:=Y7j r
  have d:=Y7k r z;have c:∀ l,l=a\/l=b->∀ s ∈ l,s.L_ ∈ dd r/\s.R_ ∈ dd r:=by
   intro l j q B;have:q ∈ a++b:=by rcases j with rfl|rfl <;> simp [B]
   have m:∀ v,v ∈ [q.L_,q.R_]->v ∈ dd r:=fun v K=>(Y4M r v).2 ((C v).2 (by rw [y];exact List.mem_flatMap.2 ⟨q,this,K⟩))
   exact ⟨m _ (by simp),m _ (by simp)⟩
  refine Y9Q h ha hb hq (f:=fun x=>k (inS a x) (inS b x)) ⟨d,fun i o t D m=>?_,fun t w=>?_,fun t w=>?_⟩ (fun _=>rfl) (by omega)
  .simp only [Y7O d (c a (.inl rfl)) o D m,Y7O d (c b (.inr rfl)) o D m]
  .have e:∀ l,l=a\/l=b->inS l t=false:=fun l j=>W0d fun q hq=>by have:=w _ (c l j q hq).1;omega
   simp only [e a (.inl rfl),e b (.inr rfl),hk]
  .have e:∀ l,l=a\/l=b->inS l t=false:=fun l j=>W0d fun q hq=>by have:=w _ (c l j q hq).2;omega
   simp only [e a (.inl rfl),e b (.inr rfl),hk]
theorem Q8P{F:Nat}(hF:BIG<=F){a b:List Rect}(hl:a.length+b.length<=16000)(ha:∀ r ∈ a,r.L_<r.R_)(hb:∀ r ∈ b,r.L_<r.R_){k:Bool->Bool->Bool}(hk:k false false=false){q:Bool->Bool->Option Bool}(hq:∀ u v,q u v=some (k u v)):
  U4 F a b q=some (cn fun x y=>k (inR a x y) (inR b x y)):=by
 unfold U4;have d:Grid (Q7v b (Q7v a [])) (Y2W [a,b]) fun x y=>k (inR a x y) (inR b x y):=
  Grid.of (Q8o b (Q8o a .nil)) (Y6f _) (fun r c=>⟨(Q0z b _ _).2 (.inl ((Q0z a _ _).2 (.inr ⟨r,c,.inl rfl⟩))),(Q0z b _ _).2 (.inl ((Q0z a _ _).2 (.inr ⟨r,c,.inr rfl⟩)))⟩)
   (fun r c=>⟨(Q0z b _ _).2 (.inr ⟨r,c,.inl rfl⟩),(Q0z b _ _).2 (.inr ⟨r,c,.inr rfl⟩)⟩) (Y0G _ (by simp)) (Y0G _ (by simp)) hk
 have f:=Z9o a (ls:=[a,b]) (by simp);have e:=Z9o b (ls:=[a,b]) (by simp)
 have m:tot [a,b]=a.length+b.length:=by simp [tot]
 have g:=Y2V [a,b];have j:=Y0Y (a:=a) (b:=b)
 refine Q2 (Z5H hF (by omega) (by simp)) ?_;refine Q2 (Z4L hF d.rows d.step (by omega) (fun y=>?_) (fun y=>?_)) rfl
 .unfold Z0t
  have n:=(f.x y).spn_len;have h:=(e.x y).spn_len
  have i:=Z2h (l:=a);have o:=Z2h (l:=b)
  refine Q2 (Z2R hF (by omega) ha y) ?_;refine Q2 (Z2R hF (by omega) hb y) ?_
  refine Q2 (Y1k hF (by omega) (by omega) hk hq) ?_;congr 2
  funext x
  rw [(f.rows.sp y).2 x,(e.rows.sp y).2 x]
 .have:=(d.x y).spn_len
  omega
def Sm(r:Rect):Prop:= -1000000<=r.L_/\r.L_<=1000000 /\ -1000000<=r.w_/\r.w_<=1000000 /\ -1000000<=r.R_/\r.R_<=1000000 /\ -1000000<=r.H_/\r.H_<=1000000
theorem W1q{r:Rect}(h:Q1y r=true):Sm r:=by
 rw [Q0n] at h;unfold Sm;omega
def Y7c(a b:Rect):Int:=Q0A 0 (Q5S a.H_ b.H_-Q0A a.w_ b.w_)
def Y5P(a b:Rect):Int:=Q0A 0 (Q5S a.R_ b.R_-Q0A a.L_ b.L_)
def W2q(a b:Rect):Bool:=a.R_==b.L_||b.R_==a.L_
def Y7E(a b:Rect):Bool:=a.H_==b.w_||b.H_==a.w_
def com(a b:Rect):Int:=(if W2q a b=true then Y7c a b else 0)+(if Y7E a b=true then Y5P a b else 0)
theorem W1B{a b:Rect}(ha:Sm a)(hb:Sm b):0<=Y7c a b/\Y7c a b<=2000000 /\ -2000000<=Q5S a.H_ b.H_-Q0A a.w_ b.w_/\Q5S a.H_ b.H_-Q0A a.w_ b.w_<=2000000:=by
 unfold Sm at ha hb;unfold Y7c Q0A Q5S
 repeat' split
 all_goals omega
theorem W1C{a b:Rect}(ha:Sm a)(hb:Sm b):0<=Y5P a b/\Y5P a b<=2000000 /\ -2000000<=Q5S a.R_ b.R_-Q0A a.L_ b.L_/\Q5S a.R_ b.R_-Q0A a.L_ b.L_<=2000000:=by
 unfold Sm at ha hb;unfold Y5P Q0A Q5S
 repeat' split
 all_goals omega
theorem Y4h{F:Nat}{a b:Rect}(ha:Sm a)(hb:Sm b){v:Int}(h1:0<=v)(h2:v<=2000000)(c:Bool):Q4e F a b v c=some (v+if c=true then Y5P a b else 0):=by
 obtain ⟨d,e,g,f⟩:=W1C ha hb;unfold Q4e
 cases c with
 | true=>
  refine Z6 rfl ?_;refine Q6 (Z7 (by omega) (by omega)) ?_
  show gd (I64 (v+Y5P a b)) _=_;refine Q6 (Z7 (by omega) (by omega)) ?_
  rfl
 | false=>
  refine Q7 rfl ?_;show some v=some (v+0)
  rw [Int.add_zero]
theorem Y4i{F:Nat}{a b:Rect}(ha:Sm a)(hb:Sm b){v:Int}(h1:0<=v)(h2:v<=2000000):Q2w F a b v=some (v+if Y7E a b=true then Y5P a b else 0):=by
 unfold Q2w;rw [Y4h ha hb h1 h2,Y4h ha hb h1 h2]
 unfold Y7E
 cases a.H_==b.w_ <;> rfl
theorem Y4j{F:Nat}{a b:Rect}(ha:Sm a)(hb:Sm b)(c:Bool):Q4f F a b c=some ((if c=true then Y7c a b else 0)+if Y7E a b=true then Y5P a b else 0):=by
 obtain ⟨d,e,g,f⟩:=W1B ha hb;unfold Q4f
 cases c with
 | true=>
  refine Z6 rfl ?_;refine Q6 (Z7 (by omega) (by omega)) ?_
  show gd (I64 (0+Y7c a b)) _=_;refine Q6 (Z7 (by omega) (by omega)) ?_
  show Q2w F a b (0+Y7c a b)=_;rw [Y4i ha hb (by omega) (by omega)]
  simp
 | false=>
  refine Q7 rfl ?_;rw [Y4i ha hb (by omega) (by omega)]
  rfl
theorem Y1e(F:Nat){a b:Rect}(ha:Sm a)(hb:Sm b):Z0U F a b=some (com a b):=by
 unfold Z0U;rw [Y4j ha hb,Y4j ha hb]
 unfold com W2q
 cases a.R_==b.L_ <;> rfl
def Q3y(a b:Rect):Bool:=decide (0<com a b)
theorem Z2q{F:Nat}{q:List Rect}{r:Rect}{i:Nat}(hi:i<q.length)(hl:q.length<=1000000)(hq:∀ s ∈ q,Sm s)(hr:Sm r):
  Q5j F r q i=some (if Q3y (gl q i) r=true then q++[r] else q,Q3y (gl q i) r):=by
 unfold Q5j;refine Q6 (by omega) ?_
 simp only [Int.toNat_natCast];refine Q2 (Y1e F (hq _ (V4 hi)) hr) ?_
 show Q4P F r q (Q3y (gl q i) r)=_;unfold Q4P
 cases Q3y (gl q i) r with
 | true=>
  refine Z6 rfl ?_;refine Q6 (by simp [LIM];omega) rfl
 | false=>exact Q7 rfl rfl
theorem W1E{F:Nat}(hF:BIG<=F){l q:List Rect}{k:Nat}(hk:k<q.length)(hl:l.length<=900000)(hql:q.length<=900000)(hq:∀ s ∈ q,Sm s)(hr:∀ r ∈ l,Sm r):
  Q1l F l q k=some (l,if l.any (Q3y (gl q k))=true then q++[gl l (l.findIdx (Q3y (gl q k)))] else q,Z1k (Q3y (gl q k)) l):=by
 unfold BIG at hF;unfold Q1l
 refine W4 (fun z:Int×List Rect=>∃ i:Nat,z=((i:Int),q)/\i<=l.length/\∀ j,j<i->Q3y (gl q k) (gl l j)=false) (fun z=>l.length-z.1.toNat) (fun d z m f=>?_) ⟨0,rfl,by omega,fun j g=>by omega⟩ (by simp;omega);obtain ⟨i,rfl,n,c⟩:=m
 simp only at f ⊢;unfold Q5g
 refine Q4 (fun h=>?_) (fun h=>?_)
 .have h:i<l.length:=by simpa using h
  refine Z3 (k:=?_);simp only [Int.toNat_natCast]
  refine Q2 (Z2q hk (by omega) hq (hr _ (V4 h))) ?_;simp only
  refine Q4 (fun a=>?_) (fun a=>?_)
  .have b:l.any (Q3y (gl q k))=true:=List.any_eq_true.2 ⟨_,V4 h,a⟩
   rw [if_pos a,Z1k,if_pos b,if_pos b,Z4v h c a]
  .rw [a,if_neg (by simp)]
   refine Z3 (k:=?_);refine f _ ⟨i+1,rfl,h,fun j g=>?_⟩ (by simp only;omega)
   rcases Nat.lt_or_ge j i with e|e
   .exact c j e
   .have:j=i:=by omega
    subst this;exact a
 .have h:¬ i<l.length:=by simpa using h
  have:i=l.length:=by omega
  subst this;have b:=Q6E c
  rw [Z1k,b];rfl
theorem W0t{F:Nat}(hF:BIG<=F){l q:List Rect}{k:Nat}(hk:k<q.length)(hl:l.length+q.length<=900000)(hq:∀ s ∈ q,Sm s)(hr:∀ r ∈ l,Sm r):
  Q1d F l q k=some (q++l.filter (Q3y (gl q k)),l.filter fun r=> !Q3y (gl q k) r):=by
 have I:=hF;unfold BIG at hF
 unfold Q1d;refine Q2 (W1E I hk (by omega) (by omega) hq hr) ?_
 generalize a:Q3y (gl q k)=p;simp only
 by_cases f:l.any p=true
 .obtain ⟨x,c,H⟩:=List.any_eq_true.1 f
  have e:l.findIdx p<l.length:=List.findIdx_lt_length_of_exists ⟨x,c,H⟩;have A:p (gl l (l.findIdx p))=true:=by rw [y5 e];exact List.findIdx_getElem (w:=e)
  have u:∀ j,j<l.findIdx p->p (gl l j)=false:=by
   intro j t;rw [y5 (by omega)]
   simpa using List.not_of_lt_findIdx t
  rw [Z1k,if_pos f,if_pos f];refine Q7 (by simp) ?_
  refine Z3 (k:=?_);generalize l.findIdx p=i0 at *
  have E:(l.take i0).filter (fun r=> !p r)=l.take i0:=by
   rw [List.filter_eq_self];intro x c
   obtain ⟨j,t,rfl⟩:=List.getElem_of_mem c;have o : j<i0:=by simp at t;omega
   have:=u j o
   rw [y5 (by omega)] at this;simp [this]
  have C:(l.take i0).filter p=[]:=by
   rw [List.filter_eq_nil_iff];intro x c
   obtain ⟨j,t,rfl⟩:=List.getElem_of_mem c;have o : j<i0:=by simp at t;omega
   have:=u j o
   rw [y5 (by omega)] at this;simp [this]
  have Q:(l.take (i0+1)).filter (fun r=> !p r)=l.take i0:=by
   rw [J6 e,List.filter_append,E];simp [A]
  have J:(l.take (i0+1)).filter p=[gl l i0]:=by
   rw [J6 e,List.filter_append,C];simp [A]
  refine W4 (fun z:Int×Int×List Rect×List Rect=>∃ (i j:Nat) (b:List Rect),z=((i:Int),(j:Int),b,q++(l.take j).filter p)/\i<j/\j<=l.length/\b.length=l.length/\(∀ m,j<=m->gl b m=gl l m)/\b.take i=(l.take j).filter fun r=> !p r)
   (fun z=>l.length-z.2.1.toNat) (fun K z L G=>?_) ⟨i0,i0+1,l,by rw [J];rfl,by omega,by omega,rfl,fun _ _=>rfl,Q.symm⟩ (by simp only;omega)
  obtain ⟨i,j,b,rfl,N,t,d,n,g⟩:=L;simp only at G ⊢
  unfold Q4O;rw [d]
  have M:((l.take j).filter p).length<=j:=by
   have:=List.length_filter_le p (l.take j)
   simp at this;omega
  have D:gl (q++(l.take j).filter p) k=gl q k:=by simp [gl,List.getD_eq_getElem?_getD,List.getElem?_append,hk]
  refine Q4 (fun h=>?_) (fun h=>?_)
  .have h:j<l.length:=by simpa using h
   refine Z3 (k:=?_);simp only [Int.toNat_natCast]
   rw [n j (Nat.le_refl _)];refine Q2 (Z2q (by simp;omega) (by simp;omega) (fun s v=>?_) (hr _ (V4 h))) ?_
   .rcases List.mem_append.1 v with v|v
    .exact hq s v
    .exact hr s (List.mem_of_mem_take (List.mem_filter.1 v).1)
   rw [D,a];have B:(l.take (j+1)).filter (fun r=> !p r)=(l.take j).filter (fun r=> !p r)++(if p (gl l j)=true then [] else [gl l j]):=by
    rw [J6 h,List.filter_append]
    by_cases a:p (gl l j)=true
    .rw [if_pos a];simp [a]
    .rw [if_neg a];simp [a]
   have y:(l.take (j+1)).filter p=(l.take j).filter p++(if p (gl l j)=true then [gl l j] else []):=by
    rw [J6 h,List.filter_append]
    by_cases a:p (gl l j)=true
    .rw [if_pos a];simp [a]
    .rw [if_neg a];simp [a]
   simp only
   refine Q4 (fun a=>?_) (fun a=>?_)
   .have a:p (gl l j)=false:=by simpa using a
    refine Z3 (k:=?_);refine Z3 (k:=?_)
    unfold z7;refine Z3 (k:=?_)
    rw [a,if_neg (by simp)];refine G _ ⟨i+1,j+1,b.set i (gl l j),?_,by omega,by omega,by simp [d],fun m P=>?_,?_⟩ (by simp only;omega)
    .rw [y,a,if_neg (by simp),List.append_nil];rfl
    .rw [Y0x _ _ _ _ (by omega),if_neg (by omega)];exact n m (by omega)
    .rw [B,if_neg (by rw [a];simp), <-g,J6 (by simp;omega),Z5s _ _ _ _ (Nat.le_refl _),Y0x _ _ _ _ (by omega),if_pos rfl]
   .have a:p (gl l j)=true:=by simpa using a
    unfold z7;refine Z3 (k:=?_)
    rw [a,if_pos rfl];refine G _ ⟨i,j+1,b,?_,by omega,by omega,d,fun m P=>n m (by omega),?_⟩ (by simp only;omega)
    .rw [y,a,if_pos rfl, <-List.append_assoc];rfl
    .rw [B,if_pos a,List.append_nil,g]
  .have h:¬ j<l.length:=by simpa using h
   have O:j=l.length:=by omega
   unfold Q1A;simp only [Int.toNat_natCast,Y5b,d]
   refine Z3 (k:=?_);refine Z3 (k:=?_)
   rw [Y1W _ _ _ (by omega),g,List.take_of_length_le (by omega)]
 .have f:l.any p=false:=by simpa using f
  rw [Z1k,f];refine Z6 rfl ?_
  have E:l.filter p=[]:=by
   rw [List.filter_eq_nil_iff];intro x c
   have:=List.any_eq_false.1 f x c
   simpa using this
  have C:l.filter (fun r=> !p r)=l:=by
   rw [List.filter_eq_self];intro x c
   have:=List.any_eq_false.1 f x c
   simpa using this
  rw [E,C];simp
def jn:Nat->List Rect->Nat->List Rect->List Rect×List Rect
 | 0,q,_,rest=>(q,rest)
 | n+1,q,k,rest=>if k<q.length then jn n (q++rest.filter (Q3y (gl q k))) (k+1) (rest.filter fun r=> !Q3y (gl q k) r) else (q,rest)
def Z1Z:List Rect->List Rect×List Rect
 | []=>([],[])
 | a::l=>jn (l.length+2) [a] 0 l
theorem Y0X{α:Type}(p:α->Bool)(l:List α):(l.filter p).length+(l.filter fun r=> !p r).length=l.length:=by
 induction l with
 | nil=>rfl
 | cons a l ih=>by_cases h:p a=true <;> simp [h] <;> omega
theorem Y7A{F:Nat}{l:List Rect}(h:l.length<=LIM):Q3e F l=some l:=by
 unfold Q3e
 cases h:l with
 | nil=>
  show gdc _ _=_;unfold gdc
  exact @Q6 _ _ (Classical.propDecidable _) _ _ rfl rfl
 | cons a l' =>
  have:(a::l').length=l'.length+1:=rfl
  show (gd _ _)=_;rw [<-h]
  refine Z3 (k:=?_);simp
theorem Y1f{F:Nat}(hF:BIG<=F){l:List Rect}(hne:l≠[])(hl:l.length<=400000)(hs:∀ r ∈ l,Sm r):Z0V F l=some (Z1Z l):=by
 have f:=hF;unfold BIG at hF
 cases l with
 | nil=>exact absurd rfl hne
 | cons a l=>
  simp only [List.length_cons] at hl;unfold Z0V
  refine Q6 (by simp only [List.length_cons];omega) ?_;refine Q6 (by simp only [List.length_cons];omega) ?_
  have o:(1:Int).toNat=1:=rfl;rw [o]
  refine Q2 (Y7A (by simp [LIM];omega)) ?_;simp only [List.drop_succ_cons,List.drop_zero,List.take_succ_cons,List.take_zero]
  refine W4 (fun z:List Rect×Int×List Rect=>∃ (n k:Nat) (q b:List Rect),z=(b,(k:Int),q)/\k<=q.length/\q.length+b.length=l.length+1/\(∀ r ∈ q++b,Sm r)/\l.length+2<=n+k/\jn n q k b=Z1Z (a::l))
   (fun z=>l.length+2-z.2.1.toNat) (fun g z m i=>?_) ⟨l.length+2,0,[a],l,rfl,by simp,by simp;omega,fun r c=>hs r (by simpa using c),by omega,rfl⟩ (by simp;omega)
  obtain ⟨n,k,q,b,rfl,u,j,d,t,e⟩:=m;simp only at i ⊢
  unfold Z4J Z0l
  cases n with
  | zero=>omega
  | succ n=>
  rw [jn] at e;refine Q4 (fun h=>?_) (fun h=>?_)
  .have h:k<q.length:=by simpa using h
   rw [if_pos h] at e;refine Q2 (W0t f h (by omega) (fun s hs=>d s (by simp [hs])) (fun s hs=>d s (by simp [hs]))) ?_
   refine Z3 (k:=?_);have p:=Y0X (Q3y (gl q k)) b
   refine i _ ⟨n,k+1,_,_,rfl,by simp;omega,by simp;omega,fun r c=>d r ?_,by omega,e⟩ (by simp only;omega);simp only [List.mem_append,List.mem_filter] at c ⊢
   rcases c with (c|c) | c
   .exact .inl c
   .exact .inr c.1
   .exact .inr c.1
  .have h:¬ k<q.length:=by simpa using h
   rw [if_neg h] at e;unfold Z0k
   rw [e]
def Apt(r s:Rect):Prop:=∀ x y,r.has x y=true->s.has x y=true->False
def W2E(q:List Rect):Prop:=∀ i,0<i->i<q.length->∃ j,j<i/\Q3y (gl q j) (gl q i)=true
structure JnOk (q rest q' rest' : List Rect):Prop where
 perm:(q' ++ rest').Perm (q++rest)
 chain:W2E q'
 pre:q <+: q'
 apart:∀ r ∈ q',∀ s ∈ rest',Q3y r s=false
theorem Y4J{α:Type}(p:α->Bool)(l:List α):(l.filter p++l.filter fun r=> !p r).Perm l:=List.filter_append_perm p l
theorem W3q:∀ (n:Nat) (q:List Rect) (k:Nat) (rest:List Rect),q.length+rest.length<n+k->k<=q.length->W2E q->(∀ i,i<k->∀ s ∈ rest,Q3y (gl q i) s=false)->JnOk q rest (jn n q k rest).1 (jn n q k rest).2:=by
 intro n
 induction n with
 | zero=>intro q k rest w u;omega
 | succ n ih=>
  intro q k rest w u g l;rw [jn]
  by_cases hk:k<q.length
  .rw [if_pos hk]
   have x:=Y0X (Q3y (gl q k)) rest;have c:∀ i,i<q.length->gl (q++rest.filter (Q3y (gl q k))) i=gl q i:=fun i a=>by simp [gl,List.getD_eq_getElem?_getD,List.getElem?_append,a]
   have h:=ih (q++rest.filter (Q3y (gl q k))) (k+1) (rest.filter fun r=> !Q3y (gl q k) r) (by simp;omega) (by simp;omega) (fun i a f=>?_) (fun i a s e=>?_)
   .refine ⟨h.perm.trans ?_,h.chain,?_,h.apart⟩
    .rw [List.append_assoc]
     exact (Y4J _ rest).append_left q
    .exact (List.prefix_append _ _).trans h.pre
   .by_cases hiq:i<q.length
    .obtain ⟨j,o,v⟩:=g i a hiq
     exact ⟨j,o,by rw [c i hiq,c j (by omega)];exact v⟩
    .refine ⟨k,by omega,?_⟩
     rw [c k hk];have t:gl (q++rest.filter (Q3y (gl q k))) i ∈ rest.filter (Q3y (gl q k)):=by
      have b : i-q.length<(rest.filter (Q3y (gl q k))).length:=by simp at f;omega
      have:gl (q++rest.filter (Q3y (gl q k))) i=gl (rest.filter (Q3y (gl q k))) (i-q.length):=by
       simp [gl,List.getD_eq_getElem?_getD,List.getElem?_append,hiq]
      rw [this];exact V4 b
     exact (List.mem_filter.1 t).2
   .have d:=List.mem_filter.1 e
    rcases Nat.lt_or_ge i k with m|m
    .rw [c i (by omega)];exact l i m s d.1
    .have:i=k:=by omega
     subst this;rw [c i hk];simpa using d.2
  .rw [if_neg hk]
   refine ⟨List.Perm.refl _,g,List.prefix_refl _,fun r p s e=>?_⟩;obtain ⟨i,a,rfl⟩:=List.getElem_of_mem p
   have:=l i (by simp only at a;omega) s e
   rwa [y5 a] at this
theorem Y4b(a:Rect)(l:List Rect):JnOk [a] l (Z1Z (a::l)).1 (Z1Z (a::l)).2:=
 W3q (l.length+2) [a] 0 l (by simp;omega) (by simp) (fun i c b=>by simp at b;omega) (fun i c=>by omega)
def Z8l:Nat->List Rect->List (List Rect)
 | 0,_=>[]
 | _+1,[]=>[]
 | n+1,a::l=>(Z1Z (a::l)).1::Z8l n (Z1Z (a::l)).2
def Z7P(l:List Rect):List (List Rect):=Z8l l.length l
theorem JnOk.lens{a:Rect}{l q r:List Rect}(h:JnOk [a] l q r):q≠[]/\r.length<=l.length:=by
 have d:=h.perm.length_eq;simp at d
 obtain ⟨t,c⟩:=h.pre;have:1<=q.length:=by rw [<-c];simp
 exact ⟨fun b=>by rw [b] at this;simp at this,by omega⟩
theorem Y5K:∀ (n:Nat) (l:List Rect),l.length<=n->(Z8l n l).flatten.Perm l:=by
 intro n
 induction n with
 | zero=>intro l b;have:l=[]:=List.eq_nil_of_length_eq_zero (by omega);subst this;exact List.Perm.refl _
 | succ n ih=>
  intro l b
  cases l with
  | nil=>exact List.Perm.refl _
  | cons a l=>
   have h:=Y4b a l;have:=h.lens.2
   simp only [Z8l,List.flatten_cons];simp only [List.length_cons] at b
   exact ((ih _ (by omega)).append_left _).trans h.perm
theorem Y2C(l:List Rect):(Z7P l).flatten.Perm l:=Y5K _ l (Nat.le_refl _)
def lt2(a b:Int×Int):Prop:=a.1<b.1\/(a.1=b.1/\a.2<b.2)
theorem W1y{a b:Int×Int}(h:a≠b):lt2 a b\/lt2 b a:=by
 unfold lt2;have:a.1≠b.1\/a.2≠b.2:=by
  rcases Int.decEq a.1 b.1 with c|c
  .exact .inl c
  .right;intro d;exact h (Prod.ext c d)
 omega
theorem Q1O.apt{l:List Rect}(h:Q1O l):l.Pairwise Apt:=by
 obtain ⟨b,e,rfl⟩:=h;unfold flat
 rw [List.pairwise_flatMap];refine ⟨fun c f=>?_,?_⟩
 .unfold y3
  rw [List.pairwise_map];refine (e.sp c f).ch.imp fun h x y d a=>?_
  rw [y6] at d a;simp only at d a
  omega
 .refine e.runs.ch.imp fun h r i s g x y d a=>?_
  obtain ⟨u,_,rfl⟩:=List.mem_map.1 i;obtain ⟨v,_,rfl⟩:=List.mem_map.1 g
  rw [y6] at d a;simp only at d a
  have:=h.1
  omega
theorem Y8I{l p:List Rect}(hp:p ∈ Z7P l){r:Rect}(hr:r ∈ p):r ∈ l:=(Y2C l).mem_iff.1 (List.mem_flatten.2 ⟨p,hp,hr⟩)
theorem Y7n(F:Nat)(hF:BIG<=F)(u v:Int):Z4B F [u,v]=some (if u≠0 then u else v):=by
 unfold BIG at hF;obtain ⟨F,rfl⟩:∃ G,F=G+3:=⟨F-3,by omega⟩
 unfold Z4B;show Q3c _ [u,v] _ 0=_
 unfold Q3c;refine Z6 (by simp) ?_
 refine Q6 (by simp) ?_;have a:gl [u,v] (0:Int).toNat=u:=rfl
 rw [a]
 by_cases hu:u=0
 .subst hu
  refine Q7 (by simp) ?_;refine Q6 (Z7 (by omega) (by omega)) ?_
  rw [if_neg (by simp)];show Q3c _ [0,v] _ (0+1)=_
  unfold Q3c;refine Z6 (by simp) ?_
  refine Q6 (by simp) ?_;have b:gl [0,v] ((0:Int)+1).toNat=v:=rfl
  rw [b]
  by_cases hv:v=0
  .subst hv
   refine Q7 (by simp) ?_;refine Q6 (Z7 (by omega) (by omega)) ?_
   show Q3c _ [0,0] _ (0+1+1)=_;unfold Q3c
   exact Q7 (by simp) rfl
  .exact Z6 (by simpa using hv) rfl
 .rw [if_pos hu]
  exact Z6 (by simpa using hu) rfl
theorem Z9B(a b:List Rect):Fin fun x y=>inR a x y && !inR b x y:=Q6z a b 3
section
theorem val_one{r:Rect}(h:Q1y r=true):Val [r]:=by
 have b:=(Q0n r).1 h;exact ⟨by simp,fun s a=>by rw [List.mem_singleton.1 a];exact h,Y0I (by omega) (by omega)⟩
section
variable {F:Nat} {a:Re_} {z1:Tape×Re_} {x1 k:Int} {x y:Int}
end
end
section
theorem Step.spansH{xs:List Int}{f:Int->Bool}(h:Step false xs f):∃ l,SpOk l/\(∀ x,inS l x=f x)/\2*l.length<=xs.length:=by
 by_cases h0:xs.length=0
 .exact ⟨[],.nil,fun x=>(h.empty h0 x).symm,by simp⟩
 .have p:∀ i,i+1<=xs.length->∃ l:List Span,Bst false f (l.map Span.rn) (gl xs i)/\2*l.length<=i+1/\((∀ s,l.getLast?=some s->s.R_≠gl xs i)->2*l.length<=i):=by
   intro i
   induction i with
   | zero=>intro v;exact ⟨[],h.start (by omega),by simp,by simp⟩
   | succ i ih=>
    intro v;obtain ⟨l,b,n,c⟩:=ih (by omega)
    have d:=h.asc.at_lt (show i<i+1 by omega) (by omega)
    cases hf:f (gl xs i) with
    | false=>exact ⟨l,b.skip (by omega) fun t q o=>(h.gap i (by omega) t q o).trans hf,by omega,fun _=>by omega⟩
    | true=>
     rcases List.eq_nil_or_concat l with rfl|⟨r,s,g⟩
     .refine ⟨[⟨gl xs i,gl xs (i+1)⟩],?_,by simp,fun j=>absurd rfl (j ⟨gl xs i,gl xs (i+1)⟩ rfl)⟩
      have:=b.add d (h.gap i (by omega)) (fun a e=>by simp at e)
      rw [hf] at this;exact this
     .rw [List.concat_eq_append] at g
      subst g
      by_cases hs:s.R_=gl xs i
      .refine ⟨r ++ [⟨s.L_,gl xs (i+1)⟩],?_,by simp at n ⊢;omega,fun j=>absurd rfl (j ⟨s.L_,gl xs (i+1)⟩ (by simp))⟩
       rw [List.map_append] at b;have:=b.grow (a:=s.rn) hs d fun t q o=>(h.gap i (by omega) t q o).trans hf
       rw [List.map_append];exact this
      .have c:=c fun w m=>by simp at m;rw [<-m];exact hs
       refine ⟨(r ++ [s])++[⟨gl xs i,gl xs (i+1)⟩],?_,by simp at c ⊢;omega,fun j=>absurd rfl (j ⟨gl xs i,gl xs (i+1)⟩ (by simp))⟩;have:=b.add d (h.gap i (by omega)) (fun a e u=>by
        rw [List.map_append] at e;simp at e
        subst e;exact absurd u hs)
       rw [hf] at this;rw [List.map_append];exact this
  obtain ⟨l,b,n,_⟩:=p (xs.length-1) (by omega);refine ⟨l,.of_runs b.runs,fun x=>?_,by omega⟩
  rw [Z6Y];exact h.done (by omega) b x
theorem Step.spn_half{xs:List Int}{f:Int->Bool}(h:Step false xs f):2*(spn f).length<=xs.length:=by
 obtain ⟨l,c,d,b⟩:=h.spansH;rw [Z8b c d];exact b
open Classical in
theorem Step.runsL{α:Type}{d:α}{c:List Int}{f:Int->α}(h:Step d c f):∃ acc:List (Rn α),Runs acc/\(∀ t,atR d acc t=f t)/\(∀ b ∈ acc,b.v≠d)/\acc.length<=c.length:=by
 by_cases h0:c.length=0
 .exact ⟨[],.nil,fun x=>(h.empty h0 x).symm,fun b e=>(List.not_mem_nil e).elim,by simp⟩
 .have q:∀ i,i+1<=c.length->∃ l:List (Rn α),Bst d f l (gl c i)/\(∀ b ∈ l,b.v≠d)/\l.length<=i:=by
   intro i
   induction i with
   | zero=>intro hi;exact ⟨[],h.start (by omega),fun b e=>(List.not_mem_nil e).elim,by simp⟩
   | succ i ih=>
    intro hi;obtain ⟨l,m,g,j⟩:=ih (by omega)
    have n:=h.asc.at_lt (show i<i+1 by omega) (by omega)
    by_cases hf:f (gl c i)=d
    .exact ⟨l,m.skip (by omega) fun t r p=>(h.gap i (by omega) t r p).trans hf,g,by omega⟩
    .by_cases hs:∃ a,l.getLast?=some a/\a.hi=gl c i/\a.v=f (gl c i)
     .obtain ⟨a,o,r,p⟩:=hs
      obtain ⟨z,rfl⟩:=List.getLast?_eq_some_iff.1 o;refine ⟨z ++ [{ a with hi:=gl c (i+1) }],m.grow r n fun t A u=>(h.gap i (by omega) t A u).trans p.symm,fun b e=>?_,by simp at j ⊢;omega⟩
      rcases List.mem_append.1 e with e|e
      .exact g b (by simp [e])
      .rw [List.mem_singleton.1 e];exact g a (by simp)
     .refine ⟨l++[⟨gl c i,gl c (i+1),f (gl c i)⟩],m.add n (h.gap i (by omega)) (fun a o s w=>hs ⟨a,o,s,w⟩),fun b e=>?_,by simp at j ⊢;omega⟩
      rcases List.mem_append.1 e with e|e
      .exact g b e
      .rw [List.mem_singleton.1 e];exact hf
  obtain ⟨l,m,g,j⟩:=q (c.length-1) (by omega);exact ⟨l,m.runs,fun x=>h.done (by omega) m x,g,by omega⟩
theorem W3f{α:Type}{d:α}{b:Rn α}:∀ {l:List (Rn α)},Runs l->b ∈ l->atR d l b.lo=b.v:=by
 intro l
 induction l with
 | nil=>intro _ c;cases c
 | cons a l ih=>
  intro e c;rcases List.mem_cons.1 c with rfl|c
  .have:=e.pos b (by simp)
   rw [atR,if_pos ⟨by omega,this⟩]
  .have f:=(e.head b c).1
   rw [atR,if_neg (by omega)];exact ih e.tail c
theorem Y4R{B:List (Rn (List Span))}{N:Nat}(h:∀ b ∈ B,b.v.length<=N):(flat B).length<=B.length*N:=by
 induction B with
 | nil=>simp [flat]
 | cons c B ih=>
  have e:flat (c::B)=y3 c++flat B:=rfl;have:=ih fun d f=>h d (by simp [f])
  have g:=h c (by simp);rw [e,List.length_append,Q0y,List.length_cons,Nat.add_mul]
  omega
theorem Grid.len{xs ys:List Int}{S:Int->Int->Bool}(h:Grid xs ys S){N:Nat}(hN:xs.length<=2*N+1):(cn S).length<=ys.length*N:=by
 obtain ⟨i,c,e,f,g⟩:=h.step.runsL;rw [(Step.cn h.rows h.step c e f).1]
 refine Nat.le_trans (Y4R (N:=N) fun b j=>?_) (Nat.mul_le_mul_right _ g);have:=W3f (d:=[]) c j
 rw [e] at this;have l:=(h.x b.lo).spn_half
 rw [<-this];omega
theorem Y5a(l:List Rect):(cn (inR l)).length<=2*l.length*l.length:=by
 have b:Grid (Q7v l []) (Y2W [l]) (inR l):=Z9o l (by simp);have c:=Z2h (l:=l)
 have e:=Y2V [l];have d:tot [l]=l.length:=by simp [tot]
 exact Nat.le_trans (b.len (N:=l.length) (by omega)) (Nat.mul_le_mul_right _ (by omega))
noncomputable def Y3K(a b:Re_):Bool:=Q3m a.t_&&(Q3m b.t_&&decide (cn (fun x y=>z8 (inR a.t_ x y) (inR b.t_ x y) 3)=[]))
theorem Y8u{a b:Re_}(ha:Val a.t_)(hb:Val b.t_):Y3K a b=true↔∀ x y,inR a.t_ x y=true->inR b.t_ x y=true:=by
 unfold Y3K;rw [Q3l ha,Q3l hb,Bool.true_and,Bool.true_and,decide_eq_true_eq,Z4A (Q6z _ _ _)]
 constructor
 .intro h x y c
  have:=h x y
  simp only [z8] at this;rw [c] at this
  simpa using this
 .intro h x y
  simp only [z8]
  cases c:inR a.t_ x y with
  | false=>rfl
  | true=>rw [h x y c];rfl
end
theorem Y3O{l:List Int}{M:Int}(h:∀ x ∈ l,0<=x/\x<=M):0<=l.sum/\l.sum<=M*l.length:=by
 induction l with
 | nil=>simp
 | cons x l ih=>
  have c:=h x (by simp);have d:=ih fun y b=>h y (by simp [b])
  simp only [List.sum_cons,List.length_cons];have e:M*((l.length+1:Nat):Int)=M*l.length+M:=by rw [Int.natCast_add,Int.mul_add];simp
  omega
theorem Z8P{f:Rect->Int}{l:List Rect}{j:Nat}(h:j<l.length):((l.take (j+1)).map f).sum=((l.take j).map f).sum+f (gl l j):=by
 rw [J6 h,List.map_append,List.sum_append];simp
def ar1(r:Rect):Int:=(r.R_-r.L_)*(r.H_-r.w_)
def area(l:List Rect):Int:=(l.map ar1).sum
theorem Y5f{r:Rect}(h:Q1y r=true):0<=ar1 r/\ar1 r<=268435456:=by
 rw [Q0n] at h;unfold ar1
 have c:0<=r.R_-r.L_/\r.R_-r.L_<=16384:=by omega
 have b:0<=r.H_-r.w_/\r.H_-r.w_<=16384:=by omega
 refine ⟨Int.mul_nonneg c.1 b.1,?_⟩;have:=Int.mul_le_mul c.2 b.2 b.1 (by omega)
 omega
theorem Y3v{F:Nat}(hF:BIG<=F){l:List Rect}(hl:l.length<=1000000)(hp:∀ r ∈ l,Q1y r=true):Z4m F l=some (area l):=by
 unfold BIG at hF;have b:∀ j,0<=((l.take j).map ar1).sum/\((l.take j).map ar1).sum<=268435456*1000000:=fun j=>by
  have:=Y3O (l:=(l.take j).map ar1) (M:=268435456) (fun x m=>by
   obtain ⟨s,f,rfl⟩:=List.mem_map.1 m;exact Y5f (hp s (List.mem_of_mem_take f)))
  simp only [List.length_map,List.length_take] at this;omega
 unfold Z4m;refine W4 (fun z:Int×Int=>∃ j:Nat,z=(((l.take j).map ar1).sum,(j:Int))/\j<=l.length) (fun z=>l.length-z.2.toNat) (fun c z i d=>?_) ⟨0,by simp,by omega⟩ (by simp;omega)
 obtain ⟨j,rfl,n⟩:=i;simp only at d ⊢
 have p:=b j;have e:=b (j+1)
 unfold Z7J;refine Q4 (fun h=>?_) (fun h=>?_)
 .have h:j<l.length:=by simpa using h
  refine Z3 (k:=?_);simp only [Int.toNat_natCast]
  have g:=(Q0n _).1 (hp _ (V4 h));have o:=Y5f (hp _ (V4 h))
  rw [Z8P h] at e;refine Q6 (Z7 (by omega) (by omega)) ?_
  refine Q6 (Z7 (by omega) (by omega)) ?_;show gd (I64 (ar1 (gl l j))) _=_
  refine Q6 (Z7 (by omega) (by omega)) ?_;show gd (I64 (((l.take j).map ar1).sum+ar1 (gl l j))) _=_
  refine Q6 (Z7 (by omega) (by omega)) ?_;refine Z3 (k:=?_)
  refine d _ ⟨j+1,?_,h⟩ (by simp only;omega);rw [Z8P h];rfl
 .have h:¬ j<l.length:=by simpa using h
  have:j=l.length:=by omega
  subst this;rw [List.take_length]
  rfl
theorem Z7M{F:Nat}(hF:BIG<=F){a:Re_}(hv:Val a.t_):Z1N F a=some (area a.t_):=by
 have:=hv.1
 unfold Z1N;refine Q2 (Q2d hF a) ?_
 rw [Q3l hv];refine Q7 rfl ?_
 exact Q2 (Y3v hF (by omega) hv.2.1) rfl
theorem SpOk.half{n:Int}:∀ {l:List Span},SpOk l->∀ {a:Int},a<=n+1->(∀ s ∈ l,a<=s.L_/\s.R_<=n)->2*(l.length:Int)<=n+1-a
 | [],_,a,ha,_=>by simp;omega
 | s::l,h,a,ha,hb=>by
  have d:=hb s (by simp);have e:=h.pos s (by simp)
  have c:SpOk l:=⟨fun q b=>h.pos q (by simp [b]),(List.pairwise_cons.1 h.ch).2⟩;have:=SpOk.half (n:=n) c (a:=s.R_+1) (by omega) fun q b=>⟨by have:=(List.pairwise_cons.1 h.ch).1 q b;omega,(hb q (by simp [b])).2⟩
  rw [List.length_cons];omega
theorem Q1O.half{l:List Rect}(hc:Q1O l){n:Nat}(hb:Box n l):l.length<=n*((n+1) / 2):=by
 obtain ⟨b,f,rfl⟩:=hc;have g:∀ c ∈ b,∃ s,s ∈ c.v:=fun c hc=>List.exists_mem_of_ne_nil _ (f.ne c hc)
 have d:∀ c ∈ b,∀ s ∈ c.v,(⟨s.L_,c.lo,s.R_,c.hi⟩:Rect) ∈ flat b:=fun c hc s e=>List.mem_flatMap.2 ⟨c,hc,List.mem_map.2 ⟨s,e,rfl⟩⟩
 have j:(b.length:Int)<=n-0:=f.runs.len (by omega) fun c hc=>by
  obtain ⟨s,e⟩:=g c hc;have:=hb _ (d c hc s e)
  simp only at this;omega
 have h:∀ c ∈ b,c.v.length<=(n+1) / 2:=fun c hc=>by
  have:=(f.sp c hc).half (n:=n) (a:=0) (by omega) fun s e=>by
   have:=hb _ (d c hc s e)
   simp only at this ⊢;omega
  omega
 have m:=Y4R h;have i:b.length*((n+1) / 2)<=n*((n+1) / 2):=Nat.mul_le_mul_right _ (by omega)
 omega
def Z4c(f:Nat->Int):Nat->Int
 | 0=>0
 | n+1=>Z4c f n+f n
theorem Q6Z{f g:Nat->Int}{n:Nat}(h:∀ i,i<n->f i=g i):Z4c f n=Z4c g n:=by
 induction n with
 | zero=>rfl
 | succ n ih=>rw [Z4c,Z4c,ih fun i b=>h i (by omega),h n (by omega)]
theorem Y5q(f g:Nat->Int)(n:Nat):Z4c (fun i=>f i+g i) n=Z4c f n+Z4c g n:=by
 induction n with
 | zero=>rfl
 | succ n ih=>rw [Z4c,Z4c,Z4c,ih];omega
theorem Z9T(n:Nat):Z4c (fun _=>0) n=0:=by
 induction n with
 | zero=>rfl
 | succ n ih=>rw [Z4c,ih];rfl
theorem Y3P(c lo hi:Int)(h0:0<=lo)(h1:lo<=hi)(n:Nat):Z4c (fun i=>if lo<=(i:Int)/\(i:Int)<hi then c else 0) n=(if (n:Int)<=lo then 0 else if (n:Int)<=hi then n-lo else hi-lo)*c:=by
 induction n with
 | zero=>rw [Z4c,if_pos (by omega),Int.zero_mul]
 | succ n ih=>
  rw [Z4c,ih];simp only [Int.natCast_succ]
  by_cases a:(n:Int)<lo
  .rw [if_pos (by omega),if_neg (by omega),if_pos (by omega)];omega
  .by_cases b:(n:Int)<hi
   .rw [if_pos (show lo<=(n:Int)/\(n:Int)<hi by omega),if_neg (show ¬ (n:Int)+1<=lo by omega),if_pos (show (n:Int)+1<=hi by omega)]
    by_cases e:(n:Int)<=lo
    .have:(n:Int)=lo:=by omega
     rw [if_pos e,show (n:Int)+1-lo=1 by omega,Int.zero_mul,Int.one_mul];omega
    .rw [if_neg e,if_pos (by omega),show (n:Int)+1-lo=(n-lo)+1 by omega,Int.add_mul,Int.one_mul]
   .rw [if_neg (show ¬ (lo<=(n:Int)/\(n:Int)<hi) by omega),if_neg (show ¬ (n:Int)+1<=lo by omega)]
    by_cases e:(n:Int)<=lo
    .have d:lo=hi:=by omega
     have f:(n:Int)=lo:=by omega
     rw [if_pos e]
     by_cases e3:(n:Int)+1<=hi
     .omega
     .rw [if_neg e3,d,Int.sub_self];omega
    .rw [if_neg e]
     by_cases e4:(n:Int)<=hi
     .rw [if_pos e4,if_neg (by omega),show (n:Int)=hi by omega];omega
     .rw [if_neg e4,if_neg (by omega)];omega
def cnt(N:Nat)(S:Int->Int->Bool):Int:=Z4c (fun x=>Z4c (fun y=>if S x y=true then 1 else 0) N) N
theorem Y7m{N:Nat}{S T:Int->Int->Bool}(h:∀ x y,S x y=true->T x y=true->False):cnt N (fun x y=>S x y||T x y)=cnt N S+cnt N T:=by
 unfold cnt;rw [<-Y5q]
 refine Q6Z fun x _=>?_
 rw [<-Y5q];refine Q6Z fun y _=>?_
 have:=h x y
 cases e:S x y <;> cases e2:T x y <;> simp_all
theorem W0y{N:Nat}{S:Int->Int->Bool}(h:∀ x y,S x y=false):cnt N S=0:=by
 unfold cnt;rw [Q6Z (g:=fun _=>0) fun x _=>by rw [Q6Z (g:=fun _=>0) fun y _=>by rw [h];rfl,Z9T],Z9T]
theorem W2c{N:Nat}{r:Rect}(h1:0<=r.L_)(h2:r.L_<=r.R_)(h3:r.R_<=N)(h4:0<=r.w_)(h5:r.w_<=r.H_)(h6:r.H_<=N):cnt N r.has=ar1 r:=by
 have e:∀ x:Nat,Z4c (fun y=>if r.has x y=true then 1 else 0) N=if r.L_<=(x:Int)/\(x:Int)<r.R_ then r.H_-r.w_ else 0:=fun x=>by
  by_cases hx:r.L_<=(x:Int)/\(x:Int)<r.R_
  .rw [if_pos hx,Q6Z (g:=fun i=>if r.w_<=(i:Int)/\(i:Int)<r.H_ then 1 else 0) fun y _=>by
    by_cases hy:r.w_<=(y:Int)/\(y:Int)<r.H_
    .rw [if_pos ((y6 r x y).2 ⟨hx.1,hx.2,hy.1,hy.2⟩),if_pos hy]
    .rw [if_neg (fun h=>hy (by have:=(y6 r x y).1 h;omega)),if_neg hy],Y3P 1 _ _ h4 h5]
   by_cases a:(N:Int)<=r.w_
   .rw [if_pos a];omega
   .rw [if_neg a];split <;> omega
  .rw [if_neg hx,Q6Z (g:=fun _=>0) fun y _=>by rw [if_neg (fun h=>hx (by have:=(y6 r x y).1 h;omega))],Z9T]
 unfold cnt;rw [Q6Z fun x _=>e x,Y3P _ _ _ h1 h2]
 unfold ar1
 by_cases a:(N:Int)<=r.L_
 .rw [if_pos a,show r.R_-r.L_=0 by omega]
 .rw [if_neg a]
  by_cases b:(N:Int)<=r.R_
  .rw [if_pos b,show (N:Int)=r.R_ by omega]
  .rw [if_neg b]
@[irreducible] def sq (S:Int->Int->Bool):Int:=cnt 16384 S
theorem Z5t(S:Int->Int->Bool):sq S=cnt 16384 S:=by unfold sq;rfl
theorem Y8n:∀ {l:List Rect},l.Pairwise Apt->(∀ r ∈ l,Q1y r=true)->area l=sq (inR l)
 | [],_,_=>by
  rw [Z5t,W0y (S:=inR []) (fun x y=>rfl)];rfl
 | r::l,ha,hp=>by
  have b:=(Q0n r).1 (hp r (by simp));have c:=Y8n (l:=l) (List.pairwise_cons.1 ha).2 fun q b=>hp q (by simp [b])
  have e:inR (r::l)=fun x y=>r.has x y||inR l x y:=by
   funext x y;simp [inR]
  rw [Z5t] at c ⊢;rw [e,Y7m (fun x y h d=>by
   obtain ⟨s,f,g⟩:=(Q3j l x y).1 d;exact (List.pairwise_cons.1 ha).1 s f x y h g),W2c (by omega) (by omega) (by omega) (by omega) (by omega) (by omega), <-c]
  simp [area]
theorem Val.area{l:List Rect}(h:Val l):area l=sq (inR l):=Y8n h.2.2.apt h.2.1
section
def Ok{R:Type}(x:Option R)(G:R->Prop):Prop:=∃ r,x=some r/\G r
theorem Z6V{R:Type}{r:R}{G:R->Prop}(h:G r):Ok (some r) G:=⟨r,rfl,h⟩
theorem Q1K{R:Type}{p:Prop}[Decidable p]{x:Option R}{G:R->Prop}(h:p)(k:Ok x G):Ok (gd p x) G:=by unfold gd;rw [if_pos h];exact k
theorem Q4S{α R:Type}{x:Option α}{f:α->Option R}{a:α}{G:R->Prop}(h:x=some a)(k:Ok (f a) G):Ok (x.bind f) G:=by rw [h];exact k
theorem Q6x{R:Type}{b:Bool}{x y:Option R}{G:R->Prop}(ht:b=true->Ok x G)(hf:b=false->Ok y G):Ok (br b x y) G:=by cases b;exact hf rfl;exact ht rfl
theorem Z9p{σ R:Type}{body:(σ->Option R)->σ->Option R}{G:R->Prop}(I:σ->Prop)(μ:σ->Nat)(round:∀ again z,I z->(∀ z',I z' -> μ z' < μ z->Ok (again z') G)->Ok (body again z) G):∀ {n:Nat} {z:σ},I z->μ z<n->Ok (Q9 body n z) G:=by
 intro n
 induction n with
 | zero=>intro z _ h;omega
 | succ n ih=>
  intro z b h;exact round _ z b fun z' c d=>ih c (by omega)
section
variable (R:List Rect)
end
variable {F:Nat} {a:Re_}
end
theorem Y2l{F:Nat}(hF:BIG<=F){l:List Rect}(hl:l.length<=1000000)(hp:∀ r ∈ l,Q1y r=true):Z2r F l=some (area l):=by
 unfold BIG at hF;have b:∀ j,0<=((l.take j).map ar1).sum/\((l.take j).map ar1).sum<=268435456*1000000:=fun j=>by
  have:=Y3O (l:=(l.take j).map ar1) (M:=268435456) (fun x m=>by
   obtain ⟨s,f,rfl⟩:=List.mem_map.1 m;exact Y5f (hp s (List.mem_of_mem_take f)))
  simp only [List.length_map,List.length_take] at this;omega
 unfold Z2r;refine W4 (fun z:Int×Int=>∃ j:Nat,z=(((l.take j).map ar1).sum,(j:Int))/\j<=l.length) (fun z=>l.length-z.2.toNat) (fun c z i d=>?_) ⟨0,by simp,by omega⟩ (by simp;omega)
 obtain ⟨j,rfl,n⟩:=i;simp only at d ⊢
 have p:=b j;have e:=b (j+1)
 unfold Z5G;refine Q4 (fun h=>?_) (fun h=>?_)
 .have h:j<l.length:=by simpa using h
  refine Z3 (k:=?_);simp only [Int.toNat_natCast]
  have g:=(Q0n _).1 (hp _ (V4 h));have o:=Y5f (hp _ (V4 h))
  rw [Z8P h] at e;refine Q6 (Z7 (by omega) (by omega)) ?_
  refine Q6 (Z7 (by omega) (by omega)) ?_;show gd (I64 (ar1 (gl l j))) _=_
  refine Q6 (Z7 (by omega) (by omega)) ?_;show gd (I64 (((l.take j).map ar1).sum+ar1 (gl l j))) _=_
  refine Q6 (Z7 (by omega) (by omega)) ?_;refine Z3 (k:=?_)
  refine d _ ⟨j+1,?_,h⟩ (by simp only;omega);rw [Z8P h];rfl
 .have h:¬ j<l.length:=by simpa using h
  have:j=l.length:=by omega
  subst this;rw [List.take_length]
  rfl
theorem Q8Z{F:Nat}{t:Tape}(ht:TOk t){n:Int}(h1:1<=n)(h2:n<=1099511627776):∃ t' b,Q2Y F t n=some (t',b)/\TOk t':=by
 obtain ⟨c,k,e,d,_,_⟩:=Z5 (F:=F) ht h1 h2;refine ⟨c,k==n-1,?_,d⟩
 unfold Q2Y;refine Q2 e ?_
 refine Q6 (Z7 (by omega) (by omega)) rfl
section
theorem Q7D{F:Nat}(hF:BIG<=F){a b:List Rect}(ha:a.length<=1000000)(hb:b.length<=1000000):Q3N F [a,b]=some (a++b):=by
 unfold BIG at hF;obtain ⟨m,rfl⟩:∃ m,F=m+3:=⟨F-3,by omega⟩
 have d:gl [a,b] (0:Int).toNat=a:=rfl;have c:gl [a,b] (1:Int).toNat=b:=rfl
 have k1:Q2q (m+3) [a,b] (((a.length:Nat):Int)+((b.length:Nat):Int))=some (a++b):=by
  unfold Q2q;refine Q2 (a:=[]) (by unfold Y0W;rw [if_pos (by unfold LIM;omega)]) ?_
  show G6 (m+3) [a,b] _ 0 []=_;unfold G6
  refine Z6 rfl ?_;rw [d]
  refine Z3 (k:=?_);refine Q6 (by simp [LIM];omega) ?_
  refine Z3 (k:=?_);show G6 (m+3) [a,b] _ 1 ([]++a)=_
  unfold G6;refine Z6 rfl ?_
  rw [c];refine Z3 (k:=?_)
  refine Q6 (by simp [LIM];omega) ?_;refine Z3 (k:=?_)
  show G6 (m+3) [a,b] _ 2 (([]++a)++b)=_;unfold G6
  refine Q7 rfl ?_;unfold Q4D
  simp
 show G7 (m+3) [a,b] _ 0 0=_;unfold G7
 refine Z6 rfl ?_;rw [d]
 refine Z3 (k:=?_);refine Z3 (k:=?_)
 refine Q7 (by simp <;> omega) ?_;refine Z3 (k:=?_)
 show G7 (m+3) [a,b] _ (0+((a.length:Nat):Int)) 1=_;unfold G7
 refine Z6 rfl ?_;rw [c]
 refine Z3 (k:=?_);refine Z3 (k:=?_)
 refine Q7 (by simp <;> omega) ?_;refine Z3 (k:=?_)
 show G7 (m+3) [a,b] _ (0+((a.length:Nat):Int)+((b.length:Nat):Int)) 2=_;unfold G7
 refine Q7 rfl ?_;rw [Int.zero_add]
 exact k1
def zs(k:Int):Int:=if 0<=k/\k<=7 then 0 else if 8<=k/\k<=11 then 1 else 2
theorem Y4q(F:Nat)(k:Int):Z6G F k=some (zs k):=by
 have j:Q0o F k true=some 0:=rfl;have l:Q2B F true=some 1:=rfl
 have r:Q2B F false=some 2:=rfl;have e:∀ n:Int,(k==n)=decide (k=n):=fun n=>by rw [Bool.eq_iff_iff];simp
 unfold Z6G;simp only [e]
 by_cases h:0<=k/\k<=7
 .have f:zs k=0:=by unfold zs;rw [if_pos h]
  rw [f];have b:∀ {n:Int} {x:Option Int},(k≠n->x=some 0)->br (decide (k=n)) (Q0o F k (decide (k=n))) x=some 0:=fun {n x} hx=>by
   refine Q4 (fun d=>by rw [d];exact j) (fun d=>hx (by simpa using d))
  refine b fun m=>b fun o=>b fun p=>b fun t=>b fun v=>b fun s=>b fun u=>?_
  rw [show decide (k=7)=true by rw [decide_eq_true_eq];omega];exact j
 .have c:∀ n:Int,0<=n->n<=7->decide (k=n)=false:=fun n q i=>by rw [decide_eq_false_iff_not];omega
  rw [c 0 (by omega) (by omega),c 1 (by omega) (by omega),c 2 (by omega) (by omega),c 3 (by omega) (by omega),c 4 (by omega) (by omega),c 5 (by omega) (by omega),c 6 (by omega) (by omega),c 7 (by omega) (by omega)];simp only [br]
  unfold Q0o;simp only [br,e]
  by_cases i:8<=k/\k<=11
  .have f:zs k=1:=by unfold zs;rw [if_neg h,if_pos i]
   rw [f];have b:∀ {n:Int} {x:Option Int},(k≠n->x=some 1)->br (decide (k=n)) (Q2B F (decide (k=n))) x=some 1:=fun {n x} hx=>by
    refine Q4 (fun d=>by rw [d];exact l) (fun d=>hx (by simpa using d))
   refine b fun m=>b fun o=>b fun p=>?_
   rw [show decide (k=11)=true by rw [decide_eq_true_eq];omega];exact l
  .have f:zs k=2:=by unfold zs;rw [if_neg h,if_neg i]
   rw [f];have g:∀ n:Int,8<=n->n<=11->decide (k=n)=false:=fun n q i=>by rw [decide_eq_false_iff_not];omega
   rw [g 8 (by omega) (by omega),g 9 (by omega) (by omega),g 10 (by omega) (by omega),g 11 (by omega) (by omega)];exact r
def zp(w:Int)(k:Int):Bool:=zs k==w
theorem Y4r(F:Nat)(k w:Int):Z6H F k w=some (zp w k):=by
 unfold Z6H;exact Q2 (Y4q F k) rfl
structure LB (n:Nat) (L:List A2_):Prop where
 vl:VL L
 box:∀ f ∈ L,Box n f.g_.t_
 n15:n<=15
theorem W0h{l:List Rect}(hc:Q1O l){n:Nat}(hb:Box n l)(hn:n<=15):l.length<=120:=by
 have b:=hc.half hb;have c:n*((n+1) / 2)<=15*8:=Nat.mul_le_mul hn (by omega)
 omega
theorem Y1Q{S:Int->Int->Bool}(hf:Fin S){n:Nat}(hn:n<=15)(hb:∀ x y,S x y=true->0<=x/\x<n/\0<=y/\y<n):Val (cn S)/\Box n (cn S):=by
 have h:=Y7r (n:=(n:Int)) hf hb;exact ⟨⟨W0h (Q1O.cn hf) h hn,h.prop (by omega),Q1O.cn hf⟩,h⟩
variable {F n:Nat} {L:List A2_} {d:Int}
theorem LB.rbox(hL:LB n L)(d:Int)(p:Int->Bool):Box n (V8 L d p):=fun r b=>by
 obtain ⟨f,c,b⟩:=Y2F b;exact hL.box f c r b
theorem LB.rval(hL:LB n L)(d:Int)(p:Int->Bool):Val (cn (inR (V8 L d p)))/\Box n (cn (inR (V8 L d p))):=Y1Q (W6 _) hL.n15 fun x y h=>(hL.rbox d p).in h
theorem Y1M(hF:BIG<=F)(hL:LB n L)(d w:Int):Z8I F L d w=some (⟨cn (inR (V8 L d (zp w)))⟩,0):=by
 have c:=hL.vl.len;unfold Z8I
 refine Q2 (Z3H hF (by omega) (fun f b=>hL.vl.rlen b) d (zp w) (fun f _=>Y4r F f.k_ w)) ?_;have g:=Y6S (L:=L) (fun f b=>hL.vl.rlen b) d (zp w)
 refine Q2 (Q8O hF (by omega) fun r e=>?_) ?_
 .have:=hL.rbox d (zp w) r e
  omega
 .have:=(hL.rval d (zp w)).1.1
  rw [if_neg (by omega)]
theorem Z2I(hF:BIG<=F)(hv:VL L)(d1:0<=d)(d2:d<=36864){a:Re_}(ha:Val a.t_){m:Int}(m1:0<=m)(m2:m<=268435456):Q8F F L d m a=some 0:=by
 unfold Q8F;refine Q2 (Z7T hF L d) ?_
 rw [if_neg (by simp [(Z1o L).2 hv]),if_neg (by omega)];refine Q7 rfl ?_
 refine Q2 (Q0q hF a) ?_;rw [Q3l ha]
 refine Q7 rfl ?_;refine Q7 (by rw [decide_eq_false_iff_not];omega) ?_
 rw [show decide ((268435456:Int)<m)=false by rw [decide_eq_false_iff_not];omega];rfl
theorem Y4t(hF:BIG<=F)(hL:LB n L)(d1:0<=d)(d2:d<=36864):Z6J F L d=some (⟨cn (inR (V8 L d (zp 0)))⟩,0):=by
 unfold Z6J;refine Q2 (Z2I hF hL.vl d1 d2 Val.nil (by omega) (by omega)) ?_
 refine Q7 rfl ?_;exact Q2 (Y1M hF hL d 0) rfl
noncomputable def Z3i(L:List A2_)(d:Int)(a:List Rect):List Rect:=cn fun x y=>inR (V8 L d (zp 1)) x y&&inR a x y
noncomputable def Z1u(L:List A2_)(d m:Int)(a:List Rect):List Rect:=((Z7P (Z3i L d a)).filter fun p=>decide (m<area p)).flatten
theorem W1N(a b:List Rect):Fin fun x y=>inR a x y&&inR b x y:=Q6z a b 2
theorem Y5v(hL:LB n L)(d:Int)(a:List Rect):Val (Z3i L d a)/\Box n (Z3i L d a):=Y1Q (W1N _ _) hL.n15 fun x y h=>(hL.rbox d (zp 1)).in (Bool.and_eq_true _ _ ▸ h).1
theorem Y8x{m:Int}{a:List Rect}{r:Rect}(h:r ∈ Z1u L d m a):r ∈ Z3i L d a:=by
 obtain ⟨p,c,b⟩:=List.mem_flatten.1 h;exact Y8I (List.mem_filter.1 c).1 b
theorem Y3R(hL:LB n L)(d m:Int)(a:List Rect):Box n (Z1u L d m a):=fun r b=>(Y5v hL d a).2 r (Y8x b)
theorem Y3Q(hL:LB n L)(d m:Int)(a:List Rect):Val (cn (inR (Z1u L d m a)))/\Box n (cn (inR (Z1u L d m a))):=Y1Q (W6 _) hL.n15 fun x y h=>(Y3R hL d m a).in h
theorem Z4W{p:List Rect->Bool}:∀ Q:List (List Rect),(Q.filter p).flatten.length<=Q.flatten.length
 | []=>Nat.le_refl _
 | q::Q=>by
  have:=Z4W (p:=p) Q
  rw [List.filter_cons,List.flatten_cons,List.length_append];split
  .rw [List.flatten_cons,List.length_append];omega
  .omega
theorem Y4s(hF:BIG<=F)(hL:LB n L)(d1:0<=d)(d2:d<=36864){a:Re_}(ha:Val a.t_){m:Int}(m1:0<=m)(m2:m<=268435456):Z6I F L d m a=some (⟨cn (inR (Z1u L d m a.t_))⟩,0):=by
 have f:=hF;unfold BIG at hF
 have D:=Y5v hL d a.t_;have s:=D.1.1
 have S:=ha.1;have E:=hL.rval d (zp 1)
 have O:=E.1.1;unfold Z6I
 refine Q2 (Z2I f hL.vl d1 d2 ha m1 m2) ?_;refine Q7 rfl ?_
 refine Q2 (Y1M f hL d 1) ?_;refine Q7 rfl ?_
 refine Q2 (Q8P f (by omega) (fun r c=>(E.1.2.2.pos c).1) (fun r c=>(ha.2.2.pos c).1) (k:=fun u v=>u&&v) rfl (fun u v=>by cases u <;> cases v <;> rfl)) ?_;have e:(cn fun x y=>inR (cn (inR (V8 L d (zp 1)))) x y&&inR a.t_ x y)=Z3i L d a.t_:=by
  unfold Z3i;congr 1
  funext x y
  rw [Q2k (W6 _)]
 rw [e];refine Q7 (by rw [decide_eq_false_iff_not];omega) ?_
 have N:=(Y2C (Z3i L d a.t_)).length_eq;refine W4 (fun z:List Rect×List Rect=>∃ (k:Nat) (Q:List (List Rect)),Q++Z8l k z.1=Z7P (Z3i L d a.t_)/\z.1.length<=k/\z.1.length<=120/\z.2=(Q.filter fun p=>decide (m<area p)).flatten/\∀ r ∈ z.1,r ∈ Z3i L d a.t_) (fun z=>z.1.length) (fun i z J H=>?_) ⟨_,[],rfl,Nat.le_refl _,s,rfl,fun _ h=>h⟩ (by simp only;omega)
 obtain ⟨l,I⟩:=z;obtain ⟨k,Q,j,B,G,rfl,w⟩:=J
 simp only at j B G w H ⊢;have U:Q.flatten.length<=120:=by
  have:=congrArg (fun q=>(List.flatten q).length) j
  simp only [List.flatten_append,List.length_append] at this;omega
 have M:=Z4W (p:=fun p=>decide (m<area p)) Q;unfold Z8J
 cases l with
 | nil=>
  refine Q7 (by simp) ?_;unfold Z3T
  have K:Z8l k []=[]:=by cases k <;> rfl
  rw [K,List.append_nil] at j;subst j
  refine Q2 (Q8O f (by omega) fun r c=>?_) ?_
  .have:=Y3R hL d m a.t_ r c
   omega
  .have:=(Y3Q hL d m a.t_).1.1
   unfold Z1u at this;rw [if_neg (by omega)];rfl
 | cons b l=>
  refine Z6 (by simp) ?_;refine Q2 (Y1f f (by simp) (by omega) (fun r c=>W1q (D.1.2.1 r (w r c)))) ?_
  cases k with
  | zero=>simp at B
  | succ k=>
  simp only [Z8l] at j;have t:=Y4b b l
  have A:=t.perm.length_eq;simp only [List.length_append,List.length_cons,List.length_nil] at A B G
  have T:∀ r ∈ (Z1Z (b::l)).1,r ∈ Z3i L d a.t_:=fun r c=>w r (t.perm.mem_iff.1 (List.mem_append.2 (.inl c)))
  have P:1<=(Z1Z (b::l)).1.length:=by
   have:=t.lens.1
   exact List.length_pos_iff.2 this
  refine Q2 (Y2l f (by omega) fun r c=>D.1.2.1 r (T r c)) ?_;have g:∀ o,o=(((Q++[(Z1Z (b::l)).1])).filter fun p=>decide (m<area p)).flatten->i ((Z1Z (b::l)).2,o)=some (⟨cn (inR (Z1u L d m a.t_))⟩,0):=fun o V=>by
   refine H _ ⟨k,Q++[(Z1Z (b::l)).1],by rw [<-j,List.append_assoc];rfl,by simp only;omega,by simp only;omega,V,fun r c=>w r (t.perm.mem_iff.1 (List.mem_append.2 (.inr c)))⟩ (by simp only [List.length_cons];omega)
  refine Q4 (fun C=>?_) (fun C=>?_)
  .refine Q6 (by simp only [LIM];omega) ?_
   refine g _ ?_;rw [List.filter_append,List.filter_cons,C];simp
  .refine g _ ?_
   rw [List.filter_append,List.filter_cons,C];simp
noncomputable def elS(L:List A2_)(d m:Int)(a:List Rect)(x y:Int):Bool:=inR a x y && !(inR (V8 L d (zp 0)) x y||inR (Z1u L d m a) x y)
theorem Y7i(L:List A2_)(d m:Int)(a:List Rect):Fin (elS L d m a):=by
 have:=Z9B a (V8 L d (zp 0)++Z1u L d m a)
 simp only [Z2a] at this;exact this
end
section
theorem Y9R{a b:Re_}(ha:Val a.t_)(hb:Val b.t_)(h:∀ x y,inR a.t_ x y=true->inR b.t_ x y=true->False):Q3z a b=false:=by
 rw [<-Bool.not_eq_true];intro c
 unfold Q3z at c;rw [Q3l ha,Q3l hb,Bool.true_and,Bool.true_and,Y1B ha.2.1 hb.2.1] at c
 obtain ⟨x,y,e,f⟩:=c;exact h x y e f
theorem LayT.lb{L:List A2_}(h:LayT L):LB 9 L:=⟨h.vl,fun f b=>(h.fea f b).1.reg.box,by omega⟩
variable {F n:Nat} {L:List A2_} {d:Int}
end
section
variable {F n:Nat} {L:List A2_} {d:Int}
theorem Y2s(F:Nat)(f:A2_)(d:Int):Z2x F f d=some (Z2M f d):=by
 unfold Z2x Z2M
 cases decide (f.F_<=d) <;> rfl
def btw(lo hi:Int)(k:Int):Bool:=decide (lo<=k)&&decide (k<=hi)
theorem Y3z(A B:List A2_)(d:Int)(p:Int->Bool):V8 (A++B) d p=V8 A d p++V8 B d p:=by simp [V8]
theorem W2f(k:Int):btw k k=fun x=>x==k:=by
 funext x
 unfold btw;rw [Bool.eq_iff_iff]
 simp
 omega
theorem Y0f(hF:BIG<=F)(hL:LB n L)(lo hi d:Int):Q9x F L lo hi d=some (cn (inR (V8 L d (btw lo hi)))):=by
 have s:=hF;unfold BIG at hF
 have v:=hL.vl.len;have p:∀ i,(cn (inR (V8 (L.take i) d (btw lo hi)))).length<=120:=fun i=>by
  refine W0h (Q1O.cn (W6 _)) (Y7r (n:=(n:Int)) (W6 _) fun x y h=>?_) hL.n15;have l:Box n (V8 (L.take i) d (btw lo hi)):=fun r q=>by
   obtain ⟨f,B,q⟩:=Y2F q;exact hL.box f (List.mem_of_mem_take B) r q
  exact l.in h
 unfold Q9x;refine W4 (fun z:List Rect×Int=>∃ i:Nat,z=(cn (inR (V8 (L.take i) d (btw lo hi))),(i:Int))/\i<=L.length) (fun z=>L.length-z.2.toNat) (fun g z w u=>?_) ⟨0,?_,Nat.zero_le _⟩ (by simp;omega)
 .obtain ⟨i,rfl,C⟩:=w
  simp only at u ⊢;unfold Z3u
  refine Q4 (fun h=>?_) (fun h=>?_)
  .have h:i<L.length:=by simpa using h
   have E:=hL.vl.rlen (V4 h);have e:V8 (L.take (i+1)) d (btw lo hi)=V8 (L.take i) d (btw lo hi)++(if (Z2M (gl L i) d&&btw lo hi (gl L i).k_)=true then (gl L i).g_.t_ else []):=by
    rw [J6 h,Y3z,Z2C];congr 1
    rw [show V8 [] d (btw lo hi)=[] from rfl,List.append_nil]
   have t:∀ b,b=(Z2M (gl L i) d&&btw lo hi (gl L i).k_)->Q1P F L (cn (inR (V8 (L.take i) d (btw lo hi)))) (i:Int) g b=some (cn (inR (V8 L d (btw lo hi)))):=fun b l=>by
    have c:∀ o,o=cn (inR (V8 (L.take (i+1)) d (btw lo hi)))->Q3u F (i:Int) g o=some (cn (inR (V8 L d (btw lo hi)))):=fun o D=>by
     unfold Q3u;refine Z3 (k:=?_)
     exact u _ ⟨i+1,by rw [D];simp,h⟩ (by simp only;omega)
    unfold Q1P;refine Q4 (fun j=>?_) (fun j=>?_)
    .simp only [Int.toNat_natCast]
     have:=p i
     refine Q2 (Q3g s (by omega)) ?_;refine c _ ?_
     rw [e, <-l,j,if_pos rfl];congr 1
     funext x y
     rw [Z2a,Q2k (W6 _)];rfl
    .refine c _ ?_
     rw [e, <-l,j,if_neg (by simp),List.append_nil]
   refine Z3 (k:=?_);simp only [Int.toNat_natCast]
   refine Q2 (Y2s F _ d) ?_;refine Q4 (fun m=>Q4 (fun j=>t _ ?_) (fun j=>t _ ?_)) (fun m=>t _ ?_)
   .rw [m];unfold btw;rw [j];rfl
   .rw [m];unfold btw;rw [j];rfl
   .rw [m];rfl
  .have h:¬ i<L.length:=by simpa using h
   unfold Q8T;rw [List.take_of_length_le (by omega)]
 .have A:V8 (L.take 0) d (btw lo hi)=[]:=rfl
  rw [A,(Z4A (W6 [])).2 fun x y=>rfl];rfl
end
section
variable {F:Nat}
end
section
variable {F n:Nat} {L:List A2_} {d:Int}
end
section
variable {F:Nat} {L:List A2_} {d:Int}
theorem Y5e:∀ {l:List Int},Asc l->∀ {lo hi:Int},(∀ v ∈ l,lo<=v/\v<=hi)->lo<=hi+1->(l.length:Int)<=hi+1-lo
 | [],_,lo,hi,_,h=>by simp;omega
 | a::l,h,lo,hi,hb,h2=>by
  have b:=List.pairwise_cons.1 h;have e:=hb a (by simp)
  have:=Y5e (l:=l) b.2 (lo:=a+1) (hi:=hi) (fun v c=>by have:=b.1 v c;have:=hb v (by simp [c]);omega) (by omega)
  rw [List.length_cons];omega
theorem Q2e(hF:BIG<=F){a b:List Rect}{how:Int}(ha:a.length<=200000)(hb:b.length<=200000)(pa:∀ r ∈ a,Q1y r=true)(pb:∀ r ∈ b,Q1y r=true):Y6 F a b how=some (cn fun x y=>z8 (inR a x y) (inR b x y) how):=by
 refine Z3x hF ha hb ?_ ?_
 .have:=Y5e (Q8o b (Q8o a (f:=Rect.L_) (g:=Rect.R_) .nil)) (lo:=0) (hi:=16384) (fun v e=>by
   rcases (Q0z b _ _).1 e with h|⟨r,c,h⟩
   .rcases (Q0z a _ _).1 h with h|⟨r,c,h⟩
    .cases h
    .have h:v=r.L_\/v=r.R_:=h
     have:=(Q0n r).1 (pa r c);omega
   .have h:v=r.L_\/v=r.R_:=h
    have:=(Q0n r).1 (pb r c);omega) (by omega)
  unfold Q7v;omega
 .have:=Y5e (Q8o b (Q8o a (f:=Rect.w_) (g:=Rect.H_) .nil)) (lo:=0) (hi:=16384) (fun v e=>by
   rcases (Q0z b _ _).1 e with h|⟨r,c,h⟩
   .rcases (Q0z a _ _).1 h with h|⟨r,c,h⟩
    .cases h
    .have h:v=r.w_\/v=r.H_:=h
     have:=(Q0n r).1 (pa r c);omega
   .have h:v=r.w_\/v=r.H_:=h
    have:=(Q0n r).1 (pb r c);omega) (by omega)
  unfold Z0B;omega
theorem Y8U{l:List Rect}(hc:Q1O l){a:List Rect}(ha:∀ r ∈ a,Q1y r=true)(hs:∀ x y,inR l x y=true->inR a x y=true):∀ r ∈ l,Q1y r=true:=by
 have e:Box (16384:Int) l:=hc.box fun x y h=>by
  obtain ⟨r,b,c⟩:=(Q3j _ _ _).1 (hs x y h);have:=(Q0n r).1 (ha r b)
  rw [y6] at c;omega
 exact e.prop (by omega)
end
section
def Z5d(r:Rg_):Int:=
 if r.y_<0\/100<r.y_ then 18 else if r.c_<0\/40<=r.c_ then 13 else if r.g_.t_.length=0\/Q3m r.g_.t_=false then 7 else 0
theorem Q4w(r:Rg_):Z5d r=0↔0<=r.y_/\r.y_<=100/\0<=r.c_/\r.c_<40/\r.g_.t_.length≠0/\Val r.g_.t_:=by
 unfold Z5d;rw [<-Q0Q]
 by_cases h1:r.y_<0\/100<r.y_
 .rw [if_pos h1];simp;omega
 .rw [if_neg h1]
  by_cases h2:r.c_<0\/40<=r.c_
  .rw [if_pos h2];simp;omega
  .rw [if_neg h2]
   by_cases b:r.g_.t_.length=0\/Q3m r.g_.t_=false
   .rw [if_pos b]
    constructor
    .intro h;cases h
    .rintro ⟨_,_,_,_,e,c⟩
     rcases b with b|b
     .exact absurd b e
     .rw [c] at b;cases b
   .rw [if_neg b]
    refine ⟨fun _=>?_,fun _=>rfl⟩;have e:r.g_.t_.length≠0:=fun h=>b (.inl h)
    have c:Q3m r.g_.t_=true:=by
     cases hv:Q3m r.g_.t_ with
     | true=>rfl
     | false=>exact absurd (.inr hv) b
    exact ⟨by omega,by omega,by omega,by omega,e,c⟩
theorem Z9y{F:Nat}(hF:BIG<=F)(r:Rg_):Q8j F r=some (Z5d r):=by
 unfold Q8j Z5d;rw [Q7p (Q2O F r)]
 unfold Q2O;refine Q4 (fun h=>by rw [if_pos (by simpa using h)]) (fun h=>?_)
 rw [if_neg (by simpa using h),Q7p (Q2N F r)];unfold Q2N
 refine Q4 (fun h=>by rw [if_pos (by simpa using h)]) (fun h=>?_);rw [if_neg (by simpa using h)]
 refine Q4 (fun h=>?_) (fun h=>?_)
 .have h:r.g_.t_.length=0:=by simpa using h
  rw [if_pos (.inl h)];rfl
 .have h:r.g_.t_.length≠0:=by simpa using h
  refine Q2 (Q0q hF _) ?_;unfold Q4Z
  refine Q4 (fun b=>?_) (fun b=>?_)
  .rw [if_pos (.inr (by simpa using b))]
  .rw [if_neg (by rintro (h3|h3);exact h h3;rw [h3] at b;cases b)]
def ltR(f g:Rg_):Bool:=decide (f.y_<g.y_)||(decide (f.y_=g.y_)&&decide (f.c_<g.c_))
theorem Q8e(f g:Rg_):ltR f g=true↔f.y_<g.y_\/(f.y_=g.y_/\f.c_<g.c_):=by unfold ltR;simp
theorem Y0l{f g h:Rg_}(h1:ltR f g=true)(h2:ltR g h=true):ltR f h=true:=by
 rw [Q8e] at *;omega
theorem Z8v{F:Nat}(hF:BIG<=F)(f g:Rg_):∃ c,Q6U F f g=some c/\(c<0↔ltR f g=true)/\(0<c↔ltR g f=true):=by
 refine ⟨if (if f.y_<g.y_ then (-1:Int) else if g.y_<f.y_ then 1 else 0)≠0 then (if f.y_<g.y_ then (-1:Int) else if g.y_<f.y_ then 1 else 0) else (if f.c_<g.c_ then (-1:Int) else if g.c_<f.c_ then 1 else 0),?_,?_⟩
 .unfold Q6U
  exact Q2 (Q7h _ _ _) (Q2 (Q7h _ _ _) (Q2 (Y7n F hF _ _) rfl))
 .rw [Q8e,Q8e]
  by_cases h1:f.y_<g.y_
  .simp [h1];omega
  .by_cases h2:g.y_<f.y_
   .simp [h1,h2];omega
   .by_cases h3:f.c_<g.c_
    .simp [h1,h2,h3];omega
    .by_cases h4:g.c_<f.c_
     .simp [h1,h2,h3,h4];omega
     .simp [h1,h2,h3,h4]
def hGo:Option Rg_->List Rg_->Int
 | _,[]=>0
 | p,f::l=>if Z5d f≠0 then Z5d f else if p.any (fun g=> !ltR g f) then 3 else hGo (some f) l
def NX(l:List Rg_):Prop:=l.Pairwise fun f g=>f.y_=g.y_->Q3z f.g_ g.g_=false
open Classical in
def Q7w(l:List Rg_):Int:=if 200<l.length then 1 else if hGo none l≠0 then hGo none l else if NX l then 0 else 11
def Z4V(l:List Rg_)(i:Nat):Option Rg_:=if i=0 then none else some (gl l (i-1))
theorem Y2A(l:List Rg_)(i:Nat):Z4V l (i+1)=some (gl l i):=by simp [Z4V]
theorem W2D{l:List Rg_}:NX l↔∀ j,j<l.length->∀ i,i<j->(gl l i).y_=(gl l j).y_->Q3z (gl l i).g_ (gl l j).g_=false:=by
 unfold NX;rw [List.pairwise_iff_getElem]
 constructor
 .intro h j b i f c
  rw [y5 b,y5 (by omega)] at *;exact h i j (by omega) b f c
 .intro h i j f b e c
  have:=h j b i e
  rw [y5 b,y5 (by omega)] at this;exact this c
theorem Y5G{F:Nat}(hF:BIG<=F){l:List Rg_}(hl:l.length<=200){y:Int}(h0:NX l->y=0)(h1:¬ NX l->y=11):Q5m F l=some y:=by
 have u:=hF;unfold BIG at hF
 unfold Q5m;refine W4 (fun z:Int=>∃ i:Nat,z=i/\i<=l.length/\∀ j,j<i->∀ a,a<j->(gl l a).y_=(gl l j).y_->Q3z (gl l a).g_ (gl l j).g_=false) (fun z=>l.length-z.toNat) (fun w z t D=>?_) ⟨0,rfl,by omega,fun j r=>absurd r (Nat.not_lt_zero j)⟩ (by simp;omega)
 obtain ⟨i,rfl,G,B⟩:=t;unfold Z5Q
 refine Q4 (fun m=>?_) (fun m=>?_)
 .have m:i<l.length:=by simpa using m
  refine Z3 (k:=?_);refine Z3 (k:=?_)
  refine W4 (fun z:Int=>∃ j:Nat,z=j/\j<=i/\∀ a,a<j->(gl l a).y_=(gl l i).y_->Q3z (gl l a).g_ (gl l i).g_=false) (fun z=>i-z.toNat) (fun g z t v=>?_) ⟨0,rfl,by omega,fun j r=>absurd r (Nat.not_lt_zero j)⟩ (by simp;omega);obtain ⟨j,rfl,r,A⟩:=t
  unfold Z5P;simp only [Int.toNat_natCast]
  have q:(l.take i).length=i:=by rw [List.length_take];omega
  simp only [q];refine Q4 (fun f=>?_) (fun f=>?_)
  .have f:j<i:=by simpa using f
   have e:gl (l.take i) j=gl l j:=by simp [gl,List.getD_eq_getElem?_getD,f]
   rw [e];refine Z3 (k:=?_)
   have C:∀ b:Bool,b=(decide ((gl l j).y_=(gl l i).y_)&&Q3z (gl l j).g_ (gl l i).g_)->Q5l F j g b=some y:=by
    intro b h;unfold Q5l
    refine Q4 (fun c=>?_) (fun c=>?_)
    .rw [c,eq_comm,Bool.and_eq_true,decide_eq_true_eq] at h
     rw [h1 fun E=>by rw [W2D.1 E i m j f h.1] at h;cases h.2]
    .rw [c] at h
     refine Z3 (k:=?_);refine v _ ⟨j+1,by omega,f,fun a s o=>?_⟩ (by omega)
     rcases Nat.lt_or_ge a j with p|p
     .exact A a p o
     .have:a=j:=by omega
      subst this;rw [decide_eq_true o,Bool.true_and] at h
      exact h.symm
   refine Q4 (fun c=>?_) (fun c=>?_)
   .refine Q2 (Y2v u _ _) (C _ ?_)
    have c:(gl l j).y_=(gl l i).y_:=by simpa using c
    rw [decide_eq_true c,Bool.true_and]
   .refine C _ ?_
    have c:¬ (gl l j).y_=(gl l i).y_:=by simpa using c
    rw [decide_eq_false c,Bool.false_and]
  .have f:j=i:=by
    have:¬ j<i:=by simpa using f
    omega
   subst f;unfold Z1K
   refine Z3 (k:=?_);refine D _ ⟨j+1,by omega,m,fun b h a s o=>?_⟩ (by omega)
   rcases Nat.lt_or_ge b j with p|p
   .exact B b p a s o
   .have:b=j:=by omega
    subst this;exact A a s o
 .have m:i=l.length:=by
   have:¬ i<l.length:=by simpa using m
   omega
  subst m;rw [h0 (W2D.2 B)];rfl
theorem Z5O{F:Nat}(hF:BIG<=F)(l:List Rg_):Q9T F l=some (Q7w l):=by
 have C:=hF;unfold BIG at hF
 unfold Q9T;refine Q4 (fun h=>?_) (fun h=>?_)
 .have h:200<l.length:=by simp at h;omega
  rw [Q7w,if_pos h]
 .have h:¬ 200<l.length:=by simp at h;omega
  have w:hGo none l=0->Q5m F l=some (Q7w l):=fun q=>by
   refine Y5G C (by omega) (fun E=>?_) (fun E=>?_)
   .rw [Q7w,if_neg h,if_neg (by simp [q]),if_pos E]
   .rw [Q7w,if_neg h,if_neg (by simp [q]),if_neg E]
  have u:hGo none l≠0->Q7w l=hGo none l:=fun q=>by rw [Q7w,if_neg h,if_pos q]
  refine W4 (fun z:Int=>∃ i:Nat,z=i/\i<=l.length/\hGo none l=hGo (Z4V l i) (l.drop i)) (fun z=>l.length-z.toNat) (fun e z G H=>?_) ⟨0,rfl,by omega,rfl⟩ (by simp;omega);obtain ⟨i,rfl,J,m⟩:=G
  unfold Z5R;refine Q4 (fun s=>?_) (fun s=>?_)
  .have s:i<l.length:=by simpa using s
   rw [Q1D s,hGo] at m;refine Z3 (k:=?_)
   simp only [Int.toNat_natCast];have t:∀ c:Int,Z5d (gl l i)=c->c≠0->Q7w l=c:=fun c r p=>by
    rw [if_pos (by rw [r];exact p),r] at m;rw [u (by rw [m];exact p),m]
   have f:Z5d (gl l i)=0->∀ b:Bool,b=(Z4V l i).any (fun g=> !ltR g (gl l i))->Q2c F i e b=some (Q7w l):=by
    intro r b v;rw [if_neg (by simp [r])] at m
    unfold Q2c;refine Q4 (fun p=>?_) (fun p=>?_)
    .rw [if_pos (v ▸ p)] at m
     rw [u (by rw [m];decide),m]
    .rw [if_neg (by rw [<-v,p];simp)] at m
     refine Z3 (k:=?_);refine H _ ⟨i+1,by omega,s,?_⟩ (by omega)
     rw [m,Y2A]
   rw [Q7p (Q5p F l i e)];unfold Q5p
   refine Q4 (fun r=>?_) (fun r=>?_)
   .rw [t 18 (by unfold Z5d;rw [if_pos (by simpa using r)]) (by decide)]
   .rw [Q7p (Q5o F l i e)]
    unfold Q5o;refine Q4 (fun p=>?_) (fun p=>?_)
    .rw [t 13 (by unfold Z5d;rw [if_neg (by simpa using r),if_pos (by simpa using p)]) (by decide)]
    .refine Q2 (Q2d C _) ?_
     rw [Q7p (Q5n F l i e)];unfold Q5n
     refine Q4 (fun j=>?_) (fun j=>?_)
     .have j:(gl l i).g_.t_.length=0\/Q3m (gl l i).g_.t_=false:=by
       rw [Bool.or_eq_true] at j;rcases j with o|o
       .exact .inr (by simpa using o)
       .exact .inl (by simpa using o)
      rw [t 7 (by unfold Z5d;rw [if_neg (by simpa using r),if_neg (by simpa using p),if_pos j]) (by decide)]
     .have j:¬ ((gl l i).g_.t_.length=0\/Q3m (gl l i).g_.t_=false):=by
       rw [Bool.or_eq_false_iff] at j;simp only [Int.toNat_natCast] at j
       rintro (o|o)
       .rw [o] at j;simp at j
       .rw [o] at j;simp at j
      have o:Z5d (gl l i)=0:=by unfold Z5d;rw [if_neg (by simpa using r),if_neg (by simpa using p),if_neg j]
      refine Q4 (fun q=>?_) (fun q=>?_)
      .have q:0<i:=by simpa using q
       refine Z3 (k:=?_);refine Z3 (k:=?_)
       have I:((i:Int)-1).toNat=i-1:=by omega
       rw [I];have D:(Z4V l i).any (fun g=> !ltR g (gl l i))=!ltR (gl l (i-1)) (gl l i):=by simp [Z4V,show i≠0 from by omega]
       refine Q4 (fun A=>?_) (fun A=>?_)
       .refine f o _ ?_
        have A:(gl l i).y_<(gl l (i-1)).y_:=by simpa using A
        rw [D,eq_comm,Bool.not_eq_true', <-Bool.not_eq_true,Q8e];omega
       .have A:¬ (gl l i).y_<(gl l (i-1)).y_:=by simpa using A
        refine Z3 (k:=?_);refine Z3 (k:=?_)
        refine Q4 (fun B=>?_) (fun B=>?_)
        .have B:(gl l i).y_=(gl l (i-1)).y_:=by simpa using B
         refine Z3 (k:=?_);refine Z3 (k:=?_)
         refine f o _ ?_;rw [D,Bool.eq_iff_iff,Bool.not_eq_true', <-Bool.not_eq_true,Q8e,decide_eq_true_eq]
         simp only [Int.toNat_natCast];omega
        .have B:¬ (gl l i).y_=(gl l (i-1)).y_:=by simpa using B
         refine f o _ ?_;rw [D,eq_comm,Bool.not_eq_false',Q8e];omega
      .have q:i=0:=by simp at q;omega
       exact f o _ (by simp [Z4V,q])
  .have s:¬ i<l.length:=by simpa using s
   rw [List.drop_of_length_le (by omega)] at m;exact w m
end
theorem Z1y{F:Nat}(hF:BIG<=F){l:List Rg_}{q:Rg_->Option Bool}(p:Rg_->Bool)(hl:l.length<=1000000000)(hq:∀ r ∈ l,q r=some (p r)):Q1m F l q=some (Z1k p l):=by
 unfold BIG at hF;unfold Q1m
 refine W4 (fun z:Int=>∃ i:Nat,z=i/\i<=l.length/\∀ j,j<i->p (gl l j)=false) (fun z=>l.length-z.toNat) (fun f z o s=>?_) ⟨0,rfl,by omega,fun j m=>by omega⟩ (by simp;omega);obtain ⟨i,rfl,t,e⟩:=o
 unfold Q5i;refine Q4 (fun h=>?_) (fun h=>?_)
 .have h:i<l.length:=by simpa using h
  refine Z3 (k:=?_);refine Q2 (hq _ (V4 h)) ?_
  simp only [Int.toNat_natCast];refine Q4 (fun b=>?_) (fun b=>?_)
  .have c:l.any p=true:=List.any_eq_true.2 ⟨_,V4 h,b⟩
   rw [Z1k,if_pos c,Z4v h e b]
  .refine Z3 (k:=?_)
   refine s _ ⟨i+1,by omega,h,fun j m=>?_⟩ (by omega);rcases Nat.lt_or_ge j i with g|g
   .exact e j g
   .have:j=i:=by omega
    subst this;exact b
 .have h:¬ i<l.length:=by simpa using h
  have:i=l.length:=by omega
  subst this;have c:=Q6E e
  rw [Z1k,c];rfl
theorem Y5U{α:Type}(p:α->Bool)(l:List α):0<=Z1k p l↔l.any p=true:=by
 unfold Z1k;split
 .rename_i h;simp [h]
 .rename_i h;simp [h]
theorem Q9P{F:Nat}(hF:BIG<=F){l:List Rg_}{q:Rg_->Option Bool}(p:Rg_->Bool)(hl:l.length<=1000000000)(hq:∀ r ∈ l,q r=some (p r)):Q0C F l q=some (l.any p):=by
 unfold Q0C;refine Q2 (Z1y hF p hl hq) ?_
 congr 1
 rw [Bool.eq_iff_iff, <-Y5U,decide_eq_true_iff]
structure GrpOf (gs:List (Int×List Rg_)) (l:List Rg_):Prop where
 nd:(gs.map (·.1)).Nodup
 row:∀ e ∈ gs,e.2=l.filter fun f=>decide (f.y_=e.1)
 key:∀ f ∈ l,∃ e ∈ gs,e.1=f.y_
theorem GrpOf.nil:GrpOf [] []:=⟨by simp,fun e b=>by simp at b,fun f c=>by simp at c⟩
theorem GrpOf.gRow{gs:List (Int×List Rg_)}{l:List Rg_}(h:GrpOf gs l)(y:Int):gRow y gs=l.filter fun f=>decide (f.y_=y):=by
 unfold Go.Ab.gRow;rcases Q7q y gs with ⟨r,q,i,j⟩|⟨o,c⟩
 .rw [i]
  simp only
  rw [h.row q (List.mem_of_getElem? i),j]
 .rw [o,List.getElem?_eq_none (Nat.le_refl _)]
  simp only
  symm
  rw [List.filter_eq_nil_iff];intro f m b
  obtain ⟨e,p,g⟩:=h.key f m;exact c e p (by rw [g];exact of_decide_eq_true b)
theorem GrpOf.app{gs:List (Int×List Rg_)}{l:List Rg_}(h:GrpOf gs l)(f:Rg_):GrpOf (gApp f.y_ [f] gs) (l++[f]):=by
 obtain ⟨q,w,I,B,D⟩:=Z9A (y:=f.y_) (m:=[f]) (gs:=gs);have p:=Y4g (y:=f.y_) (m:=[f]) h.nd
 have A:(gApp f.y_ [f] gs)[Q0I f.y_ gs]?=some q:=by rw [B,Z9m D,if_pos rfl]
 have v:∀ e ∈ gApp f.y_ [f] gs,e=q\/(e ∈ gs/\e.1≠f.y_):=by
  intro e o;obtain ⟨j,c⟩:=List.getElem?_of_mem o
  by_cases b:j=Q0I f.y_ gs
  .rw [b,A] at c;cases c;exact .inl rfl
  .right
   have r:=c;rw [B,Z9m D,if_neg b] at r
   refine ⟨List.mem_of_getElem? r,fun z=>b ?_⟩;exact Y0k p c A (by rw [z,w])
 refine ⟨p,fun e o=>?_,fun g t=>?_⟩
 .rcases v e o with rfl|⟨J,G⟩
  .rw [I,h.gRow,List.filter_append,w];simp
  .rw [h.row e J,List.filter_append]
   have:([f].filter fun g=>decide (g.y_=e.1))=[]:=by simp;exact fun H=>G H.symm
   rw [this,List.append_nil]
 .rcases List.mem_append.1 t with t|t
  .obtain ⟨e,o,u⟩:=h.key g t
   by_cases z:e.1=f.y_
   .exact ⟨q,List.mem_of_getElem? A,by rw [w, <-u,z]⟩
   .obtain ⟨j,c⟩:=List.getElem?_of_mem o
    have b:j≠Q0I f.y_ gs:=by
     rintro rfl;rcases Q7q f.y_ gs with ⟨_,K,s,C⟩|⟨E,_⟩
     .rw [c] at s;cases s;exact z C
     .rw [E,List.getElem?_eq_none (Nat.le_refl _)] at c;cases c
    refine ⟨e,List.mem_of_getElem? (i:=j) ?_,u⟩;rw [B,Z9m D,if_neg b];exact c
  .have:g=f:=by simpa using t
   subst this;exact ⟨q,List.mem_of_getElem? A,w⟩
theorem W0m(y:Int)(m:List Rg_)(gs:List (Int×List Rg_)):(gApp y m gs).length<=gs.length+1:=by
 obtain ⟨q,_,_,h,b⟩:=Z9A (y:=y) (m:=m) (gs:=gs);rw [h,Z6f b]
 split <;> omega
theorem Y0s{F:Nat}(hF:BIG<=F){l:List Rg_}(hl:l.length<=200):∃ gs,Z3d F l=some gs/\GrpOf gs l/\gs.length<=l.length:=by
 unfold BIG at hF;have c:∀ (n i:Nat) (gs:List (Int×List Rg_)),i<=l.length->l.length-i<n->GrpOf gs (l.take i)->gs.length<=i->∃ r,Q9 (fun again (z:Int×(List (Int×(List Rg_))))=>Q1S F l again z.1 z.2) n ((i:Int),gs)=some r/\GrpOf r l/\r.length<=l.length:=by
  intro n
  induction n with
  | zero=>intro i gs _ h;omega
  | succ n ih=>
   intro i gs p o b g
   by_cases h:i<l.length
   .obtain ⟨r,j,e⟩:=ih (i+1) (gApp (gl l i).y_ [gl l i] gs) h (by omega) (by rw [J6 h];exact b.app _) (by have:=W0m (gl l i).y_ [gl l i] gs;omega)
    refine ⟨r,?_,e⟩;show Q1S F l _ (i:Int) gs=_
    unfold Q1S;simp only [Int.toNat_natCast]
    refine Z6 (by simpa using h) ?_;refine Z3 (k:=?_)
    refine Q6 ?_ ?_
    .rw [b.gRow]
     have:=List.length_filter_le (fun f:Rg_=>decide (f.y_=(gl l i).y_)) (l.take i)
     have m:(l.take i).length<=200:=by rw [List.length_take];omega
     simp only [LIM,List.length_cons,List.length_nil];omega
    .refine Z3 (k:=?_)
     exact j
   .have:i=l.length:=by omega
    subst this;refine ⟨gs,?_,by rw [List.take_length] at b;exact b,g⟩
    show Q1S F l _ _ gs=_;unfold Q1S
    exact Q7 (by simp) rfl
 exact c F 0 [] (Nat.zero_le _) (by omega) (by rw [List.take_zero];exact GrpOf.nil) (Nat.zero_le _)
def Y3I(e:Int×List Rg_):Prop:=¬ e.2.Pairwise fun f g=>Q3z f.g_ g.g_=false
theorem Y8k{gs:List (Int×List Rg_)}{l:List Rg_}(h:GrpOf gs l):NX l↔∀ e ∈ gs,¬ Y3I e:=by
 unfold NX Y3I;constructor
 .intro o e c p
  refine p ?_;rw [h.row e c,List.pairwise_filter]
  exact o.imp fun {f g} hh h1 h2=>hh (by simp at h1 h2;omega)
 .intro o
  rw [List.pairwise_iff_getElem];intro i j s q m r
  obtain ⟨e,c,b⟩:=h.key l[i] (List.getElem_mem _);have:=Classical.not_not.1 (o e c)
  rw [h.row e c,List.pairwise_filter,List.pairwise_iff_getElem] at this;exact this i j s q m (by simp [b]) (by simp [b,r])
theorem Y8l{e:Int×List Rg_}:¬ Y3I e↔∀ j,j<e.2.length->∀ i,i<j->Q3z (gl e.2 i).g_ (gl e.2 j).g_=false:=by
 unfold Y3I;rw [Classical.not_not,List.pairwise_iff_getElem]
 constructor
 .intro h j b i f
  rw [y5 b,y5 (by omega)];exact h i j (by omega) b f
 .intro h i j f b c
  have:=h j b i c
  rw [y5 b,y5 (by omega)] at this;exact this
theorem Z7p{F:Nat}(hF:BIG<=F){e:Int×List Rg_}(hl:e.2.length<=200){rest:List (Int×List Rg_)}{ag:List (Int×List Rg_)->Option Int}{y:Int}(hb:Y3I e->y=11)(hg:¬ Y3I e->ag rest=some y):
  Q9 (fun again (z:Int)=>Q9i F e rest ag again z) F (0:Int)=some y:=by
 have b:=hF;unfold BIG at hF
 refine W4 (fun z:Int=>∃ i:Nat,z=i/\i<=e.2.length/\∀ j,j<i->∀ a,a<j->Q3z (gl e.2 a).g_ (gl e.2 j).g_=false) (fun z=>e.2.length-z.toNat) (fun again z t u=>?_) ⟨0,rfl,by omega,fun j o=>absurd o (Nat.not_lt_zero j)⟩ (by simp;omega);obtain ⟨i,rfl,A,q⟩:=t
 unfold Q9i;simp only [Int.toNat_natCast]
 refine Q4 (fun h=>?_) (fun h=>?_)
 .have h:i<e.2.length:=by simpa using h
  refine Z3 (k:=?_);refine Z3 (k:=?_)
  refine Q2 (Q9P b (fun f=>Q3z f.g_ (gl e.2 i).g_) (by rw [List.length_take];omega) (fun r _=>by unfold Z0A;exact Q2 (Y1l b _ _) rfl)) ?_;refine Q4 (fun l=>?_) (fun l=>?_)
  .rw [hb fun w=>?_]
   .obtain ⟨f,v,g⟩:=List.any_eq_true.1 l
    obtain ⟨a,c,rfl⟩:=List.getElem_of_mem v;have m:a<i:=by rw [List.length_take] at c;omega
    have:=Y8l.1 (Classical.not_not.2 w) i h a m
    rw [List.getElem_take] at g;rw [y5 (show a<e.2.length by omega)] at this
    rw [this] at g;cases g
  .refine Z3 (k:=?_)
   refine u _ ⟨i+1,by omega,h,fun j o a c=>?_⟩ (by omega);rcases Nat.lt_or_ge j i with p|p
   .exact q j p a c
   .have:j=i:=by omega
    subst this;have s:=List.any_eq_false.1 l (gl e.2 a) (by
     rw [y5 (show a<e.2.length by omega)];have:e.2[a]=(e.2.take j)[a]'(by rw [List.length_take];omega):=by rw [List.getElem_take]
     rw [this];exact List.getElem_mem _)
    simpa using s
 .have h:i=e.2.length:=by
   have:¬ i<e.2.length:=by simpa using h
   omega
  subst h;exact hg (Y8l.2 q)
theorem Z9s{α:Type}{l:List α}{i:Nat}(hi:i<l.length)(p:α->Prop):(∀ e ∈ l,p e)↔p l[i]/\∀ e ∈ l.eraseIdx i,p e:=by
 constructor
 .exact fun h=>⟨h _ (List.getElem_mem _),fun e b=>h e (List.mem_of_mem_eraseIdx b)⟩
 .rintro ⟨g,c⟩ e b
  obtain ⟨j,f,rfl⟩:=List.getElem_of_mem b
  by_cases hij:j=i
  .subst hij;exact g
  .exact c _ (List.mem_eraseIdx_iff_getElem.2 ⟨j,f,hij,rfl⟩)
theorem Z7q{F:Nat}(hF:BIG<=F):∀ (n:Nat) (gs:List (Int×List Rg_)) (y:Int),gs.length<n->(∀ e ∈ gs,e.2.length<=200)->((∀ e ∈ gs,¬ Y3I e)->y=0)->((¬ ∀ e ∈ gs,¬ Y3I e)->y=11) ->
  Q9 (fun again (z:(List (Int×(List Rg_))))=>Q5R F again z) n gs=some y:=by
 intro n
 induction n with
 | zero=>intro gs y h;omega
 | succ n ih=>
  intro gs y r c p q;show Q5R F _ gs=_
  unfold Q5R
  cases gs with
  | nil=>
   rw [Y8J,p (fun e f=>by simp at f)];rfl
  | cons g l=>
   refine Y6Y (by simp) fun i o=>?_
   refine Z7p hF (c _ (List.getElem_mem _)) (fun j=>q fun b=>b _ (List.getElem_mem _) j) (fun j=>?_);refine ih _ y (by rw [List.length_eraseIdx];rw [if_pos o];simp at r ⊢;omega) (fun e f=>c e (List.mem_of_mem_eraseIdx f)) (fun b=>p ?_) (fun m=>q fun b=>m ?_)
   .exact (Z9s o (fun e=>¬ Y3I e)).2 ⟨j,b⟩
   .exact ((Z9s o (fun e=>¬ Y3I e)).1 b).2
theorem Y0u{F:Nat}(hF:BIG<=F)(l:List Rg_):Q9A F l=some (Q7w l):=by
 have p:=hF;unfold BIG at hF
 unfold Q9A;refine Q4 (fun h=>?_) (fun h=>?_)
 .have h:200<l.length:=by simp at h;omega
  rw [Q7w,if_pos h]
 .have h:¬ 200<l.length:=by simp at h;omega
  have w:hGo none l=0->Q5Q F l=some (Q7w l):=fun m=>by
   unfold Q5Q;obtain ⟨E,D,C,N⟩:=Y0s p (l:=l) (by omega)
   refine Q2 D ?_;have o:E.length<F:=by omega
   refine Z7q p F E _ o (fun e j=>?_) (fun B=>?_) (fun B=>?_)
   .rw [C.row e j]
    have:=List.length_filter_le (fun f:Rg_=>decide (f.y_=e.1)) l
    omega
   .rw [Q7w,if_neg h,if_neg (by simp [m]),if_pos ((Y8k C).2 B)]
   .rw [Q7w,if_neg h,if_neg (by simp [m]),if_neg fun M=>B ((Y8k C).1 M)]
  have u:hGo none l≠0->Q7w l=hGo none l:=fun m=>by rw [Q7w,if_neg h,if_pos m]
  refine W4 (fun z:Int=>∃ i:Nat,z=i/\i<=l.length/\hGo none l=hGo (Z4V l i) (l.drop i)) (fun z=>l.length-z.toNat) (fun t z H K=>?_) ⟨0,rfl,by omega,rfl⟩ (by simp;omega);obtain ⟨i,rfl,O,j⟩:=H
  unfold Z3F;refine Q4 (fun s=>?_) (fun s=>?_)
  .have s:i<l.length:=by simpa using s
   rw [Q1D s,hGo] at j;refine Z3 (k:=?_)
   simp only [Int.toNat_natCast];refine Q2 (Z9y p _) ?_
   refine Q4 (fun r=>?_) (fun r=>?_)
   .have r:Z5d (gl l i)≠0:=by simpa using r
    rw [if_pos r] at j;rw [u (by rw [j];exact r),j]
   .have r:Z5d (gl l i)=0:=by simpa using r
    rw [if_neg (by simp [r])] at j;have q:∀ b:Bool,b=(Z4V l i).any (fun g=> !ltR g (gl l i))->Q3D F i t b=some (Q7w l):=by
     intro b v;unfold Q3D
     refine Q4 (fun A=>?_) (fun A=>?_)
     .rw [if_pos (v ▸ A)] at j
      rw [u (by rw [j];decide),j]
     .rw [if_neg (by rw [<-v,A];simp)] at j
      refine Z3 (k:=?_);refine K _ ⟨i+1,by omega,s,?_⟩ (by omega)
      rw [j,Y2A]
    refine Q4 (fun m=>?_) (fun m=>?_)
    .have m:0<i:=by simpa using m
     refine Z3 (k:=?_);refine Z3 (k:=?_)
     have D:((i:Int)-1).toNat=i-1:=by omega
     rw [D];obtain ⟨c,I,G,P⟩:=Z8v p (gl l (i-1)) (gl l i)
     refine Q2 I (q _ ?_);have J:(Z4V l i).any (fun g=> !ltR g (gl l i))=!ltR (gl l (i-1)) (gl l i):=by simp [Z4V,show i≠0 from by omega]
     rw [J,Bool.eq_iff_iff,Bool.not_eq_true', <-Bool.not_eq_true, <-G,decide_eq_true_eq];omega
    .have m:i=0:=by simp at m;omega
     exact q _ (by simp [Z4V,m])
  .have s:¬ i<l.length:=by simpa using s
   rw [List.drop_of_length_le (by omega)] at j;exact w j
structure HL (l:List Rg_):Prop where
 len:l.length<=200
 one:∀ f ∈ l,Z5d f=0
 asc:l.Pairwise fun f g=>ltR f g=true
 nx:NX l
theorem Y2K:∀ (l:List Rg_) (p:Option Rg_),hGo p l=0↔(∀ f ∈ l,Z5d f=0)/\l.Pairwise (fun f g=>ltR f g=true)/\∀ n,p=some n->∀ f ∈ l,ltR n f=true
 | [],p=>by simp [hGo]
 | f::l,p=>by
  have q:=Y2K l (some f);unfold hGo
  by_cases h1:Z5d f=0
  .rw [if_neg (by simp [h1])]
   by_cases i:p.any (fun g=> !ltR g f)=true
   .rw [if_pos i]
    constructor
    .intro h;cases h
    .rintro ⟨_,_,h⟩
     cases p with
     | none=>simp at i
     | some n=>
      have i:ltR n f=false:=by simpa using i
      rw [h n rfl f (by simp)] at i;cases i
   .rw [if_neg i,q]
    constructor
    .rintro ⟨a,b,c⟩
     refine ⟨fun g e=>?_,List.pairwise_cons.2 ⟨fun g e=>c _ rfl g e,b⟩,fun n j g e=>?_⟩
     .rcases List.mem_cons.1 e with rfl|e
      .exact h1
      .exact a g e
     .subst j
      have i:ltR n f=true:=by simpa using i
      rcases List.mem_cons.1 e with rfl|e
      .exact i
      .exact Y0l i (c _ rfl g e)
    .rintro ⟨a,b,c⟩
     obtain ⟨o,m⟩:=List.pairwise_cons.1 b;exact ⟨fun g e=>a g (by simp [e]),m,fun n j g e=>by cases j;exact o g e⟩
  .rw [if_pos h1]
   constructor
   .intro h;exact absurd h h1
   .rintro ⟨a,_,_⟩;exact absurd (a f (by simp)) h1
theorem Z3O(l:List Rg_):Q7w l=0↔HL l:=by
 unfold Q7w
 by_cases h:200<l.length
 .rw [if_pos h]
  exact ⟨fun h=>(by cases h),fun c=>by have:=c.len;omega⟩
 .rw [if_neg h]
  by_cases h2:hGo none l=0
  .rw [if_neg (by simp [h2])]
   obtain ⟨a,b,_⟩:=(Y2K l none).1 h2
   by_cases h3:NX l
   .rw [if_pos h3];exact ⟨fun _=>⟨by omega,a,b,h3⟩,fun _=>rfl⟩
   .rw [if_neg h3];exact ⟨fun h=>(by cases h),fun c=>absurd c.nx h3⟩
  .rw [if_pos h2]
   exact ⟨fun h=>absurd h h2,fun c=>absurd ((Y2K l none).2 ⟨c.one,c.asc,fun n e=>by cases e⟩) h2⟩
section
variable {F:Nat} {L:List A2_} {d:Int}
end
section
variable {F n:Nat} {L:List A2_} {d:Int}
end
section
variable {F:Nat} {L:List A2_} {d:Int}
theorem Y5V{l:List Rect}(hc:Q1O l)(hl:l.length<=120){a:List Rect}(ha:∀ r ∈ a,Q1y r=true)(hs:∀ x y,inR l x y=true->inR a x y=true):Val l:=by
 have e:Box (16384:Int) l:=hc.box fun x y h=>by
  obtain ⟨r,b,c⟩:=(Q3j _ _ _).1 (hs x y h);have:=(Q0n r).1 (ha r b)
  rw [y6] at c;omega
 exact ⟨hl,e.prop (by omega),hc⟩
end
section
variable {F:Nat} {L:List A2_} {d:Int}
end
def Q3K(y c:Int)(f:Rg_):Bool:=decide (f.y_=y)&&decide (f.c_=c)
def Z6w(y:Int)(a:List Rect)(f:Rg_):Rg_:=if f.y_=y then ⟨f.y_,f.c_,⟨cn fun u v=>inR f.g_.t_ u v && !inR a u v⟩⟩ else f
def Q1X(l:List Rg_)(y c:Int)(a:List Rect):List Rg_:=(l.filter fun f=> !Q3K y c f).map (Z6w y a)
def vA(l:List Rg_)(y c:Int)(a:List Rect):List Rect:=match l.find? (Q3K y c) with|some f=>cn fun u v=>inR f.g_.t_ u v||inR a u v|none=>a
def neR(f:Rg_):Bool:= !decide (f.g_.t_.length=0)
def Z9R(l:List Rg_):Bool:=decide (200<l.length)||l.any fun f=>decide (120<f.g_.t_.length)
def Z6z(l:List Rg_)(r:Rg_):Nat:=l.countP fun f=>ltR f r
def Y8S(l:List Rg_)(r:Rg_):List Rg_:=l.take (Z6z l r)++[r]++l.drop (Z6z l r)
def Z6D(l:List Rg_)(y c:Int)(a:List Rect):List Rg_:=
 if (vA l y c a).length=0 then (Q1X l y c a).filter neR else Y8S ((Q1X l y c a).filter neR) ⟨y,c,⟨vA l y c a⟩⟩
def addH(l:List Rg_)(y c:Int)(a:Re_):List Rg_×Int:=
 if Q7w l≠0 then ([],Q7w l) else if y<0\/100<y then ([],18) else if c<0\/40<=c then ([],13) else if Q3m a.t_=false then ([],7)
 else if Z9R (Z6D l y c a.t_)=true then ([],1) else (Z6D l y c a.t_,0)
theorem Y6Q(l:List Rg_)(x:Rg_)(y c:Int)(a:List Rect):Q1X (l++[x]) y c a=Q1X l y c a++(if Q3K y c x=true then [] else [Z6w y a x]):=by
 unfold Q1X;rw [List.filter_append,List.map_append]
 congr 1
 cases h:Q3K y c x with
 | true=>simp [h]
 | false=>simp [h]
theorem W1g(l:List Rg_)(x:Rg_)(y c:Int)(a:List Rect)(h:Q3K y c x=true->∀ f ∈ l,Q3K y c f=false):vA (l++[x]) y c a=if Q3K y c x=true then cn (fun u v=>inR x.g_.t_ u v||inR a u v) else vA l y c a:=by
 unfold vA;rw [List.find?_append]
 cases hx:Q3K y c x with
 | true=>
  have:l.find? (Q3K y c)=none:=List.find?_eq_none.2 fun f b=>by rw [h hx f b];simp
  rw [this];simp [hx]
 | false=>simp [hx]
theorem Y9m(l:List Rg_)(y c:Int)(a:List Rect)(h:∀ f ∈ l,Q3K y c f=false):vA l y c a=a:=by
 unfold vA;have:l.find? (Q3K y c)=none:=List.find?_eq_none.2 fun f b=>by rw [h f b];simp
 rw [this]
theorem Y0P{l:List Rg_}(h:l.Pairwise fun f g=>ltR f g=true){i:Nat}(hi:i<l.length){y c:Int}(hs:Q3K y c (gl l i)=true):∀ f ∈ l.take i,Q3K y c f=false:=by
 intro f e;obtain ⟨j,m,rfl⟩:=List.getElem_of_mem e
 have b:j<i:=by rw [List.length_take] at m;omega
 rw [List.getElem_take];have:=List.pairwise_iff_getElem.1 h j i (by omega) hi b
 rw [Q8e] at this;rw [y5 hi] at hs
 unfold Q3K at hs ⊢;rw [Bool.and_eq_true,decide_eq_true_eq,decide_eq_true_eq] at hs
 rw [<-Bool.not_eq_true,Bool.and_eq_true,decide_eq_true_eq,decide_eq_true_eq];omega
theorem HL.val{l:List Rg_}(h:HL l){f:Rg_}(hf:f ∈ l):Val f.g_.t_:=((Q4w f).1 (h.one f hf)).2.2.2.2.2
theorem Y2q{F:Nat}(hF:BIG<=F){l:List Rg_}(h:HL l){y c:Int}{a:Re_}(ha:Val a.t_){r:List Rg_×Int}(hk:Q7P F y c (vA l y c a.t_) ((Q1X l y c a.t_).filter neR)=some r):
  Q9 (fun again (z:(List Rect)×Int×(List Rg_))=>Z4j F l y c a again z.1 z.2.1 z.2.2) F (a.t_,(0:Int),([]:List Rg_))=some r:=by
 have s:=hF;unfold BIG at hF
 have K:=h.len;refine W4 (fun z:(List Rect)×Int×(List Rg_)=>∃ i:Nat,z=(vA (l.take i) y c a.t_,(i:Int),(Q1X (l.take i) y c a.t_).filter neR)/\i<=l.length) (fun z=>l.length-z.2.1.toNat) (fun again z M H=>?_) ⟨0,by rw [List.take_zero];rfl,by omega⟩ (by simp only;omega)
 obtain ⟨i,rfl,P⟩:=M;simp only at H ⊢
 unfold Z4j;simp only [Int.toNat_natCast]
 refine Q4 (fun j=>?_) (fun j=>?_)
 .have j:i<l.length:=by simpa using j
  have t:=h.val (V4 j);have O:((Q1X (l.take i) y c a.t_).filter neR).length<=200:=by
   have J:=List.length_filter_le neR (Q1X (l.take i) y c a.t_);unfold Q1X at J ⊢
   rw [List.length_map] at J;have:=List.length_filter_le (fun f=> !Q3K y c f) (l.take i)
   have e:(l.take i).length<=l.length:=by rw [List.length_take];omega
   omega
  have g:∀ (v:List Rect) (q:List Rg_),v=vA (l.take (i+1)) y c a.t_->q=(Q1X (l.take (i+1)) y c a.t_).filter neR->Q5F F i again v q=some r:=by
   rintro v q rfl rfl;unfold Q5F
   refine Z3 (k:=?_);exact H _ ⟨i+1,rfl,j⟩ (by simp only;omega)
  have B:=W1g (l.take i) (gl l i) y c a.t_ (Y0P h.asc j);have A:=Y6Q (l.take i) (gl l i) y c a.t_
  rw [<-J6 j] at B A;have C:∀ w:List Rect,Q3K y c (gl l i)=false->(⟨(gl l i).y_,(gl l i).c_,⟨w⟩⟩:Rg_)=Z6w y a.t_ (gl l i)->Q7Q F l (vA (l.take i) y c a.t_) i ((Q1X (l.take i) y c a.t_).filter neR) again w=some r:=by
   intro w m N;unfold Q7Q
   simp only [Int.toNat_natCast];have D:(Q1X (l.take (i+1)) y c a.t_).filter neR=(Q1X (l.take i) y c a.t_).filter neR++[(⟨(gl l i).y_,(gl l i).c_,⟨w⟩⟩:Rg_)].filter neR:=by
    rw [A,if_neg (by rw [m];simp),List.filter_append,N]
   have G:vA (l.take i) y c a.t_=vA (l.take (i+1)) y c a.t_:=by rw [B,if_neg (by rw [m];simp)]
   refine Q4 (fun o=>?_) (fun o=>?_)
   .have o:w.length≠0:=by simp at o;omega
    refine Z3 (k:=?_);refine g _ _ G ?_
    rw [D];congr 1
    simp [neR,o]
   .have o:w.length=0:=by simp at o;simp [o]
    refine g _ _ G ?_;rw [D]
    simp [neR,o]
  refine Z3 (k:=?_);have I:∀ b:Bool,b=Q3K y c (gl l i)->Q7R F l y a (vA (l.take i) y c a.t_) i ((Q1X (l.take i) y c a.t_).filter neR) again b=some r:=by
   intro b E;unfold Q7R
   simp only [Int.toNat_natCast];refine Q4 (fun e=>?_) (fun e=>?_)
   .have m:Q3K y c (gl l i)=true:=by rw [<-E,e]
    rw [Y9m _ y c a.t_ (Y0P h.asc j m)];refine Q2 (Q2e s (by have:=ha.1;omega) (by have:=t.1;omega) ha.2.1 t.2.1) (g _ _ ?_ ?_)
    .rw [B,if_pos m]
     congr 1
     funext u v
     simp [z8,Bool.or_comm]
    .rw [A,if_pos m,List.append_nil]
   .have m:Q3K y c (gl l i)=false:=by rw [<-E,e]
    refine Q4 (fun p=>?_) (fun p=>?_)
    .have p:(gl l i).y_=y:=by simpa using p
     refine Q2 (Q2e s (by have:=t.1;omega) (by have:=ha.1;omega) t.2.1 ha.2.1) (C _ m ?_);unfold Z6w;rw [if_pos p]
     simp [z8]
    .have p:¬ (gl l i).y_=y:=by simpa using p
     refine C _ m ?_;unfold Z6w;rw [if_neg p]
  refine Q4 (fun e=>?_) (fun e=>?_)
  .have e:(gl l i).y_=y:=by simpa using e
   refine I _ ?_;unfold Q3K
   rw [decide_eq_true e,Bool.true_and];rfl
  .have e:¬ (gl l i).y_=y:=by simpa using e
   refine I _ ?_;unfold Q3K
   rw [decide_eq_false e,Bool.false_and]
 .have j:i=l.length:=by
   have:¬ i<l.length:=by simpa using j
   omega
  subst j;rw [List.take_length]
  exact hk
def Y3C(f:Rg_):Int×Int:=(f.y_,f.c_)
theorem Z9t{f g:Rg_}:lt2 (Y3C f) (Y3C g)↔ltR f g=true:=by rw [Q8e];unfold lt2 Y3C;exact Iff.rfl
theorem Y4k{l:List Rg_}(h:l.Pairwise fun f g=>ltR f g=true)(r:Rg_):Z6z l r<=l.length/\(∀ j,j<Z6z l r->ltR (gl l j) r=true)/\∀ j,Z6z l r<=j->j<l.length->ltR (gl l j) r=false:=by
 induction l with
 | nil=>exact ⟨Nat.le_refl _,fun j i=>by simp [Z6z] at i,fun j _ i=>by simp at i⟩
 | cons f l ih=>
  obtain ⟨t,q⟩:=List.pairwise_cons.1 h;obtain ⟨a,b,c⟩:=ih q
  cases hf:ltR f r with
  | true=>
   have e:Z6z (f::l) r=Z6z l r+1:=by simp [Z6z,hf]
   rw [e];refine ⟨by simp;exact a,fun j i=>?_,fun j i o=>?_⟩
   .cases j with
    | zero=>exact hf
    | succ j=>exact b j (by omega)
   .cases j with
    | zero=>omega
    | succ j=>exact c j (by omega) (by simpa using o)
  | false=>
   have m:∀ g ∈ l,ltR g r=false:=fun g p=>by
    rw [<-Bool.not_eq_true];intro s
    rw [Y0l (t g p) s] at hf;cases hf
   have e:Z6z (f::l) r=0:=by
    unfold Z6z;rw [List.countP_eq_zero]
    intro g p;rcases List.mem_cons.1 p with rfl|p
    .rw [hf];simp
    .rw [m g p];simp
   rw [e];refine ⟨Nat.zero_le _,fun j i=>absurd i (Nat.not_lt_zero j),fun j _ o=>?_⟩
   cases j with
   | zero=>exact hf
   | succ j=>
    have i:j<l.length:=by simpa using o
    exact m _ (V4 i)
theorem Y8R(l:List Rg_)(r:Rg_):(Y8S l r).Perm (l++[r]):=by
 unfold Y8S;have b:(l.take (Z6z l r)++[r]++l.drop (Z6z l r)).Perm (l.take (Z6z l r)++(l.drop (Z6z l r)++[r])):=by
  rw [List.append_assoc];exact List.Perm.append_left _ List.perm_append_comm
 rw [<-List.append_assoc,List.take_append_drop] at b;exact b
theorem W0b{l:List Rg_}(h:l.Pairwise fun f g=>ltR f g=true){r:Rg_}(hr:∀ f ∈ l,Y3C f≠Y3C r):(Y8S l r).Pairwise fun f g=>ltR f g=true:=by
 obtain ⟨a,b,c⟩:=Y4k h r;unfold Y8S
 generalize Z6z l r=k at *;have t:∀ f ∈ l.take k,ltR f r=true:=fun f e=>by
  obtain ⟨j,o,rfl⟩:=List.getElem_of_mem e;have i:j<k:=by rw [List.length_take] at o;omega
  have:=b j i
  rw [y5 (show j<l.length by omega)] at this;rw [List.getElem_take];exact this
 have s:∀ f ∈ l.drop k,ltR r f=true:=fun f e=>by
  obtain ⟨j,o,rfl⟩:=List.getElem_of_mem e;have i:k+j<l.length:=by rw [List.length_drop] at o;omega
  have q:=c (k+j) (by omega) i;rw [y5 i] at q
  rw [List.getElem_drop];have u:=hr _ (List.getElem_mem i)
  rcases W1y u with p|p
  .rw [Z9t.1 p] at q;cases q
  .exact Z9t.1 p
 rw [List.pairwise_append,List.pairwise_append];refine ⟨⟨h.sublist (List.take_sublist _ _),List.pairwise_singleton _ _,fun f e g m=>?_⟩,h.sublist (List.drop_sublist _ _),fun f e g m=>?_⟩
 .rw [List.mem_singleton] at m;subst m;exact t f e
 .rcases List.mem_append.1 e with e|e
  .exact Y0l (t f e) (s g m)
  .rw [List.mem_singleton] at e;subst e;exact s g m
theorem Z3M(y:Int)(a:List Rect)(f:Rg_):Y3C (Z6w y a f)=Y3C f:=by unfold Z6w;split <;> rfl
theorem Y9S(y:Int)(a:List Rect)(f g:Rg_):ltR (Z6w y a f) (Z6w y a g)=ltR f g:=by
 rw [Bool.eq_iff_iff, <-Z9t, <-Z9t,Z3M,Z3M]
theorem Y2i{l:List Rg_}(h:l.Pairwise fun f g=>ltR f g=true)(y c:Int)(a:List Rect):((Q1X l y c a).filter neR).Pairwise fun f g=>ltR f g=true:=by
 refine List.Pairwise.filter _ ?_;unfold Q1X
 rw [List.pairwise_map];refine List.Pairwise.imp (fun {f g} hh=>?_) (List.Pairwise.filter _ h)
 rw [Y9S];exact hh
theorem Y9D{l:List Rg_}{y c:Int}{a v:List Rect}:∀ f ∈ (Q1X l y c a).filter neR,Y3C f≠Y3C ⟨y,c,⟨v⟩⟩:=by
 intro f e h;have e:=(List.mem_filter.1 e).1
 unfold Q1X at e;obtain ⟨g,j,rfl⟩:=List.mem_map.1 e
 have b:=(List.mem_filter.1 j).2;rw [Z3M] at h
 unfold Y3C at h;have m:g.y_=y:=congrArg Prod.fst h
 have i:g.c_=c:=congrArg Prod.snd h;unfold Q3K at b
 simp [m,i] at b
theorem W0Q{l:List Rg_}(h:l.Pairwise fun f g=>ltR f g=true)(y c:Int)(a:List Rect):(Z6D l y c a).Pairwise fun f g=>ltR f g=true:=by
 unfold Z6D;split
 .exact Y2i h y c a
 .exact W0b (Y2i h y c a) Y9D
theorem Y0M(l:List Rg_)(y c:Int)(a:List Rect):((Q1X l y c a++[(⟨y,c,⟨vA l y c a⟩⟩:Rg_)]).filter neR).Perm (Z6D l y c a):=by
 rw [List.filter_append];unfold Z6D
 split
 .rename_i h
  have:[(⟨y,c,⟨vA l y c a⟩⟩:Rg_)].filter neR=[]:=by simp [neR,h]
  rw [this,List.append_nil]
 .rename_i h
  have:[(⟨y,c,⟨vA l y c a⟩⟩:Rg_)].filter neR=[⟨y,c,⟨vA l y c a⟩⟩]:=by simp [neR,h]
  rw [this];exact (Y8R _ _).symm
theorem Y3W(l:List Rg_)(y c:Int)(a:List Rect):(Q1X l y c a).length<=l.length:=by
 unfold Q1X;rw [List.length_map]
 exact List.length_filter_le _ _
theorem Z3s{F:Nat}(hF:BIG<=F){L:List Rg_}(hl:L.length<=201):Q6v F L=some (if Z9R L=true then ([],1) else (L,0)):=by
 unfold BIG at hF;unfold Q6v
 refine Q4 (fun h=>?_) (fun h=>?_)
 .have h:200<L.length:=by have:=of_decide_eq_true h;omega
  rw [if_pos (by unfold Z9R;rw [decide_eq_true h,Bool.true_or])]
 .have h:¬ 200<L.length:=by have:=of_decide_eq_false h;omega
  refine W4 (fun z:Int=>∃ i:Nat,z=i/\i<=L.length/\∀ j,j<i->¬ 120<(gl L j).g_.t_.length) (fun z=>L.length-z.toNat) (fun g z o q=>?_) ⟨0,rfl,by omega,fun j e=>absurd e (Nat.not_lt_zero j)⟩ (by simp;omega);obtain ⟨i,rfl,r,m⟩:=o
  unfold Z7F;simp only [Int.toNat_natCast]
  refine Q4 (fun b=>?_) (fun b=>?_)
  .have b:i<L.length:=by simpa using b
   refine Z3 (k:=?_);refine Q4 (fun c=>?_) (fun c=>?_)
   .have c:120<(gl L i).g_.t_.length:=by have:=of_decide_eq_true c;omega
    rw [if_pos];unfold Z9R
    rw [Bool.or_eq_true];exact .inr (List.any_eq_true.2 ⟨_,V4 b,decide_eq_true c⟩)
   .have c:¬ 120<(gl L i).g_.t_.length:=by have:=of_decide_eq_false c;omega
    refine Z3 (k:=?_);refine q _ ⟨i+1,by omega,b,fun j e=>?_⟩ (by omega)
    rcases Nat.lt_or_ge j i with l|l
    .exact m j l
    .have:j=i:=by omega
     subst this;exact c
  .have b:i=L.length:=by
    have:¬ i<L.length:=by simpa using b
    omega
   subst b;rw [if_neg]
   .rfl
   .unfold Z9R
    rw [decide_eq_false h,Bool.false_or,Q6E (p:=fun f:Rg_=>decide (120<f.g_.t_.length)) fun j e=>decide_eq_false (m j e)];simp
theorem Y1o{F:Nat}(hF:BIG<=F){l:List Rg_}(h:HL l){y c:Int}{a:List Rect}:
  Q7P F y c (vA l y c a) ((Q1X l y c a).filter neR)=some (if Z9R (Z6D l y c a)=true then ([],1) else (Z6D l y c a,0)):=by
 have r:=hF;unfold BIG at hF
 have w:=h.len;have D:((Q1X l y c a).filter neR).length<=200:=by
  have o:=Y3W l y c a;have f:=List.length_filter_le neR (Q1X l y c a)
  omega
 have s:=Y2i h.asc y c a;unfold Q7P Z6D
 generalize (Q1X l y c a).filter neR=R at *;generalize vA l y c a=v at *
 refine Q4 (fun o=>?_) (fun o=>?_)
 .have o:v.length≠0:=by have:=of_decide_eq_true o;omega
  rw [if_neg o];obtain ⟨k1,k2,C⟩:=Y4k s ⟨y,c,⟨v⟩⟩
  unfold Y8S;generalize Z6z R ⟨y,c,⟨v⟩⟩=k at *
  refine W4 (fun z:Int=>∃ i:Nat,z=i/\i<=k) (fun z=>R.length-z.toNat) (fun q z A B=>?_) ⟨0,rfl,by omega⟩ (by simp;omega);obtain ⟨i,rfl,E⟩:=A
  have t:i=k->Z1f F y c v R (i:Int)=some (if Z9R (R.take k++[(⟨y,c,⟨v⟩⟩:Rg_)]++R.drop k)=true then ([],1) else (R.take k++[⟨y,c,⟨v⟩⟩]++R.drop k,0)):=by
   rintro rfl;unfold Z1f
   simp only [Int.toNat_natCast];refine Q6 (by omega) (Q6 (by omega) (Q6 (by simp only [LIM];omega) (Q6 (by simp only [LIM,List.length_cons,List.length_nil];omega) (Q6 (by omega) (Q6 (by omega) (Q6 (by simp only [LIM,List.length_cons,List.length_nil];omega) ?_))))))
   have e:((([]:List Rg_)++((R.drop 0).take i))++([(⟨y,c,(⟨v⟩:Re_)⟩:Rg_)]:List Rg_))++((R.drop (0+i)).take (R.length-i))=R.take i++[⟨y,c,⟨v⟩⟩]++R.drop i:=by
    rw [List.nil_append,List.drop_zero,Nat.zero_add,List.take_of_length_le (l:=R.drop i) (by rw [List.length_drop];omega)]
   rw [e];refine Z3s r ?_
   simp only [List.length_append,List.length_take,List.length_drop,List.length_cons,List.length_nil];omega
  have g:∀ b:Bool,(b=true↔i<R.length/\ltR (gl R i) ⟨y,c,⟨v⟩⟩=true)->Q3U F y c v R i q b=some (if Z9R (R.take k++[(⟨y,c,⟨v⟩⟩:Rg_)]++R.drop k)=true then ([],1) else (R.take k++[⟨y,c,⟨v⟩⟩]++R.drop k,0)):=by
   intro b u;unfold Q3U
   refine Q4 (fun f=>?_) (fun f=>?_)
   .obtain ⟨p,j⟩:=u.1 f
    have m:i<k:=by
     rcases Nat.lt_or_ge i k with m|m
     .exact m
     .rw [C i m p] at j;cases j
    refine Z3 (k:=?_);exact B _ ⟨i+1,by omega,m⟩ (by omega)
   .refine t ?_
    rcases Nat.lt_or_ge i k with m|m
    .have:=u.2 ⟨by omega,k2 i m⟩
     rw [f] at this;cases this
    .omega
  unfold Z9f;simp only [Int.toNat_natCast]
  refine Q4 (fun f=>?_) (fun f=>?_)
  .have f:i<R.length:=by simpa using f
   refine Z3 (k:=?_);refine Q4 (fun p=>?_) (fun p=>?_)
   .refine g _ ?_
    have p:=of_decide_eq_true p;rw [Q8e];simp;omega
   .have p:=of_decide_eq_false p
    refine Z3 (k:=?_);refine Q4 (fun j=>?_) (fun j=>?_)
    .have j:(gl R i).y_=y:=by simpa using j
     refine Z3 (k:=?_);refine g _ ?_
     rw [Q8e,decide_eq_true_eq];simp only;omega
    .have j:¬ (gl R i).y_=y:=by simpa using j
     refine g _ ?_;rw [Q8e];simp;omega
  .have f:¬ i<R.length:=by simpa using f
   refine g _ ?_;simp;omega
 .have o:v.length=0:=by have:=of_decide_eq_false o;omega
  rw [if_pos o];exact Z3s r (by omega)
theorem Y4D{F:Nat}(hF:BIG<=F)(l:List Rg_)(y c:Int)(a:Re_):Z6R F l y c a=some (addH l y c a):=by
 unfold Z6R addH;refine Q2 (Z5O hF l) ?_
 refine Q4 (fun h=>?_) (fun h=>?_)
 .rw [if_pos (by simpa using h)]
 .have h:Q7w l=0:=by simpa using h
  rw [if_neg (by simp [h]),Q7p (Q7T F l y c a)];unfold Q7T
  refine Q4 (fun e=>by rw [if_pos (by simpa using e)]) (fun e=>?_);rw [if_neg (by simpa using e),Q7p (Q7S F l y c a)]
  unfold Q7S;refine Q4 (fun f=>by rw [if_pos (by simpa using f)]) (fun f=>?_)
  rw [if_neg (by simpa using f)];refine Q2 (Q2d hF _) ?_
  refine Q4 (fun b=>by rw [if_pos (by simpa using b)]) (fun b=>?_);have b:Q3m a.t_=true:=by simpa using b
  rw [if_neg (by rw [b];simp)];exact Y2q hF ((Z3O l).1 h) ((Q0Q _).1 b) (Y1o hF ((Z3O l).1 h))
end
end Go.Ab
