/- What the plain programs compute, up to the law itself. -/
import Derived.Test.YtaipicdihcmjkaaGreatPuB
set_option linter.unusedVariables false
set_option linter.unusedSimpArgs false
set_option maxRecDepth 20000
namespace Go.Ab
noncomputable section
def put:List Int->Int->List Int
 | [],n=>[n]
 | a::l,n=>if a<n then a::put l n else if a=n then a::l else n::a::l
theorem Q8x(n:Int)(l:List Int)(i:Nat)(h:i<l.length)(hlt:gl l i<n):put (l.drop i) n=gl l i::put (l.drop (i+1)) n:=by
 rw [YB h,put,if_pos hlt]
theorem TA{F:Nat}(hF:Q8<=F){l:List Int}(hl:l.length<=1048576)(n:Int):Gv F l n=some (put l n):=by
 unfold Q8 at hF;unfold Gv
 refine J4 (fun z:Int=>∃ i:Nat,z=i/\i<=l.length/\put l n=l.take i++put (l.drop i) n) (fun z=>l.length-z.toNat) (fun d z f e=>?_) ⟨0,rfl,by simp,by simp⟩ (by simp;omega);obtain ⟨i,rfl,j,b⟩:=f
 have k2:(∀ h:i<l.length,n<=gl l i)->TB F l n (i:Int)=some (put l n):=by
  intro c;unfold TB
  refine Q6 (fun h=>?_) (fun h=>?_)
  .have h:i<l.length:=by simpa using h
   have c:=c h;refine Z4 (k:=?_)
   unfold Hc;rw [YB h,put] at b
   refine Q6 (fun a=>?_) (fun a=>?_)
   .have a:gl l i=n:=by simpa using a
    rw [b,if_neg (by omega),if_pos a, <-YB h,List.take_append_drop]
   .have a:gl l i≠n:=by simpa using a
    repeat (refine Z4 (k:=?_))
    rw [b,if_neg (by omega),if_neg a, <-YB h];simp
  .have h:¬ i<l.length:=by simpa using h
   unfold Hc;refine Z3 rfl ?_
   repeat (refine Z4 (k:=?_))
   have:i=l.length:=by omega
   subst this;simp [put] at b
   simp [b]
 unfold Q0i;refine Q6 (fun h=>?_) (fun h=>?_)
 .have h:i<l.length:=by simpa using h
  refine Z4 (k:=?_);unfold Hd
  refine Q6 (fun a=>?_) (fun a=>?_)
  .have a:gl l i<n:=by simpa using a
   refine Z4 (k:=?_);refine e _ ⟨i+1,by omega,h,?_⟩ (by omega)
   rw [b,Q8x n l i h a,QD h,List.append_assoc];rfl
  .exact k2 fun _=>by simpa using a
 .unfold Hd
  exact Z3 rfl (k2 fun g=>absurd g (by simpa using h))
def Qg(r:Rect):Bool:=decide (0<=r.L_)&&(decide (r.L_<r.R_)&&(decide (r.R_<=16384)&&(decide (0<=r.w_)&&(decide (r.w_<r.H_)&&decide (r.H_<=16384)))))
theorem ZW(r:Rect):Qg r=true↔0<=r.L_/\r.L_<r.R_/\r.R_<=16384/\0<=r.w_/\r.w_<r.H_/\r.H_<=16384:=by simp [Qg]
theorem bE(F:Nat)(r:Rect):XP F r=some (Qg r):=by
 unfold XP;rw [YE (Vs F),YE (Vs F),YE (Vs F),YE (Vs F),YE (Vs F)]
 rfl
def K2(a b:Bool)(how:Int):Bool:=if how=1 then a||b else if how=2 then a&&b else a && !b
theorem Q8i(F:Nat)(a b:Bool)(how:Int):Tn F a b how=some (K2 a b how):=by
 unfold Tn K2;rw [Q2Y,Q2Y]
 by_cases h1:how=1
 .subst h1;cases a <;> cases b <;> rfl
 .by_cases h2:how=2
  .subst h2;cases a <;> cases b <;> rfl
  .have c:(how==1)=false:=by simpa using h1
   have d:(how==2)=false:=by simpa using h2
   rw [c,d,if_neg h1,if_neg h2]
   cases a <;> cases b <;> rfl
theorem bG{F:Nat}(hF:Q8<=F){l:List Rect}(hl:l.length<=Y5)(x y:Int):DT F l x y=some (Q2 l x y):=by
 unfold Q8 at hF;unfold Y5 at hl
 unfold DT;refine Q0p (l:=l) (fun m=>some (Q2 m x y)) (fun a i b c=>?_) (fun a=>?_) (by omega)
 .unfold zP
  refine Z9 (Vy b) ?_;refine Z4 (k:=?_)
  rw [YE (UO F i a),YE (UO F i a),YE (UO F i a)];unfold UO
  have e:Q2 (gl l i::l.drop (i+1)) x y=((gl l i).has x y||Q2 (l.drop (i+1)) x y):=rfl;rw [e]
  have d:(decide ((gl l i).L_<=x)&&(decide (x<(gl l i).R_)&&(decide ((gl l i).w_<=y)&&decide (y<(gl l i).H_))))=(gl l i).has x y:=by
   simp only [Rect.has,Bool.and_assoc]
  show br (decide ((gl l i).L_<=x)&&(decide (x<(gl l i).R_)&&(decide ((gl l i).w_<=y)&&decide (y<(gl l i).H_)))) _ _=_;rw [d]
  refine Q6 (fun h=>by rw [h];rfl) (fun h=>?_);refine Z4 (k:=?_)
  rw [c,h,Bool.false_or]
 .unfold zP
  exact Z3 (Um _) rfl
def VU:List Rect->List Rect->Bool
 | [],[]=>true
 | a::l,b::m=>(a.L_==b.L_&&a.R_==b.R_)&&VU l m
 | _,_=>false
theorem jz:∀ {l m:List Rect},VU l m=true->l.length=m.length
 | [],[],_=>rfl
 | [],_::_,h=>by cases h
 | _::_,[],h=>by cases h
 | a::l,b::m,h=>by
  simp only [VU,Bool.and_eq_true] at h;simp [jz h.2]
theorem Q6G:∀ (l m:List Rect),l.length=m.length->∀ i,i<=l.length->VU (l.drop i) (m.drop i)=if h:i<l.length then (((gl l i).L_==(gl m i).L_&&(gl l i).R_==(gl m i).R_)&&VU (l.drop (i+1)) (m.drop (i+1))) else true:=by
 intro l m h i b;split
 .rename_i a
  rw [YB a,YB (l:=m) (by omega)];rfl
 .have:i=l.length:=by omega
  rw [List.drop_of_length_le (by omega),List.drop_of_length_le (by omega)];rfl
theorem Q8g{F:Nat}(hF:Q8<=F){l m:List Rect}(hl:l.length<=Y5):Tm F l m=some (VU l m):=by
 unfold Q8 at hF;unfold Y5 at hl
 unfold Tm;refine Q6 (fun h=>?_) (fun h=>?_)
 .have h:l.length≠m.length:=by simp at h;omega
  cases hs:VU l m with
  | false=>rfl
  | true=>exact absurd (jz hs) h
 .have h:l.length=m.length:=by simp at h;omega
  refine J4 (fun z:Int=>∃ i:Nat,z=i/\i<=l.length/\VU l m=VU (l.drop i) (m.drop i)) (fun z=>l.length-z.toNat) (fun f z n j=>?_) ⟨0,rfl,by simp,by simp⟩ (by simp;omega);obtain ⟨i,rfl,g,a⟩:=n
  rw [Q6G l m h i g] at a;unfold bD
  refine Q6 (fun b=>?_) (fun b=>?_)
  .have b:i<l.length:=by simpa using b
   rw [dif_pos b] at a;refine Z4 (k:=?_)
   refine Z4 (k:=?_);have o:i<m.length:=by omega
   refine Q6 (fun d=>?_) (fun d=>?_)
   .unfold DS
    refine Z9 rfl ?_;have d:(gl l i).L_≠(gl m i).L_:=by simpa using d
    have e:((gl l i).L_==(gl m i).L_)=false:=by simpa using d
    rw [a,e];rfl
   .repeat (refine Z4 (k:=?_))
    have d:(gl l i).L_=(gl m i).L_:=by simpa using d
    have e:((gl l i).L_==(gl m i).L_)=true:=by simpa using d
    rw [e,Bool.true_and] at a;unfold DS
    refine Q6 (fun c=>?_) (fun c=>?_)
    .have c:(gl l i).R_≠(gl m i).R_:=by simpa using c
     have e:((gl l i).R_==(gl m i).R_)=false:=by simpa using c
     rw [a,e];rfl
    .have c:(gl l i).R_=(gl m i).R_:=by simpa using c
     have e:((gl l i).R_==(gl m i).R_)=true:=by simpa using c
     rw [e,Bool.true_and] at a;refine Z4 (k:=?_)
     exact j _ ⟨i+1,by omega,b,a⟩ (by omega)
  .have b:¬ i<l.length:=by simpa using b
   rw [dif_neg b] at a;rw [a];rfl
section
theorem yq(l:List Int)(n v:Int):v ∈ put l n↔v=n\/v ∈ l:=by
 induction l with
 | nil=>simp [put]
 | cons a l ih=>
  unfold put;split
  .rw [List.mem_cons,ih,List.mem_cons]
   constructor
   .rintro (h|h|h);exact .inr (.inl h);exact .inl h;exact .inr (.inr h)
   .rintro (h|h|h);exact .inr (.inl h);exact .inl h;exact .inr (.inr h)
  .split
   .rename_i h;subst h
    rw [List.mem_cons];constructor
    .intro h;exact .inr h
    .rintro (h|h);exact .inl h;exact h
   .rw [List.mem_cons]
theorem Q3j{l:List Int}(h:Yl l)(n:Int):Yl (put l n):=by
 induction l with
 | nil=>exact List.pairwise_singleton _ _
 | cons a l ih=>
  obtain ⟨d,e⟩:=List.pairwise_cons.1 h;unfold put
  split
  .rename_i c
   refine List.pairwise_cons.2 ⟨fun v b=>?_,ih e⟩;rcases (yq l n v).1 b with rfl|b
   .exact c
   .exact d v b
  .split
   .exact h
   .refine List.pairwise_cons.2 ⟨fun v b=>?_,h⟩
    rcases List.mem_cons.1 b with rfl|b
    .omega
    .have:=d v b;omega
theorem XY(l:List Int)(n:Int):(put l n).length<=l.length+1:=by
 induction l with
 | nil=>simp [put]
 | cons a l ih=>
  unfold put;split
  .simp;omega
  .split <;> simp
def Zb(l:List Rect)(xs:List Int):List Int:=l.foldl (fun xs r=>put (put xs r.L_) r.R_) xs
def ZA(l:List Rect)(ys:List Int):List Int:=l.foldl (fun ys r=>put (put ys r.w_) r.H_) ys
theorem Uc{f g:Rect->Int}(l:List Rect):∀ {xs:List Int},Yl xs->Yl (l.foldl (fun xs r=>put (put xs (f r)) (g r)) xs):=by
 induction l with
 | nil=>intro xs h;exact h
 | cons r l ih=>intro xs h;exact ih (Q3j (Q3j h _) _)
theorem ZI{f g:Rect->Int}(l:List Rect):∀ (xs:List Int) (v:Int),v ∈ l.foldl (fun xs r=>put (put xs (f r)) (g r)) xs↔v ∈ xs\/∃ r ∈ l,v=f r\/v=g r:=by
 induction l with
 | nil=>intro xs v;simp
 | cons r l ih=>
  intro xs v;rw [List.foldl_cons,ih,yq,yq]
  constructor
  .rintro ((h|h|h) | ⟨q,a,h⟩)
   .exact .inr ⟨r,by simp,.inr h⟩
   .exact .inr ⟨r,by simp,.inl h⟩
   .exact .inl h
   .exact .inr ⟨q,by simp [a],h⟩
  .rintro (h|⟨q,a,h⟩)
   .exact .inl (.inr (.inr h))
   .rcases List.mem_cons.1 a with rfl|a
    .rcases h with h|h
     .exact .inl (.inr (.inl h))
     .exact .inl (.inl h)
    .exact .inr ⟨q,a,h⟩
theorem Pv{f g:Rect->Int}(l:List Rect):∀ (xs:List Int),(l.foldl (fun xs r=>put (put xs (f r)) (g r)) xs).length<=xs.length+2*l.length:=by
 induction l with
 | nil=>intro xs;simp
 | cons r l ih=>
  intro xs;have b:=ih (put (put xs (f r)) (g r))
  have a:=XY (put xs (f r)) (g r);have c:=XY xs (f r)
  simp only [List.foldl_cons,List.length_cons];omega
section
variable {F:Nat}
theorem Q2L(hF:Q8<=F){a b l:List Rect}{v:Int}(hv:0<=v/\v<=1)(hl:gl [a,b] v.toNat=l){ag:(List Int×List Int×Int)->Option (List Rect)}{y:Option (List Rect)}{xs ys:List Int}(hx:xs.length+2*l.length<=1000000)(hy:ys.length+2*l.length<=1000000)(h:ag (Zb l xs,ZA l ys,v+1)=y):Z7 (fun again (z:List Int×List Int×Int)=>zY F a b v ag again z.1 z.2.1 z.2.2) F (xs,ys,0)=y:=by
 have d:=hF;unfold Q8 at hF
 refine J4 (fun z:List Int×List Int×Int=>∃ j:Nat,z.2.2=j/\j<=l.length/\Zb (l.drop j) z.1=Zb l xs/\ZA (l.drop j) z.2.1=ZA l ys/\z.1.length+2*(l.length-j)<=1000000/\z.2.1.length+2*(l.length-j)<=1000000)
  (fun z=>l.length-z.2.2.toNat) (fun again z r q=>?_) ⟨0,rfl,by omega,by simp,by simp,by simpa using hx,by simpa using hy⟩ (by simp;omega)
 obtain ⟨g,i,x⟩:=z;obtain ⟨j,m,o,f,e,n,p⟩:=r
 simp only at m f e n p;subst m
 unfold zY;simp only [hl,Int.toNat_natCast]
 refine Q6 (fun c=>?_) (fun c=>?_)
 .have c:j<l.length:=by simpa using c
  refine Z4 (k:=?_);have t:=XY g (gl l j).L_
  have u:=XY (put g (gl l j).L_) (gl l j).R_;have w:=XY i (gl l j).w_
  have s:=XY (put i (gl l j).w_) (gl l j).H_;refine Q4 (TA d (by omega) _) ?_
  refine Q4 (TA d (by omega) _) ?_;refine Q4 (TA d (by omega) _) ?_
  refine Q4 (TA d (by omega) _) ?_;refine Z4 (k:=?_)
  refine q _ ⟨j+1,rfl,by omega,?_,?_,by simp only;omega,by simp only;omega⟩ (by simp only;omega)
  .rw [<-f,YB c];rfl
  .rw [<-e,YB c];rfl
 .have c:¬ j<l.length:=by simpa using c
  have:j=l.length:=by omega
  subst this;rw [List.drop_length] at f e
  unfold zU;refine Z4 (k:=?_)
  have f:g=Zb l xs:=f;have e:i=ZA l ys:=e
  rw [f,e];exact h
theorem vB(lo hi:Int):K3 ⟨lo,hi,[]⟩=[]:=rfl
theorem CT(lo hi:Int)(l:List Span)(s:Span):K3 ⟨lo,hi,l++[s]⟩=K3 ⟨lo,hi,l⟩++[⟨s.L_,lo,s.R_,hi⟩]:=by simp [K3]
theorem YX(b:Rn (List Span)):(K3 b).length=b.v.length:=by simp [K3]
theorem GH{α:Type}[Emb α](l:List α)(x:α){n:Nat}(h:n=l.length):gl (l++[x]) n=x:=by subst h;simp [gl,List.getD_eq_getElem?_getD]
theorem RH{α:Type}(l:List α)(x y:α){n:Nat}(h:n=l.length):(l++[x]).set n y=l++[y]:=by subst h;simp
theorem Z2f(hF:Q8<=F){xs ys:List Int}{i k:Nat}{m:List Rect}{r:Rect}{ag:(Int×List Rect)->Option (List Rect)}{y:Option (List Rect)}(hk:k+1<xs.length)(hx:xs.length<=65536)(hm:m.length<=65536)(h:ag ((k:Int)+1,m++[⟨r.L_,r.w_,gl xs (k+1),r.H_⟩])=y):JQ F xs ys i k (m++[r]) ag true=y:=by
 unfold Q8 at hF;unfold JQ
 refine Z9 rfl ?_;have b:(m++[r]).length=m.length+1:=by simp
 simp only [b];have a:(((m.length+1:Nat):Int)-1).toNat=m.length:=by omega
 have c:((k:Int)+1).toNat=k+1:=by omega
 rw [a,GH _ _ rfl,RH _ _ _ rfl,c]
 repeat (refine Z4 (k:=?_))
 exact h
theorem Z2g(hF:Q8<=F){xs ys:List Int}{i k:Nat}{m:List Rect}{ag:(Int×List Rect)->Option (List Rect)}{y:Option (List Rect)}(hk:k+1<xs.length)(hi:i+1<ys.length)(hx:xs.length<=65536)(hy:ys.length<=65536)(hm:m.length<=65536)(h:ag ((k:Int)+1,m++[⟨gl xs k,gl ys i,gl xs (k+1),gl ys (i+1)⟩])=y):JQ F xs ys i k m ag false=y:=by
 unfold Q8 at hF;unfold JQ
 refine Z3 rfl ?_;have b:((k:Int)+1).toNat=k+1:=by omega
 have a:((i:Int)+1).toNat=i+1:=by omega
 rw [b,a];simp only [Int.toNat_natCast]
 repeat (refine Z4 (k:=?_))
 exact h
theorem Z2i(hF:Q8<=F){a b:List Rect}{how:Int}{xs ys:List Int}{i:Nat}(hi:i+1<ys.length)(hx:xs.length<=65536)(hy:ys.length<=65536)(ha:a.length<=Y5)(hb:b.length<=Y5)(hst:Step false xs fun x=>K2 (Q2 a x (gl ys i)) (Q2 b x (gl ys i)) how){out last:List Rect}{ag:(Int×List Rect×List Rect)->Option (List Rect)}{y:Option (List Rect)}(h:∀ l:List Span,SpOk l->(∀ x,J1 l x=K2 (Q2 a x (gl ys i)) (Q2 b x (gl ys i)) how)->l.length<=65536->DX F ys i out last ag (K3 ⟨gl ys i,gl ys (i+1),l⟩)=y):
  Z7 (fun again (z:Int×List Rect)=>zW F a b how xs ys i out last ag again z.1 z.2) F (0,[])=y:=by
 have j:=hF;unfold Q8 at hF
 refine J4 (fun z:Int×List Rect=>∃ (k:Nat) (l:List Span),z=((k:Int),K3 ⟨gl ys i,gl ys (i+1),l⟩)/\l.length<=k/\(k+1<=xs.length\/k=0)/\(0<xs.length->Bst false (fun x=>K2 (Q2 a x (gl ys i)) (Q2 b x (gl ys i)) how) (l.map Span.rn) (gl xs k)))
  (fun z=>xs.length-z.1.toNat) (fun again z J v=>?_) ⟨0,[],rfl,Nat.le_refl _,.inr rfl,fun B=>hst.start B⟩ (by simp;omega)
 obtain ⟨k,l,rfl,I,K,g⟩:=J;simp only at v ⊢
 unfold zW;refine Z4 (k:=?_)
 refine Q6 (fun c=>?_) (fun c=>?_)
 .have c:k+1<xs.length:=by simp at c;omega
  have g:=g (by omega);have r:=hst.asc.at_lt (show k<k+1 by omega) c
  simp only [Int.toNat_natCast]
  repeat (refine Z4 (k:=?_))
  refine Q4 (bG j ha _ _) ?_
  repeat (refine Z4 (k:=?_))
  refine Q4 (bG j hb _ _) ?_;refine Q4 (Q8i _ _ _ _) ?_
  have e:=hst.gap k c;refine Q6 (fun m=>?_) (fun m=>?_)
  .have m:K2 (Q2 a (gl xs k) (gl ys i)) (Q2 b (gl xs k) (gl ys i)) how=false:=by simpa using m
   unfold DY;refine Z4 (k:=?_)
   exact v _ ⟨k+1,l,rfl,by omega,.inl (by omega),fun _=>g.skip (by omega) fun t C w=>(e t C w).trans m⟩ (by simp only;omega)
  .have m:K2 (Q2 a (gl xs k) (gl ys i)) (Q2 b (gl xs k) (gl ys i)) how=true:=by simpa using m
   have d:(∀ s,l.getLast?=some s->s.R_≠gl xs k)->JQ F xs ys i k (K3 ⟨gl ys i,gl ys (i+1),l⟩) again false=y:=by
    intro D;refine Z2g j c hi hx hy (by rw [YX];simp only;omega) (v _ ⟨k+1,l++[⟨gl xs k,gl xs (k+1)⟩],by rw [CT];rfl,by simp;omega,.inl (by omega),fun _=>?_⟩ (by simp only;omega))
    have:=g.add r e (fun q n E=>by
     rw [List.getLast?_map] at n
     cases f:l.getLast? with
     | none=>rw [f] at n;cases n
     | some s=>rw [f] at n;cases n;exact absurd E (D s f))
    simp only [m] at this;rw [List.map_append];exact this
   rcases List.eq_nil_or_concat l with rfl|⟨o,s,p⟩
   .refine Z3 (by simp [vB]) ?_
    exact d fun s f=>by simp at f
   .rw [List.concat_eq_append] at p
    subst p;rw [CT] at d ⊢
    have u:(K3 ⟨gl ys i,gl ys (i+1),o⟩++[(⟨s.L_,gl ys i,s.R_,gl ys (i+1)⟩:Rect)]).length=o.length+1:=by simp [YX]
    have G:o.length+1<=k:=by simpa using I
    simp only [u];have H:(((o.length+1:Nat):Int)-1).toNat=o.length:=by omega
    rw [H,GH _ _ (by rw [YX])];refine Z9 (by simp) ?_
    repeat (refine Z4 (k:=?_))
    by_cases f:s.R_=gl xs k
    .have A:(s.R_==gl xs k)=true:=by simpa using f
     simp only [A];refine Z2f j c hx (by rw [YX];simp only;omega) (v _ ⟨k+1,o ++ [⟨s.L_,gl xs (k+1)⟩],by rw [CT];rfl,by simp only [List.length_append,List.length_cons,List.length_nil];omega,.inl (by omega),fun _=>?_⟩ (by simp only;omega))
     rw [List.map_append] at g;have:=g.grow (a:=s.rn) f r fun t C w=>(e t C w).trans m
     rw [List.map_append];exact this
    .have A:(s.R_==gl xs k)=false:=by simpa using f
     simp only [A];exact d fun q n=>by simp at n;subst n;exact f
 .have c:¬ k+1<xs.length:=by simp at c;omega
  by_cases B:xs.length=0
  .have:k=0:=by omega
   subst this;have:l=[]:=List.eq_nil_of_length_eq_zero (by omega)
   subst this;exact h [] .nil (fun x=>(hst.empty B x).symm) (by simp)
  .have g:=g (by omega)
   exact h l (.of_runs g.runs) (fun x=>by rw [Pk];exact hst.done (by omega) g x) (by omega)
theorem Z0N{α:Type}[Emb α](l m:List α)(x:α){n:Nat}(h:n=l.length):gl (l++x::m) n=x:=by subst h;simp [gl,List.getD_eq_getElem?_getD]
theorem Q6x{α:Type}(l m:List α)(x y:α){n:Nat}(h:n=l.length):(l++x::m).set n y=l++y::m:=by subst h;simp
theorem Z2j(hF:Q8<=F){ys:List Int}{i:Nat}(hi:i+1<ys.length)(hy:ys.length<=65536){out:List Rect}{lo hi' : Int}{l:List Span}(hl:l.length<=65536){ag:(Int×List Rect×List Rect)->Option (List Rect)}{y:Option (List Rect)}(h:ag ((i:Int)+1,out,K3 ⟨lo,gl ys (i+1),l⟩)=y):
  Z7 (fun again (z:Int×List Rect)=>zX F ys i out (K3 ⟨lo,hi',l⟩) ag again z.1 z.2) F (0,K3 ⟨lo,hi',l⟩)=y:=by
 unfold Q8 at hF;refine J4 (fun z:Int×List Rect=>∃ j:Nat,z=((j:Int),K3 ⟨lo,gl ys (i+1),l.take j⟩++K3 ⟨lo,hi',l.drop j⟩)/\j<=l.length) (fun z=>l.length-z.1.toNat) (fun again z f d=>?_) ⟨0,by simp [K3],by omega⟩ (by simp;omega)
 obtain ⟨j,rfl,n⟩:=f;simp only at d ⊢
 have m:((i:Int)+1).toNat=i+1:=by omega
 unfold zX;rw [YX]
 simp only
 refine Q6 (fun a=>?_) (fun a=>?_)
 .have a:j<l.length:=by simpa using a
  refine Z4 (k:=?_);refine Z4 (k:=?_)
  have e:l.drop j=l[j]::l.drop (j+1):=List.drop_eq_getElem_cons a;have b:(K3 ⟨lo,gl ys (i+1),l.take j⟩++K3 ⟨lo,hi',l.drop j⟩).length=l.length:=by
   rw [List.length_append,YX,YX];simp;omega
  refine Q7 (by rw [b];omega) ?_;refine Z4 (k:=?_)
  rw [m];simp only [Int.toNat_natCast]
  have g:K3 ⟨lo,hi',l.drop j⟩=(⟨(l[j]).L_,lo,(l[j]).R_,hi'⟩:Rect)::K3 ⟨lo,hi',l.drop (j+1)⟩:=by rw [e];rfl
  have c:j=(K3 ⟨lo,gl ys (i+1),l.take j⟩).length:=by rw [YX];simp;omega
  rw [g,Z0N _ _ _ c,Q6x _ _ _ _ c];refine d _ ⟨j+1,?_,a⟩ (by simp only;omega)
  rw [List.take_succ_eq_append_getElem a,CT];simp
 .have a:¬ j<l.length:=by simpa using a
  have:j=l.length:=by omega
  subst this;unfold zV DZ
  refine Z4 (k:=?_);rw [List.take_length,List.drop_length,vB,List.append_nil]
  exact h
structure RowSt (rowf:Int->List Span) (c:Int) (n:Nat) (out last:List Rect):Prop where
 ex:∃ acc,Bst [] rowf acc c/\(∀ r ∈ acc,r.v≠[])/\((last=[]/\out=flat acc/\∀ r ∈ acc,r.hi<c)\/∃ acc' b,acc=acc' ++ [b]/\b.hi=c/\last=K3 b/\out=flat acc' /\ b.v.length<=65536)
 len:out.length+last.length<=n*65536
theorem Q1O(a b:List (Rn (List Span))):flat (a++b)=flat a++flat b:=by simp [flat]
theorem Q1M(b:Rn (List Span)):flat [b]=K3 b:=by simp [flat]
theorem jA(lo hi lo' hi' : Int):∀ (l m:List Span),VU (K3 ⟨lo,hi,l⟩) (K3 ⟨lo',hi',m⟩)=decide (l=m)
 | [],[]=>rfl
 | [],b::m=>rfl
 | a::l,[]=>rfl
 | a::l,b::m=>by
  have g:=jA lo hi lo' hi' l m;have f:K3 ⟨lo,hi,a::l⟩=(⟨a.L_,lo,a.R_,hi⟩:Rect)::K3 ⟨lo,hi,l⟩:=rfl
  have i:K3 ⟨lo',hi',b::m⟩=(⟨b.L_,lo',b.R_,hi'⟩:Rect)::K3 ⟨lo',hi',m⟩:=rfl;rw [f,i,VU,g]
  cases a;cases b
  rw [Bool.eq_iff_iff];constructor
  .intro h
   rw [Bool.and_eq_true,Bool.and_eq_true] at h;obtain ⟨⟨d,c⟩,e⟩:=h
   have d:=eq_of_beq d;have c:=eq_of_beq c
   have e:=of_decide_eq_true e;simp only at d c
   rw [d,c,e];exact decide_eq_true rfl
  .intro h
   have h:=of_decide_eq_true h
   injection h with d c
   injection d with e h4
   subst c;subst e;subst h4
   rw [Bool.and_eq_true,Bool.and_eq_true];exact ⟨⟨beq_self_eq_true _,beq_self_eq_true _⟩,decide_eq_true rfl⟩
theorem Z2e(hF:Q8<=F){ys:List Int}{i:Nat}(hi:i+1<ys.length)(hy:ys.length<=65536){rowf:Int->List Span}(hst:Step [] ys rowf){out last:List Rect}(hR:RowSt rowf (gl ys i) i out last){ag:(Int×List Rect×List Rect)->Option (List Rect)}{y:Option (List Rect)}(hlen:(rowf (gl ys i)).length<=65536)(h:∀ out' last',RowSt rowf (gl ys (i+1)) (i+1) out' last' -> ag ((i:Int)+1,out',last')=y):
  DX F ys i out last ag (K3 ⟨gl ys i,gl ys (i+1),rowf (gl ys i)⟩)=y:=by
 have B:=hF;unfold Q8 at hF
 obtain ⟨⟨d,C,f,n⟩,x⟩:=hR;have A:=hst.asc.at_lt (show i<i+1 by omega) hi
 have e:=hst.gap i hi;have H:i*65536<=65536*65536:=Nat.mul_le_mul_right _ (by omega)
 generalize hv:rowf (gl ys i)=v at *;have j:(∀ a,d.getLast?=some a->a.hi=gl ys i->a.v≠v)->flat d=out++last->Tt F i out last (K3 ⟨gl ys i,gl ys (i+1),v⟩) ag=y:=by
  intro G s;unfold Tt DZ
  refine Z4 (k:=?_);refine Z4 (k:=?_)
  refine h _ _ ⟨?_,?_⟩
  .by_cases hv0:v=[]
   .subst hv0
    exact ⟨d,C.skip (by omega) fun t w p=>e t w p,f,.inl ⟨vB _ _,s.symm,fun r c=>by have:=C.le r c;omega⟩⟩
   .refine ⟨d++[⟨gl ys i,gl ys (i+1),v⟩],?_,fun r c=>?_,.inr ⟨d,_,rfl,rfl,rfl,s.symm,hlen⟩⟩
    .have:=C.add A (fun t w p=>(e t w p).trans hv.symm) (fun a l D=>by rw [hv];exact G a l D)
     rw [hv] at this;exact this
    .rcases List.mem_append.1 c with c|c
     .exact f r c
     .rw [List.mem_singleton.1 c];exact hv0
  .rw [List.length_append,YX,Nat.add_mul];simp only;omega
 unfold DX;rcases n with ⟨rfl,rfl,E⟩|⟨g,b,rfl,z,rfl,rfl,q⟩
 .refine Z3 rfl ?_
  unfold Gu;refine Z3 rfl ?_
  exact j (fun a l D=>by have:=E a (List.mem_of_getLast? l);omega) (by simp)
 .have o:b.v≠[]:=f b (by simp)
  have u:0<b.v.length:=by
   cases hh:b.v with
   | nil=>exact absurd hh o
   | cons _ _=>simp
  have J:K3 b=K3 ⟨b.lo,b.hi,b.v⟩:=rfl;refine Z9 (by rw [YX];simpa using u) ?_
  refine Q4 (Q8g B (by rw [YX];unfold Y5;omega)) ?_;rw [J,jA]
  refine Q6 (fun m=>?_) (fun m=>?_)
  .have m:b.v=v:=of_decide_eq_true m
   refine Q7 (by rw [YX];simp only;omega) ?_;refine Z4 (k:=?_)
   have I:((gl (K3 ⟨b.lo,b.hi,b.v⟩) (0:Int).toNat).H_==gl ys (i:Int).toNat)=true:=by
    have:gl (K3 ⟨b.lo,b.hi,b.v⟩) (0:Int).toNat=(⟨(b.v[0]).L_,b.lo,(b.v[0]).R_,b.hi⟩:Rect):=by
     have:0<(K3 ⟨b.lo,b.hi,b.v⟩).length:=by rw [YX];exact u
     show gl (K3 ⟨b.lo,b.hi,b.v⟩) 0=_;rw [K5 this];simp [K3]
    rw [this];simpa using z
   rw [I];unfold Gu
   refine Z9 rfl ?_;refine Z2j B hi hy q ?_
   have K:=C.grow z A fun t w p=>(e t w p).trans m.symm
   refine h _ _ ⟨⟨g ++ [⟨b.lo,gl ys (i+1),b.v⟩],K,fun r c=>?_,.inr ⟨g,_,rfl,rfl,rfl,rfl,q⟩⟩,?_⟩
   .rcases List.mem_append.1 c with c|c
    .exact f r (by simp [c])
    .rw [List.mem_singleton.1 c];exact o
   .rw [YX] at x ⊢;rw [Nat.add_mul];exact Nat.le_trans x (Nat.le_add_right _ _)
  .have m:b.v≠v:=of_decide_eq_false m
   unfold Gu;refine Z3 rfl ?_
   exact j (fun a l D=>by rw [List.getLast?_append] at l;simp at l;subst l;exact m) (by rw [Q1O,Q1M])
theorem Z2h(hF:Q8<=F){a b:List Rect}{how:Int}{xs ys:List Int}(hx:xs.length<=65536)(hy:ys.length<=65536)(ha:a.length<=Y5)(hb:b.length<=Y5)(hG:Grid xs ys fun x y=>K2 (Q2 a x y) (Q2 b x y) how):Tr F a b how xs ys=some (cn fun x y=>K2 (Q2 a x y) (Q2 b x y) how):=by
 have h:=hF;unfold Q8 at hF
 unfold Tr;have d:=hG.step
 have e:=hG.rows;refine J4 (fun z:Int×List Rect×List Rect=>∃ (i:Nat),z.1=(i:Int)/\((ys.length=0/\i=0/\z.2.1=[]/\z.2.2=[])\/(i+1<=ys.length/\RowSt (fun y=>QX fun x=>K2 (Q2 a x y) (Q2 b x y) how) (gl ys i) i z.2.1 z.2.2)))
  (fun z=>ys.length-z.1.toNat) (fun g z K G=>?_) ⟨0,rfl,?_⟩ (by simp;omega)
 .obtain ⟨N,I,E⟩:=z
  obtain ⟨i,o,f⟩:=K;simp only at o f G ⊢
  subst o;unfold Q0b
  refine Z4 (k:=?_);rcases f with ⟨j,rfl,rfl,rfl⟩|⟨o,u⟩
  .refine Z3 (by simp [j]) ?_
   unfold Ts;refine Z4 (k:=?_)
   have:=Step.cn e d .nil (fun t=>(d.empty j t).symm) (fun b hb=>by cases hb)
   rw [this.1];rfl
  .refine Q6 (fun c=>?_) (fun c=>?_)
   .have c:i+1<ys.length:=by simp at c;omega
    refine Z2i h c hx hy ha hb (hG.x _) fun l J L q=>?_
    have D:QX (fun x=>K2 (Q2 a x (gl ys i)) (Q2 b x (gl ys i)) how)=l:=KE J L;have:=Z2e h c hy d u (ag:=g) (y:=some (cn fun x y=>K2 (Q2 a x y) (Q2 b x y) how)) (by rw [D];exact q) fun v m n=>G _ ⟨i+1,rfl,.inr ⟨by omega,n⟩⟩ (by simp only;omega)
    rw [D] at this;exact this
   .have c:¬ i+1<ys.length:=by simp at c;omega
    unfold Ts;obtain ⟨⟨H,w,s,M⟩,A⟩:=u
    have C:i*65536<=65536*65536:=Nat.mul_le_mul_right _ (by omega);refine Z4 (k:=?_)
    have:=Step.cn e d w.runs (fun t=>d.done (by omega) w t) s
    rw [this.1];rcases M with ⟨rfl,rfl,_⟩|⟨B,O,rfl,_,rfl,rfl,_⟩
    .simp
    .rw [Q1O,Q1M]
 .by_cases j:ys.length=0
  .exact .inl ⟨j,rfl,rfl,rfl⟩
  .exact .inr ⟨by omega,⟨⟨[],d.start (by omega),fun r p=>(by cases p),.inl ⟨rfl,rfl,fun r p=>(by cases p)⟩⟩,by simp⟩⟩
theorem vW(a b:List Rect)(how:Int):Grid (Zb b (Zb a [])) (ZA b (ZA a [])) fun x y=>K2 (Q2 a x y) (Q2 b x y) how:=
 Grid.of (Uc b (Uc a .nil)) (Uc b (Uc a .nil))
  (fun r c=>⟨(ZI b _ _).2 (.inl ((ZI a _ _).2 (.inr ⟨r,c,.inl rfl⟩))),(ZI b _ _).2 (.inl ((ZI a _ _).2 (.inr ⟨r,c,.inr rfl⟩)))⟩)
  (fun r c=>⟨(ZI b _ _).2 (.inr ⟨r,c,.inl rfl⟩),(ZI b _ _).2 (.inr ⟨r,c,.inr rfl⟩)⟩)
  (fun r c=>⟨(ZI b _ _).2 (.inl ((ZI a _ _).2 (.inr ⟨r,c,.inl rfl⟩))),(ZI b _ _).2 (.inl ((ZI a _ _).2 (.inr ⟨r,c,.inr rfl⟩)))⟩)
  (fun r c=>⟨(ZI b _ _).2 (.inr ⟨r,c,.inl rfl⟩),(ZI b _ _).2 (.inr ⟨r,c,.inr rfl⟩)⟩)
  (k:=fun p q=>K2 p q how) (by show K2 false false how=false;unfold K2;split;rfl;split <;> rfl)
theorem Q0a(hF:Q8<=F){a b:List Rect}{how:Int}(ha:a.length<=200000)(hb:b.length<=200000)(hx:(Zb b (Zb a [])).length<=65536)(hy:(ZA b (ZA a [])).length<=65536):
  G5 F a b how=some (cn fun x y=>K2 (Q2 a x y) (Q2 b x y) how):=by
 have d:=hF;unfold Q8 at hF
 have i:=vW a b how;have n:=Z2h d hx hy (by unfold Y5;omega) (by unfold Y5;omega) i
 have m:=Pv (f:=Rect.L_) (g:=Rect.R_) a [];have h:=Pv (f:=Rect.w_) (g:=Rect.H_) a []
 have j:∀ c:(List Int×List Int×Int)->Option (List Rect),Ha F a b how c (Zb b (Zb a [])) (ZA b (ZA a [])) 2=some (cn fun x y=>K2 (Q2 a x y) (Q2 b x y) how):=fun c=>by
  unfold Ha;exact Z3 rfl n
 have q:(Zb a []).length<=2*a.length:=by have:=m;simpa [Zb] using this
 have p:(ZA a []).length<=2*a.length:=by have:=h;simpa [ZA] using this
 unfold G5;refine J4 (fun z:List Int×List Int×Int=>z=([],[],0)\/z=(Zb a [],ZA a [],1)\/z=(Zb b (Zb a []),ZA b (ZA a []),2)) (fun z=>2-z.2.2.toNat) (fun c z o e=>?_) (.inl rfl) (by simp;omega)
 rcases o with rfl|rfl|rfl
 .simp only
  unfold Ha;refine Z9 rfl ?_
  refine Z4 (k:=?_);refine Q2L d (l:=a) (by omega) rfl (by simp;omega) (by simp;omega) ?_
  exact e _ (.inr (.inl rfl)) (by simp)
 .simp only
  unfold Ha;refine Z9 rfl ?_
  refine Z4 (k:=?_);refine Q2L d (l:=b) (by omega) rfl (xs:=Zb a []) (ys:=ZA a []) (by omega) (by omega) ?_
  exact e _ (.inr (.inr rfl)) (by simp)
 .exact j c
end
end
section
theorem Z0H{xs ys:List Int}{S:Int->Int->Bool}(h:Grid xs ys S):z8 S:=by
 have d:=h.step
 by_cases h0:ys.length=0
 .exact (Step.cn h.rows d .nil (fun t=>(d.empty h0 t).symm) (fun b w=>by cases w)).2
 .have q:∀ i,i+1<=ys.length->∃ f,Bst [] (fun y=>QX fun x=>S x y) f (gl ys i)/\∀ r ∈ f,r.v≠[]:=by
   intro i
   induction i with
   | zero=>intro _;exact ⟨[],d.start (by omega),fun r c=>by cases c⟩
   | succ i ih=>
    intro z;obtain ⟨f,l,g⟩:=ih (by omega)
    have k:=d.asc.at_lt (show i<i+1 by omega) (by omega);have e:=d.gap i (by omega)
    by_cases hv:QX (fun x=>S x (gl ys i))=[]
    .exact ⟨f,l.skip (by omega) fun t p n=>(e t p n).trans hv,g⟩
    .rcases List.eq_nil_or_concat f with rfl|⟨s,b,j⟩
     .refine ⟨_,l.add k e (fun a m=>by simp at m),fun r c=>?_⟩
      simp at c;rw [c];exact hv
     .rw [List.concat_eq_append] at j
      subst j
      by_cases hm:b.hi=gl ys i/\b.v=QX fun x=>S x (gl ys i)
      .refine ⟨_,l.grow hm.1 k fun t p n=>(e t p n).trans hm.2.symm,fun r c=>?_⟩
       rcases List.mem_append.1 c with c|c
       .exact g r (by simp [c])
       .rw [List.mem_singleton.1 c];exact g b (by simp)
      .refine ⟨_,l.add k e (fun a m u o=>?_),fun r c=>?_⟩
       .simp at m;subst m;exact hm ⟨u,o⟩
       .rcases List.mem_append.1 c with c|c
        .exact g r c
        .rw [List.mem_singleton.1 c];exact hv
  obtain ⟨f,l,g⟩:=q (ys.length-1) (by omega);exact (Step.cn h.rows d l.runs (fun t=>d.done (by omega) l t) g).2
theorem Ve(a b:List Rect)(how:Int):z8 fun x y=>K2 (Q2 a x y) (Q2 b x y) how:=Z0H (vW a b how)
theorem Q0A(l:List Rect):(fun x y=>K2 (Q2 l x y) (Q2 [] x y) 1)=Q2 l:=by
 funext x y;simp [K2,Q2]
theorem V8(l:List Rect):z8 (Q2 l):=by have:=Ve l [] 1;rwa [Q0A] at this
theorem PG(l:List Rect):G3 l↔cn (Q2 l)=l:=⟨fun h=>h.eq_cn.symm,fun h=>by rw [<-h];exact G3.cn (V8 l)⟩
theorem Mb{l:List Rect}:(Zb l []).length<=2*l.length:=by have:=Pv (f:=Rect.L_) (g:=Rect.R_) l [];simpa [Zb] using this
theorem Z1T{l:List Rect}:(ZA l []).length<=2*l.length:=by have:=Pv (f:=Rect.w_) (g:=Rect.H_) l [];simpa [ZA] using this
theorem vX{a b:List Rect}:(Zb b (Zb a [])).length<=2*a.length+2*b.length:=by
 have c:=Pv (f:=Rect.L_) (g:=Rect.R_) b (Zb a []);have d:=Mb (l:=a)
 have c:(Zb b (Zb a [])).length<=(Zb a []).length+2*b.length:=c;omega
theorem Q2C{a b:List Rect}:(ZA b (ZA a [])).length<=2*a.length+2*b.length:=by
 have c:=Pv (f:=Rect.w_) (g:=Rect.H_) b (ZA a []);have d:=Z1T (l:=a)
 have c:(ZA b (ZA a [])).length<=(ZA a []).length+2*b.length:=c;omega
theorem Gt{F:Nat}(hF:Q8<=F){a b:List Rect}{how:Int}(h:a.length+b.length<=32768):G5 F a b how=some (cn fun x y=>K2 (Q2 a x y) (Q2 b x y) how):=
 Q0a hF (by omega) (by omega) (by have:=vX (a:=a) (b:=b);omega) (by have:=Q2C (a:=a) (b:=b);omega)
theorem zT{F:Nat}(hF:Q8<=F){l:List Rect}(h:l.length<=32768):G5 F l [] 1=some (cn (Q2 l)):=by
 rw [Gt hF (by simpa using h),Q0A]
theorem yB{α:Type}[Emb α][DecidableEq α](l m:List α)(h:l.length=m.length)(i:Nat)(hi:i<l.length):decide (l.drop i=m.drop i)=(decide (gl l i=gl m i)&&decide (l.drop (i+1)=m.drop (i+1))):=by
 rw [YB hi,YB (l:=m) (by omega)];rw [Bool.eq_iff_iff,Bool.and_eq_true,decide_eq_true_iff,decide_eq_true_iff,decide_eq_true_iff,List.cons.injEq]
theorem Q0m(r s:Rect):((r.L_==s.L_)&&((r.w_==s.w_)&&((r.R_==s.R_)&&((r.H_==s.H_)&&true))))=decide (r=s):=by
 cases r;cases s
 rw [Bool.eq_iff_iff,decide_eq_true_iff];simp
theorem bQ{F:Nat}(hF:Q8<=F){l m:List Rect}(hm:m.length<=Y5):DU F l m=some (decide (l=m)):=by
 unfold Q8 at hF;unfold Y5 at hm
 unfold DU;refine Q6 (fun h=>?_) (fun h=>?_)
 .have h:l.length≠m.length:=by simp at h;omega
  rw [decide_eq_false fun e=>h (by rw [e])]
 .have h:l.length=m.length:=by simp at h;omega
  refine J4 (fun z:Int=>∃ i:Nat,z=i/\i<=l.length/\decide (l=m)=decide (l.drop i=m.drop i)) (fun z=>l.length-z.toNat) (fun d z g f=>?_) ⟨0,rfl,by omega,by simp⟩ (by simp;omega);obtain ⟨i,rfl,j,c⟩:=g
  unfold bV;refine Q6 (fun b=>?_) (fun b=>?_)
  .have b:i<l.length:=by simpa using b
   rw [yB l m h i b] at c;refine Z4 (k:=?_)
   refine Z4 (k:=?_);rw [Q0m]
   refine Q6 (fun a=>?_) (fun a=>?_)
   .have a:decide (gl l i=gl m i)=false:=by simpa using a
    rw [c,a];rfl
   .have a:decide (gl l i=gl m i)=true:=by simpa using a
    rw [a,Bool.true_and] at c;refine Z4 (k:=?_)
    exact f _ ⟨i+1,by omega,b,c⟩ (by omega)
  .have b:¬ i<l.length:=by simpa using b
   have:i=l.length:=by omega
   rw [c,List.drop_of_length_le (by omega),List.drop_of_length_le (by omega),decide_eq_true rfl];rfl
def W6(l:List Rect):Prop:=l.length<=120/\(∀ r ∈ l,Qg r=true)/\G3 l
open Classical in
noncomputable def G9(l:List Rect):Bool:=decide (W6 l)
theorem Yc(l:List Rect):G9 l=true↔W6 l:=by unfold G9;exact @decide_eq_true_iff (W6 l) (Classical.propDecidable _)
theorem Xe{l:List Rect}(h:¬ W6 l):G9 l=false:=by rw [<-Bool.not_eq_true,Yc];exact h
theorem WJ{l:List Rect}(h:W6 l):G9 l=true:=(Yc l).2 h
theorem Z2P{α:Type}[Emb α]{l:List α}{p:α->Prop}{i:Nat}(h:i<l.length):(∀ x ∈ l.drop i,p x)↔p (gl l i)/\∀ x ∈ l.drop (i+1),p x:=by rw [YB h];simp
theorem Wv{F:Nat}(hF:Q8<=F)(a:Re_):Wk F a=some (G9 a.t_):=by
 have f:=hF;unfold Q8 at hF
 obtain ⟨l⟩:=a;simp only
 unfold Wk;refine Q6 (fun h=>?_) (fun h=>?_)
 .have h:120<l.length:=by simp at h;omega
  rw [Xe fun e=>by have:=e.1;omega]
 .have h:l.length<=120:=by simp at h;omega
  refine J4 (fun z:Int=>∃ i:Nat,z=i/\i<=l.length/\((∀ r ∈ l,Qg r=true)↔∀ r ∈ l.drop i,Qg r=true)) (fun z=>l.length-z.toNat) (fun g z m j=>?_) ⟨0,rfl,by omega,by simp⟩ (by simp;omega);obtain ⟨i,rfl,n,d⟩:=m
  unfold bI;simp only
  refine Q6 (fun c=>?_) (fun c=>?_)
  .have c:i<l.length:=by simpa using c
   rw [Z2P (p:=fun r=>Qg r=true) c] at d;refine Z4 (k:=?_)
   refine Q4 (bE _ _) ?_;refine Q6 (fun b=>?_) (fun b=>?_)
   .have b:Qg (gl l i)=false:=by simpa using b
    rw [Xe fun e=>by have:=(d.1 e.2.1).1;rw [b] at this;cases this]
   .have b:Qg (gl l i)=true:=by simpa using b
    refine Z4 (k:=?_);exact j _ ⟨i+1,by omega,c,d.trans ⟨fun h=>h.2,fun h=>⟨b,h⟩⟩⟩ (by omega)
  .have c:¬ i<l.length:=by simpa using c
   rw [List.drop_of_length_le (by omega)] at d;unfold zQ
   refine Q4 (zT f (by simp only;omega)) ?_;refine Q4 (bQ f (by unfold Y5;simp only;omega)) ?_
   simp only
   by_cases hc:cn (Q2 l)=l
   .rw [decide_eq_true hc,WJ ⟨h,d.2 (by simp),(PG l).2 hc⟩]
   .rw [decide_eq_false hc,Xe fun e=>hc ((PG l).1 e.2.2)]
theorem Tv{F:Nat}(l:List Rect):JS F l=some (if 120<l.length then (⟨[]⟩,1) else (⟨l⟩,0)):=by
 unfold JS;refine Q6 (fun h=>?_) (fun h=>?_)
 .have h:120<l.length:=by simp at h;omega
  rw [if_pos h]
 .have h:¬ 120<l.length:=by simp at h;omega
  rw [if_neg h]
theorem Q8n{F:Nat}(hF:Q8<=F){l:List Rect}(hl:l.length<=120)(hp:∀ r ∈ l,Qg r=true):Tq F l=some (if 120<(cn (Q2 l)).length then (⟨[]⟩,1) else (⟨cn (Q2 l)⟩,0)):=by
 have c:=hF;unfold Q8 at hF
 unfold Tq;refine Z3 (by simp;omega) ?_
 refine J4 (fun z:Int=>∃ i:Nat,z=i/\i<=l.length) (fun z=>l.length-z.toNat) (fun b z e d=>?_) ⟨0,rfl,by omega⟩ (by simp;omega);obtain ⟨i,rfl,f⟩:=e
 unfold bW;refine Q6 (fun a=>?_) (fun a=>?_)
 .have a:i<l.length:=by simpa using a
  refine Z4 (k:=?_);refine Q4 (bE _ _) ?_
  refine Z3 (by rw [Int.toNat_natCast,hp _ (V4 a)];rfl) ?_;refine Z4 (k:=?_)
  exact d _ ⟨i+1,by omega,a⟩ (by omega)
 .unfold zR
  refine Q4 (zT c (by omega)) ?_;refine Q4 (Tv _) ?_
  rfl
end
section
open Go.Sort
def xA(l:List Int):Prop:=l.Pairwise (· <= ·)
theorem Q5m{l:List Int}(hl:l.length<=Y5):∃ r,Uh l=some r/\xA r/\(∀ v,v ∈ r↔v ∈ l)/\r.length=l.length:=by
 refine ⟨l.mergeSort fun x y=>decide (x<=y),by unfold Uh;rw [if_pos hl],?_,fun v=>List.mem_mergeSort,List.length_mergeSort l⟩;have:=List.pairwise_mergeSort (le:=fun x y:Int=>decide (x<=y)) (fun a b c e d=>by simp at *;omega) (fun a b=>by simp;omega) l
 exact this.imp fun h=>by simpa using h
def dd:List Int->List Int
 | []=>[]
 | [a]=>[a]
 | a::b::l=>if a=b then dd (b::l) else a::dd (b::l)
theorem Fx(l:List Int)(x:Int):dd (l++[x])=if l.getLast?=some x then dd l else dd l++[x]:=by
 match l with
 | []=>simp [dd]
 | [a]=>by_cases h:a=x <;> simp [dd,h]
 | a::b::l=>
  have c:=Fx (b::l) x;have e:(a::b::l).getLast?=(b::l).getLast?:=by simp [List.getLast?_cons]
  rw [e]
  by_cases h:a=b
  .simp only [List.cons_append,dd,h,if_true] at c ⊢
   exact c
  .simp only [List.cons_append,dd,h,if_false] at c ⊢
   rw [c];split <;> rfl
theorem TP(l:List Int)(v:Int):v ∈ dd l↔v ∈ l:=by
 match l with
 | []=>simp [dd]
 | [a]=>simp [dd]
 | a::b::l=>
  have c:=TP (b::l) v;unfold dd
  split
  .rename_i h;subst h;rw [c];simp
  .rw [List.mem_cons,c,List.mem_cons (a:=v) (b:=a)]
theorem vU(l:List Int)(h:xA l):Yl (dd l):=by
 match l with
 | []=>exact .nil
 | [a]=>exact List.pairwise_singleton _ _
 | a::b::l=>
  obtain ⟨g,e⟩:=List.pairwise_cons.1 h;have d:=vU (b::l) e
  unfold dd;split
  .exact d
  .rename_i f
   refine List.pairwise_cons.2 ⟨fun v c=>?_,d⟩;rw [TP] at c
   have:=g b (by simp)
   rcases List.mem_cons.1 c with rfl|c
   .omega
   .have:=(List.pairwise_cons.1 e).1 v c;omega
theorem vT(l:List Int):(dd l).length<=l.length:=by
 match l with
 | []=>simp [dd]
 | [a]=>simp [dd]
 | a::b::l=>
  have c:=vT (b::l);unfold dd
  split
  .simp at c ⊢;omega
  .simp at c ⊢;omega
theorem Q0U{l:List Int}{i:Nat}(h:i<l.length):(l.take (i+1)).getLast?=some (gl l i):=by rw [QD h];simp
theorem Po{α:Type}[Emb α](l:List α)(i j:Nat)(x:α)(h:i<l.length):gl (l.set i x) j=if i=j then x else gl l j:=by
 simp only [gl,List.getD_eq_getElem?_getD,List.getElem?_set]
 by_cases hij:i=j
 .subst hij;simp [h]
 .simp [hij]
theorem LG{α:Type}(l:List α)(i n:Nat)(x:α)(h:n<=i):(l.set i x).take n=l.take n:=by
 apply List.ext_getElem?;intro j
 simp only [List.getElem?_take,List.getElem?_set];split
 .rw [if_neg (by omega)]
 .rfl
theorem LH{α:Type}[Emb α](l:List α)(k n:Nat)(h:k<=l.length):(clr l (0+k) n).take k=l.take k:=by
 apply List.ext_getElem?;intro j
 simp only [List.getElem?_take,clr];split
 .rename_i a
  have:j<l.length:=by omega
  simp only [List.getElem?_map,List.getElem?_range this,Option.map_some];rw [if_neg (by omega),K5 this,List.getElem?_eq_getElem this]
 .rfl
theorem xi{α:Type}[Emb α](l:List α)(lo n:Nat):(clr l lo n).length=l.length:=by simp [clr]
theorem gY{F:Nat}(hF:Q8<=F){l:List Int}(hl:l.length<=Y5):Bw F l=some (dd l):=by
 have G:=hF;unfold Q8 at hF;unfold Y5 at hl
 unfold Bw;refine Q6 (fun h=>?_) (fun h=>?_)
 .have h:l.length<2:=by simp at h;omega
  match l,h with
  | [],_=>rfl
  | [a],_=>rfl
 .have h:2<=l.length:=by simp at h;omega
  refine J4 (fun z:Int=>∃ k:Nat,z=k/\1<=k/\k<=l.length/\dd (l.take k)=l.take k) (fun z=>l.length-z.toNat) (fun A z y K=>?_) ⟨1,rfl,by omega,by omega,?_⟩ (by simp;omega)
  .obtain ⟨k,rfl,J,L,w⟩:=y
   unfold ja;refine Q6 (fun m=>?_) (fun m=>?_)
   .have m:k<l.length:=by simpa using m
    refine Z4 (k:=?_);refine Z4 (k:=?_)
    refine Z4 (k:=?_);have I:((k:Int)-1).toNat=k-1:=by omega
    rw [I];simp only [Int.toNat_natCast]
    have f:(l.take k).getLast?=some (gl l (k-1)):=by
     have:=Q0U (l:=l) (i:=k-1) (by omega)
     rwa [show k-1+1=k from by omega] at this
    refine Q6 (fun o=>?_) (fun o=>?_)
    .have o:gl l k=gl l (k-1):=by simpa using o
     refine Z4 (k:=?_);have B:dd (l.take (k+1))=l.take k:=by rw [QD m,Fx,f,if_pos (by rw [o]),w]
     refine J4 (fun z:Int×Int×List Int=>∃ (q r:Nat) (d:List Int),z=((q:Int),(r:Int),d)/\1<=r/\k+r<=l.length/\q+1<=k+r/\1<=q/\d.length=l.length/\(∀ j,q<=j->gl d j=gl l j)/\d.take q=dd (l.take (k+r)))
      (fun z=>l.length-z.2.1.toNat) (fun v z y n=>?_) ⟨k,1,l,rfl,by omega,by omega,by omega,by omega,rfl,fun _ _=>rfl,B.symm⟩ (by simp only;omega)
     obtain ⟨q,r,d,rfl,M,E,C,H,u,g,p⟩:=y;simp only at n ⊢
     unfold gZ;simp only [Int.toNat_natCast,Nat.zero_add]
     refine Q6 (fun s=>?_) (fun s=>?_)
     .have s:r<l.length-k:=by simp at s;omega
      refine Z4 (k:=?_);refine Z4 (k:=?_)
      refine Z4 (k:=?_);refine Z4 (k:=?_)
      have D:((r:Int)-1).toNat=r-1:=by omega
      rw [D];refine Z4 (k:=?_)
      rw [g (k+r) (by omega),g (k+(r-1)) (by omega)];have x:(l.take (k+r)).getLast?=some (gl l (k+(r-1))):=by
       have:=Q0U (l:=l) (i:=k+(r-1)) (by omega)
       rwa [show k+(r-1)+1=k+r from by omega] at this
      have t:dd (l.take (k+r+1))=if gl l (k+(r-1))=gl l (k+r) then dd (l.take (k+r)) else dd (l.take (k+r))++[gl l (k+r)]:=by
       rw [QD (by omega),Fx,x];simp
      refine Q6 (fun c=>?_) (fun c=>?_)
      .have c:gl l (k+r)≠gl l (k+(r-1)):=by simpa using c
       repeat (refine Z4 (k:=?_))
       refine n _ ⟨q+1,r+1,d.set q (gl l (k+r)),rfl,by omega,by omega,by omega,by omega,by simp [u],fun j N=>?_,?_⟩ (by simp only;omega)
       .rw [Po _ _ _ _ (by omega),if_neg (by omega)];exact g j (by omega)
       .rw [show k+(r+1)=k+r+1 from rfl,t,if_neg (fun e=>c e.symm), <-p,QD (by simp;omega),LG _ _ _ _ (Nat.le_refl _),Po _ _ _ _ (by omega),if_pos rfl]
      .have c:gl l (k+r)=gl l (k+(r-1)):=by simpa using c
       unfold RC;refine Z4 (k:=?_)
       refine n _ ⟨q,r+1,d,rfl,by omega,by omega,by omega,by omega,u,g,?_⟩ (by simp only;omega);rw [show k+(r+1)=k+r+1 from rfl,t,if_pos c.symm,p]
     .have s:¬ r<l.length-k:=by simp at s;omega
      unfold ql;simp only [Int.toNat_natCast,xi]
      refine Z4 (k:=?_);refine Z4 (k:=?_)
      rw [LH _ _ _ (by omega),p,List.take_of_length_le (by omega)]
    .have o:gl l k≠gl l (k-1):=by simpa using o
     unfold qk;refine Z4 (k:=?_)
     refine K _ ⟨k+1,by omega,by omega,m,?_⟩ (by omega);rw [QD m,Fx,f,if_neg (fun e=>o (by simpa using e.symm)),w]
   .have m:¬ k<l.length:=by simpa using m
    have:k=l.length:=by omega
    subst this;rw [List.take_length] at w
    unfold qj;rw [w]
  .match l,h with
   | a::b::l,_=>rfl
end
section
open Go.Sort
def Uo(l:List Rect):List Int:=l.flatMap fun r=>[r.w_,r.H_]
def Ua(ls:List (List Rect)):List Int:=ls.flatMap Uo
def Ub(ls:List (List Rect)):List Int:=dd ((Ua ls).mergeSort fun x y=>decide (x<=y))
theorem Q5j(l:List Int):xA (l.mergeSort fun x y=>decide (x<=y)):=by
 have:=List.pairwise_mergeSort (le:=fun x y:Int=>decide (x<=y)) (fun a b c e d=>by simp at *;omega) (fun a b=>by simp;omega) l
 exact this.imp fun h=>by simpa using h
theorem Q2B(ls:List (List Rect)):Yl (Ub ls):=vU _ (Q5j _)
theorem Q0K(ls:List (List Rect))(v:Int):v ∈ Ub ls↔∃ l ∈ ls,∃ r ∈ l,v=r.w_\/v=r.H_:=by
 unfold Ub;rw [TP,List.mem_mergeSort]
 simp [Ua,Uo]
theorem Q9k(l:List Rect):(Uo l).length=2*l.length:=by
 induction l with
 | nil=>rfl
 | cons r l ih=>
  have:(Uo (r::l)).length=2+(Uo l).length:=by simp [Uo];omega
  rw [this,ih,List.length_cons];omega
def tot(ls:List (List Rect)):Nat:=(ls.map List.length).sum
theorem Q9j(ls:List (List Rect)):(Ua ls).length=2*tot ls:=by
 induction ls with
 | nil=>rfl
 | cons l ls ih=>
  have:(Ua (l::ls)).length=(Uo l).length+(Ua ls).length:=by simp [Ua]
  rw [this,ih,Q9k];simp [tot];omega
theorem vV(ls:List (List Rect)):(Ub ls).length<=2*tot ls:=by
 unfold Ub;have:=vT ((Ua ls).mergeSort fun x y=>decide (x<=y))
 rw [List.length_mergeSort,Q9j] at this;exact this
theorem jT{F:Nat}(hF:Q8<=F){ls:List (List Rect)}(h:tot ls<=1000000000)(hn:ls.length<=1000000):BR F ls=some (Ub ls):=by
 have g:=hF;unfold Q8 at hF
 unfold BR;refine (Gw (l:=ls) (σ:=List Int) (fun b a=>a.length+2*tot b<=2000000000) (fun b a=>some (dd ((a++Ua b).mergeSort fun x y=>decide (x<=y))))
  (fun e i a m d q=>?_) (fun e a d=>?_) (by omega) (by simp;omega)).trans rfl
 .unfold qW
  refine Z9 (Vy m) ?_;refine Z4 (k:=?_)
  simp only [Int.toNat_natCast];generalize hl:gl ls i=l at *
  have o:tot (l::ls.drop (i+1))=l.length+tot (ls.drop (i+1)):=by simp [tot]
  rw [o] at d;refine (Gw (l:=l) (σ:=List Int) (fun b a=>a.length+2*b.length+2*tot (ls.drop (i+1))<=2000000000) (fun b a=>some (dd ((a++Uo b++Ua (ls.drop (i+1))).mergeSort fun x y=>decide (x<=y))))
   (fun c j a p d f=>?_) (fun c a d=>?_) (by omega) (by omega)).trans ?_
  .simp only
   unfold qV;simp only [Int.toNat_natCast,hl]
   refine Z9 (Vy p) ?_;simp only [List.length_cons] at d
   refine Z4 (k:=?_);refine Z4 (k:=?_)
   refine Z4 (k:=?_);rw [f _ (by simp only [List.length_append,List.length_cons,List.length_nil];omega)]
   simp [Uo]
  .simp only
   unfold qV;simp only [Int.toNat_natCast,hl]
   refine Z3 (Um _) ?_;unfold qU
   refine Z4 (k:=?_);rw [q _ (by simp only [List.length_nil] at d;omega)]
   simp [Uo]
  .simp [Ua]
 .simp only
  unfold qW;refine Z3 (Um _) ?_
  unfold qT;have d:a.length<=2000000000:=by simp [tot] at d;omega
  have n:Uh a=some (a.mergeSort fun x y=>decide (x<=y)):=by unfold Uh;rw [if_pos (by unfold Y5;omega)]
  refine Q4 n ?_;refine Q4 (gY g (by rw [List.length_mergeSort];unfold Y5;omega)) ?_
  simp [Ua]
theorem xh(F:Nat)(a b:Int):PD F a b=some (if a<b then -1 else if b<a then 1 else 0):=by
 unfold PD FG;refine Q4 rfl (Q4 rfl ?_)
 refine Z3 (by simp) (Z3 (by simp) ?_);refine Q6 (fun h=>?_) (fun h=>?_)
 .have h:a<b:=by simpa using h
  rw [if_pos h]
 .have h:¬ a<b:=by simpa using h
  rw [if_neg h];refine Q6 (fun h=>?_) (fun h=>?_)
  .have h:b<a:=by simpa using h
   rw [if_pos h]
  .have h:¬ b<a:=by simpa using h
   rw [if_neg h]
def GQ(a b:Span):Int:=if a.L_<b.L_ then -1 else if b.L_<a.L_ then 1 else 0
theorem TQ(a b:Span):YV GQ a b=decide (a.L_<b.L_):=by
 unfold YV GQ
 by_cases h:a.L_<b.L_
 .simp [h]
 .by_cases h2:b.L_<a.L_ <;> simp [h,h2]
theorem kM:SWO (YV GQ) where
 irrefl x:=by rw [TQ];simp
 trans x y z h1 h2:=by rw [TQ] at *;simp at *;omega
 ntrans x y z h1 h2:=by rw [TQ] at *;simp at *;omega
theorem Q8E{α:Type}[Emb α](cf:α->α->Int)(hO:SWO (YV cf))(l:List α):(ZF cf l).Perm l/\(ZF cf l).Pairwise fun a b=>YV cf b a=false:=by
 letI inst:Inhabited α:=⟨Emb.d⟩
 have h:=pdq_sorts (YV cf) hO l.toArray 0 l.length (Lib.bitLen l.length) true true (Nat.zero_le _) (by simp) (.inl rfl);have c:(pdq (YV cf) l.toArray 0 l.length (Lib.bitLen l.length) true true).size=l.length:=by simpa using h.1.1
 constructor
 .have:=h.1.2.2
  simp only [List.extract_toArray,List.extract_eq_take_drop,Nat.sub_zero,List.drop_zero,List.take_length] at this;have e:((pdq (YV cf) l.toArray 0 l.length (Lib.bitLen l.length) true true).extract 0 l.length).toList=ZF cf l:=by
   unfold ZF;generalize pdq (YV cf) l.toArray 0 l.length (Lib.bitLen l.length) true true=d at c
   rw [<-c];simp
  rw [e] at this;exact this
 .rw [List.pairwise_iff_getElem]
  intro i j m n k;have f : i<(pdq (YV cf) l.toArray 0 l.length (Lib.bitLen l.length) true true).size:=by simpa [ZF] using m
  have g : j<(pdq (YV cf) l.toArray 0 l.length (Lib.bitLen l.length) true true).size:=by simpa [ZF] using n
  have:=h.2 i j (Nat.zero_le _) k (by omega)
  rw [getElem!_pos _ j g,getElem!_pos _ i f] at this;simpa [ZF] using this
def Wm(l:List Rect)(y:Int):List Span:=(l.filter fun r=>decide (r.w_<=y)&&decide (y<r.H_)).map fun r=>⟨r.L_,r.R_⟩
theorem Q1L(r:Rect)(l:List Rect)(y:Int):Wm (r::l) y=if (decide (r.w_<=y)&&decide (y<r.H_))=true then ⟨r.L_,r.R_⟩::Wm l y else Wm l y:=by
 unfold Wm;rw [List.filter_cons]
 split <;> rfl
theorem Z0k(l:List Rect)(x y:Int):J1 (Wm l y) x=Q2 l x y:=by
 induction l with
 | nil=>rfl
 | cons r l ih=>
  have e:Q2 (r::l) x y=(r.has x y||Q2 l x y):=rfl;rw [Q1L,e, <-ih]
  split
  .rename_i h
   simp only [Bool.and_eq_true,decide_eq_true_eq] at h;simp [J1,Span.has,Rect.has,h.1,h.2]
  .rename_i h
   have:r.has x y=false:=HD (by simp at h;omega)
   rw [this,Bool.false_or]
theorem Z0Y(l:List Rect)(y:Int):(Wm l y).length<=l.length:=by
 unfold Wm;rw [List.length_map];exact List.length_filter_le _ _
theorem Z0X{l:List Rect}(h:∀ r ∈ l,r.L_<r.R_)(y:Int):∀ s ∈ Wm l y,s.L_<s.R_:=by
 intro s a;obtain ⟨r,b,rfl⟩:=List.mem_map.1 a
 exact h r (List.mem_filter.1 b).1
theorem CF(l m:List Span)(x:Int):J1 (l++m) x=(J1 l x||J1 m x):=by simp [J1]
theorem Z0j{l m:List Span}(h:l.Perm m)(x:Int):J1 l x=J1 m x:=by
 rw [Bool.eq_iff_iff];simp only [J1,List.any_eq_true]
 constructor
 .rintro ⟨s,b,a⟩;exact ⟨s,h.mem_iff.1 b,a⟩
 .rintro ⟨s,b,a⟩;exact ⟨s,h.mem_iff.2 b,a⟩
theorem Z0M(a b:Int):J3 a b=if a<b then b else a:=rfl
theorem Q6Q{F:Nat}(hF:Q8<=F){S:List Span}(hl:S.length<=1000000000)(hpos:∀ s ∈ S,s.L_<s.R_)(hs:S.Pairwise fun a b=>a.L_<=b.L_):
  Z7 (fun again (z:Int×List Span)=>qM F S again z.1 z.2) F (0,[])=some (QX fun x=>J1 S x):=by
 unfold Q8 at hF;refine J4 (fun z:Int×List Span=>∃ (i:Nat) (d:List Span),z=((i:Int),d)/\i<=S.length/\d.length<=i/\SpOk d/\(∀ x,J1 d x=J1 (S.take i) x)/\∀ o ∈ d,∀ j,i<=j->j<S.length->o.L_<=(gl S j).L_)
  (fun z=>S.length-z.1.toNat) (fun again z M D=>?_) ⟨0,[],rfl,by omega,Nat.le_refl _,.nil,fun x=>by simp,fun o c=>by cases c⟩ (by simp only;omega)
 obtain ⟨i,d,rfl,Q,B,f,v,l⟩:=M;simp only at D ⊢
 unfold qM;refine Q6 (fun h=>?_) (fun h=>?_)
 .have h:i<S.length:=by simpa using h
  refine Z4 (k:=?_);simp only [Int.toNat_natCast]
  have N:=hpos _ (V4 h);have q:∀ j,i+1<=j->j<S.length->(gl S i).L_<=(gl S j).L_:=by
   intro j C g;rw [K5 h,K5 g]
   exact List.pairwise_iff_getElem.1 hs i j h g (by omega)
  have p : ∀ x,J1 (S.take (i+1)) x=(J1 d x||(gl S i).has x):=by
   intro x;rw [QD h,CF,v];simp [J1]
  have m:(∀ o,d.getLast?=some o->o.R_<(gl S i).L_)->Xu F S i d again false=some (QX fun x=>J1 S x):=by
   intro r;unfold Xu
   refine Z3 rfl ?_;refine Z4 (k:=?_)
   unfold BM;refine Z4 (k:=?_)
   simp only [Int.toNat_natCast];refine D _ ⟨i+1,d++[gl S i],rfl,h,by simp;omega,⟨fun s hs=>?_,?_⟩,fun x=>?_,fun o c j C g=>?_⟩ (by simp only;omega)
   .rcases List.mem_append.1 hs with hs|hs
    .exact f.pos s hs
    .rw [List.mem_singleton.1 hs];exact N
   .refine List.pairwise_append.2 ⟨f.ch,List.pairwise_singleton _ _,fun o c b y=>?_⟩
    rw [List.mem_singleton.1 y];rcases List.eq_nil_or_concat d with A|⟨t,e,u⟩
    .rw [A] at c;cases c
    .rw [List.concat_eq_append] at u
     subst u;have K:=r e (by simp)
     rcases List.mem_append.1 c with c|c
     .have R:=(List.pairwise_append.1 f.ch).2.2 o c e (by simp)
      have P:=f.pos e (by simp);omega
     .rw [List.mem_singleton.1 c];exact K
   .rw [p,CF];simp [J1]
   .rcases List.mem_append.1 c with c|c
    .exact l o c j (by omega) g
    .rw [List.mem_singleton.1 c];exact q j C g
  rcases List.eq_nil_or_concat d with A|⟨t,e,u⟩
  .subst A
   refine Z3 rfl ?_;exact m fun o c=>by simp at c
  .rw [List.concat_eq_append] at u
   subst u;have n:(t ++ [e]).length=t.length+1:=by simp
   have G:(((t.length+1:Nat):Int)-1).toNat=t.length:=by omega
   rw [n] at B ⊢;refine Z9 (by simp) ?_
   refine Z4 (k:=?_);refine Z4 (k:=?_)
   rw [G,GH _ _ rfl]
   by_cases hc:(gl S i).L_<=e.R_
   .have w:decide ((gl S i).L_<=e.R_)=true:=by simpa using hc
    rw [w];unfold Xu
    refine Z9 rfl ?_;simp only [n]
    refine Z4 (k:=?_);refine Z4 (k:=?_)
    refine Z4 (k:=?_);refine Z4 (k:=?_)
    rw [G,GH _ _ rfl,RH _ _ _ rfl];unfold BM
    refine Z4 (k:=?_);simp only [Int.toNat_natCast]
    have H:e.L_<=(gl S i).L_:=l e (by simp) i (Nat.le_refl _) h;have I:=f.pos e (by simp)
    have O:e.R_<=J3 e.R_ (gl S i).R_/\(gl S i).R_<=J3 e.R_ (gl S i).R_/\(J3 e.R_ (gl S i).R_=e.R_\/J3 e.R_ (gl S i).R_=(gl S i).R_):=by
     rw [Z0M];split <;> omega
    refine D _ ⟨i+1,t ++ [⟨e.L_,J3 e.R_ (gl S i).R_⟩],rfl,h,by simp;omega,⟨fun s hs=>?_,?_⟩,fun x=>?_,fun o c j C g=>?_⟩ (by simp only;omega)
    .rcases List.mem_append.1 hs with hs|hs
     .exact f.pos s (by simp [hs])
     .rw [List.mem_singleton.1 hs];simp only;omega
    .obtain ⟨L,_,J⟩:=List.pairwise_append.1 f.ch
     refine List.pairwise_append.2 ⟨L,List.pairwise_singleton _ _,fun o c b y=>?_⟩;rw [List.mem_singleton.1 y]
     exact J o c e (by simp)
    .rw [p,CF,CF,Bool.or_assoc]
     congr 1
     have E:∀ (s:Span) x,J1 [s] x=s.has x:=fun s x=>by simp [J1]
     rw [E,E,Bool.eq_iff_iff];simp only [Span.has,Bool.or_eq_true,Bool.and_eq_true,decide_eq_true_eq]
     omega
    .rcases List.mem_append.1 c with c|c
     .exact l o (by simp [c]) j (by omega) g
     .rw [List.mem_singleton.1 c];exact l e (by simp) j (by omega) g
   .have w:decide ((gl S i).L_<=e.R_)=false:=by simpa using hc
    rw [w];exact m fun o c=>by simp at c;subst c;omega
 .have h:¬ i<S.length:=by simpa using h
  have:i=S.length:=by omega
  subst this;unfold qL
  rw [KE f fun x=>by rw [v,List.take_length]]
theorem qK{F:Nat}(hF:Q8<=F){l:List Rect}(hl:l.length<=1000000000)(hpos:∀ r ∈ l,r.L_<r.R_)(y:Int):Xv F l y=some (QX fun x=>Q2 l x y):=by
 have p:=hF;unfold Q8 at hF
 unfold Xv;have o:∀ c:List Span,c=Wm l y->Ss F c=some (QX fun x=>Q2 l x y):=by
  rintro c rfl;unfold Ss
  have u:=Z0Y l y;have j:Jx (Wm l y) (fun v w=>St F v w)=some (ZF GQ (Wm l y)):=
   Q5q GQ (by unfold Y5;omega) kM fun a b=>by unfold St;rw [xh];rfl
  refine Q4 j ?_;obtain ⟨n,m⟩:=Q8E GQ kM (Wm l y)
  have e:(fun x=>Q2 l x y)=fun x=>J1 (ZF GQ (Wm l y)) x:=by funext x;rw [Z0j n,Z0k]
  rw [e];refine Q6Q p (by rw [n.length_eq];omega) (fun s m=>Z0X hpos y s (n.mem_iff.1 m)) (m.imp fun {a b} h=>?_)
  rw [TQ] at h;simp at h;exact h
 refine (Gw (l:=l) (σ:=List Span) (fun d c=>c.length+d.length<=1000000000/\c++Wm d y=Wm l y) (fun d c=>some (QX fun x=>Q2 l x y))
  (fun f i c t g q=>?_) (fun f c g=>?_) (by omega) ⟨by simp;omega,rfl⟩)
 .simp only
  unfold qN;refine Z9 (Vy t) ?_
  refine Z4 (k:=?_);rw [YE (BO F l i c f)]
  simp only [Int.toNat_natCast];rw [Q1L] at g
  simp only [List.length_cons] at g;unfold BO
  refine Q6 (fun h=>?_) (fun h=>?_)
  .rw [if_pos h] at g
   refine Z4 (k:=?_);unfold BN
   refine Z4 (k:=?_);simp only [Int.toNat_natCast]
   exact q _ ⟨by simp only [List.length_append,List.length_cons,List.length_nil];omega,by rw [<-g.2];simp⟩
  .rw [h] at g
   unfold BN;refine Z4 (k:=?_)
   exact q _ ⟨by omega,by simpa using g.2⟩
 .simp only
  unfold qN;refine Z3 (Um _) ?_
  exact o c (by have:=g.2;simpa [Wm] using this)
end
theorem Q5k(r s:Span):((r.L_==s.L_)&&((r.R_==s.R_)&&true))=decide (r=s):=by
 cases r;cases s
 rw [Bool.eq_iff_iff,decide_eq_true_iff];simp
theorem Q6e{F:Nat}(hF:Q8<=F){l m:List Span}(hm:m.length<=Y5):Rs F l m=some (decide (l=m)):=by
 unfold Q8 at hF;unfold Y5 at hm
 unfold Rs;refine Q6 (fun h=>?_) (fun h=>?_)
 .have h:l.length≠m.length:=by simp at h;omega
  rw [decide_eq_false fun e=>h (by rw [e])]
 .have h:l.length=m.length:=by simp at h;omega
  refine J4 (fun z:Int=>∃ i:Nat,z=i/\i<=l.length/\decide (l=m)=decide (l.drop i=m.drop i)) (fun z=>l.length-z.toNat) (fun d z g f=>?_) ⟨0,rfl,by omega,by simp⟩ (by simp;omega);obtain ⟨i,rfl,j,c⟩:=g
  unfold gM;refine Q6 (fun b=>?_) (fun b=>?_)
  .have b:i<l.length:=by simpa using b
   rw [yB l m h i b] at c;refine Z4 (k:=?_)
   refine Z4 (k:=?_);rw [Q5k]
   refine Q6 (fun a=>?_) (fun a=>?_)
   .have a:decide (gl l i=gl m i)=false:=by simpa using a
    rw [c,a];rfl
   .have a:decide (gl l i=gl m i)=true:=by simpa using a
    rw [a,Bool.true_and] at c;refine Z4 (k:=?_)
    exact f _ ⟨i+1,by omega,b,c⟩ (by omega)
  .have b:¬ i<l.length:=by simpa using b
   have:i=l.length:=by omega
   rw [c,List.drop_of_length_le (by omega),List.drop_of_length_le (by omega),decide_eq_true rfl];rfl
theorem Q6g{F:Nat}(hF:Q8<=F){l m:List Rect}(hm:m.length<=Y5):Rt F l m=some (decide (l=m)):=by
 unfold Q8 at hF;unfold Y5 at hm
 unfold Rt;refine Q6 (fun h=>?_) (fun h=>?_)
 .have h:l.length≠m.length:=by simp at h;omega
  rw [decide_eq_false fun e=>h (by rw [e])]
 .have h:l.length=m.length:=by simp at h;omega
  refine J4 (fun z:Int=>∃ i:Nat,z=i/\i<=l.length/\decide (l=m)=decide (l.drop i=m.drop i)) (fun z=>l.length-z.toNat) (fun d z g f=>?_) ⟨0,rfl,by omega,by simp⟩ (by simp;omega);obtain ⟨i,rfl,j,c⟩:=g
  unfold gP;refine Q6 (fun b=>?_) (fun b=>?_)
  .have b:i<l.length:=by simpa using b
   rw [yB l m h i b] at c;refine Z4 (k:=?_)
   refine Z4 (k:=?_);rw [Q0m]
   refine Q6 (fun a=>?_) (fun a=>?_)
   .have a:decide (gl l i=gl m i)=false:=by simpa using a
    rw [c,a];rfl
   .have a:decide (gl l i=gl m i)=true:=by simpa using a
    rw [a,Bool.true_and] at c;refine Z4 (k:=?_)
    exact f _ ⟨i+1,by omega,b,c⟩ (by omega)
  .have b:¬ i<l.length:=by simpa using b
   have:i=l.length:=by omega
   rw [c,List.drop_of_length_le (by omega),List.drop_of_length_le (by omega),decide_eq_true rfl];rfl
def Band.rn(b:Band):Rn (List Span):=⟨b.w_,b.H_,b.spans_⟩
def fl(l:List Band):List Rect:=flat (l.map Band.rn)
theorem vC(b:Band)(l:List Band):fl (b::l)=K3 b.rn++fl l:=rfl
theorem Z1a(l:List Band)(N:Nat)(h:∀ b ∈ l,b.spans_.length<=N):(fl l).length<=l.length*N:=by
 induction l with
 | nil=>simp [fl,flat]
 | cons b l ih=>
  have e:=ih fun c a=>h c (by simp [a])
  have d:=h b (by simp);rw [vC,List.length_append,YX,List.length_cons,Nat.add_mul]
  simp only [Band.rn];omega
theorem Q7b{F:Nat}(hF:Q8<=F){l:List Band}(hl:l.length<=1000000000)(hn:(fl l).length<=Y5)(hs:∀ b ∈ l,b.spans_.length<=1000000000):Sd F l=some (fl l):=by
 unfold Q8 at hF;unfold Y5 at hn
 unfold Sd;refine (Gw (l:=l) (σ:=List Rect) (fun c a=>a.length+(fl c).length<=4294967296) (fun c a=>some (a++fl c)) (fun f i a m d o=>?_) (fun f a d=>?_) (by omega) (by simp;omega)).trans (by simp)
 .unfold qE
  refine Z9 (Vy m) ?_;refine Z4 (k:=?_)
  simp only [Int.toNat_natCast];have g:=hs _ (V4 m)
  rw [vC,List.length_append,YX] at d;rw [vC]
  generalize hb:gl l i=b at d g ⊢;have d:a.length+(b.spans_.length+(fl (l.drop (i+1))).length)<=4294967296:=d
  refine (Gw (l:=b.spans_) (σ:=List Rect) (fun c a=>a.length+c.length+(fl (l.drop (i+1))).length<=4294967296) (fun c a=>some (a++(c.map (fun s=>(⟨s.L_,b.w_,s.R_,b.H_⟩:Rect))++fl (l.drop (i+1)))))
   (fun e j a n d h=>?_) (fun e a d=>?_) (by omega) (by omega)).trans rfl
  .unfold qD
   simp only [Int.toNat_natCast,hb];refine Z9 (Vy n) ?_
   simp only [List.length_cons] at d;refine Z4 (k:=?_)
   refine Z4 (k:=?_);refine Z4 (k:=?_)
   rw [h _ (by simp only [List.length_append,List.length_cons,List.length_nil];omega)];simp
  .unfold qD
   simp only [Int.toNat_natCast,hb];refine Z3 (Um _) ?_
   unfold qC;refine Z4 (k:=?_)
   rw [o _ (by simpa using d)];simp
 .unfold qE
  refine Z3 (Um _) ?_;simp [qB,fl,flat]
theorem jV{F:Nat}(hF:Q8<=F){cs:List Int}{row:Int->Option (List Span)}{S:Int->Int->Bool}(hS:Mo S)(hst:Step [] cs fun y=>QX fun x=>S x y)(hc:cs.length<=65536)(hrow:∀ y,row y=some (QX fun x=>S x y))(hlen:∀ y,(QX fun x=>S x y).length<=65536):BT F cs row=some (cn S):=by
 have J:=hF;unfold Q8 at hF
 unfold BT;have H:∀ c:List Band,Runs (c.map Band.rn)->(∀ t,J5 [] (c.map Band.rn) t=QX fun x=>S x t)->c.length<=cs.length->(∀ b ∈ c,b.spans_.length<=65536)->Sv F c=some (cn S):=by
  intro c R n D g;unfold Sv
  have L:=Z1a c 65536 g;have M:c.length*65536<=65536*65536:=Nat.mul_le_mul_right _ (by omega)
  refine Q4 (Q7b J (by omega) (by unfold Y5;omega) (fun b d=>by have:=g b d;omega)) ?_;have Q:=(Step.cn hS hst (acc:=(c.map Band.rn).filter fun r=> !r.v.isEmpty) (R.filter _) (fun t=>by
   rw [R.atR_filter _ (fun r _ X=>by simpa using X)];exact n t) (fun b d=>by
   have:=(List.mem_filter.1 d).2
   intro B;rw [B] at this;simp at this)).1
  rw [Q];congr 1
  have:∀ l:List (Rn (List Span)),flat l=flat (l.filter fun r=> !r.v.isEmpty):=by
   intro l
   induction l with
   | nil=>rfl
   | cons a l C=>
    rw [List.filter_cons];have e:flat (a::l)=K3 a++flat l:=rfl
    cases n:a.v with
    | nil=>
     have:K3 a=[]:=by simp [K3,n]
     rw [e,this,List.nil_append,C];simp
    | cons s v=>
     simp only [List.isEmpty_cons,Bool.not_false,if_true];have K:flat (a::l.filter fun r=> !r.v.isEmpty)=K3 a++flat (l.filter fun r=> !r.v.isEmpty):=rfl
     rw [e,K, <-C]
  exact this _
 refine J4 (fun z:Int×List Band=>∃ (i:Nat) (c:List Band),z=((i:Int)+1,c)/\c.length<=i/\(∀ b ∈ c,b.spans_.length<=65536)/\((cs.length=0/\i=0)\/(i+1<=cs.length/\Bst [] (fun y=>QX fun x=>S x y) (c.map Band.rn) (gl cs i))))
  (fun z=>cs.length+1-z.1.toNat) (fun A z W C=>?_) ⟨0,[],rfl,Nat.le_refl _,fun b d=>(List.not_mem_nil d).elim,?_⟩ (by simp;omega)
 .obtain ⟨i,c,rfl,D,g,w⟩:=W
  simp only at C ⊢;unfold jW
  rcases w with ⟨I,rfl⟩|⟨Y,G⟩
  .have P:c=[]:=List.eq_nil_of_length_eq_zero (by omega)
   subst P;refine Z3 (by simp;omega) ?_
   exact H [] .nil (fun t=>(hst.empty I t).symm) (by simp) (fun b d=>by cases d)
  .refine Q6 (fun f=>?_) (fun f=>?_)
   .have f:i+1<cs.length:=by simp at f;omega
    have E:=hst.asc.at_lt (show i<i+1 by omega) f;have p:=hst.gap i f
    have U:((i:Int)+1-1).toNat=i:=by omega
    have K:((i:Int)+1).toNat=i+1:=by omega
    rw [U];refine Z4 (k:=?_)
    refine Z4 (k:=?_);refine Z4 (k:=?_)
    refine Z4 (k:=?_);refine Z4 (k:=?_)
    refine Q4 (hrow _) ?_;generalize n:(QX fun x=>S x (gl cs i))=v at *
    have O:v.length<=65536:=by rw [<-n];exact hlen _
    have j:(∀ q,(c.map Band.rn).getLast?=some q->q.hi=gl cs i->q.v≠v)->KY F cs ((i:Int)+1) c v A false=some (cn S):=by
     intro m;unfold KY
     refine Z3 rfl ?_;rw [U,K]
     refine Z4 (k:=?_);unfold BS
     refine Z4 (k:=?_);refine C _ ⟨i+1,c++[⟨gl cs i,gl cs (i+1),v⟩],by simp,by simp;omega,fun b d=>?_,.inr ⟨by omega,?_⟩⟩ (by simp only;omega)
     .rcases List.mem_append.1 d with d|d
      .exact g b d
      .rw [List.mem_singleton.1 d];exact O
     .rw [List.map_append]
      have:=G.add E (fun t L M=>(p t L M).trans n.symm) (fun a V B=>by rw [n];exact m a V B)
      rw [n] at this;exact this
    rcases List.eq_nil_or_concat c with I|⟨u,e,B⟩
    .subst I
     refine Z3 rfl ?_;exact j fun q m=>by simp at m
    .rw [List.concat_eq_append] at B
     subst B;have h:(u ++ [e]).length=u.length+1:=by simp
     have T:(((u.length+1:Nat):Int)-1).toNat=u.length:=by omega
     rw [h] at D ⊢;have o:gl (u ++ [e]) u.length=e:=GH _ _ rfl
     refine Z9 (by simp) ?_;refine Z4 (k:=?_)
     refine Z4 (k:=?_);rw [T,o]
     by_cases hh:e.H_=gl cs i
     .refine Z9 (by simpa using hh) ?_
      refine Z4 (k:=?_);refine Z4 (k:=?_)
      refine Q4 (Q6e J (by unfold Y5;omega)) ?_
      by_cases hvv:e.spans_=v
      .rw [decide_eq_true hvv]
       unfold KY;refine Z9 rfl ?_
       simp only [h];refine Z4 (k:=?_)
       refine Z4 (k:=?_);rw [T,o,RH _ _ _ rfl,K]
       unfold BS;refine Z4 (k:=?_)
       refine C _ ⟨i+1,u ++ [⟨e.w_,gl cs (i+1),e.spans_⟩],by simp,by simp;omega,fun b d=>?_,.inr ⟨by omega,?_⟩⟩ (by simp only;omega)
       .rcases List.mem_append.1 d with d|d
        .exact g b (by simp [d])
        .rw [List.mem_singleton.1 d];exact g e (by simp)
       .rw [List.map_append] at G ⊢
        exact G.grow (a:=e.rn) hh E fun t L M=>(p t L M).trans hvv.symm
      .rw [decide_eq_false hvv]
       exact j fun q m _=>by rw [List.map_append] at m;simp at m;subst m;exact hvv
     .refine Z3 (by simpa using hh) ?_
      exact j fun q m N=>by rw [List.map_append] at m;simp at m;subst m;exact absurd N hh
   .have f:¬ i+1<cs.length:=by simp at f;omega
    exact H c G.runs (fun t=>hst.done (by omega) G t) (by omega) g
 .by_cases I:cs.length=0
  .exact .inl ⟨I,rfl⟩
  .exact .inr ⟨by omega,hst.start (by omega)⟩
theorem xb(ls:List (List Rect)){l:List Rect}(h:l ∈ ls):Jj (Ub ls) l:=fun r a=>⟨(Q0K ls _).2 ⟨l,h,r,a,.inl rfl⟩,(Q0K ls _).2 ⟨l,h,r,a,.inr rfl⟩⟩
theorem TL(l:List Rect){ls:List (List Rect)}(h:l ∈ ls):Grid (Zb l []) (Ub ls) (Q2 l):=by
 have:=Grid.of (xs:=Zb l []) (ys:=Ub ls) (a:=l) (b:=[]) (Uc l .nil) (Q2B ls)
  (fun r c=>⟨(ZI l _ _).2 (.inr ⟨r,c,.inl rfl⟩),(ZI l _ _).2 (.inr ⟨r,c,.inr rfl⟩)⟩) (fun r c=>by cases c) (xb ls h) (fun r c=>by cases c) (k:=fun p q=>p||q) rfl
 have e:(fun x y=>Q2 l x y||Q2 [] x y)=Q2 l:=by funext x y;simp [Q2]
 rwa [e] at this
theorem jM{F:Nat}(hF:Q8<=F){l:List Rect}(hl:l.length<=32768)(hpos:∀ r ∈ l,r.L_<r.R_):BJ F l=some (cn (Q2 l)):=by
 unfold BJ;have a:=TL l (ls:=[l]) (by simp)
 have c:tot [l]=l.length:=by simp [tot]
 have b:=vV [l];refine Q4 (jT hF (by omega) (by simp)) ?_
 refine Q4 (jV hF a.rows a.step (by omega) (fun y=>?_) (fun y=>?_)) rfl
 .unfold qG
  exact Q4 (qK hF (by omega) hpos y) rfl
 .have:=(a.x y).spn_len
  have d:=Mb (l:=l);omega
theorem Q5U{F:Nat}(hF:Q8<=F){l:List Rect}{q:Rect->Option Bool}(p:Rect->Bool)(hl:l.length<=1000000000)(hq:∀ r ∈ l,q r=some (p r)):∃ i:Int,LZ F l q=some i/\(0<=i↔l.any p=true):=by
 unfold Q8 at hF;have b:∀ (n i:Nat),i<=l.length->l.length-i<n->∃ r:Int,Z7 (fun again (z:Int)=>Jy F l q again z) n (i:Int)=some r/\(0<=r↔(l.drop i).any p=true):=by
  intro n
  induction n with
  | zero=>intro i _ h;omega
  | succ n ih=>
   intro i j m;have f:Z7 (fun again (z:Int)=>Jy F l q again z) (n+1) (i:Int)=Jy F l q (Z7 (fun again (z:Int)=>Jy F l q again z) n) (i:Int):=rfl
   rw [f]
   by_cases h:i<l.length
   .rw [xw h]
    by_cases a:p (gl l i)=true
    .refine ⟨i,?_,by rw [a];simp⟩
     unfold Jy;refine Z9 (Vy h) ?_
     refine Z4 (k:=?_);exact Q4 (hq _ (V4 h)) (Z9 a rfl)
    .have a:p (gl l i)=false:=by simpa using a
     obtain ⟨r,e,c⟩:=ih (i+1) h (by omega);refine ⟨r,?_,by rw [c,a];simp⟩
     unfold Jy;refine Z9 (Vy h) ?_
     refine Z4 (k:=?_);refine Q4 (hq _ (V4 h)) (Z3 a ?_)
     refine Z4 (k:=?_);exact e
   .have:i=l.length:=by omega
    subst this;refine ⟨-1,?_,by simp⟩
    unfold Jy;exact Z3 (Um _) rfl
 obtain ⟨r,g,d⟩:=b F 0 (Nat.zero_le _) (by omega);exact ⟨r,g,by simpa using d⟩
theorem qe{F:Nat}(hF:Q8<=F){l:List Rect}{q:Rect->Option Bool}(p:Rect->Bool)(hl:l.length<=1000000000)(hq:∀ r ∈ l,q r=some (p r)):Xn F l q=some (l.any p):=by
 obtain ⟨i,b,a⟩:=Q5U hF p hl hq;unfold Xn
 refine Q4 b ?_;congr 1
 rw [Bool.eq_iff_iff, <-a,decide_eq_true_iff]
theorem Q7d(F:Nat)(r:Rect):Se F r=some (Qg r):=by
 unfold Se;rw [YE (Vq F),YE (Vq F),YE (Vq F),YE (Vq F),YE (Vq F)]
 rfl
theorem Uk{F:Nat}(hF:Q8<=F)(a:Re_):Vr F a=some (G9 a.t_):=by
 obtain ⟨l⟩:=a;simp only
 unfold Vr;have b:=hF
 unfold Q8 at hF;refine Q6 (fun h=>?_) (fun h=>?_)
 .have h:120<l.length:=by simp at h;omega
  rw [Xe fun c=>by have:=c.1;omega];rfl
 .have h:l.length<=120:=by simp at h;omega
  refine Q4 (qe b (fun r=> !Qg r) (by simp only;omega) (fun r _=>by unfold qH;rw [Q7d];rfl)) ?_;unfold Sr
  refine Q6 (fun e=>?_) (fun e=>?_)
  .rw [Xe fun c=>?_]
   simp only [List.any_eq_true] at e;obtain ⟨r,d,g⟩:=e
   rw [c.2.1 r d] at g;cases g
  .have f:∀ r ∈ l,Qg r=true:=by
    intro r d;have:=List.any_eq_false.1 e r d
    simpa using this
   refine Q4 (jM b (by simp only;omega) (fun r d=>((ZW r).1 (f r d)).2.1)) ?_;refine Q4 (Q6g b (by unfold Y5;simp only;omega)) ?_
   simp only
   by_cases hc:cn (Q2 l)=l
   .rw [decide_eq_true hc,WJ ⟨h,f,(PG l).2 hc⟩]
   .rw [decide_eq_false hc,Xe fun c=>hc ((PG l).1 c.2.2)]
def y9{α:Type}(p:α->Bool)(l:List α):Int:=if l.any p then (l.findIdx p:Int) else -1
theorem Ps{α:Type}[Emb α]{l:List α}{p:α->Bool}{i:Nat}(h:i<l.length)(hb:∀ j,j<i->p (gl l j)=false)(hi:p (gl l i)=true):l.findIdx p=i:=by
 induction l generalizing i with
 | nil=>simp at h
 | cons a l ih=>
  rw [List.findIdx_cons]
  cases i with
  | zero=>
   have:p a=true:=hi
   rw [this];rfl
  | succ i=>
   have b:p a=false:=hb 0 (by omega);rw [b]
   have:=ih (i:=i) (by simpa using h) (fun j c=>hb (j+1) (by omega)) hi
   simp [this]
theorem GU{α:Type}[Emb α]{l:List α}{p:α->Bool}(h:∀ j,j<l.length->p (gl l j)=false):l.any p=false:=by
 rw [List.any_eq_false];intro x b
 obtain ⟨j,a,rfl⟩:=List.getElem_of_mem b;have:=h j a
 rw [K5 a] at this;simpa using this
theorem Q6c{F:Nat}(hF:Q8<=F){l:List A2_}{q:A2_->Option Bool}(p:A2_->Bool)(hl:l.length<=1000000000)(hq:∀ r ∈ l,q r=some (p r)):Rr F l q=some (y9 p l):=by
 unfold Q8 at hF;unfold Rr
 refine J4 (fun z:Int=>∃ i:Nat,z=i/\i<=l.length/\∀ j,j<i->p (gl l j)=false) (fun z=>l.length-z.toNat) (fun d z m g=>?_) ⟨0,rfl,by omega,fun j f=>by omega⟩ (by simp;omega);obtain ⟨i,rfl,n,b⟩:=m
 unfold gK;refine Q6 (fun h=>?_) (fun h=>?_)
 .have h:i<l.length:=by simpa using h
  refine Z4 (k:=?_);refine Q4 (hq _ (V4 h)) ?_
  simp only [Int.toNat_natCast];refine Q6 (fun a=>?_) (fun a=>?_)
  .have c:l.any p=true:=List.any_eq_true.2 ⟨_,V4 h,a⟩
   rw [y9,if_pos c,Ps h b a]
  .refine Z4 (k:=?_)
   refine g _ ⟨i+1,by omega,h,fun j f=>?_⟩ (by omega);rcases Nat.lt_or_ge j i with e|e
   .exact b j e
   .have:j=i:=by omega
    subst this;exact a
 .have h:¬ i<l.length:=by simpa using h
  have:i=l.length:=by omega
  subst this;have c:=GU b
  rw [y9,c];rfl
theorem Q6j{F:Nat}(hF:Q8<=F){l:List A2_}{q:A2_->Option Bool}(p:A2_->Bool)(hl:l.length<=1000000000)(hq:∀ r ∈ l,q r=some (p r)):Rv F l q=some (l.filter fun r=> !p r):=by
 have B:=hF;unfold Q8 at hF
 unfold Rv;refine Q4 (Q6c B p hl hq) ?_
 by_cases g:l.any p=true
 .obtain ⟨x,n,C⟩:=List.any_eq_true.1 g
  have f:l.findIdx p<l.length:=List.findIdx_lt_length_of_exists ⟨x,n,C⟩;have t:p (gl l (l.findIdx p))=true:=by rw [K5 f];exact List.findIdx_getElem (w:=f)
  have u:∀ j,j<l.findIdx p->p (gl l j)=false:=by
   intro j s;rw [K5 (by omega)]
   simpa using List.not_of_lt_findIdx s
  rw [y9,if_pos g];refine Z3 (by simp) ?_
  refine Z4 (k:=?_);generalize l.findIdx p=i0 at *
  have G:(l.take (i0+1)).filter (fun r=> !p r)=l.take i0:=by
   rw [QD f,List.filter_append];have H:(l.take i0).filter (fun r=> !p r)=l.take i0:=by
    rw [List.filter_eq_self];intro x n
    obtain ⟨j,s,rfl⟩:=List.getElem_of_mem n;have v : j<i0:=by simp at s;omega
    have:=u j v
    rw [K5 (by omega)] at this;simp [this]
   rw [H];simp [t]
  refine J4 (fun z:Int×Int×List A2_=>∃ (i j:Nat) (a:List A2_),z=((i:Int),(j:Int),a)/\i<j/\j<=l.length/\a.length=l.length/\(∀ m,j<=m->gl a m=gl l m)/\a.take i=(l.take j).filter fun r=> !p r)
   (fun z=>l.length-z.2.1.toNat) (fun A z I y=>?_) ⟨i0,i0+1,l,rfl,by omega,by omega,rfl,fun _ _=>rfl,G.symm⟩ (by simp only;omega)
  obtain ⟨i,j,a,rfl,E,s,c,d,e⟩:=I;simp only at y ⊢
  unfold gR;rw [c]
  refine Q6 (fun h=>?_) (fun h=>?_)
  .have h:j<l.length:=by simpa using h
   refine Z4 (k:=?_);simp only [Int.toNat_natCast]
   rw [d j (Nat.le_refl _)];refine Q4 (hq _ (V4 h)) ?_
   have o:(l.take (j+1)).filter (fun r=> !p r)=(l.take j).filter (fun r=> !p r)++(if p (gl l j)=true then [] else [gl l j]):=by
    rw [QD h,List.filter_append]
    by_cases b:p (gl l j)=true
    .rw [if_pos b];simp [b]
    .rw [if_neg b];simp [b]
   refine Q6 (fun b=>?_) (fun b=>?_)
   .have b:p (gl l j)=false:=by simpa using b
    refine Z4 (k:=?_);refine Z4 (k:=?_)
    unfold Bu;refine Z4 (k:=?_)
    refine y _ ⟨i+1,j+1,a.set i (gl l j),rfl,by omega,by omega,by simp [c],fun m D=>?_,?_⟩ (by simp only;omega)
    .rw [Po _ _ _ _ (by omega),if_neg (by omega)];exact d m (by omega)
    .rw [o,if_neg (by rw [b];simp), <-e,QD (by simp;omega),LG _ _ _ _ (Nat.le_refl _),Po _ _ _ _ (by omega),if_pos rfl]
   .have b:p (gl l j)=true:=by simpa using b
    unfold Bu;refine Z4 (k:=?_)
    refine y _ ⟨i,j+1,a,rfl,by omega,by omega,c,fun m D=>d m (by omega),?_⟩ (by simp only;omega);rw [o,if_pos b,List.append_nil,e]
  .have h:¬ j<l.length:=by simpa using h
   unfold qb;simp only [Int.toNat_natCast,xi,c]
   refine Z4 (k:=?_);refine Z4 (k:=?_)
   rw [LH _ _ _ (by omega),e,List.take_of_length_le (by omega)]
 .have g:l.any p=false:=by simpa using g
  rw [y9,g];refine Z9 rfl ?_
  congr 1
  symm
  rw [List.filter_eq_self];intro x n
  have:=List.any_eq_false.1 g x n
  simpa using this
theorem jd{F:Nat}{l:List Rect}(hl:l.length<=Y5):Bx F l=some l:=by
 unfold Bx
 cases h:l with
 | nil=>
  show Pq _ _=_;unfold Pq
  exact @Q7 _ _ (Classical.propDecidable _) _ _ rfl rfl
 | cons a l' =>
  have:(a::l').length=l'.length+1:=rfl
  show (gd _ _)=_;rw [<-h]
  refine Z4 (k:=?_);simp
noncomputable def Yo(f:A2_):Int:=
 if f.N_<1\/1073741824<f.N_ then 2 else if f.k_<0\/15<f.k_ then 14 else if f.F_<0\/f.u_<=f.F_\/36865<f.u_ then 9
 else if f.g_.t_.length=0\/G9 f.g_.t_=false then 7 else 0
theorem bj{F:Nat}(hF:Q8<=F)(f:A2_):DF F f=some (Yo f):=by
 have e:∀ b:Bool,(b=true↔f.g_.t_.length=0\/G9 f.g_.t_=false)->XN F b=some (if f.g_.t_.length=0\/G9 f.g_.t_=false then 7 else 0):=by
  intro b a;unfold XN
  refine Q6 (fun h=>by rw [if_pos (a.1 h)]) (fun h=>by rw [if_neg fun c=>by rw [a.2 c] at h;cases h])
 have d:∀ b:Bool,(b=true↔f.F_<0\/f.u_<=f.F_\/36865<f.u_)->JM F f b=some (if f.F_<0\/f.u_<=f.F_\/36865<f.u_ then 9 else if f.g_.t_.length=0\/G9 f.g_.t_=false then 7 else 0):=by
  intro b a;unfold JM
  refine Q6 (fun h=>by rw [if_pos (a.1 h)]) (fun h=>?_);rw [if_neg fun c=>by rw [a.2 c] at h;cases h]
  refine Q4 (Wv hF _) ?_;rw [Yn (XN F)]
  exact e _ (by simp [or_comm])
 have g:∀ b:Bool,(b=true↔f.k_<0\/15<f.k_)->JN F f b=some (if f.k_<0\/15<f.k_ then 14 else if f.F_<0\/f.u_<=f.F_\/36865<f.u_ then 9 else if f.g_.t_.length=0\/G9 f.g_.t_=false then 7 else 0):=by
  intro b a;unfold JN
  refine Q6 (fun h=>by rw [if_pos (a.1 h)]) (fun h=>?_);rw [if_neg fun c=>by rw [a.2 c] at h;cases h]
  rw [Yn (JM F f),Yn (JM F f)];exact d _ (by simp)
 unfold DF Tg Yo;rw [Yn (fun b=>br b (some (2:Int)) (br (decide (f.k_<(0:Int))) (JN F f true) (JN F f (decide ((15:Int)<f.k_)))))]
 refine Q6 (fun h=>by rw [if_pos (by simpa using h)]) (fun h=>?_);rw [if_neg (by simpa using h),Yn (JN F f)]
 exact g _ (by simp)
theorem Z1e{F:Nat}(hF:Q8<=F)(f:A2_):Fa F f=some (Yo f):=by
 have e:∀ b:Bool,(b=true↔f.g_.t_.length=0\/G9 f.g_.t_=false)->HJ F b=some (if f.g_.t_.length=0\/G9 f.g_.t_=false then 7 else 0):=by
  intro b c;unfold HJ
  refine Q6 (fun h=>by rw [if_pos (c.1 h)]) (fun h=>by rw [if_neg fun d=>by rw [c.2 d] at h;cases h])
 have g:∀ b:Bool,(b=true↔f.F_<0\/f.u_<=f.F_\/36865<f.u_)->Ke F f b=some (if f.F_<0\/f.u_<=f.F_\/36865<f.u_ then 9 else if f.g_.t_.length=0\/G9 f.g_.t_=false then 7 else 0):=by
  intro b c;unfold Ke
  refine Q6 (fun h=>by rw [if_pos (c.1 h)]) (fun h=>?_);rw [if_neg fun d=>by rw [c.2 d] at h;cases h]
  refine Q6 (fun a=>?_) (fun a=>?_)
  .have a:f.g_.t_.length=0:=by simp at a;simp [a]
   exact e _ (by simp [a])
  .have a:f.g_.t_.length≠0:=by simp at a;simpa using a
   exact Q4 (Uk hF _) (e _ (by simp [a]))
 have i:∀ b:Bool,(b=true↔f.k_<0\/15<f.k_)->Kf F f b=some (if f.k_<0\/15<f.k_ then 14 else if f.F_<0\/f.u_<=f.F_\/36865<f.u_ then 9 else if f.g_.t_.length=0\/G9 f.g_.t_=false then 7 else 0):=by
  intro b c;unfold Kf
  refine Q6 (fun h=>by rw [if_pos (c.1 h)]) (fun h=>?_);rw [if_neg fun d=>by rw [c.2 d] at h;cases h]
  rw [Yn (Ke F f),Yn (Ke F f)];exact g _ (by simp)
 unfold Fa CZ Yo;rw [Yn (fun b=>br b (some (2:Int)) (br (decide (f.k_<(0:Int))) (Kf F f true) (Kf F f (decide ((15:Int)<f.k_)))))]
 refine Q6 (fun h=>by rw [if_pos (by simpa using h)]) (fun h=>?_);rw [if_neg (by simpa using h),Yn (Kf F f)]
 exact i _ (by simp)
noncomputable def Vj:Option Int->List A2_->Int
 | _,[]=>0
 | p,f::l=>if Yo f≠0 then Yo f else if p.any (fun n=>decide (f.N_<=n)) then 3 else Vj (some f.N_) l
noncomputable def QF(l:List A2_):Int:=if 60<l.length then 1 else Vj none l
def Ul(l:List A2_)(i:Nat):Option Int:=if i=0 then none else some (gl l (i-1)).N_
theorem Q0u(l:List A2_)(i:Nat):Ul l (i+1)=some (gl l i).N_:=by simp [Ul]
theorem zG{F:Nat}(hF:Q8<=F)(l:List A2_):XO F l=some (QF l):=by
 have m:=hF;unfold Q8 at hF
 unfold XO QF;refine Q6 (fun h=>?_) (fun h=>?_)
 .have h:60<l.length:=by simp at h;omega
  rw [if_pos h]
 .have h:¬ 60<l.length:=by simp at h;omega
  rw [if_neg h];refine J4 (fun z:Int=>∃ i:Nat,z=i/\i<=l.length/\Vj none l=Vj (Ul l i) (l.drop i)) (fun z=>l.length-z.toNat) (fun e z r q=>?_) ⟨0,rfl,by omega,rfl⟩ (by simp;omega)
  obtain ⟨i,rfl,s,a⟩:=r;unfold bm
  refine Q6 (fun c=>?_) (fun c=>?_)
  .have c:i<l.length:=by simpa using c
   rw [YB c,Vj] at a;refine Z4 (k:=?_)
   simp only [Int.toNat_natCast];refine Q4 (bj m _) ?_
   refine Q6 (fun d=>?_) (fun d=>?_)
   .have d:Yo (gl l i)≠0:=by simpa using d
    rw [a,if_pos d]
   .have d:Yo (gl l i)=0:=by simpa using d
    rw [if_neg (by simp [d])] at a;have o:∀ b:Bool,b=(Ul l i).any (fun n=>decide ((gl l i).N_<=n))->DG F i e b=some (Vj none l):=by
     intro b g;unfold DG
     refine Q6 (fun j=>?_) (fun j=>?_)
     .rw [a,if_pos (g ▸ j)]
     .rw [if_neg (by rw [<-g,j];simp)] at a
      refine Z4 (k:=?_);refine q _ ⟨i+1,by omega,c,?_⟩ (by omega)
      rw [a,Q0u]
    refine Q6 (fun f=>?_) (fun f=>?_)
    .have f:0<i:=by simpa using f
     refine Z4 (k:=?_);refine Z4 (k:=?_)
     have p:((i:Int)-1).toNat=i-1:=by omega
     rw [p];exact o _ (by simp [Ul,show i≠0 from by omega])
    .have f:i=0:=by simp at f;omega
     exact o _ (by simp [Ul,f])
  .have c:¬ i<l.length:=by simpa using c
   rw [List.drop_of_length_le (by omega)] at a;rw [a];rfl
theorem Z1n{F:Nat}(hF:Q8<=F)(l:List A2_):Ff F l=some (QF l):=by
 have m:=hF;unfold Q8 at hF
 unfold Ff QF;refine Q6 (fun h=>?_) (fun h=>?_)
 .have h:60<l.length:=by simp at h;omega
  rw [if_pos h]
 .have h:¬ 60<l.length:=by simp at h;omega
  rw [if_neg h];refine J4 (fun z:Int=>∃ i:Nat,z=i/\i<=l.length/\Vj none l=Vj (Ul l i) (l.drop i)) (fun z=>l.length-z.toNat) (fun e z r q=>?_) ⟨0,rfl,by omega,rfl⟩ (by simp;omega)
  obtain ⟨i,rfl,s,a⟩:=r;unfold Q2a
  refine Q6 (fun c=>?_) (fun c=>?_)
  .have c:i<l.length:=by simpa using c
   rw [YB c,Vj] at a;refine Z4 (k:=?_)
   simp only [Int.toNat_natCast];refine Q4 (Z1e m _) ?_
   refine Q6 (fun d=>?_) (fun d=>?_)
   .have d:Yo (gl l i)≠0:=by simpa using d
    rw [a,if_pos d]
   .have d:Yo (gl l i)=0:=by simpa using d
    rw [if_neg (by simp [d])] at a;have o:∀ b:Bool,b=(Ul l i).any (fun n=>decide ((gl l i).N_<=n))->HQ F i e b=some (Vj none l):=by
     intro b g;unfold HQ
     refine Q6 (fun j=>?_) (fun j=>?_)
     .rw [a,if_pos (g ▸ j)]
     .rw [if_neg (by rw [<-g,j];simp)] at a
      refine Z4 (k:=?_);refine q _ ⟨i+1,by omega,c,?_⟩ (by omega)
      rw [a,Q0u]
    refine Q6 (fun f=>?_) (fun f=>?_)
    .have f:0<i:=by simpa using f
     refine Z4 (k:=?_);refine Z4 (k:=?_)
     have p:((i:Int)-1).toNat=i-1:=by omega
     rw [p];exact o _ (by simp [Ul,show i≠0 from by omega])
    .have f:i=0:=by simp at f;omega
     exact o _ (by simp [Ul,f])
  .have c:¬ i<l.length:=by simpa using c
   rw [List.drop_of_length_le (by omega)] at a;rw [a];rfl
structure VL (l:List A2_):Prop where
 len:l.length<=60
 one:∀ f ∈ l,Yo f=0
 asc:l.Pairwise fun f g=>f.N_<g.N_
theorem Q2S:∀ (l:List A2_) (p:Option Int),Vj p l=0↔(∀ f ∈ l,Yo f=0)/\l.Pairwise (fun f g=>f.N_<g.N_)/\∀ n,p=some n->∀ f ∈ l,n<f.N_
 | [],p=>by simp [Vj]
 | f::l,p=>by
  have k:=Q2S l (some f.N_);unfold Vj
  by_cases h1:Yo f=0
  .rw [if_neg (by simp [h1])]
   by_cases e:p.any (fun n=>decide (f.N_<=n))=true
   .rw [if_pos e]
    constructor
    .intro h;cases h
    .rintro ⟨_,_,h⟩
     cases p with
     | none=>simp at e
     | some n=>
      have e:f.N_<=n:=by simpa using e
      have:=h n rfl f (by simp)
      omega
   .rw [if_neg e,k]
    constructor
    .rintro ⟨a,b,c⟩
     refine ⟨fun g d=>?_,List.pairwise_cons.2 ⟨fun g d=>c _ rfl g d,b⟩,fun n i g d=>?_⟩
     .rcases List.mem_cons.1 d with rfl|d
      .exact h1
      .exact a g d
     .subst i
      have e:n<f.N_:=by simpa using e
      rcases List.mem_cons.1 d with rfl|d
      .exact e
      .have:=c _ rfl g d;omega
    .rintro ⟨a,b,c⟩
     obtain ⟨j,m⟩:=List.pairwise_cons.1 b;exact ⟨fun g d=>a g (by simp [d]),m,fun n i g d=>by cases i;exact j g d⟩
  .rw [if_pos h1]
   constructor
   .intro h;exact absurd h h1
   .rintro ⟨a,_,_⟩;exact absurd (a f (by simp)) h1
theorem PE(l:List A2_):QF l=0↔VL l:=by
 unfold QF
 by_cases h:60<l.length
 .rw [if_pos h]
  exact ⟨fun h=>(by cases h),fun c=>by have:=c.len;omega⟩
 .rw [if_neg h,Q2S]
  exact ⟨fun ⟨a,b,_⟩=>⟨by omega,a,b⟩,fun c=>⟨c.one,c.asc,fun n d=>by cases d⟩⟩
theorem XW(f:A2_):Yo f=0↔1<=f.N_/\f.N_<=1073741824/\0<=f.k_/\f.k_<=15/\0<=f.F_/\f.F_<f.u_/\f.u_<=36865/\f.g_.t_.length≠0/\W6 f.g_.t_:=by
 unfold Yo;rw [<-Yc]
 by_cases h1:f.N_<1\/1073741824<f.N_
 .rw [if_pos h1];simp;omega
 .rw [if_neg h1]
  by_cases h2:f.k_<0\/15<f.k_
  .rw [if_pos h2];simp;omega
  .rw [if_neg h2]
   by_cases h3:f.F_<0\/f.u_<=f.F_\/36865<f.u_
   .rw [if_pos h3];simp;omega
   .rw [if_neg h3]
    by_cases a:f.g_.t_.length=0\/G9 f.g_.t_=false
    .rw [if_pos a]
     constructor
     .intro h;cases h
     .rintro ⟨_,_,_,_,_,_,_,b,c⟩
      rcases a with a|a
      .exact absurd a b
      .rw [c] at a;cases a
    .rw [if_neg a]
     refine ⟨fun _=>?_,fun _=>rfl⟩;have b:f.g_.t_.length≠0:=fun h=>a (.inl h)
     have c:G9 f.g_.t_=true:=by
      cases hv:G9 f.g_.t_ with
      | true=>rfl
      | false=>exact absurd (.inr hv) a
     refine ⟨by omega,by omega,by omega,by omega,by omega,by omega,by omega,b,c⟩
theorem Z1i{F:Nat}{f:A2_}(h:f.g_.t_.length<=Y5):Fc F f=some f:=by
 unfold Fc;exact Q4 (jd h) rfl
theorem VL.rlen{l:List A2_}(h:VL l){f:A2_}(hf:f ∈ l):f.g_.t_.length<=120:=((XW f).1 (h.one f hf)).2.2.2.2.2.2.2.2.1
theorem Z1k{F:Nat}(hF:Q8<=F){l:List A2_}(h:VL l):Fd F l=some l:=by
 unfold Q8 at hF;have d:=h.len
 unfold Fd;refine J4 (fun z:Int×List A2_=>∃ i:Nat,z=((i:Int),l.take i)/\i<=l.length) (fun z=>l.length-z.1.toNat) (fun b z e c=>?_) ⟨0,rfl,by omega⟩ (by simp only;omega)
 obtain ⟨i,rfl,f⟩:=e;simp only at c ⊢
 unfold Q1W;refine Q6 (fun a=>?_) (fun a=>?_)
 .have a:i<l.length:=by simpa using a
  refine Z4 (k:=?_);simp only [Int.toNat_natCast]
  refine Q4 (Z1i (by have:=h.rlen (V4 a);unfold Y5;omega)) ?_;refine Z4 (k:=?_)
  refine Z4 (k:=?_);exact c _ ⟨i+1,by rw [QD a];rfl,a⟩ (by simp only;omega)
 .have a:¬ i<l.length:=by simpa using a
  unfold vF;rw [List.take_of_length_le (by omega)]
def WW(f:A2_)(d:Int):Bool:=decide (f.F_<=d)&&decide (d<f.u_)
theorem Q1V(F:Nat)(f:A2_)(d:Int):HI F f d=some (WW f d):=by
 unfold HI;rw [YE (CY F)];rfl
theorem Z1g{F:Nat}(hF:Q8<=F)(l:List A2_)(d:Int):Fb F l d=some (if QF l≠0 then QF l else if d<0\/36864<d then 9 else 0):=by
 unfold Fb;refine Q4 (Z1n hF l) ?_
 refine Q6 (fun h=>?_) (fun h=>?_)
 .have h:QF l≠0:=by simpa using h
  rw [if_pos h]
 .have h:QF l=0:=by simpa using h
  rw [if_neg (by simp [h]),Yn (HK F)];unfold HK
  refine Q6 (fun h=>?_) (fun h=>?_)
  .rw [if_pos (by simpa using h)]
  .rw [if_neg (by simpa using h)]
theorem vI{F:Nat}(hF:Q8<=F)(l:List A2_)(d:Int):HP F l d=some (if QF l≠0 then ([],QF l) else if d<0\/36864<d then ([],9) else (l.filter fun f=>WW f d,0)):=by
 unfold HP;refine Q4 (Z1g hF l d) ?_
 by_cases h:QF l=0
 .simp only [h,ne_eq,not_true_eq_false,if_false]
  by_cases h2:d<0\/36864<d
  .simp only [h2,if_true]
   exact Z9 rfl rfl
  .simp only [h2,if_false]
   refine Z3 rfl ?_;have a:=(PE l).1 h
   refine Q4 (Z1k hF a) ?_;have b:=a.len
   refine Q4 (Q6j hF (fun f=> !WW f d) (by omega) (fun f _=>by unfold vJ;rw [Q1V];rfl)) ?_;simp
 .have e:(if QF l≠0 then QF l else if d<0\/36864<d then 9 else 0)=QF l:=if_pos h
  rw [e,if_pos h];refine Z9 (by simpa using h) rfl
def ZG(l:List A2_)(n:Int):Nat:=l.countP fun f=>decide (f.N_<n)
theorem yD{l:List A2_}(h:l.Pairwise fun f g=>f.N_<g.N_)(n:Int):ZG l n<=l.length/\(∀ j,j<ZG l n->(gl l j).N_<n)/\∀ j,ZG l n<=j->j<l.length->n<=(gl l j).N_:=by
 induction l with
 | nil=>exact ⟨Nat.le_refl _,fun j i=>by simp [ZG] at i,fun j _ i=>by simp at i⟩
 | cons f l ih=>
  obtain ⟨p,m⟩:=List.pairwise_cons.1 h;obtain ⟨a,b,c⟩:=ih m
  by_cases hf:f.N_<n
  .have e:ZG (f::l) n=ZG l n+1:=by simp [ZG,hf]
   rw [e];refine ⟨by simp;exact a,fun j i=>?_,fun j i d=>?_⟩
   .cases j with
    | zero=>exact hf
    | succ j=>exact b j (by omega)
   .cases j with
    | zero=>omega
    | succ j=>exact c j (by omega) (by simpa using d)
  .have o:ZG l n=0:=by
    unfold ZG;rw [List.countP_eq_zero]
    intro g k;have:=p g k
    simp;omega
   have e:ZG (f::l) n=0:=by
    have:ZG (f::l) n=ZG l n:=by simp [ZG,hf]
    rw [this,o]
   rw [e];refine ⟨Nat.zero_le _,fun j i=>by omega,fun j _ d=>?_⟩
   cases j with
   | zero=>show n<=f.N_;omega
   | succ j=>exact c j (by omega) (by simpa using d)
theorem Q8l{F:Nat}(hF:Q8<=F){a b:Re_}(h:b.t_.length<=Y5):Gs F a b=some (decide (a.t_=b.t_)):=by
 unfold Gs;exact Q4 (bQ hF h) rfl
structure TOk (t:Tape):Prop where
 at_:0<=t.at_
 len:t.l_.length<=400
theorem Q1k{F:Nat}(a:Int){n:Int}(h1:1<=n)(h2:n<=1099511627776):∃ k,JY F a n=some k/\0<=k/\k<n:=by
 have b:=Int.tmod_lt_of_pos a (show 0<n by omega);have c:=Int.lt_tmod_of_pos a (show 0<n by omega)
 unfold JY;generalize a.tmod n=m at *
 by_cases h:m<0
 .refine ⟨m+n,?_,by omega,by omega⟩
  refine Z3 (by simp;omega) ?_;refine Z4 (k:=?_)
  refine Z9 (by simpa using h) ?_;refine Z4 (k:=?_)
  rfl
 .refine ⟨m,?_,by omega,by omega⟩
  refine Z3 (by simp;omega) ?_;refine Z4 (k:=?_)
  exact Z3 (by simpa using h) rfl
theorem QL{F:Nat}{t:Tape}(ht:TOk t){n:Int}(h1:1<=n)(h2:n<=1099511627776):∃ t' k,Qr F t n=some (t',k)/\TOk t' /\ 0<=k/\k<n:=by
 obtain ⟨a,b⟩:=ht;unfold Qr
 by_cases h:(t.l_.length:Int)<=t.at_
 .exact ⟨t,0,Z9 (by simpa using h) rfl,⟨a,b⟩,by omega,by omega⟩
 .obtain ⟨k,c,k1,k2⟩:=Q1k (F:=F) (gl t.l_ ((t.at_+1)-1).toNat) h1 h2
  refine ⟨⟨t.l_,t.at_+1⟩,k,?_,⟨by simp only;omega,b⟩,k1,k2⟩;refine Z3 (by simpa using h) ?_
  refine Z4 (k:=?_);refine Z4 (k:=?_)
  refine Z4 (k:=?_);exact Q4 c rfl
theorem Vc{F:Nat}{t:Tape}(ht:TOk t){lo hi:Int}(h1:lo<=hi)(h0 : -1099511627<=lo)(h2:hi<=1099511627):∃ t' k,YW F t lo hi=some (t',k)/\TOk t' /\ lo<=k/\k<=hi:=by
 obtain ⟨t',k,d,a,b,c⟩:=QL (F:=F) ht (n:=(hi-lo)+1) (by omega) (by omega);refine ⟨t',lo+k,?_,a,by omega,by omega⟩
 unfold YW;refine Z4 (k:=?_)
 refine Z4 (k:=?_);refine Q4 d ?_
 refine Z4 (k:=?_);rfl
def Qw(n:Int)(l:List Rect):Prop:=∀ r ∈ l,0<=r.L_/\r.L_<r.R_/\r.R_<=n/\0<=r.w_/\r.w_<r.H_/\r.H_<=n
theorem Qw.prop{n:Int}{l:List Rect}(h:Qw n l)(hn:n<=16384):∀ r ∈ l,Qg r=true:=fun r a=>(ZW r).2 (by have:=h r a;omega)
theorem Qw.in{n:Int}{l:List Rect}(h:Qw n l){x y:Int}(hx:Q2 l x y=true):0<=x/\x<n/\0<=y/\y<n:=by
 obtain ⟨r,a,b⟩:=List.any_eq_true.1 hx;rw [Qh] at b
 have:=h r a
 omega
theorem Z0Z{l:List (Rn (List Span))}{r:Rect}(h:r ∈ flat l):∃ b ∈ l,∃ s ∈ b.v,r=⟨s.L_,b.lo,s.R_,b.hi⟩:=by
 obtain ⟨b,a,c⟩:=List.mem_flatMap.1 h;obtain ⟨s,d,rfl⟩:=List.mem_map.1 c
 exact ⟨b,a,s,d,rfl⟩
theorem G3.pos{l:List Rect}(h:G3 l){r:Rect}(hr:r ∈ l):r.L_<r.R_/\r.w_<r.H_:=by
 obtain ⟨b,d,rfl⟩:=h;obtain ⟨c,a,s,e,rfl⟩:=Z0Z hr
 exact ⟨(d.sp c a).pos s e,d.runs.pos c a⟩
theorem Wy{l:List Rect}{r:Rect}(hr:r ∈ l){x y:Int}(h:r.has x y=true):Q2 l x y=true:=List.any_eq_true.2 ⟨r,hr,h⟩
theorem G3.box{l:List Rect}(h:G3 l){n:Int}(hn:∀ x y,Q2 l x y=true->0<=x/\x<n/\0<=y/\y<n):Qw n l:=by
 intro r c;obtain ⟨e,d⟩:=h.pos c
 have a:=hn r.L_ r.w_ (Wy c ((Qh _ _ _).2 (by omega)));have b:=hn (r.R_-1) (r.H_-1) (Wy c ((Qh _ _ _).2 (by omega)))
 omega
theorem xn{S:Int->Int->Bool}(hf:z8 S){n:Int}(hn:∀ x y,S x y=true->0<=x/\x<n/\0<=y/\y<n):Qw n (cn S):=
 (G3.cn hf).box fun x y h=>hn x y (by rwa [y8 hf] at h)
theorem PF:G3 []:=⟨[],⟨.nil,fun b a=>(List.not_mem_nil a).elim,fun b a=>(List.not_mem_nil a).elim⟩,rfl⟩
theorem xk{r:Rect}(h1:r.L_<r.R_)(h2:r.w_<r.H_):G3 [r]:=
 ⟨[⟨r.w_,r.H_,[⟨r.L_,r.R_⟩]⟩],⟨⟨fun b a=>by rw [List.mem_singleton.1 a];exact h2,List.pairwise_singleton _ _⟩,fun b a=>by
  rw [List.mem_singleton.1 a];exact ⟨fun s c=>by rw [List.mem_singleton.1 c];exact h1,List.pairwise_singleton _ _⟩,fun b a=>by rw [List.mem_singleton.1 a];simp⟩,rfl⟩
theorem Q3c(n:Int):Qw n []:=fun r a=>(List.not_mem_nil a).elim
theorem W6.nil:W6 []:=⟨by simp,fun r a=>(List.not_mem_nil a).elim,PF⟩
theorem yK{F:Nat}{t:Tape}(ht:TOk t){n:Int}(h1:1<=n)(h2:n<=16384):∃ t' r,GE F t n=some (t',r)/\TOk t' /\ Qw n [r]:=by
 obtain ⟨o,x,g,f,A,C⟩:=QL (F:=F) ht (n:=n) (by omega) (by omega);obtain ⟨q,y,e,i,B,w⟩:=QL (F:=F) f (n:=n) (by omega) (by omega)
 obtain ⟨l,u,j,b,z,s⟩:=QL (F:=F) i (n:=n-x) (by omega) (by omega);obtain ⟨h,v,d,c,m,p⟩:=QL (F:=F) b (n:=n-y) (by omega) (by omega)
 refine ⟨h,⟨x,y,(x+1)+u,(y+1)+v⟩,?_,c,fun r a=>?_⟩
 .unfold GE
  refine Q4 g ?_;refine Q4 e ?_
  simp only
  refine Z4 (k:=?_);refine Z4 (k:=?_)
  refine Q4 j ?_;simp only
  refine Z4 (k:=?_);refine Z4 (k:=?_)
  refine Z4 (k:=?_);refine Q4 d ?_
  simp only
  refine Z4 (k:=?_);rfl
 .rw [List.mem_singleton.1 a]
  simp only
  omega
structure RegT (n:Int) (a:Re_):Prop where
 box:Qw n a.t_
 val:W6 a.t_
theorem Q0Z{F:Nat}(hF:Q8<=F){t:Tape}(ht:TOk t){n most:Int}(h1:1<=n)(h2:n<=16384)(m1:0<=most)(m2:most<=100):∃ t' a R,GD F t n most=some (t',a)/\TOk t' /\ RegT n a/\(List.length (α:=Rect) R:Int)<=most/\Q2 a.t_=Q2 R:=by
 have o:=hF;unfold Q8 at hF
 obtain ⟨D,c,G,s,I,H⟩:=QL (F:=F) ht (n:=most+1) (by omega) (by omega);have m:∀ (k f:Nat) (t:Tape) (l:List Rect),k<f->TOk t->Qw n l->l.length+k<=100->(l.length:Int)+k<=most->∃ t' a R,Z7 (fun again (z:Int×List Int×Int×List Rect)=>Pa F n again z.1 z.2.1 z.2.2.1 z.2.2.2) f ((k:Int),t.l_,t.at_,l)=some (t',a)/\TOk t' /\ RegT n a/\(List.length (α:=Rect) R:Int)<=most/\Q2 a.t_=Q2 R:=by
  intro k
  induction k with
  | zero=>
   intro f t l v ht g u B
   cases f with
   | zero=>omega
   | succ f=>
    have j:=Q8n o (l:=l) (by omega) (g.prop h2);refine ⟨⟨t.l_,t.at_⟩,(if 120<(cn (Q2 l)).length then ((⟨[]⟩:Re_),(1:Int)) else (⟨cn (Q2 l)⟩,0)).1,(if 120<(cn (Q2 l)).length then [] else l),?_,ht,?_⟩
    .show Pa F n _ 0 t.l_ t.at_ l=_
     unfold Pa;refine Z3 rfl ?_
     unfold yJ;exact Q4 j rfl
    .split
     .exact ⟨⟨Q3c _,W6.nil⟩,by simp;omega,rfl⟩
     .rename_i p
      have b:Qw n (cn (Q2 l)):=xn (V8 l) fun x y h=>g.in h
      exact ⟨⟨b,by simp only;omega,b.prop h2,G3.cn (V8 l)⟩,by omega,by funext x y;exact y8 (V8 l) x y⟩
  | succ k ih=>
   intro f t l v ht g u B
   cases f with
   | zero=>omega
   | succ f=>
    obtain ⟨t',r,A,w,C⟩:=yK (F:=F) ht h1 h2;obtain ⟨E,a,Q,e,i,b⟩:=ih f t' (l++[r]) (by omega) w (fun q d=>by
     rcases List.mem_append.1 d with d|d
     .exact g q d
     .exact C q d) (by simp;omega) (by simp;omega)
    refine ⟨E,a,Q,?_,i,b⟩;show Pa F n _ ((k+1:Nat):Int) t.l_ t.at_ l=_
    unfold Pa;refine Z9 (by simp) ?_
    refine Q4 A ?_;refine Z4 (k:=?_)
    refine Z4 (k:=?_);have:((k+1:Nat):Int)-1=(k:Int):=by omega
    rw [this];exact e
 obtain ⟨t',a,Q,e,i,b⟩:=m c.toNat F D [] (by omega) s (Q3c _) (by simp;omega) (by simp;omega);refine ⟨t',a,Q,?_,i,b⟩
 unfold GD;refine Z4 (k:=?_)
 refine Q4 G ?_;have:(c.toNat:Int)=c:=by omega
 rw [this] at e;exact e
theorem yI{F:Nat}(hF:Q8<=F){t:Tape}(ht:TOk t){n most:Int}(h1:1<=n)(h2:n<=16384)(m1:0<=most)(m2:most<=100):∃ t' a,GD F t n most=some (t',a)/\TOk t' /\ RegT n a:=by
 obtain ⟨t',a,_,e,o,h,_⟩:=Q0Z hF ht h1 h2 m1 m2;exact ⟨t',a,e,o,h⟩
theorem Q9K{F:Nat}(hF:Q8<=F){t:Tape}(ht:TOk t){n most:Int}(h1:1<=n)(h2:n<=16384)(m1:1<=most)(m2:most<=100):∃ t' a R,GF F t n most=some (t',a)/\TOk t' /\ RegT n a/\a.t_.length≠0/\(List.length (α:=Rect) R:Int)<=most/\Q2 a.t_=Q2 R:=by
 obtain ⟨d,a,Q,c,f,i,j⟩:=Q0Z hF ht h1 h2 (by omega) m2;unfold GF
 by_cases h:a.t_.length=0
 .obtain ⟨e,r,l,k,b⟩:=yK (F:=F) f h1 h2
  have g:=b r (by simp);refine ⟨⟨e.l_,e.at_⟩,⟨[r]⟩,[r],?_,k,⟨b,by simp,b.prop h2,xk (by omega) (by omega)⟩,by simp,by simp;omega,rfl⟩
  refine Q4 c ?_;refine Z9 (by simp only [h];rfl) ?_
  exact Q4 l rfl
 .refine ⟨⟨d.l_,d.at_⟩,⟨a.t_⟩,Q,?_,f,i,h,j⟩
  refine Q4 c ?_;exact Z3 (by simpa using h) rfl
theorem Q9M{F:Nat}(hF:Q8<=F){t:Tape}(ht:TOk t){n most:Int}(h1:1<=n)(h2:n<=16384)(m1:0<=most)(m2:most<=100):∃ t' a,GF F t n most=some (t',a)/\TOk t' /\ RegT n a/\a.t_.length≠0:=by
 obtain ⟨d,a,c,f,i⟩:=yI hF ht h1 h2 m1 m2;unfold GF
 by_cases h:a.t_.length=0
 .obtain ⟨e,r,k,j,b⟩:=yK (F:=F) f h1 h2
  have g:=b r (by simp);refine ⟨⟨e.l_,e.at_⟩,⟨[r]⟩,?_,j,⟨b,by simp,b.prop h2,xk (by omega) (by omega)⟩,by simp⟩
  refine Q4 c ?_;refine Z9 (by simp only [h];rfl) ?_
  exact Q4 k rfl
 .refine ⟨⟨d.l_,d.at_⟩,⟨a.t_⟩,?_,f,i,h⟩
  refine Q4 c ?_;exact Z3 (by simpa using h) rfl
structure FeaT (f:A2_):Prop where
 kind:0<=f.k_/\f.k_<=15
 F_:0<=f.F_/\f.F_<20
 u_:f.F_<f.u_/\f.u_<=f.F_+30
 reg:RegT 9 f.g_
 ne:f.g_.t_.length≠0
theorem Q9S{F:Nat}(hF:Q8<=F){t:Tape}(ht:TOk t)(n:Int):∃ t' f,Cx F t n=some (t',f)/\TOk t' /\ FeaT f/\f.N_=n:=by
 obtain ⟨u,a,m,l,w,x⟩:=QL (F:=F) ht (n:=20) (by omega) (by omega);obtain ⟨v,b,j,p,z,A⟩:=QL (F:=F) l (n:=16) (by omega) (by omega)
 obtain ⟨s,c,q,g,B,y⟩:=Vc (F:=F) p (lo:=1) (hi:=30) (by omega) (by omega) (by omega);obtain ⟨o,r,i,h,e,d⟩:=Q9M hF g (n:=9) (most:=2) (by omega) (by omega) (by omega) (by omega)
 refine ⟨o,⟨n,b,a,a+c,r⟩,?_,h,⟨by simp only;omega,by simp only;omega,by simp only;omega,e,d⟩,rfl⟩;unfold Cx
 refine Q4 m ?_;refine Q4 j ?_
 refine Q4 q ?_;simp only
 refine Z4 (k:=?_);exact Q4 i rfl
theorem FeaT.one{f:A2_}(h:FeaT f)(h1:1<=f.N_)(h2:f.N_<=1073741824):Yo f=0:=
 (XW f).2 ⟨h1,h2,h.kind.1,h.kind.2,h.F_.1,h.u_.1,by have:=h.F_;have:=h.u_;omega,h.ne,h.reg.val⟩
def JZ(l:List A2_)(f:A2_):List A2_:=l.take (ZG l f.N_)++[f]++l.drop (ZG l f.N_)
noncomputable def GV(l:List A2_)(f:A2_):List A2_×Int:=
 if QF l≠0 then ([],QF l) else if Yo f≠0 then ([],Yo f) else if ZG l f.N_<l.length/\(gl l (ZG l f.N_)).N_=f.N_ then ([],6)
 else if l.length=60 then ([],1) else (JZ l f,0)
theorem bn{F:Nat}(hF:Q8<=F)(l:List A2_)(f:A2_):Tj F l f=some (GV l f):=by
 have n:=hF;unfold Q8 at hF
 unfold Tj GV;refine Q4 (zG n l) ?_
 by_cases h:QF l=0
 .refine Z3 (by simp [h]) ?_
  rw [if_neg (by simp [h])];refine Q4 (bj n f) ?_
  by_cases h1:Yo f=0
  .refine Z3 (by simp [h1]) ?_
   rw [if_neg (by simp [h1])];have p:=(PE l).1 h
   have r:=p.len;obtain ⟨a,b,c⟩:=yD p.asc f.N_
   unfold JZ;generalize ZG l f.N_=k at *
   refine J4 (fun z:Int=>∃ i:Nat,z=i/\i<=k) (fun z=>l.length-z.toNat) (fun o z t s=>?_) ⟨0,rfl,by omega⟩ (by simp;omega);obtain ⟨i,rfl,v⟩:=t
   have j:i=k->Ti F l f (i:Int)=some (if k<l.length/\(gl l k).N_=f.N_ then ([],6) else if l.length=60 then ([],1) else (l.take k++[f]++l.drop k,0)):=by
    rintro rfl;unfold Ti
    have m:∀ b:Bool,(b=true↔i<l.length/\(gl l i).N_=f.N_)->DH F l f (i:Int) b=some (if i<l.length/\(gl l i).N_=f.N_ then ([],6) else if l.length=60 then ([],1) else (l.take i++[f]++l.drop i,0)):=by
     intro b q;unfold DH
     refine Q6 (fun h=>by rw [if_pos (q.1 h)]) (fun h=>?_);rw [if_neg fun u=>by rw [q.2 u] at h;cases h]
     refine Q6 (fun h=>?_) (fun h=>?_)
     .have h:l.length=60:=by simp at h;omega
      rw [if_pos h]
     .have h:l.length≠60:=by simp at h;omega
      rw [if_neg h];simp only [Int.toNat_natCast]
      refine Z4 (k:=?_);refine Z4 (k:=?_)
      refine Z4 (k:=?_);refine Z4 (k:=?_)
      refine Z4 (k:=?_);simp
    refine Q6 (fun d=>?_) (fun d=>?_)
    .have d:i<l.length:=by simpa using d
     refine Z4 (k:=?_);exact m _ (by simp [d])
    .have d:¬ i<l.length:=by simpa using d
     exact m _ (by simp [d])
   unfold bp;refine Q6 (fun d=>?_) (fun d=>?_)
   .have d:i<l.length:=by simpa using d
    refine Z4 (k:=?_);unfold DI
    simp only [Int.toNat_natCast];refine Q6 (fun e=>?_) (fun e=>?_)
    .have e:(gl l i).N_<f.N_:=by simpa using e
     refine Z4 (k:=?_);refine s _ ⟨i+1,by omega,?_⟩ (by omega)
     rcases Nat.lt_or_ge i k with g|g
     .exact g
     .have:=c i g d;omega
    .have e:¬ (gl l i).N_<f.N_:=by simpa using e
     refine j ?_;rcases Nat.lt_or_ge i k with g|g
     .exact absurd (b i g) e
     .omega
   .have d:¬ i<l.length:=by simpa using d
    unfold DI;exact Z3 rfl (j (by omega))
  .refine Z9 (by simpa using h1) ?_
   rw [if_pos h1]
 .refine Z9 (by simpa using h) ?_
  rw [if_pos h]
theorem Q1m{l:List A2_}{f g:A2_}:g ∈ JZ l f↔g=f\/g ∈ l:=by
 unfold JZ;constructor
 .intro h
  rcases List.mem_append.1 h with h|h
  .rcases List.mem_append.1 h with h|h
   .exact .inr (List.mem_of_mem_take h)
   .exact .inl (List.mem_singleton.1 h)
  .exact .inr (List.mem_of_mem_drop h)
 .rintro (rfl|h)
  .simp
  .rw [<-List.take_append_drop (ZG l f.N_) l] at h
   rcases List.mem_append.1 h with h|h
   .simp [h]
   .simp [h]
theorem Z0g{l:List A2_}{f:A2_}(hl:VL l)(hf:Yo f=0)(hn:¬ (ZG l f.N_<l.length/\(gl l (ZG l f.N_)).N_=f.N_))(h60:l.length≠60):VL (JZ l f):=by
 obtain ⟨a,b,c⟩:=yD hl.asc f.N_;have p:=hl.len
 refine ⟨by simp [JZ];omega,fun g h=>?_,?_⟩
 .rcases Q1m.1 h with rfl|h
  .exact hf
  .exact hl.one g h
 .unfold JZ
  generalize ZG l f.N_=k at *;have w:∀ g ∈ l.take k,g.N_<f.N_:=by
   intro g h;obtain ⟨j,n,rfl⟩:=List.getElem_of_mem h
   have d : j<k:=by simp at n;omega
   have:=b j d
   rw [K5 (by omega)] at this;simpa using this
  have r:∀ g ∈ l.drop k,f.N_<g.N_:=by
   intro g h;obtain ⟨j,n,rfl⟩:=List.getElem_of_mem h
   have d : k+j<l.length:=by simp at n;omega
   have u:=c (k+j) (by omega) d;rw [K5 d] at u
   have A:(l[k+j]).N_≠f.N_:=by
    intro e;rcases Nat.eq_zero_or_pos j with rfl|m
    .exact hn ⟨by omega,by rw [K5 (by omega)];exact e⟩
    .have t:=c k (Nat.le_refl _) (by omega)
     rw [K5 (by omega)] at t;have z:=List.pairwise_iff_getElem.1 hl.asc k (k+j) (by omega) d (by omega)
     omega
   simp only [List.getElem_drop];omega
  have m:=hl.asc;rw [<-List.take_append_drop k l,List.pairwise_append] at m
  obtain ⟨s,v,q⟩:=m;rw [List.append_assoc,List.pairwise_append]
  refine ⟨s,List.pairwise_cons.2 ⟨r,v⟩,fun x o y i=>?_⟩;rcases List.mem_append.1 i with i|i
  .rw [List.mem_singleton.1 i];exact w x o
  .exact q x o y i
structure LayT (l:List A2_):Prop where
 vl:VL l
 fea:∀ f ∈ l,FeaT f/\1<=f.N_/\f.N_<=12
theorem Q9H{F:Nat}(hF:Q8<=F){t:Tape}(ht:TOk t){most:Int}(m1:0<=most)(m2:most<=50):∃ t' l,Cq F t most=some (t',l)/\TOk t' /\ LayT l/\(l.length:Int)<=most:=by
 have e:=hF;unfold Q8 at hF
 obtain ⟨H,c,I,C,N,M⟩:=QL (F:=F) ht (n:=most+1) (by omega) (by omega);have q:∀ (k f:Nat) (t:Tape) (l:List A2_),k<f->TOk t->LayT l->(l.length:Int)+k<=most->∃ t' l',Z7 (fun again (z:List A2_×Int×List Int×Int)=>Pd F again z.1 z.2.1 z.2.2.1 z.2.2.2) f (l,(k:Int),t.l_,t.at_)=some (t',l')/\TOk t' /\ LayT l' /\ (l'.length:Int)<=most:=by
  intro k
  induction k with
  | zero=>
   intro f t l m ht d E
   cases f with
   | zero=>omega
   | succ f=>exact ⟨⟨t.l_,t.at_⟩,l,rfl,ht,d,by omega⟩
  | succ k ih=>
   intro f t l m ht d E
   cases f with
   | zero=>omega
   | succ f=>
    obtain ⟨L,n,w,D,K,n2⟩:=Vc (F:=F) ht (lo:=1) (hi:=12) (by omega) (by omega) (by omega);obtain ⟨y,g,v,B,u,J⟩:=Q9S e D n
    have j:=u.one (by omega) (by omega);have G:=(PE l).2 d.vl
    have A:((k+1:Nat):Int)-1=(k:Int):=by omega
    by_cases hadd:(GV l g).2=0
    .have i:LayT (GV l g).1/\(GV l g).1.length=l.length+1:=by
      unfold GV at hadd ⊢;rw [if_neg (by simp [G]),if_neg (by simp [j])] at hadd ⊢
      by_cases a:ZG l g.N_<l.length/\(gl l (ZG l g.N_)).N_=g.N_
      .rw [if_pos a] at hadd;cases hadd
      .rw [if_neg a] at hadd ⊢
       by_cases b:l.length=60
       .rw [if_pos b] at hadd;cases hadd
       .rw [if_neg b]
        refine ⟨⟨Z0g d.vl j a b,fun x s=>?_⟩,?_⟩
        .rcases Q1m.1 s with rfl|s
         .exact ⟨u,by omega,by omega⟩
         .exact d.fea x s
        .have:=(yD d.vl.asc g.N_).1
         simp [JZ];omega
     obtain ⟨r,p,a,b,h,o⟩:=ih f y (GV l g).1 (by omega) B i.1 (by omega);refine ⟨r,p,?_,b,h,o⟩
     show Pd F _ l ((k+1:Nat):Int) t.l_ t.at_=_;unfold Pd
     refine Z9 (by simp) ?_;refine Q4 w (Q4 v (Q4 (bn e l g) ?_))
     refine Z9 (by simpa using hadd) ?_;unfold Hu
     refine Z4 (k:=?_);rw [A];exact a
    .obtain ⟨r,p,a,b,h,o⟩:=ih f y l (by omega) B d (by omega)
     refine ⟨r,p,?_,b,h,o⟩;show Pd F _ l ((k+1:Nat):Int) t.l_ t.at_=_
     unfold Pd;refine Z9 (by simp) ?_
     refine Q4 w (Q4 v (Q4 (bn e l g) ?_));refine Z3 (by simpa using hadd) ?_
     unfold Hu;refine Z4 (k:=?_)
     rw [A];exact a
 obtain ⟨t',l,a,b,h,o⟩:=q c.toNat F H [] (by omega) C ⟨⟨by simp,fun f m=>(List.not_mem_nil m).elim,.nil⟩,fun f m=>(List.not_mem_nil m).elim⟩ (by simp;omega);refine ⟨t',l,?_,b,h,o⟩
 unfold Cq;refine Z4 (k:=?_)
 refine Q4 I ?_;have:(c.toNat:Int)=c:=by omega
 rw [this] at a;exact a
theorem Q9Y(F:Nat)(l:List Int):∃ t,CB F l=some t/\TOk t:=by
 unfold CB;have h:Qd ((l.length:Nat):Int) 400=((min l.length 400:Nat):Int):=by unfold Qd;split <;> omega
 rw [h];refine ⟨⟨l.take (min l.length 400),0⟩,?_,by simp only;omega,by simp;omega⟩
 refine Z4 (k:=?_);simp
theorem CS{R:Type}{body:(Int->Option R)->Int->Option R}{y:Option R}(N:Nat)(step:∀ again (i:Nat),i<N->again ((i:Int)+1)=y->body again (i:Int)=y)(stop:∀ again,body again (N:Int)=y){F:Nat}(hF:N<F):Z7 body F 0=y:=by
 refine J4 (fun z:Int=>∃ i:Nat,z=i/\i<=N) (fun z=>N-z.toNat) (fun again z b a=>?_) ⟨0,rfl,Nat.zero_le _⟩ (by simp;omega);obtain ⟨i,rfl,c⟩:=b
 rcases Nat.lt_or_ge i N with h|h
 .exact step again i h (a _ ⟨i+1,by omega,h⟩ (by omega))
 .have:i=N:=by omega
  subst this;exact stop again
theorem Runs.len{α:Type}{l:List (Rn α)}(h:Runs l){n:Int}:∀ {a:Int},a<=n->(∀ r ∈ l,a<=r.lo/\r.hi<=n)->(l.length:Int)<=n-a:=by
 induction l with
 | nil=>intro a d _;simp;omega
 | cons r l ih=>
  intro a d b;have f:=b r (by simp)
  have e:=h.pos r (by simp);have:=ih h.tail (a:=r.hi) (by omega) fun q c=>⟨(h.head q c).1,(b q (by simp [c])).2⟩
  rw [List.length_cons];omega
theorem PB{S:Int->Int->Bool}(h:z8 S):cn S=[]↔∀ x y,S x y=false:=by
 constructor
 .intro e x y
  rw [<-y8 h,e];rfl
 .intro e
  exact PC (l:=[]) ⟨.nil,fun b a=>(List.not_mem_nil a).elim,fun b a=>(List.not_mem_nil a).elim⟩ fun x y=>(e x y).symm
def JU(r s:Rect):Bool:=decide (r.L_<s.R_)&&(decide (s.L_<r.R_)&&(decide (r.w_<s.H_)&&decide (s.w_<r.H_)))
theorem Q7f(F:Nat)(r s:Rect):Sf F r s=some (JU r s):=by
 unfold Sf;rw [YE (JC F),YE (JC F),YE (JC F)]
 rfl
def Gy(a b:List Rect):Bool:=a.any fun r=>b.any fun s=>JU r s
theorem Q0z{r s:Rect}(hr:Qg r=true)(hs:Qg s=true):JU r s=true↔∃ x y,r.has x y=true/\s.has x y=true:=by
 rw [ZW] at hr hs;simp only [Qh]
 constructor
 .intro h
  simp only [JU,Bool.and_eq_true,decide_eq_true_eq] at h;refine ⟨max r.L_ s.L_,max r.w_ s.w_,?_⟩
  omega
 .rintro ⟨x,y,h⟩
  simp only [JU,Bool.and_eq_true,decide_eq_true_eq];omega
theorem QA(l:List Rect)(x y:Int):Q2 l x y=true↔∃ r ∈ l,r.has x y=true:=by unfold Q2;rw [List.any_eq_true]
theorem TJ{a b:List Rect}(ha:∀ r ∈ a,Qg r=true)(hb:∀ r ∈ b,Qg r=true):Gy a b=true↔∃ x y,Q2 a x y=true/\Q2 b x y=true:=by
 simp only [Gy,List.any_eq_true,QA];constructor
 .rintro ⟨r,c,s,d,h⟩
  obtain ⟨x,y,f,e⟩:=(Q0z (ha r c) (hb s d)).1 h;exact ⟨x,y,⟨r,c,f⟩,⟨s,d,e⟩⟩
 .rintro ⟨x,y,⟨r,c,f⟩,⟨s,d,e⟩⟩
  exact ⟨r,c,s,d,(Q0z (ha r c) (hb s d)).2 ⟨x,y,f,e⟩⟩
theorem Q8M{a b:List Rect}:Gy a b=Gy b a:=by
 rw [Bool.eq_iff_iff];simp only [Gy,List.any_eq_true,JU,Bool.and_eq_true,decide_eq_true_eq]
 constructor <;> (rintro ⟨r,d,s,e,h,c,f,g⟩;exact ⟨s,e,r,d,c,h,g,f⟩)
noncomputable def QV(a b:Re_):Bool:=G9 a.t_&&(G9 b.t_&&Gy a.t_ b.t_)
theorem Q8Z(a b:Re_):QV a b=QV b a:=by
 unfold QV;rw [Q8M]
 cases G9 a.t_ <;> cases G9 b.t_ <;> rfl
theorem qO{F:Nat}(hF:Q8<=F)(a b:Re_):BP F a b=some (QV a b):=by
 unfold BP QV;refine Q4 (Uk hF a) ?_
 refine Q6 (fun h=>?_) (fun h=>by rw [h];rfl);refine Q4 (Uk hF b) ?_
 refine Q6 (fun c=>?_) (fun c=>by rw [h,c];rfl);have e:=((Yc _).1 h).1
 have d:=((Yc _).1 c).1;refine Q4 (qe hF (fun r=>b.t_.any fun s=>JU r s) (by omega) fun r _=>?_) ?_
 .unfold qQ
  refine Q4 (qe hF (fun s=>JU r s) (by omega) fun s _=>?_) rfl;unfold qP
  rw [Q7f];rfl
 .rw [h,c];rfl
theorem zS{F:Nat}(hF:Q8<=F)(a b:Re_):DW F a b=some (QV a b):=by
 unfold DW QV;refine Q4 (Wv hF a) ?_
 refine Q6 (fun h=>?_) (fun h=>by rw [h];rfl);refine Q4 (Wv hF b) ?_
 refine Q6 (fun f=>?_) (fun f=>by rw [h,f];rfl);have i:=(Yc _).1 h
 have c:=(Yc _).1 f;have l:=i.1
 have m:=c.1;refine Q4 (Gt hF (by omega)) ?_
 unfold DV;rw [h,f]
 show some _=some (Gy a.t_ b.t_);congr 1
 rw [Bool.eq_iff_iff,decide_eq_true_iff,TJ i.2.1 c.2.1];have j:=PB (Ve a.t_ b.t_ 2)
 have e:∀ x y,K2 (Q2 a.t_ x y) (Q2 b.t_ x y) 2=true↔Q2 a.t_ x y=true/\Q2 b.t_ x y=true:=fun x y=>by simp [K2]
 constructor
 .intro d
  refine Classical.byContradiction fun k=>?_
  have:cn (fun x y=>K2 (Q2 a.t_ x y) (Q2 b.t_ x y) 2)=[]:=j.2 fun x y=>by
   rw [<-Bool.not_eq_true,e];exact fun g=>k ⟨x,y,g⟩
  rw [this] at d;simp at d
 .rintro ⟨x,y,g⟩
  rcases Nat.eq_zero_or_pos (cn fun x y=>K2 (Q2 a.t_ x y) (Q2 b.t_ x y) 2).length with d|d
  .have:=j.1 (List.eq_nil_of_length_eq_zero d) x y
   rw [(e x y).2 g] at this;cases this
  .omega
theorem qS(F:Nat)(l:List Rect):KX F l=some (if 120<l.length then (⟨[]⟩,1) else (⟨l⟩,0)):=by
 unfold KX;refine Q6 (fun h=>?_) (fun h=>?_)
 .have h:120<l.length:=by simp at h;omega
  rw [if_pos h]
 .have h:¬ 120<l.length:=by simp at h;omega
  rw [if_neg h]
theorem JE{F:Nat}(hF:Q8<=F){l:List Rect}(hl:l.length<=32768)(hpos:∀ r ∈ l,r.L_<r.R_):UK F l=some (if 120<(cn (Q2 l)).length then (⟨[]⟩,1) else (⟨cn (Q2 l)⟩,0)):=by
 unfold UK;refine Q4 (jM hF hl hpos) ?_
 exact Q4 (qS F _) rfl
def W8(L:List A2_)(d:Int)(p:Int->Bool):List Rect:=(L.filter fun f=>WW f d&&p f.k_).flatMap fun f=>f.g_.t_
theorem XV(f:A2_)(L:List A2_)(d:Int)(p:Int->Bool):W8 (f::L) d p=(if (WW f d&&p f.k_)=true then f.g_.t_ else [])++W8 L d p:=by
 unfold W8;rw [List.filter_cons]
 split
 .rw [List.flatMap_cons]
 .rfl
theorem yp{L:List A2_}{d:Int}{p:Int->Bool}{r:Rect}(h:r ∈ W8 L d p):∃ f ∈ L,r ∈ f.g_.t_:=by
 obtain ⟨f,a,b⟩:=List.mem_flatMap.1 h;exact ⟨f,(List.mem_filter.1 a).1,b⟩
theorem Q8t{L:List A2_}(h:∀ f ∈ L,f.g_.t_.length<=120)(d:Int)(p:Int->Bool):(W8 L d p).length<=120*L.length:=by
 induction L with
 | nil=>simp [W8]
 | cons f L ih=>
  have c:=ih fun g a=>h g (by simp [a])
  have b:=h f (by simp);rw [XV,List.length_append,List.length_cons]
  split
  .omega
  .simp;omega
theorem vG{F:Nat}(hF:Q8<=F){L:List A2_}(hl:L.length<=10000)(hr:∀ f ∈ L,f.g_.t_.length<=120)(d:Int){q:Int->Option Bool}(p:Int->Bool)(hq:∀ f ∈ L,q f.k_=some (p f.k_)):
  HO F L d q=some (W8 L d p):=by
 unfold Q8 at hF;unfold HO
 refine Gw (l:=L) (I:=fun l s=>s.length+120*l.length<=2000000/\∀ f ∈ l,f.g_.t_.length<=120) (fun l s=>some (s++W8 l d p)) (fun a i s m g n=>?_) (fun a s _=>?_) (by omega) ⟨by simp;omega,hr⟩
 .obtain ⟨g,c⟩:=g
  have r:=c _ (List.mem_cons_self ..);rw [List.length_cons] at g
  have j:∀ b:Bool,b=(WW (gl L i) d&&p (gl L i).k_)->HN F L i s a b=some (s++W8 (gl L i::L.drop (i+1)) d p):=by
   intro b o;unfold HN
   rw [XV];refine Q6 (fun h=>?_) (fun h=>?_)
   .rw [<-o,if_pos h]
    simp only [Int.toNat_natCast];refine Q7 (by unfold Y5;omega) ?_
    unfold HM;refine Z4 (k:=?_)
    rw [n _ ⟨by rw [List.length_append];omega,fun f e=>c f (List.mem_cons_of_mem _ e)⟩,List.append_assoc]
   .rw [<-o,if_neg (by simp [h])]
    unfold HM;refine Z4 (k:=?_)
    rw [n _ ⟨by omega,fun f e=>c f (List.mem_cons_of_mem _ e)⟩];rfl
  unfold Fe;refine Z9 (Vy m) ?_
  refine Z4 (k:=?_);simp only [Int.toNat_natCast]
  refine Q4 (Q1V F _ d) ?_;refine Q6 (fun h=>?_) (fun h=>?_)
  .refine Q4 (hq _ (V4 m)) ?_
   exact j _ (by rw [h];rfl)
  .exact j _ (by rw [h];rfl)
 .show Fe F L d q a (L.length:Int) s=_
  unfold Fe vH;refine Z3 (Um _) ?_
  simp [W8]
theorem Q6r{F:Nat}(hF:Q8<=F){a b:List Span}(ha:a.length<=1000000)(hb:b.length<=1000000):qg F [a,b]=some (a++b):=by
 unfold Q8 at hF;obtain ⟨m,rfl⟩:∃ m,F=m+3:=⟨F-3,by omega⟩
 have d:gl [a,b] (0:Int).toNat=a:=rfl;have c:gl [a,b] (1:Int).toNat=b:=rfl
 have k1:RA (m+3) [a,b] (((a.length:Nat):Int)+((b.length:Nat):Int))=some (a++b):=by
  unfold RA;refine Q4 (a:=[]) (by unfold Ka;rw [if_pos (by unfold Y5;omega)]) ?_
  show KK (m+3) [a,b] _ 0 []=_;unfold KK
  refine Z9 rfl ?_;rw [d]
  refine Z4 (k:=?_);refine Q7 (by simp [Y5];omega) ?_
  refine Z4 (k:=?_);show KK (m+3) [a,b] _ 1 ([]++a)=_
  unfold KK;refine Z9 rfl ?_
  rw [c];refine Z4 (k:=?_)
  refine Q7 (by simp [Y5];omega) ?_;refine Z4 (k:=?_)
  show KK (m+3) [a,b] _ 2 (([]++a)++b)=_;unfold KK
  refine Z3 rfl ?_;unfold qf
  simp
 show KL (m+3) [a,b] _ 0 0=_;unfold KL
 refine Z9 rfl ?_;rw [d]
 refine Z4 (k:=?_);refine Z4 (k:=?_)
 refine Z3 (by simp <;> omega) ?_;refine Z4 (k:=?_)
 show KL (m+3) [a,b] _ (0+((a.length:Nat):Int)) 1=_;unfold KL
 refine Z9 rfl ?_;rw [c]
 refine Z4 (k:=?_);refine Z4 (k:=?_)
 refine Z3 (by simp <;> omega) ?_;refine Z4 (k:=?_)
 show KL (m+3) [a,b] _ (0+((a.length:Nat):Int)+((b.length:Nat):Int)) 2=_;unfold KL
 refine Z3 rfl ?_;rw [Int.zero_add]
 exact k1
theorem jK{F:Nat}(hF:Q8<=F){l:List Span}(hl:l.length<=1000000)(x:Int):BI F l x=some (J1 l x):=by
 unfold Q8 at hF;have c:∃ i:Int,LY F l (fun a=>JD F a x)=some i/\(0<=i↔J1 l x=true):=by
  have m:∀ s:Span,JD F s x=some (s.has x):=fun s=>by
   unfold JD;rw [YE (Sk F)];rfl
  have g:∀ (n i:Nat),i<=l.length->l.length-i<n->∃ r:Int,Z7 (fun again (z:Int)=>KH F l (fun a=>JD F a x) again z) n (i:Int)=some r/\(0<=r↔J1 (l.drop i) x=true):=by
   intro n
   induction n with
   | zero=>intro i _ h;omega
   | succ n ih=>
    intro i p q;show ∃ r:Int,KH F l (fun a=>JD F a x) (Z7 (fun again (z:Int)=>KH F l (fun a=>JD F a x) again z) n) (i:Int)=some r/\_
    by_cases h:i<l.length
    .have e:J1 (l.drop i) x=((gl l i).has x||J1 (l.drop (i+1)) x):=xw h fun s=>s.has x
     rw [e]
     by_cases b:(gl l i).has x=true
     .refine ⟨i,?_,by rw [b];simp⟩
      unfold KH;refine Z9 (Vy h) ?_
      refine Z4 (k:=?_);exact Q4 (m _) (Z9 b rfl)
     .have b:(gl l i).has x=false:=by simpa using b
      obtain ⟨r,o,j⟩:=ih (i+1) h (by omega);refine ⟨r,?_,by rw [j,b];simp⟩
      unfold KH;refine Z9 (Vy h) ?_
      refine Z4 (k:=?_);refine Q4 (m _) (Z3 b ?_)
      refine Z4 (k:=?_);exact o
    .have:i=l.length:=by omega
     subst this;refine ⟨-1,?_,by simp [J1]⟩
     unfold KH;exact Z3 (Um _) rfl
  obtain ⟨r,f,d⟩:=g F 0 (Nat.zero_le _) (by omega);exact ⟨r,f,by simpa using d⟩
 obtain ⟨i,f,d⟩:=c;unfold BI qc
 refine Q4 (Q4 f rfl) ?_;congr 1
 rw [Bool.eq_iff_iff, <-d,decide_eq_true_iff]
theorem Q8W{F:Nat}(hF:Q8<=F){a b:List Span}(ha:a.length<=1000000)(hb:b.length<=1000000){es:List Int}{f:Int->Bool}{k:Bool->Bool->Bool}{q:Bool->Bool->Option Bool}(hq:∀ u v,q u v=some (k u v))(hst:Step false es f)(hf:∀ x,f x=k (J1 a x) (J1 b x))(hes:es.length<=8000000):Z7 (fun again (z:Int×List Span)=>BH F a b q es again z.1 z.2) F ((1:Int),([]:List Span))=some (QX f):=by
 have y:=hF;unfold Q8 at hF
 by_cases h0:es.length=0
 .obtain ⟨m,rfl⟩:∃ m,F=m+1:=⟨F-1,by omega⟩
  show BH (m+1) a b q es _ 1 []=_;unfold BH Sg
  refine Z3 (by simp [h0]) ?_;rw [LU (hst.empty h0)]
 .refine J4 (fun z:Int×List Span=>∃ (i:Nat) (e:List Span),z=(((i+1:Nat):Int),e)/\i+1<=es.length/\Bst false f (e.map Span.rn) (gl es i)/\e.length<=i) (fun z=>es.length-z.1.toNat) (fun again z G E=>?_) ⟨0,[],rfl,by omega,hst.start (by omega),by simp⟩ (by simp;omega)
  obtain ⟨i,e,rfl,H,l,j⟩:=G;simp only
  unfold BH;refine Q6 (fun h=>?_) (fun h=>?_)
  .have h:i+1<es.length:=by simp at h;omega
   have B:(((i+1:Nat):Int)-1).toNat=i:=by omega
   have A:((i+1:Nat):Int).toNat=i+1:=by omega
   have n:=hst.asc.at_lt (show i<i+1 by omega) h;refine Z4 (k:=?_)
   refine Z4 (k:=?_);rw [B]
   refine Q4 (jK y ha _) ?_;refine Q4 (jK y hb _) ?_
   refine Q4 (hq _ _) ?_;rw [<-hf]
   have d:∀ c : List Span,Bst false f (c.map Span.rn) (gl es (i+1))->c.length<=i+1->Xt F ((i+1:Nat):Int) again c=some (QX f):=by
    intro c w o;unfold Xt
    refine Z4 (k:=?_);exact E _ ⟨i+1,c,by simp,h,w,o⟩ (by simp;omega)
   cases hfe:f (gl es i) with
   | false=>
    refine Z9 rfl ?_;exact d e (l.skip (by omega) fun t w o=>(hst.gap i h t w o).trans hfe) (by omega)
   | true=>
    refine Z3 rfl ?_;rcases List.eq_nil_or_concat e with rfl|⟨g,s,p⟩
    .refine Z3 rfl ?_
     unfold BG;refine Z3 rfl ?_
     rw [B,A];refine Z4 (k:=?_)
     refine Q7 (by simp [Y5]) ?_;refine d _ ?_ (by simp)
     have:=l.add n (hst.gap i h) (fun a ha=>by simp at ha)
     rw [hfe] at this;exact this
    .rw [List.concat_eq_append] at p
     subst p;have C:(((g ++ [s]).length:Nat):Int)-1=((g.length:Nat):Int):=by simp
     have r:(((g.length:Nat):Int)).toNat=g.length:=by omega
     refine Z9 (by simp <;> omega) ?_;rw [C,r]
     refine Z4 (k:=?_);refine Q7 (by simp <;> omega) ?_
     rw [GH g s rfl];unfold BG
     by_cases hs:s.R_=gl es i
     .refine Z9 (by simp [hs]) ?_
      rw [C,r,A];refine Z4 (k:=?_)
      refine Z4 (k:=?_);refine Q7 (by simp <;> omega) ?_
      rw [GH g s rfl,RH g s _ rfl];refine d _ ?_ (by simp at j ⊢;omega)
      rw [List.map_append] at l;have:=l.grow (a:=s.rn) hs n fun t w o=>(hst.gap i h t w o).trans hfe
      rw [List.map_append];exact this
     .refine Z3 (by simpa using hs) ?_
      rw [B,A];refine Z4 (k:=?_)
      refine Q7 (by simp [Y5] at j ⊢;omega) ?_;refine d _ ?_ (by simp at j ⊢;omega)
      have:=l.add n (hst.gap i h) (fun a ha D=>by
       rw [List.map_append] at ha;simp at ha
       subst ha;exact absurd D hs)
      rw [hfe] at this;rw [List.map_append];exact this
  .have h:i+1=es.length:=by simp at h;omega
   unfold Sg;congr 1
   refine (KE (.of_runs l.runs) fun x=>?_).symm;rw [Pk];exact hst.done h l x
def GN(l:List Span):List Int:=l.flatMap fun s=>[s.L_,s.R_]
theorem vS(l:List Span):(GN l).length=2*l.length:=by
 induction l with
 | nil=>rfl
 | cons s l ih=>unfold GN at ih ⊢;rw [List.flatMap_cons,List.length_append,ih];simp;omega
theorem Q1n{l:List Span}{c:List Int}(hc:Yl c)(hm:∀ s ∈ l,s.L_ ∈ c/\s.R_ ∈ c){i:Nat}(hi:i+1<c.length){t:Int}(h1:gl c i<=t)(h2:t<gl c (i+1)):J1 l t=J1 l (gl c i):=by
 unfold J1
 induction l with
 | nil=>rfl
 | cons s l ih=>
  rw [List.any_cons,List.any_cons,ih fun q e=>hm q (by simp [e])];congr 1
  obtain ⟨d,b⟩:=hm s (by simp);have a:=hc.gap hi h1 h2 d
  have g:=hc.gap hi h1 h2 b;unfold Span.has
  have d1:decide (s.L_<=t)=decide (s.L_<=gl c i):=by simp only [a]
  have f:decide (t<s.R_)=decide (gl c i<s.R_):=by rw [decide_eq_decide];omega
  rw [d1,f]
theorem Q1o{l:List Span}{t:Int}(h:∀ s ∈ l,¬ (s.L_<=t/\t<s.R_)):J1 l t=false:=by
 unfold J1;rw [List.any_eq_false]
 intro s a;have:=h s a
 simp only [Span.has,Bool.and_eq_true,decide_eq_true_eq];exact this
theorem Q7h{F:Nat}(hF:Q8<=F){a b:List Span}(ha:a.length<=1000000)(hb:b.length<=1000000){k:Bool->Bool->Bool}(hk:k false false=false){q:Bool->Bool->Option Bool}(hq:∀ u v,q u v=some (k u v)):
  Sj F a b q=some (QX fun x=>k (J1 a x) (J1 b x)):=by
 have h:=hF;unfold Q8 at hF
 unfold Sj;refine Q4 (Q6r h ha hb) ?_
 have H:(a++b).length<=2000000:=by rw [List.length_append];omega
 refine Gw (l:=a++b) (I:=fun l s=>s++GN l=GN (a++b)) (fun _ _=>some (QX fun x=>k (J1 a x) (J1 b x))) (fun g i s n o M=>?_) (fun g s o=>?_) (by omega) rfl
 .have p:=vS (a++b)
  have J:s.length+2<=(GN (a++b)).length:=by
   rw [<-o,List.length_append,vS];simp;omega
  unfold Sh;refine Z9 (Vy n) ?_
  refine Z4 (k:=?_);simp only [Int.toNat_natCast]
  refine Q7 (by simp [Y5];omega) ?_;refine Z4 (k:=?_)
  refine M _ ?_;rw [<-o,List.append_assoc];rfl
 .have y:s=GN (a++b):=by rw [<-o];simp [GN]
  show Sh F a b q (a++b) g (((a++b).length:Nat):Int) s=_;unfold Sh
  refine Z3 (Um _) ?_;unfold qF
  have p:=vS (a++b);obtain ⟨r,E,A,C,w⟩:=Q5m (l:=s) (by rw [y];unfold Y5;omega)
  refine Q4 E ?_;have K:r.length<=4000000:=by rw [w,y];omega
  refine Q4 (gY h (by unfold Y5;omega)) ?_;have L:=vT r
  have d:=vU r A;have c:∀ l,l=a\/l=b->∀ s ∈ l,s.L_ ∈ dd r/\s.R_ ∈ dd r:=by
   intro l m q B;have:q ∈ a++b:=by rcases m with rfl|rfl <;> simp [B]
   have j:∀ v,v ∈ [q.L_,q.R_]->v ∈ dd r:=fun v G=>(TP r v).2 ((C v).2 (by rw [y];exact List.mem_flatMap.2 ⟨q,this,G⟩))
   exact ⟨j _ (by simp),j _ (by simp)⟩
  refine Q8W h ha hb hq (f:=fun x=>k (J1 a x) (J1 b x)) ⟨d,fun i n t D j=>?_,fun t z=>?_,fun t z=>?_⟩ (fun _=>rfl) (by omega)
  .simp only [Q1n d (c a (.inl rfl)) n D j,Q1n d (c b (.inr rfl)) n D j]
  .have e:∀ l,l=a\/l=b->J1 l t=false:=fun l m=>Q1o fun q hq=>by have:=z _ (c l m q hq).1;omega
   simp only [e a (.inl rfl),e b (.inr rfl),hk]
  .have e:∀ l,l=a\/l=b->J1 l t=false:=fun l m=>Q1o fun q hq=>by have:=z _ (c l m q hq).2;omega
   simp only [e a (.inl rfl),e b (.inr rfl),hk]
theorem Xw{F:Nat}(hF:Q8<=F){a b:List Rect}(hl:a.length+b.length<=16000)(ha:∀ r ∈ a,r.L_<r.R_)(hb:∀ r ∈ b,r.L_<r.R_){k:Bool->Bool->Bool}(hk:k false false=false){q:Bool->Bool->Option Bool}(hq:∀ u v,q u v=some (k u v)):
  Yd F a b q=some (cn fun x y=>k (Q2 a x y) (Q2 b x y)):=by
 unfold Yd;have d:Grid (Zb b (Zb a [])) (Ub [a,b]) fun x y=>k (Q2 a x y) (Q2 b x y):=
  Grid.of (Uc b (Uc a .nil)) (Q2B _) (fun r c=>⟨(ZI b _ _).2 (.inl ((ZI a _ _).2 (.inr ⟨r,c,.inl rfl⟩))),(ZI b _ _).2 (.inl ((ZI a _ _).2 (.inr ⟨r,c,.inr rfl⟩)))⟩)
   (fun r c=>⟨(ZI b _ _).2 (.inr ⟨r,c,.inl rfl⟩),(ZI b _ _).2 (.inr ⟨r,c,.inr rfl⟩)⟩) (xb _ (by simp)) (xb _ (by simp)) hk
 have e:=TL a (ls:=[a,b]) (by simp);have f:=TL b (ls:=[a,b]) (by simp)
 have h:tot [a,b]=a.length+b.length:=by simp [tot]
 have g:=vV [a,b];have n:=vX (a:=a) (b:=b)
 refine Q4 (jT hF (by omega) (by simp)) ?_;refine Q4 (jV hF d.rows d.step (by omega) (fun y=>?_) (fun y=>?_)) rfl
 .unfold qX
  have o:=(e.x y).spn_len;have i:=(f.x y).spn_len
  have j:=Mb (l:=a);have m:=Mb (l:=b)
  refine Q4 (qK hF (by omega) ha y) ?_;refine Q4 (qK hF (by omega) hb y) ?_
  refine Q4 (Q7h hF (by omega) (by omega) hk hq) ?_;congr 2
  funext x
  rw [(e.rows.sp y).2 x,(f.rows.sp y).2 x]
 .have:=(d.x y).spn_len
  omega
def Sm(r:Rect):Prop:= -1000000<=r.L_/\r.L_<=1000000 /\ -1000000<=r.w_/\r.w_<=1000000 /\ -1000000<=r.R_/\r.R_<=1000000 /\ -1000000<=r.H_/\r.H_<=1000000
theorem Ri{r:Rect}(h:Qg r=true):Sm r:=by
 rw [ZW] at h;unfold Sm;omega
def YL(a b:Rect):Int:=J3 0 (Qd a.H_ b.H_-J3 a.w_ b.w_)
def Yg(a b:Rect):Int:=J3 0 (Qd a.R_ b.R_-J3 a.L_ b.L_)
def Ws(a b:Rect):Bool:=a.R_==b.L_||b.R_==a.L_
def Wr(a b:Rect):Bool:=a.H_==b.w_||b.H_==a.w_
def Kj(a b:Rect):Int:=(if Ws a b=true then YL a b else 0)+(if Wr a b=true then Yg a b else 0)
theorem Q0V{a b:Rect}(ha:Sm a)(hb:Sm b):0<=YL a b/\YL a b<=2000000 /\ -2000000<=Qd a.H_ b.H_-J3 a.w_ b.w_/\Qd a.H_ b.H_-J3 a.w_ b.w_<=2000000:=by
 unfold Sm at ha hb;unfold YL J3 Qd
 repeat' split
 all_goals omega
theorem Q0W{a b:Rect}(ha:Sm a)(hb:Sm b):0<=Yg a b/\Yg a b<=2000000 /\ -2000000<=Qd a.R_ b.R_-J3 a.L_ b.L_/\Qd a.R_ b.R_-J3 a.L_ b.L_<=2000000:=by
 unfold Sm at ha hb;unfold Yg J3 Qd
 repeat' split
 all_goals omega
theorem Q2H{F:Nat}{a b:Rect}(ha:Sm a)(hb:Sm b){v:Int}(h1:0<=v)(h2:v<=2000000)(c:Bool):BA F a b v c=some (v+if c=true then Yg a b else 0):=by
 obtain ⟨d,f,e,g⟩:=Q0W ha hb;unfold BA
 cases c with
 | true=>
  refine Z9 rfl ?_;refine Q7 (W2 (by omega) (by omega)) ?_
  show gd (Q9 (v+Yg a b)) _=_;refine Q7 (W2 (by omega) (by omega)) ?_
  rfl
 | false=>
  refine Z3 rfl ?_;show some v=some (v+0)
  rw [Int.add_zero]
theorem Q2I{F:Nat}{a b:Rect}(ha:Sm a)(hb:Sm b){v:Int}(h1:0<=v)(h2:v<=2000000):Xo F a b v=some (v+if Wr a b=true then Yg a b else 0):=by
 unfold Xo;rw [Q2H ha hb h1 h2,Q2H ha hb h1 h2]
 unfold Wr
 cases a.H_==b.w_ <;> rfl
theorem Q2J{F:Nat}{a b:Rect}(ha:Sm a)(hb:Sm b)(c:Bool):BB F a b c=some ((if c=true then YL a b else 0)+if Wr a b=true then Yg a b else 0):=by
 obtain ⟨d,f,e,g⟩:=Q0V ha hb;unfold BB
 cases c with
 | true=>
  refine Z9 rfl ?_;refine Q7 (W2 (by omega) (by omega)) ?_
  show gd (Q9 (0+YL a b)) _=_;refine Q7 (W2 (by omega) (by omega)) ?_
  show Xo F a b (0+YL a b)=_;rw [Q2I ha hb (by omega) (by omega)]
  simp
 | false=>
  refine Z3 rfl ?_;rw [Q2I ha hb (by omega) (by omega)]
  rfl
theorem Q6v(F:Nat){a b:Rect}(ha:Sm a)(hb:Sm b):RE F a b=some (Kj a b):=by
 unfold RE;rw [Q2J ha hb,Q2J ha hb]
 unfold Kj Ws
 cases a.R_==b.L_ <;> rfl
def Qm(a b:Rect):Bool:=decide (0<Kj a b)
theorem jm{F:Nat}{q:List Rect}{r:Rect}{i:Nat}(hi:i<q.length)(hl:q.length<=1000000)(hq:∀ s ∈ q,Sm s)(hr:Sm r):
  BC F r q i=some (if Qm (gl q i) r=true then q++[r] else q,Qm (gl q i) r):=by
 unfold BC;refine Q7 (by omega) ?_
 simp only [Int.toNat_natCast];refine Q4 (Q6v F (hq _ (V4 hi)) hr) ?_
 show RF F r q (Qm (gl q i) r)=_;unfold RF
 cases Qm (gl q i) r with
 | true=>
  refine Z9 rfl ?_;refine Q7 (by simp [Y5];omega) rfl
 | false=>exact Z3 rfl rfl
theorem Z0h{F:Nat}(hF:Q8<=F){l q:List Rect}{k:Nat}(hk:k<q.length)(hl:l.length<=900000)(hql:q.length<=900000)(hq:∀ s ∈ q,Sm s)(hr:∀ r ∈ l,Sm r):
  Rm F l q k=some (l,if l.any (Qm (gl q k))=true then q++[gl l (l.findIdx (Qm (gl q k)))] else q,y9 (Qm (gl q k)) l):=by
 unfold Q8 at hF;unfold Rm
 refine J4 (fun z:Int×List Rect=>∃ i:Nat,z=((i:Int),q)/\i<=l.length/\∀ j,j<i->Qm (gl q k) (gl l j)=false) (fun z=>l.length-z.1.toNat) (fun d z m e=>?_) ⟨0,rfl,by omega,fun j g=>by omega⟩ (by simp;omega);obtain ⟨i,rfl,n,c⟩:=m
 simp only at e ⊢;unfold gB
 refine Q6 (fun h=>?_) (fun h=>?_)
 .have h:i<l.length:=by simpa using h
  refine Z4 (k:=?_);simp only [Int.toNat_natCast]
  refine Q4 (jm hk (by omega) hq (hr _ (V4 h))) ?_;simp only
  refine Q6 (fun a=>?_) (fun a=>?_)
  .have b:l.any (Qm (gl q k))=true:=List.any_eq_true.2 ⟨_,V4 h,a⟩
   rw [if_pos a,y9,if_pos b,if_pos b,Ps h c a]
  .rw [a,if_neg (by simp)]
   refine Z4 (k:=?_);refine e _ ⟨i+1,rfl,h,fun j g=>?_⟩ (by simp only;omega)
   rcases Nat.lt_or_ge j i with f|f
   .exact c j f
   .have:j=i:=by omega
    subst this;exact a
 .have h:¬ i<l.length:=by simpa using h
  have:i=l.length:=by omega
  subst this;have b:=GU c
  rw [y9,b];rfl
theorem Z1P{F:Nat}(hF:Q8<=F){l q:List Rect}{k:Nat}(hk:k<q.length)(hl:l.length+q.length<=900000)(hq:∀ s ∈ q,Sm s)(hr:∀ r ∈ l,Sm r):
  Ru F l q k=some (q++l.filter (Qm (gl q k)),l.filter fun r=> !Qm (gl q k) r):=by
 have D:=hF;unfold Q8 at hF
 unfold Ru;refine Q4 (Z0h D hk (by omega) (by omega) hq hr) ?_
 generalize a:Qm (gl q k)=p;simp only
 by_cases f:l.any p=true
 .obtain ⟨x,d,K⟩:=List.any_eq_true.1 f
  have c:l.findIdx p<l.length:=List.findIdx_lt_length_of_exists ⟨x,d,K⟩;have v:p (gl l (l.findIdx p))=true:=by rw [K5 c];exact List.findIdx_getElem (w:=c)
  have y:∀ j,j<l.findIdx p->p (gl l j)=false:=by
   intro j t;rw [K5 (by omega)]
   simpa using List.not_of_lt_findIdx t
  rw [y9,if_pos f,if_pos f];refine Z3 (by simp) ?_
  refine Z4 (k:=?_);generalize l.findIdx p=i0 at *
  have G:(l.take i0).filter (fun r=> !p r)=l.take i0:=by
   rw [List.filter_eq_self];intro x d
   obtain ⟨j,t,rfl⟩:=List.getElem_of_mem d;have g : j<i0:=by simp at t;omega
   have:=y j g
   rw [K5 (by omega)] at this;simp [this]
  have C:(l.take i0).filter p=[]:=by
   rw [List.filter_eq_nil_iff];intro x d
   obtain ⟨j,t,rfl⟩:=List.getElem_of_mem d;have g : j<i0:=by simp at t;omega
   have:=y j g
   rw [K5 (by omega)] at this;simp [this]
  have Q:(l.take (i0+1)).filter (fun r=> !p r)=l.take i0:=by
   rw [QD c,List.filter_append,G];simp [v]
  have H:(l.take (i0+1)).filter p=[gl l i0]:=by
   rw [QD c,List.filter_append,C];simp [v]
  refine J4 (fun z:Int×Int×List Rect×List Rect=>∃ (i j:Nat) (b:List Rect),z=((i:Int),(j:Int),b,q++(l.take j).filter p)/\i<j/\j<=l.length/\b.length=l.length/\(∀ m,j<=m->gl b m=gl l m)/\b.take i=(l.take j).filter fun r=> !p r)
   (fun z=>l.length-z.2.1.toNat) (fun J z M I=>?_) ⟨i0,i0+1,l,by rw [H];rfl,by omega,by omega,rfl,fun _ _=>rfl,Q.symm⟩ (by simp only;omega)
  obtain ⟨i,j,b,rfl,P,t,e,n,o⟩:=M;simp only at I ⊢
  unfold gQ;rw [e]
  have O:((l.take j).filter p).length<=j:=by
   have:=List.length_filter_le p (l.take j)
   simp at this;omega
  have E:gl (q++(l.take j).filter p) k=gl q k:=by simp [gl,List.getD_eq_getElem?_getD,List.getElem?_append,hk]
  refine Q6 (fun h=>?_) (fun h=>?_)
  .have h:j<l.length:=by simpa using h
   refine Z4 (k:=?_);simp only [Int.toNat_natCast]
   rw [n j (Nat.le_refl _)];refine Q4 (jm (by simp;omega) (by simp;omega) (fun s u=>?_) (hr _ (V4 h))) ?_
   .rcases List.mem_append.1 u with u|u
    .exact hq s u
    .exact hr s (List.mem_of_mem_take (List.mem_filter.1 u).1)
   rw [E,a];have A:(l.take (j+1)).filter (fun r=> !p r)=(l.take j).filter (fun r=> !p r)++(if p (gl l j)=true then [] else [gl l j]):=by
    rw [QD h,List.filter_append]
    by_cases a:p (gl l j)=true
    .rw [if_pos a];simp [a]
    .rw [if_neg a];simp [a]
   have B:(l.take (j+1)).filter p=(l.take j).filter p++(if p (gl l j)=true then [gl l j] else []):=by
    rw [QD h,List.filter_append]
    by_cases a:p (gl l j)=true
    .rw [if_pos a];simp [a]
    .rw [if_neg a];simp [a]
   simp only
   refine Q6 (fun a=>?_) (fun a=>?_)
   .have a:p (gl l j)=false:=by simpa using a
    refine Z4 (k:=?_);refine Z4 (k:=?_)
    unfold Bt;refine Z4 (k:=?_)
    rw [a,if_neg (by simp)];refine I _ ⟨i+1,j+1,b.set i (gl l j),?_,by omega,by omega,by simp [e],fun m N=>?_,?_⟩ (by simp only;omega)
    .rw [B,a,if_neg (by simp),List.append_nil];rfl
    .rw [Po _ _ _ _ (by omega),if_neg (by omega)];exact n m (by omega)
    .rw [A,if_neg (by rw [a];simp), <-o,QD (by simp;omega),LG _ _ _ _ (Nat.le_refl _),Po _ _ _ _ (by omega),if_pos rfl]
   .have a:p (gl l j)=true:=by simpa using a
    unfold Bt;refine Z4 (k:=?_)
    rw [a,if_pos rfl];refine I _ ⟨i,j+1,b,?_,by omega,by omega,e,fun m N=>n m (by omega),?_⟩ (by simp only;omega)
    .rw [B,a,if_pos rfl, <-List.append_assoc];rfl
    .rw [A,if_pos a,List.append_nil,o]
  .have h:¬ j<l.length:=by simpa using h
   have L:j=l.length:=by omega
   unfold qa;simp only [Int.toNat_natCast,xi,e]
   refine Z4 (k:=?_);refine Z4 (k:=?_)
   rw [LH _ _ _ (by omega),o,List.take_of_length_le (by omega)]
 .have f:l.any p=false:=by simpa using f
  rw [y9,f];refine Z9 rfl ?_
  have G:l.filter p=[]:=by
   rw [List.filter_eq_nil_iff];intro x d
   have:=List.any_eq_false.1 f x d
   simpa using this
  have C:l.filter (fun r=> !p r)=l:=by
   rw [List.filter_eq_self];intro x d
   have:=List.any_eq_false.1 f x d
   simpa using this
  rw [G,C];simp
def jn:Nat->List Rect->Nat->List Rect->List Rect×List Rect
 | 0,q,_,rest=>(q,rest)
 | n+1,q,k,rest=>if k<q.length then jn n (q++rest.filter (Qm (gl q k))) (k+1) (rest.filter fun r=> !Qm (gl q k) r) else (q,rest)
def YM:List Rect->List Rect×List Rect
 | []=>([],[])
 | a::l=>jn (l.length+2) [a] 0 l
theorem Q1T{α:Type}(p:α->Bool)(l:List α):(l.filter p).length+(l.filter fun r=> !p r).length=l.length:=by
 induction l with
 | nil=>rfl
 | cons a l ih=>by_cases h:p a=true <;> simp [h] <;> omega
theorem Z3S{F:Nat}{l:List Rect}(h:l.length<=Y5):RD F l=some l:=by
 unfold RD
 cases h:l with
 | nil=>
  show Pq _ _=_;unfold Pq
  exact @Q7 _ _ (Classical.propDecidable _) _ _ rfl rfl
 | cons a l' =>
  have:(a::l').length=l'.length+1:=rfl
  show (gd _ _)=_;rw [<-h]
  refine Z4 (k:=?_);simp
theorem jj{F:Nat}(hF:Q8<=F){l:List Rect}(hne:l≠[])(hl:l.length<=400000)(hs:∀ r ∈ l,Sm r):RG F l=some (YM l):=by
 have g:=hF;unfold Q8 at hF
 cases l with
 | nil=>exact absurd rfl hne
 | cons a l=>
  simp only [List.length_cons] at hl;unfold RG
  refine Q7 (by simp only [List.length_cons];omega) ?_;refine Q7 (by simp only [List.length_cons];omega) ?_
  have m:(1:Int).toNat=1:=rfl;rw [m]
  refine Q4 (Z3S (by simp [Y5];omega)) ?_;simp only [List.drop_succ_cons,List.drop_zero,List.take_succ_cons,List.take_zero]
  refine J4 (fun z:List Rect×Int×List Rect=>∃ (n k:Nat) (q b:List Rect),z=(b,(k:Int),q)/\k<=q.length/\q.length+b.length=l.length+1/\(∀ r ∈ q++b,Sm r)/\l.length+2<=n+k/\jn n q k b=YM (a::l))
   (fun z=>l.length+2-z.2.1.toNat) (fun f z o i=>?_) ⟨l.length+2,0,[a],l,rfl,by simp,by simp;omega,fun r c=>hs r (by simpa using c),by omega,rfl⟩ (by simp;omega)
  obtain ⟨n,k,q,b,rfl,t,j,d,u,e⟩:=o;simp only at i ⊢
  unfold jk qr
  cases n with
  | zero=>omega
  | succ n=>
  rw [jn] at e;refine Q6 (fun h=>?_) (fun h=>?_)
  .have h:k<q.length:=by simpa using h
   rw [if_pos h] at e;refine Q4 (Z1P g h (by omega) (fun s hs=>d s (by simp [hs])) (fun s hs=>d s (by simp [hs]))) ?_
   refine Z4 (k:=?_);have p:=Q1T (Qm (gl q k)) b
   refine i _ ⟨n,k+1,_,_,rfl,by simp;omega,by simp;omega,fun r c=>d r ?_,by omega,e⟩ (by simp only;omega);simp only [List.mem_append,List.mem_filter] at c ⊢
   rcases c with (c|c) | c
   .exact .inl c
   .exact .inr c.1
   .exact .inr c.1
  .have h:¬ k<q.length:=by simpa using h
   rw [if_neg h] at e;unfold qp
   rw [e]
def Jh(x y x' y' : Int):Prop:=(x=x' /\ (y'=y+1\/y=y' + 1))\/(y=y' /\ (x'=x+1\/x=x' + 1))
def Q3O(S:Int->Int->Bool):Prop:=∀ P:Int->Int->Prop,(∃ x y,S x y=true/\P x y)->(∀ x y x' y',S x y=true->S x' y'=true->Jh x y x' y' -> P x y->P x' y')->∀ x y,S x y=true->P x y
theorem Q0Q{Q:Int->Prop}{a b:Int}(hs:∀ t,a<=t->t+1<b->(Q t↔Q (t+1))){t0:Int}(h1:a<=t0)(h2:t0<b)(hq:Q t0):∀ t,a<=t->t<b->Q t:=by
 have d:∀ (n:Nat),t0+n<b->Q (t0+n):=by
  intro n
  induction n with
  | zero=>intro _;simpa using hq
  | succ n ih=>
   intro h;have e:t0+((n+1:Nat):Int)=t0+n+1:=by omega
   rw [e];exact (hs (t0+n) (by omega) (by omega)).1 (ih (by omega))
 have c:∀ (n:Nat),a<=t0-n->Q (t0-n):=by
  intro n
  induction n with
  | zero=>intro _;simpa using hq
  | succ n ih=>
   intro h;have:=ih (by omega)
   have e:t0-(n:Int)=t0-((n+1:Nat):Int)+1:=by omega
   rw [e] at this;exact (hs _ h (by omega)).2 this
 intro t f g;rcases Int.le_total t0 t with h|h
 .have e:t=t0+((t-t0).toNat:Int):=by omega
  rw [e];exact d _ (by omega)
 .have e:t=t0-((t0-t).toNat:Int):=by omega
  rw [e];exact c _ (by omega)
theorem TC{S:Int->Int->Bool}{P:Int->Int->Prop}(hc:∀ x y x' y',S x y=true->S x' y'=true->Jh x y x' y' -> P x y->P x' y'){r:Rect}(hr:∀ x y,r.has x y=true->S x y=true){x0 y0:Int}(h0:r.has x0 y0=true)(hp:P x0 y0):
  ∀ x y,r.has x y=true->P x y:=by
 have e:∀ x y,r.L_<=x->x<r.R_->r.w_<=y->y<r.H_->S x y=true:=fun x y a b c d=>hr x y ((Qh r x y).2 ⟨a,b,c,d⟩)
 rw [Qh] at h0;have f:=Q0Q (Q:=fun x=>P x y0) (a:=r.L_) (b:=r.R_) (fun t a b=>⟨hc t y0 (t+1) y0 (e _ _ (by omega) (by omega) (by omega) (by omega)) (e _ _ (by omega) (by omega) (by omega) (by omega)) (.inr ⟨rfl,.inl rfl⟩),
  hc (t+1) y0 t y0 (e _ _ (by omega) (by omega) (by omega) (by omega)) (e _ _ (by omega) (by omega) (by omega) (by omega)) (.inr ⟨rfl,.inr rfl⟩)⟩) h0.1 h0.2.1 hp
 intro x y h;rw [Qh] at h
 have:=Q0Q (Q:=fun y=>P x y) (a:=r.w_) (b:=r.H_) (fun t a b=>⟨hc x t x (t+1) (e _ _ (by omega) (by omega) (by omega) (by omega)) (e _ _ (by omega) (by omega) (by omega) (by omega)) (.inl ⟨rfl,.inl rfl⟩),
  hc x (t+1) x t (e _ _ (by omega) (by omega) (by omega) (by omega)) (e _ _ (by omega) (by omega) (by omega) (by omega)) (.inl ⟨rfl,.inr rfl⟩)⟩) h0.2.2.1 h0.2.2.2 (f x h.1 h.2.1)
 exact this y h.2.2.1 h.2.2.2
def WH(r:Rect):Prop:=r.L_<r.R_/\r.w_<r.H_
theorem Q0I{r s:Rect}(h:Qm r s=true)(hr:WH r)(hs:WH s):∃ x y x' y',r.has x y=true/\s.has x' y'=true/\Jh x y x' y':=by
 unfold Qm Kj at h;have h:=of_decide_eq_true h
 unfold WH at hr hs;simp only [Qh]
 by_cases c1:Ws r s=true/\0<YL r s
 .obtain ⟨a,b⟩:=c1
  have c:∃ y,r.w_<=y/\y<r.H_/\s.w_<=y/\y<s.H_:=by
   unfold YL J3 Qd at b;refine ⟨if r.w_<s.w_ then s.w_ else r.w_,?_⟩
   split <;> ((repeat' split at b) <;> omega)
  obtain ⟨y,l,f,n,i⟩:=c;unfold Ws at a
  simp only [Bool.or_eq_true,beq_iff_eq] at a;rcases a with a|a
  .exact ⟨r.R_-1,y,s.L_,y,by omega,by omega,.inr ⟨rfl,.inl (by omega)⟩⟩
  .exact ⟨r.L_,y,s.R_-1,y,by omega,by omega,.inr ⟨rfl,.inr (by omega)⟩⟩
 .have d:Wr r s=true/\0<Yg r s:=by
   by_cases b1:Ws r s=true
   .have:¬ 0<YL r s:=fun e=>c1 ⟨b1,e⟩
    rw [if_pos b1] at h
    by_cases b2:Wr r s=true
    .rw [if_pos b2] at h;exact ⟨b2,by omega⟩
    .rw [if_neg b2] at h;omega
   .rw [if_neg b1] at h
    by_cases b2:Wr r s=true
    .rw [if_pos b2] at h;exact ⟨b2,by omega⟩
    .rw [if_neg b2] at h;omega
  obtain ⟨a,b⟩:=d;have c:∃ x,r.L_<=x/\x<r.R_/\s.L_<=x/\x<s.R_:=by
   unfold Yg J3 Qd at b;refine ⟨if r.L_<s.L_ then s.L_ else r.L_,?_⟩
   split <;> ((repeat' split at b) <;> omega)
  obtain ⟨x,j,m,k,g⟩:=c;unfold Wr at a
  simp only [Bool.or_eq_true,beq_iff_eq] at a;rcases a with a|a
  .exact ⟨x,r.H_-1,x,s.w_,by omega,by omega,.inl ⟨rfl,.inl (by omega)⟩⟩
  .exact ⟨x,r.w_,x,s.H_-1,by omega,by omega,.inl ⟨rfl,.inr (by omega)⟩⟩
def Vk(r s:Rect):Prop:=∀ x y,r.has x y=true->s.has x y=true->False
theorem Q9y(r s:Rect):0<=Yg r s/\0<=YL r s:=by
 unfold Yg YL J3;constructor <;> split <;> omega
theorem Q3q{r s:Rect}(hd:Vk r s){x y x' y' : Int}(h1:r.has x y=true)(h2:s.has x' y'=true)(ha:Jh x y x' y'):Qm r s=true:=by
 obtain ⟨l,m⟩:=Q9y r s;rw [Qh] at h1 h2
 have h:∀ u v,r.L_<=u->u<r.R_->r.w_<=v->v<r.H_->s.L_<=u->u<s.R_->s.w_<=v->v<s.H_->False:=fun u v a b c d e f g k=>hd u v ((Qh _ _ _).2 ⟨a,b,c,d⟩) ((Qh _ _ _).2 ⟨e,f,g,k⟩)
 unfold Qm Kj;rw [decide_eq_true_eq]
 rcases ha with ⟨rfl,ha⟩|⟨rfl,ha⟩
 .have j:0<Yg r s:=by
   unfold Yg J3 Qd
   repeat' split
   all_goals omega
  have i:Wr r s=true:=by
   unfold Wr;simp only [Bool.or_eq_true,beq_iff_eq]
   rcases ha with rfl|rfl
   .left
    rcases Int.lt_or_le (y+1) r.H_ with g|g
    .exact (h x (y+1) (by omega) (by omega) (by omega) g (by omega) (by omega) (by omega) (by omega)).elim
    .rcases Int.lt_or_le s.w_ (y+1) with k|k
     .exact (h x y (by omega) (by omega) (by omega) (by omega) (by omega) (by omega) (by omega) (by omega)).elim
     .omega
   .right
    rcases Int.lt_or_le (y' + 1) s.H_ with g|g
    .exact (h x (y' + 1) (by omega) (by omega) (by omega) (by omega) (by omega) (by omega) (by omega) (by omega)).elim
    .rcases Int.lt_or_le r.w_ (y' + 1) with k|k
     .exact (h x y' (by omega) (by omega) (by omega) (by omega) (by omega) (by omega) (by omega) (by omega)).elim
     .omega
  rw [if_pos i];split <;> omega
 .have j:0<YL r s:=by
   unfold YL J3 Qd
   repeat' split
   all_goals omega
  have i:Ws r s=true:=by
   unfold Ws;simp only [Bool.or_eq_true,beq_iff_eq]
   rcases ha with rfl|rfl
   .left
    rcases Int.lt_or_le (x+1) r.R_ with g|g
    .exact (h (x+1) y (by omega) (by omega) (by omega) (by omega) (by omega) (by omega) (by omega) (by omega)).elim
    .rcases Int.lt_or_le s.L_ (x+1) with k|k
     .exact (h x y (by omega) (by omega) (by omega) (by omega) (by omega) (by omega) (by omega) (by omega)).elim
     .omega
   .right
    rcases Int.lt_or_le (x' + 1) s.R_ with g|g
    .exact (h (x' + 1) y (by omega) (by omega) (by omega) (by omega) (by omega) (by omega) (by omega) (by omega)).elim
    .rcases Int.lt_or_le r.L_ (x' + 1) with k|k
     .exact (h x' y (by omega) (by omega) (by omega) (by omega) (by omega) (by omega) (by omega) (by omega)).elim
     .omega
  rw [if_pos i];split <;> omega
theorem yo(r s:Rect):Qm r s=Qm s r:=by
 have e:Ws r s=Ws s r:=by unfold Ws;rw [Bool.or_comm]
 have h:Wr r s=Wr s r:=by unfold Wr;rw [Bool.or_comm]
 have d:∀ a b:Int,Qd a b=Qd b a:=fun a b=>by unfold Qd;split <;> split <;> omega
 have c:∀ a b:Int,J3 a b=J3 b a:=fun a b=>by unfold J3;split <;> split <;> omega
 have g:Yg r s=Yg s r:=by unfold Yg;rw [d r.R_,c r.L_]
 have f:YL r s=YL s r:=by unfold YL;rw [d r.H_,c r.w_]
 unfold Qm Kj;rw [e,h,g,f]
def PX(q:List Rect):Prop:=∀ i,0<i->i<q.length->∃ j,j<i/\Qm (gl q j) (gl q i)=true
theorem PX.conn{q:List Rect}(h:PX q)(hp:∀ r ∈ q,WH r):Q3O (Q2 q):=by
 intro P ⟨x0,y0,h0,p0⟩ hc;have c:∀ i,i<q.length->∀ x y,(gl q i).has x y=true->Q2 q x y=true:=fun i a x y B=>Wy (V4 a) B
 have d:∀ i j,i<q.length->j<q.length->Qm (gl q i) (gl q j)=true->(∀ x y,(gl q i).has x y=true->P x y)->∀ x y,(gl q j).has x y=true->P x y:=by
  intro i j a g m n;obtain ⟨x,y,v,w,t,u,z⟩:=Q0I m (hp _ (V4 a)) (hp _ (V4 g))
  exact TC hc (c j g) u (hc x y v w (c i a x y t) (c j g v w u) z (n x y t))
 obtain ⟨r,o,b⟩:=(QA q x0 y0).1 h0;obtain ⟨s,k,rfl⟩:=List.getElem_of_mem o
 rw [<-K5 k] at b;have l:∀ i,i<q.length->(∀ x y,(gl q i).has x y=true->P x y)->∀ x y,(gl q 0).has x y=true->P x y:=by
  intro i
  induction i using Nat.strongRecOn with
  | _ i ih=>
   intro a n;rcases Nat.eq_zero_or_pos i with e|e
   .subst e;exact n
   .obtain ⟨j,g,m⟩:=h i e a
    exact ih j g (by omega) (d i j a (by omega) (by rw [yo];exact m) n)
 have f:=l s k (TC hc (c s k) b p0);have A:∀ i,i<q.length->∀ x y,(gl q i).has x y=true->P x y:=by
  intro i
  induction i using Nat.strongRecOn with
  | _ i ih=>
   intro a;rcases Nat.eq_zero_or_pos i with e|e
   .subst e;exact f
   .obtain ⟨j,g,m⟩:=h i e a
    exact d j i (by omega) a m (ih j g (by omega))
 intro x y p;obtain ⟨r,o,b⟩:=(QA q x y).1 p
 obtain ⟨i,a,rfl⟩:=List.getElem_of_mem o;rw [<-K5 a] at b
 exact A i a x y b
structure JnOk (q rest q' rest' : List Rect):Prop where
 perm:(q' ++ rest').Perm (q++rest)
 chain:PX q'
 pre:q <+: q'
 apart:∀ r ∈ q',∀ s ∈ rest',Qm r s=false
theorem Q8D{α:Type}(p:α->Bool)(l:List α):(l.filter p++l.filter fun r=> !p r).Perm l:=List.filter_append_perm p l
theorem Z0a:∀ (n:Nat) (q:List Rect) (k:Nat) (rest:List Rect),q.length+rest.length<n+k->k<=q.length->PX q->(∀ i,i<k->∀ s ∈ rest,Qm (gl q i) s=false)->JnOk q rest (jn n q k rest).1 (jn n q k rest).2:=by
 intro n
 induction n with
 | zero=>intro q k rest u o;omega
 | succ n ih=>
  intro q k rest u o g l;rw [jn]
  by_cases hk:k<q.length
  .rw [if_pos hk]
   have x:=Q1T (Qm (gl q k)) rest;have d:∀ i,i<q.length->gl (q++rest.filter (Qm (gl q k))) i=gl q i:=fun i a=>by simp [gl,List.getD_eq_getElem?_getD,List.getElem?_append,a]
   have h:=ih (q++rest.filter (Qm (gl q k))) (k+1) (rest.filter fun r=> !Qm (gl q k) r) (by simp;omega) (by simp;omega) (fun i a f=>?_) (fun i a s e=>?_)
   .refine ⟨h.perm.trans ?_,h.chain,?_,h.apart⟩
    .rw [List.append_assoc]
     exact (Q8D _ rest).append_left q
    .exact (List.prefix_append _ _).trans h.pre
   .by_cases hiq:i<q.length
    .obtain ⟨j,v,w⟩:=g i a hiq
     exact ⟨j,v,by rw [d i hiq,d j (by omega)];exact w⟩
    .refine ⟨k,by omega,?_⟩
     rw [d k hk];have p:gl (q++rest.filter (Qm (gl q k))) i ∈ rest.filter (Qm (gl q k)):=by
      have c : i-q.length<(rest.filter (Qm (gl q k))).length:=by simp at f;omega
      have:gl (q++rest.filter (Qm (gl q k))) i=gl (rest.filter (Qm (gl q k))) (i-q.length):=by
       simp [gl,List.getD_eq_getElem?_getD,List.getElem?_append,hiq]
      rw [this];exact V4 c
     exact (List.mem_filter.1 p).2
   .have b:=List.mem_filter.1 e
    rcases Nat.lt_or_ge i k with m|m
    .rw [d i (by omega)];exact l i m s b.1
    .have:i=k:=by omega
     subst this;rw [d i hk];simpa using b.2
  .rw [if_neg hk]
   refine ⟨List.Perm.refl _,g,List.prefix_refl _,fun r t s e=>?_⟩;obtain ⟨i,a,rfl⟩:=List.getElem_of_mem t
   have:=l i (by simp only at a;omega) s e
   rwa [K5 a] at this
theorem CC(a:Rect)(l:List Rect):JnOk [a] l (YM (a::l)).1 (YM (a::l)).2:=
 Z0a (l.length+2) [a] 0 l (by simp;omega) (by simp) (fun i c b=>by simp at b;omega) (fun i c=>by omega)
def Ww:Nat->List Rect->List (List Rect)
 | 0,_=>[]
 | _+1,[]=>[]
 | n+1,a::l=>(YM (a::l)).1::Ww n (YM (a::l)).2
def Ym(l:List Rect):List (List Rect):=Ww l.length l
theorem JnOk.lens{a:Rect}{l q r:List Rect}(h:JnOk [a] l q r):q≠[]/\r.length<=l.length:=by
 have d:=h.perm.length_eq;simp at d
 obtain ⟨t,b⟩:=h.pre;have:1<=q.length:=by rw [<-b];simp
 exact ⟨fun c=>by rw [c] at this;simp at this,by omega⟩
theorem Q0x:∀ (n:Nat) (l:List Rect),l.length<=n->(Ww n l).flatten.Perm l:=by
 intro n
 induction n with
 | zero=>intro l b;have:l=[]:=List.eq_nil_of_length_eq_zero (by omega);subst this;exact List.Perm.refl _
 | succ n ih=>
  intro l b
  cases l with
  | nil=>exact List.Perm.refl _
  | cons a l=>
   have h:=CC a l;have:=h.lens.2
   simp only [Ww,List.flatten_cons];simp only [List.length_cons] at b
   exact ((ih _ (by omega)).append_left _).trans h.perm
theorem Q8H:∀ (n:Nat) (l:List Rect),l.length<=n->(∀ p ∈ Ww n l,p≠[]/\PX p)/\(Ww n l).Pairwise fun p p'=>∀ r ∈ p,∀ s ∈ p',Qm r s=false:=by
 intro n
 induction n with
 | zero=>intro l d;exact ⟨fun p b=>by simp [Ww] at b,.nil⟩
 | succ n ih=>
  intro l d
  cases l with
  | nil=>exact ⟨fun p b=>by simp [Ww] at b,.nil⟩
  | cons a l=>
   have h:=CC a l;have e:=h.lens
   simp only [List.length_cons] at d;obtain ⟨f,j⟩:=ih (YM (a::l)).2 (by omega)
   have b:=Q0x n (YM (a::l)).2 (by omega);simp only [Ww]
   refine ⟨fun p b=>?_,List.pairwise_cons.2 ⟨fun p' c r g s i=>?_,j⟩⟩
   .rcases List.mem_cons.1 b with rfl|b
    .exact ⟨e.1,h.chain⟩
    .exact f p b
   .exact h.apart r g s (b.mem_iff.1 (List.mem_flatten.2 ⟨p',c,i⟩))
theorem Gx(l:List Rect):(Ym l).flatten.Perm l:=Q0x _ l (Nat.le_refl _)
theorem yk(l:List Rect):(∀ p ∈ Ym l,p≠[]/\PX p)/\(Ym l).Pairwise fun p p'=>∀ r ∈ p,∀ s ∈ p',Qm r s=false:=Q8H _ l (Nat.le_refl _)
def Hk(a b:Int×Int):Prop:=a.1<b.1\/(a.1=b.1/\a.2<b.2)
theorem Q9h{a b:Int×Int}(h:a≠b):Hk a b\/Hk b a:=by
 unfold Hk;have:a.1≠b.1\/a.2≠b.2:=by
  rcases Int.decEq a.1 b.1 with c|c
  .exact .inl c
  .right;intro d;exact h (Prod.ext c d)
 omega
theorem G3.apt{l:List Rect}(h:G3 l):l.Pairwise Vk:=by
 obtain ⟨b,e,rfl⟩:=h;unfold flat
 rw [List.pairwise_flatMap];refine ⟨fun c f=>?_,?_⟩
 .unfold K3
  rw [List.pairwise_map];refine (e.sp c f).ch.imp fun h x y d a=>?_
  rw [Qh] at d a;simp only at d a
  omega
 .refine e.runs.ch.imp fun h r g s i x y d a=>?_
  obtain ⟨u,_,rfl⟩:=List.mem_map.1 g;obtain ⟨v,_,rfl⟩:=List.mem_map.1 i
  rw [Qh] at d a;simp only at d a
  have:=h.1
  omega
theorem xv{r s:Rect}(h:Vk r s):Vk s r:=fun x y a b=>h x y b a
def Q3Q(a b:List Rect):Prop:=∀ x y,Q2 a x y=true->Q2 b x y=true->False
def Q3L(a b:List Rect):Prop:=∀ x y x' y',Q2 a x y=true->Q2 b x' y'=true->¬ Jh x y x' y'
theorem Z2R{x y x' y' : Int}(h:Jh x y x' y'):Jh x' y' x y:=by unfold Jh at *;omega
theorem Q8G{l:List Rect}(hl:l.Pairwise Vk):(Ym l).Pairwise fun p p'=>Q3Q p p' /\ Q3L p p':=by
 have j:(Ym l).flatten.Pairwise Vk:=((Gx l).pairwise_iff fun {a b} h=>xv h).2 hl;rw [List.pairwise_flatten] at j
 refine (j.2.and (yk l).2).imp fun {p p'} h=>⟨fun x y g i=>?_,fun x y m n g i k=>?_⟩
 .obtain ⟨r,e,d⟩:=(QA _ _ _).1 g
  obtain ⟨s,f,c⟩:=(QA _ _ _).1 i;exact h.1 r e s f x y d c
 .obtain ⟨r,e,d⟩:=(QA _ _ _).1 g
  obtain ⟨s,f,c⟩:=(QA _ _ _).1 i;have:=Q3q (h.1 r e s f) d c k
  rw [h.2 r e s f] at this;cases this
theorem Z0l{l m:List Rect}(h:l.Perm m)(x y:Int):Q2 l x y=Q2 m x y:=by
 rw [Bool.eq_iff_iff,QA,QA];exact ⟨fun ⟨r,hr,h2⟩=>⟨r,h.mem_iff.1 hr,h2⟩,fun ⟨r,hr,h2⟩=>⟨r,h.mem_iff.2 hr,h2⟩⟩
theorem vg(L:List (List Rect))(x y:Int):Q2 L.flatten x y=L.any fun p=>Q2 p x y:=by
 induction L with
 | nil=>rfl
 | cons p L ih=>rw [List.flatten_cons,YN,ih];rfl
theorem Hj{l p:List Rect}(hp:p ∈ Ym l){r:Rect}(hr:r ∈ p):r ∈ l:=(Gx l).mem_iff.1 (List.mem_flatten.2 ⟨p,hp,hr⟩)
theorem Q8I{l p:List Rect}(hp:p ∈ Ym l):p.length<=l.length:=by
 have a:=(Gx l).length_eq;rw [<-a]
 exact (List.sublist_flatten_of_mem hp).length_le
noncomputable def WZ(p:List Rect):Re_:=⟨cn (Q2 p)⟩
theorem Z2p(F:Nat)(hF:Q8<=F)(u v:Int):FH F [u,v]=some (if u≠0 then u else v):=by
 unfold Q8 at hF;obtain ⟨F,rfl⟩:∃ G,F=G+3:=⟨F-3,by omega⟩
 unfold FH;show GP _ [u,v] _ 0=_
 unfold GP;refine Z9 (by simp) ?_
 refine Q7 (by simp) ?_;have b:gl [u,v] (0:Int).toNat=u:=rfl
 rw [b]
 by_cases hu:u=0
 .subst hu
  refine Z3 (by simp) ?_;refine Q7 (W2 (by omega) (by omega)) ?_
  rw [if_neg (by simp)];show GP _ [0,v] _ (0+1)=_
  unfold GP;refine Z9 (by simp) ?_
  refine Q7 (by simp) ?_;have a:gl [0,v] ((0:Int)+1).toNat=v:=rfl
  rw [a]
  by_cases hv:v=0
  .subst hv
   refine Z3 (by simp) ?_;refine Q7 (W2 (by omega) (by omega)) ?_
   show GP _ [0,0] _ (0+1+1)=_;unfold GP
   exact Z3 (by simp) rfl
  .exact Z9 (by simpa using hv) rfl
 .rw [if_pos hu]
  exact Z9 (by simpa using hu) rfl
noncomputable def Zt(l:List Rect):Re_×Int:=if 120<l.length then (⟨[]⟩,1) else (⟨l⟩,0)
theorem Pt(a b:List Rect):z8 fun x y=>Q2 a x y && !Q2 b x y:=Ve a b 3
section
theorem Lo{r:Rect}(h:Qg r=true):W6 [r]:=by
 have b:=(ZW r).1 h;exact ⟨by simp,fun s a=>by rw [List.mem_singleton.1 a];exact h,xk (by omega) (by omega)⟩
section
variable {F:Nat} {a:Re_} {z1:Tape×Re_} {x1 k:Int} {x y:Int}
end
end
section
theorem Step.spansH{xs:List Int}{f:Int->Bool}(h:Step false xs f):∃ l,SpOk l/\(∀ x,J1 l x=f x)/\2*l.length<=xs.length:=by
 by_cases h0:xs.length=0
 .exact ⟨[],.nil,fun x=>(h.empty h0 x).symm,by simp⟩
 .have q:∀ i,i+1<=xs.length->∃ l:List Span,Bst false f (l.map Span.rn) (gl xs i)/\2*l.length<=i+1/\((∀ s,l.getLast?=some s->s.R_≠gl xs i)->2*l.length<=i):=by
   intro i
   induction i with
   | zero=>intro v;exact ⟨[],h.start (by omega),by simp,by simp⟩
   | succ i ih=>
    intro v;obtain ⟨l,b,m,c⟩:=ih (by omega)
    have d:=h.asc.at_lt (show i<i+1 by omega) (by omega)
    cases hf:f (gl xs i) with
    | false=>exact ⟨l,b.skip (by omega) fun t p o=>(h.gap i (by omega) t p o).trans hf,by omega,fun _=>by omega⟩
    | true=>
     rcases List.eq_nil_or_concat l with rfl|⟨r,s,j⟩
     .refine ⟨[⟨gl xs i,gl xs (i+1)⟩],?_,by simp,fun n=>absurd rfl (n ⟨gl xs i,gl xs (i+1)⟩ rfl)⟩
      have:=b.add d (h.gap i (by omega)) (fun a g=>by simp at g)
      rw [hf] at this;exact this
     .rw [List.concat_eq_append] at j
      subst j
      by_cases hs:s.R_=gl xs i
      .refine ⟨r ++ [⟨s.L_,gl xs (i+1)⟩],?_,by simp at m ⊢;omega,fun n=>absurd rfl (n ⟨s.L_,gl xs (i+1)⟩ (by simp))⟩
       rw [List.map_append] at b;have:=b.grow (a:=s.rn) hs d fun t p o=>(h.gap i (by omega) t p o).trans hf
       rw [List.map_append];exact this
      .have c:=c fun w e=>by simp at e;rw [<-e];exact hs
       refine ⟨(r ++ [s])++[⟨gl xs i,gl xs (i+1)⟩],?_,by simp at c ⊢;omega,fun n=>absurd rfl (n ⟨gl xs i,gl xs (i+1)⟩ (by simp))⟩;have:=b.add d (h.gap i (by omega)) (fun a g u=>by
        rw [List.map_append] at g;simp at g
        subst g;exact absurd u hs)
       rw [hf] at this;rw [List.map_append];exact this
  obtain ⟨l,b,m,_⟩:=q (xs.length-1) (by omega);refine ⟨l,.of_runs b.runs,fun x=>?_,by omega⟩
  rw [Pk];exact h.done (by omega) b x
theorem Step.spn_half{xs:List Int}{f:Int->Bool}(h:Step false xs f):2*(QX f).length<=xs.length:=by
 obtain ⟨l,d,c,b⟩:=h.spansH;rw [KE d c];exact b
open Classical in
theorem Step.runsL{α:Type}{d:α}{c:List Int}{f:Int->α}(h:Step d c f):∃ acc:List (Rn α),Runs acc/\(∀ t,J5 d acc t=f t)/\(∀ b ∈ acc,b.v≠d)/\acc.length<=c.length:=by
 by_cases h0:c.length=0
 .exact ⟨[],.nil,fun x=>(h.empty h0 x).symm,fun b e=>(List.not_mem_nil e).elim,by simp⟩
 .have r:∀ i,i+1<=c.length->∃ l:List (Rn α),Bst d f l (gl c i)/\(∀ b ∈ l,b.v≠d)/\l.length<=i:=by
   intro i
   induction i with
   | zero=>intro hi;exact ⟨[],h.start (by omega),fun b e=>(List.not_mem_nil e).elim,by simp⟩
   | succ i ih=>
    intro hi;obtain ⟨l,m,g,j⟩:=ih (by omega)
    have n:=h.asc.at_lt (show i<i+1 by omega) (by omega)
    by_cases hf:f (gl c i)=d
    .exact ⟨l,m.skip (by omega) fun t q p=>(h.gap i (by omega) t q p).trans hf,g,by omega⟩
    .by_cases hs:∃ a,l.getLast?=some a/\a.hi=gl c i/\a.v=f (gl c i)
     .obtain ⟨a,o,q,p⟩:=hs
      obtain ⟨z,rfl⟩:=List.getLast?_eq_some_iff.1 o;refine ⟨z ++ [{ a with hi:=gl c (i+1) }],m.grow q n fun t u A=>(h.gap i (by omega) t u A).trans p.symm,fun b e=>?_,by simp at j ⊢;omega⟩
      rcases List.mem_append.1 e with e|e
      .exact g b (by simp [e])
      .rw [List.mem_singleton.1 e];exact g a (by simp)
     .refine ⟨l++[⟨gl c i,gl c (i+1),f (gl c i)⟩],m.add n (h.gap i (by omega)) (fun a o s w=>hs ⟨a,o,s,w⟩),fun b e=>?_,by simp at j ⊢;omega⟩
      rcases List.mem_append.1 e with e|e
      .exact g b e
      .rw [List.mem_singleton.1 e];exact hf
  obtain ⟨l,m,g,j⟩:=r (c.length-1) (by omega);exact ⟨l,m.runs,fun x=>h.done (by omega) m x,g,by omega⟩
theorem Z2D{α:Type}{d:α}{b:Rn α}:∀ {l:List (Rn α)},Runs l->b ∈ l->J5 d l b.lo=b.v:=by
 intro l
 induction l with
 | nil=>intro _ c;cases c
 | cons a l ih=>
  intro e c;rcases List.mem_cons.1 c with rfl|c
  .have:=e.pos b (by simp)
   rw [J5,if_pos ⟨by omega,this⟩]
  .have f:=(e.head b c).1
   rw [J5,if_neg (by omega)];exact ih e.tail c
theorem vw{B:List (Rn (List Span))}{N:Nat}(h:∀ b ∈ B,b.v.length<=N):(flat B).length<=B.length*N:=by
 induction B with
 | nil=>simp [flat]
 | cons c B ih=>
  have e:flat (c::B)=K3 c++flat B:=rfl;have:=ih fun d f=>h d (by simp [f])
  have g:=h c (by simp);rw [e,List.length_append,YX,List.length_cons,Nat.add_mul]
  omega
theorem Grid.len{xs ys:List Int}{S:Int->Int->Bool}(h:Grid xs ys S){N:Nat}(hN:xs.length<=2*N+1):(cn S).length<=ys.length*N:=by
 obtain ⟨f,e,c,j,g⟩:=h.step.runsL;rw [(Step.cn h.rows h.step e c j).1]
 refine Nat.le_trans (vw (N:=N) fun b i=>?_) (Nat.mul_le_mul_right _ g);have:=Z2D (d:=[]) e i
 rw [c] at this;have l:=(h.x b.lo).spn_half
 rw [<-this];omega
theorem xf(l:List Rect):(cn (Q2 l)).length<=2*l.length*l.length:=by
 have b:Grid (Zb l []) (Ub [l]) (Q2 l):=TL l (by simp);have e:=Mb (l:=l)
 have d:=vV [l];have c:tot [l]=l.length:=by simp [tot]
 exact Nat.le_trans (b.len (N:=l.length) (by omega)) (Nat.mul_le_mul_right _ (by omega))
noncomputable def Jq(a b:Re_):Bool:=G9 a.t_&&(G9 b.t_&&decide (cn (fun x y=>K2 (Q2 a.t_ x y) (Q2 b.t_ x y) 3)=[]))
theorem Q8k{F:Nat}(hF:Q8<=F)(a b:Re_):Tp F a b=some (Jq a b):=by
 unfold Tp Jq;refine Q4 (Wv hF a) ?_
 refine Q6 (fun h=>?_) (fun h=>by rw [h];rfl);rw [h]
 refine Q4 (Wv hF b) ?_;refine Q6 (fun c=>?_) (fun c=>by rw [c];rfl)
 rw [c];have d:=((Yc _).1 h).1
 have e:=((Yc _).1 c).1;refine Q4 (Gt hF (by omega)) ?_
 show some _=some _;congr 1
 simp only [Bool.true_and];generalize cn _=q
 cases q with
 | nil=>rfl
 | cons r q=>simp;omega
theorem Q4q{a b:Re_}(ha:W6 a.t_)(hb:W6 b.t_):Jq a b=true↔∀ x y,Q2 a.t_ x y=true->Q2 b.t_ x y=true:=by
 unfold Jq;rw [WJ ha,WJ hb,Bool.true_and,Bool.true_and,decide_eq_true_eq,PB (Ve _ _ _)]
 constructor
 .intro h x y c
  have:=h x y
  simp only [K2] at this;rw [c] at this
  simpa using this
 .intro h x y
  simp only [K2]
  cases c:Q2 a.t_ x y with
  | false=>rfl
  | true=>rw [h x y c];rfl
end
theorem LJ{l:List Int}{M:Int}(h:∀ x ∈ l,0<=x/\x<=M):0<=l.sum/\l.sum<=M*l.length:=by
 induction l with
 | nil=>simp
 | cons x l ih=>
  have d:=h x (by simp);have c:=ih fun y b=>h y (by simp [b])
  simp only [List.sum_cons,List.length_cons];have e:M*((l.length+1:Nat):Int)=M*l.length+M:=by rw [Int.natCast_add,Int.mul_add];simp
  omega
theorem Rf{f:Rect->Int}{l:List Rect}{j:Nat}(h:j<l.length):((l.take (j+1)).map f).sum=((l.take j).map f).sum+f (gl l j):=by
 rw [QD h,List.map_append,List.sum_append];simp
def Yk(r:Rect):Int:=(r.R_-r.L_)*(r.H_-r.w_)
def area(l:List Rect):Int:=(l.map Yk).sum
theorem Ml{r:Rect}(h:Qg r=true):0<=Yk r/\Yk r<=268435456:=by
 rw [ZW] at h;unfold Yk
 have c:0<=r.R_-r.L_/\r.R_-r.L_<=16384:=by omega
 have b:0<=r.H_-r.w_/\r.H_-r.w_<=16384:=by omega
 refine ⟨Int.mul_nonneg c.1 b.1,?_⟩;have:=Int.mul_le_mul c.2 b.2 b.1 (by omega)
 omega
theorem bL{F:Nat}(hF:Q8<=F){l:List Rect}(hl:l.length<=1000000)(hp:∀ r ∈ l,Qg r=true):XQ F l=some (area l):=by
 unfold Q8 at hF;have b:∀ j,0<=((l.take j).map Yk).sum/\((l.take j).map Yk).sum<=268435456*1000000:=fun j=>by
  have:=LJ (l:=(l.take j).map Yk) (M:=268435456) (fun x i=>by
   obtain ⟨s,f,rfl⟩:=List.mem_map.1 i;exact Ml (hp s (List.mem_of_mem_take f)))
  simp only [List.length_map,List.length_take] at this;omega
 unfold XQ;refine J4 (fun z:Int×Int=>∃ j:Nat,z=(((l.take j).map Yk).sum,(j:Int))/\j<=l.length) (fun z=>l.length-z.2.toNat) (fun c z m d=>?_) ⟨0,by simp,by omega⟩ (by simp;omega)
 obtain ⟨j,rfl,n⟩:=m;simp only at d ⊢
 have p:=b j;have e:=b (j+1)
 unfold bN;refine Q6 (fun h=>?_) (fun h=>?_)
 .have h:j<l.length:=by simpa using h
  refine Z4 (k:=?_);simp only [Int.toNat_natCast]
  have g:=(ZW _).1 (hp _ (V4 h));have o:=Ml (hp _ (V4 h))
  rw [Rf h] at e;refine Q7 (W2 (by omega) (by omega)) ?_
  refine Q7 (W2 (by omega) (by omega)) ?_;show gd (Q9 (Yk (gl l j))) _=_
  refine Q7 (W2 (by omega) (by omega)) ?_;show gd (Q9 (((l.take j).map Yk).sum+Yk (gl l j))) _=_
  refine Q7 (W2 (by omega) (by omega)) ?_;refine Z4 (k:=?_)
  refine d _ ⟨j+1,?_,h⟩ (by simp only;omega);rw [Rf h];rfl
 .have h:¬ j<l.length:=by simpa using h
  have:j=l.length:=by omega
  subst this;rw [List.take_length]
  rfl
theorem zZ{F:Nat}(hF:Q8<=F){a:Re_}(hv:W6 a.t_):XT F a=some (area a.t_):=by
 have:=hv.1
 unfold XT;refine Q4 (Wv hF a) ?_
 rw [WJ hv];refine Z3 rfl ?_
 exact Q4 (bL hF (by omega) hv.2.1) rfl
theorem SpOk.half{n:Int}:∀ {l:List Span},SpOk l->∀ {a:Int},a<=n+1->(∀ s ∈ l,a<=s.L_/\s.R_<=n)->2*(l.length:Int)<=n+1-a
 | [],_,a,ha,_=>by simp;omega
 | s::l,h,a,ha,hb=>by
  have e:=hb s (by simp);have d:=h.pos s (by simp)
  have c:SpOk l:=⟨fun q b=>h.pos q (by simp [b]),(List.pairwise_cons.1 h.ch).2⟩;have:=SpOk.half (n:=n) c (a:=s.R_+1) (by omega) fun q b=>⟨by have:=(List.pairwise_cons.1 h.ch).1 q b;omega,(hb q (by simp [b])).2⟩
  rw [List.length_cons];omega
theorem G3.half{l:List Rect}(hc:G3 l){n:Nat}(hb:Qw n l):l.length<=n*((n+1) / 2):=by
 obtain ⟨b,g,rfl⟩:=hc;have f:∀ c ∈ b,∃ s,s ∈ c.v:=fun c hc=>List.exists_mem_of_ne_nil _ (g.ne c hc)
 have d:∀ c ∈ b,∀ s ∈ c.v,(⟨s.L_,c.lo,s.R_,c.hi⟩:Rect) ∈ flat b:=fun c hc s e=>List.mem_flatMap.2 ⟨c,hc,List.mem_map.2 ⟨s,e,rfl⟩⟩
 have m:(b.length:Int)<=n-0:=g.runs.len (by omega) fun c hc=>by
  obtain ⟨s,e⟩:=f c hc;have:=hb _ (d c hc s e)
  simp only at this;omega
 have h:∀ c ∈ b,c.v.length<=(n+1) / 2:=fun c hc=>by
  have:=(g.sp c hc).half (n:=n) (a:=0) (by omega) fun s e=>by
   have:=hb _ (d c hc s e)
   simp only at this ⊢;omega
  omega
 have i:=vw h;have j:b.length*((n+1) / 2)<=n*((n+1) / 2):=Nat.mul_le_mul_right _ (by omega)
 omega
def Yr(f:Nat->Int):Nat->Int
 | 0=>0
 | n+1=>Yr f n+f n
theorem KB{f g:Nat->Int}{n:Nat}(h:∀ i,i<n->f i=g i):Yr f n=Yr g n:=by
 induction n with
 | zero=>rfl
 | succ n ih=>rw [Yr,Yr,ih fun i b=>h i (by omega),h n (by omega)]
theorem kP(f g:Nat->Int)(n:Nat):Yr (fun i=>f i+g i) n=Yr f n+Yr g n:=by
 induction n with
 | zero=>rfl
 | succ n ih=>rw [Yr,Yr,Yr,ih];omega
theorem LK(n:Nat):Yr (fun _=>0) n=0:=by
 induction n with
 | zero=>rfl
 | succ n ih=>rw [Yr,ih];rfl
theorem kO(c lo hi:Int)(h0:0<=lo)(h1:lo<=hi)(n:Nat):Yr (fun i=>if lo<=(i:Int)/\(i:Int)<hi then c else 0) n=(if (n:Int)<=lo then 0 else if (n:Int)<=hi then n-lo else hi-lo)*c:=by
 induction n with
 | zero=>rw [Yr,if_pos (by omega),Int.zero_mul]
 | succ n ih=>
  rw [Yr,ih];simp only [Int.natCast_succ]
  by_cases a:(n:Int)<lo
  .rw [if_pos (by omega),if_neg (by omega),if_pos (by omega)];omega
  .by_cases b:(n:Int)<hi
   .rw [if_pos (show lo<=(n:Int)/\(n:Int)<hi by omega),if_neg (show ¬ (n:Int)+1<=lo by omega),if_pos (show (n:Int)+1<=hi by omega)]
    by_cases e:(n:Int)<=lo
    .have:(n:Int)=lo:=by omega
     rw [if_pos e,show (n:Int)+1-lo=1 by omega,Int.zero_mul,Int.one_mul];omega
    .rw [if_neg e,if_pos (by omega),show (n:Int)+1-lo=(n-lo)+1 by omega,Int.add_mul,Int.one_mul]
   .rw [if_neg (show ¬ (lo<=(n:Int)/\(n:Int)<hi) by omega),if_neg (show ¬ (n:Int)+1<=lo by omega)]
    by_cases e:(n:Int)<=lo
    .have d:lo=hi:=by omega
     have f:(n:Int)=lo:=by omega
     rw [if_pos e]
     by_cases e3:(n:Int)+1<=hi
     .omega
     .rw [if_neg e3,d,Int.sub_self];omega
    .rw [if_neg e]
     by_cases e4:(n:Int)<=hi
     .rw [if_pos e4,if_neg (by omega),show (n:Int)=hi by omega];omega
     .rw [if_neg e4,if_neg (by omega)];omega
def Ux(N:Nat)(S:Int->Int->Bool):Int:=Yr (fun x=>Yr (fun y=>if S x y=true then 1 else 0) N) N
theorem xd{N:Nat}{S T:Int->Int->Bool}(h:∀ x y,S x y=true->T x y=true->False):Ux N (fun x y=>S x y||T x y)=Ux N S+Ux N T:=by
 unfold Ux;rw [<-kP]
 refine KB fun x _=>?_
 rw [<-kP];refine KB fun y _=>?_
 have:=h x y
 cases e:S x y <;> cases e2:T x y <;> simp_all
theorem Z2k{N:Nat}{S:Int->Int->Bool}(h:∀ x y,S x y=false):Ux N S=0:=by
 unfold Ux;rw [KB (g:=fun _=>0) fun x _=>by rw [KB (g:=fun _=>0) fun y _=>by rw [h];rfl,LK],LK]
theorem Z2l{N:Nat}{r:Rect}(h1:0<=r.L_)(h2:r.L_<=r.R_)(h3:r.R_<=N)(h4:0<=r.w_)(h5:r.w_<=r.H_)(h6:r.H_<=N):Ux N r.has=Yk r:=by
 have e:∀ x:Nat,Yr (fun y=>if r.has x y=true then 1 else 0) N=if r.L_<=(x:Int)/\(x:Int)<r.R_ then r.H_-r.w_ else 0:=fun x=>by
  by_cases hx:r.L_<=(x:Int)/\(x:Int)<r.R_
  .rw [if_pos hx,KB (g:=fun i=>if r.w_<=(i:Int)/\(i:Int)<r.H_ then 1 else 0) fun y _=>by
    by_cases hy:r.w_<=(y:Int)/\(y:Int)<r.H_
    .rw [if_pos ((Qh r x y).2 ⟨hx.1,hx.2,hy.1,hy.2⟩),if_pos hy]
    .rw [if_neg (fun h=>hy (by have:=(Qh r x y).1 h;omega)),if_neg hy],kO 1 _ _ h4 h5]
   by_cases a:(N:Int)<=r.w_
   .rw [if_pos a];omega
   .rw [if_neg a];split <;> omega
  .rw [if_neg hx,KB (g:=fun _=>0) fun y _=>by rw [if_neg (fun h=>hx (by have:=(Qh r x y).1 h;omega))],LK]
 unfold Ux;rw [KB fun x _=>e x,kO _ _ _ h1 h2]
 unfold Yk
 by_cases a:(N:Int)<=r.L_
 .rw [if_pos a,show r.R_-r.L_=0 by omega]
 .rw [if_neg a]
  by_cases b:(N:Int)<=r.R_
  .rw [if_pos b,show (N:Int)=r.R_ by omega]
  .rw [if_neg b]
@[irreducible] def sq (S:Int->Int->Bool):Int:=Ux 16384 S
theorem Jw(S:Int->Int->Bool):sq S=Ux 16384 S:=by unfold sq;rfl
theorem xu:∀ {l:List Rect},l.Pairwise Vk->(∀ r ∈ l,Qg r=true)->area l=sq (Q2 l)
 | [],_,_=>by
  rw [Jw,Z2k (S:=Q2 []) (fun x y=>rfl)];rfl
 | r::l,ha,hp=>by
  have b:=(ZW r).1 (hp r (by simp));have c:=xu (l:=l) (List.pairwise_cons.1 ha).2 fun q b=>hp q (by simp [b])
  have e:Q2 (r::l)=fun x y=>r.has x y||Q2 l x y:=by
   funext x y;simp [Q2]
  rw [Jw] at c ⊢;rw [e,xd (fun x y h d=>by
   obtain ⟨s,f,g⟩:=(QA l x y).1 d;exact (List.pairwise_cons.1 ha).1 s f x y h g),Z2l (by omega) (by omega) (by omega) (by omega) (by omega) (by omega), <-c]
  simp [area]
theorem W6.area{l:List Rect}(h:W6 l):area l=sq (Q2 l):=xu h.2.2.apt h.2.1
section
def Ok{R:Type}(x:Option R)(G:R->Prop):Prop:=∃ r,x=some r/\G r
theorem VY{R:Type}{r:R}{G:R->Prop}(h:G r):Ok (some r) G:=⟨r,rfl,h⟩
theorem J9{R:Type}{p:Prop}[Decidable p]{x:Option R}{G:R->Prop}(h:p)(k:Ok x G):Ok (gd p x) G:=by unfold gd;rw [if_pos h];exact k
theorem Zh{α R:Type}{x:Option α}{f:α->Option R}{a:α}{G:R->Prop}(h:x=some a)(k:Ok (f a) G):Ok (x.bind f) G:=by rw [h];exact k
theorem QK{R:Type}{b:Bool}{x y:Option R}{G:R->Prop}(ht:b=true->Ok x G)(hf:b=false->Ok y G):Ok (br b x y) G:=by cases b;exact hf rfl;exact ht rfl
theorem UR{σ R:Type}{body:(σ->Option R)->σ->Option R}{G:R->Prop}(I:σ->Prop)(μ:σ->Nat)(round:∀ again z,I z->(∀ z',I z' -> μ z' < μ z->Ok (again z') G)->Ok (body again z) G):∀ {n:Nat} {z:σ},I z->μ z<n->Ok (Z7 body n z) G:=by
 intro n
 induction n with
 | zero=>intro z _ h;omega
 | succ n ih=>
  intro z b h;exact round _ z b fun z' c d=>ih c (by omega)
theorem Q8d(F:Nat){a b:Rect}(ha:Sm a)(hb:Sm b)(pa:WH a)(pb:WH b):Tk F a b=some (Kj a b):=by
 have g:=Q0W ha hb;have f:=Q0V ha hb
 unfold WH at pa pb;have e:Ws a b=true->Yg a b=0:=fun h=>by
  unfold Ws at h;unfold Yg J3 Qd at *
  rw [Bool.or_eq_true,beq_iff_eq,beq_iff_eq] at h
  repeat' split
  all_goals omega
 have k1:∀ c,DJ F a b c=some (if c=true then Yg a b else 0):=fun c=>by
  unfold DJ;refine Q6 (fun h=>?_) (fun h=>?_)
  .subst h;exact Q7 (W2 (by omega) (by omega)) rfl
  .subst h;rfl
 have d:∀ c,DK F a b c=some (if c=true then YL a b else if Wr a b=true then Yg a b else 0):=fun c=>by
  unfold DK;refine Q6 (fun h=>?_) (fun h=>?_)
  .subst h;exact Q7 (W2 (by omega) (by omega)) rfl
  .subst h
   unfold Wr;refine Q6 (fun h=>?_) (fun h=>?_)
   .rw [k1,h];rfl
   .rw [k1,h];rfl
 unfold Tk Kj
 cases hs:Ws a b with
 | true=>
  rw [e hs];unfold Ws at hs
  refine Q6 (fun h=>?_) (fun h=>?_)
  .rw [d];simp
  .rw [h,Bool.false_or] at hs
   rw [d,hs];simp
 | false=>
  unfold Ws at hs;refine Q6 (fun h=>?_) (fun h=>?_)
  .rw [h] at hs;cases hs
  .rw [h,Bool.false_or] at hs
   rw [d,hs];simp
section
variable (R:List Rect)
def nr(i k:Nat):Bool:=Qm (gl R i) (gl R k)
def Cl(C:Nat->Prop):Prop:=∀ i k,i<R.length->k<R.length->nr R i k=true->(C i↔C k)
structure Lab (p:List Int):Prop where
 len:p.length=R.length
 low:∀ i,i<R.length->0<=gl p i/\gl p i<=(i:Int)
 con:∀ C,Cl R C->∀ i,i<R.length->(C i↔C (gl p i).toNat)
def mu(p:List Int):Nat:=(p.map Int.toNat).sum
structure SI (P:List Int) (i k:Nat) (g:Bool) (p:List Int):Prop where
 lab:Lab R p
 le:mu p<=mu P
 lt:g=true->mu p<mu P
 eq:g=false->p=P/\∀ i' k',i' < R.length->k' < R.length->(i' < i\/(i'=i/\k' < k))->¬ (gl P k' < gl P i' /\ nr R i' k'=true)
end
theorem kN:∀ {p:List Int} {i:Nat} {v:Int},i<p.length->0<=v->v<gl p i->mu (p.set i v)<mu p
 | a::p,0,v,_,h0,h=>by
  have h:v<a:=h;simp only [mu,List.set_cons_zero,List.map_cons,List.sum_cons];omega
 | a::p,i+1,v,hi,h0,h=>by
  have:=kN (p:=p) (i:=i) (v:=v) (by simpa using hi) h0 h
  simp only [mu] at this;simp only [mu,List.set_cons_succ,List.map_cons,List.sum_cons];omega
theorem vq{p:List Int}{i k:Nat}{v:Int}(hi:i<p.length):gl (p.set i v) k=if k=i then v else gl p k:=by
 unfold gl;rw [List.getD_eq_getElem?_getD,List.getD_eq_getElem?_getD,List.getElem?_set]
 by_cases h:i=k
 .subst h;simp [hi]
 .rw [if_neg h,if_neg (Ne.symm h)]
theorem SI.step{R:List Rect}{P:List Int}{i k:Nat}{g:Bool}{p:List Int}(h:SI R P i k g p)(hi:i<R.length)(hk:k<R.length)(h1:gl p k<gl p i)(h2:nr R i k=true):SI R P i (k+1) true (p.set i (gl p k)):=by
 have f:mu (p.set i (gl p k))<mu p:=kN (by rw [h.lab.len];exact hi) (h.lab.low k hk).1 h1;have l:=h.le
 refine ⟨⟨by rw [List.length_set,h.lab.len],fun j c=>?_,fun C b j c=>?_⟩,by omega,fun _=>by omega,fun e=>by cases e⟩
 .rw [vq (by rw [h.lab.len];exact hi)]
  have m:=h.lab.low k hk;have n:=h.lab.low i hi
  have d:=h.lab.low j c;split
  .rename_i e;subst e;omega
  .exact d
 .rw [vq (by rw [h.lab.len];exact hi)]
  split
  .rename_i e
   subst e;rw [b j k hi hk h2]
   exact h.lab.con C b k hk
  .exact h.lab.con C b j c
theorem SI.skip{R:List Rect}{P:List Int}{i k:Nat}{g:Bool}{p:List Int}(h:SI R P i k g p)(hn:¬ (gl p k<gl p i/\nr R i k=true)):SI R P i (k+1) g p:=by
 refine ⟨h.lab,h.le,h.lt,fun e=>?_⟩;obtain ⟨f,m⟩:=h.eq e
 refine ⟨f,fun j l a b c=>?_⟩
 by_cases d:j=i/\l=k
 .obtain ⟨rfl,rfl⟩:=d
  rw [f] at hn;exact hn
 .exact m j l a b (by omega)
theorem SI.next{R:List Rect}{P:List Int}{i:Nat}{g:Bool}{p:List Int}(h:SI R P i R.length g p):SI R P (i+1) 0 g p:=
 ⟨h.lab,h.le,h.lt,fun e=>⟨(h.eq e).1,fun d f a b c=>(h.eq e).2 d f a b (by omega)⟩⟩
variable {F:Nat} {a:Re_}
theorem Q7u(hF:Q8<=F)(hv:W6 a.t_){P:List Int}{i:Nat}(hi:i<a.t_.length){Gd:(List Re_)×Int->Prop}{q:List Int}(hq:q.length=a.t_.length){ag:(Bool×Int×List Int)->Option ((List Re_)×Int)}(hc:∀ g p,SI a.t_ P (i+1) 0 g p->Ok (ag (g,((i+1:Nat):Int),p)) Gd){g:Bool}{p:List Int}(h:SI a.t_ P i 0 g p):
  Ok (Z7 (fun again (z:Bool×Int×(List Int))=>zK F a (i:Int) q ag again z.1 z.2.1 z.2.2) F (g,(0:Int),p)) Gd:=by
 unfold Q8 at hF;have r:=hv.1
 refine UR (fun z:Bool×Int×List Int=>∃ k:Nat,z.2.1=k/\k<=a.t_.length/\SI a.t_ P i k z.1 z.2.2) (fun z=>a.t_.length-z.2.1.toNat) (fun again z v o=>?_) ⟨0,rfl,Nat.zero_le _,h⟩ (by simp;omega);obtain ⟨g,w,p⟩:=z
 obtain ⟨k,rfl,e,h⟩:=v;simp only at o h ⊢
 have u:=h.lab.len;have t:((k:Int)+1)=((k+1:Nat):Int):=by omega
 have s:((i:Int)+1)=((i+1:Nat):Int):=by omega
 unfold zK;refine QK (fun j=>?_) (fun j=>?_)
 .have e:k<a.t_.length:=by rw [decide_eq_true_eq,hq] at j;omega
  have d:∀ g p,SI a.t_ P i (k+1) g p->Ok (DN F (k:Int) again g p) Gd:=fun g p h=>by
   unfold DN;refine J9 (W2 (by omega) (by omega)) ?_
   rw [t];exact o (g,((k+1:Nat):Int),p) ⟨k+1,rfl,e,h⟩ (by simp only [Int.toNat_natCast];omega)
  refine J9 (by omega) (J9 (by omega) ?_);simp only [Int.toNat_natCast]
  refine QK (fun c=>?_) (fun c=>?_)
  .refine J9 (by omega) (J9 (by omega) ?_)
   have n:=V4 hi;have m:=V4 e
   refine Zh (Q8d F (Ri (hv.2.1 _ n)) (Ri (hv.2.1 _ m)) (hv.2.2.pos n) (hv.2.2.pos m)) ?_;unfold DO
   refine QK (fun b=>?_) (fun b=>?_)
   .refine J9 (by omega) (J9 (by omega) ?_)
    simp only [Int.toNat_natCast];exact d _ _ (h.step hi e (by simpa using c) b)
   .refine d _ _ (h.skip fun l=>?_)
    have f:=l.2;unfold nr Qm at f
    rw [b] at f;cases f
  .unfold DO
   refine QK (fun b=>by cases b) (fun _=>?_);exact d _ _ (h.skip fun l=>by rw [decide_eq_false_iff_not] at c;exact c l.1)
 .unfold zH
  have e:k=a.t_.length:=by rw [decide_eq_false_iff_not,hq] at j;omega
  subst e;refine J9 (W2 (by omega) (by omega)) ?_
  rw [s];exact hc g p h.next
def PO(R:List Rect)(p:List Int):Prop:=∀ i k,i<R.length->k<R.length->nr R i k=true->gl p i=gl p k
theorem Q7v(hF:Q8<=F)(hv:W6 a.t_){Gd:(List Re_)×Int->Prop}(hc:∀ p,Lab a.t_ p->PO a.t_ p->Ok (DM F a p) Gd){p:List Int}(hp:Lab a.t_ p):Ok (Tl F a p) Gd:=by
 have w:=hF;unfold Q8 at hF
 have D:=hv.1;have H:mu p<=200*200:=by
  have:∀ (l:List Int),(∀ x ∈ l,x.toNat<=200)->mu l<=200*l.length:=by
   intro l C
   induction l with
   | nil=>simp [mu]
   | cons x l r=>
    have b:=r fun y K=>C y (by simp [K])
    have u:=C x (by simp);simp only [mu,List.map_cons,List.sum_cons,List.length_cons] at b ⊢
    omega
  have b:=this p fun x N=>by
   obtain ⟨i,f,rfl⟩:=List.mem_iff_getElem.1 N;have:=hp.low i (by rw [<-hp.len];exact f)
   rw [K5 f] at this;have:=hp.len
   omega
  have:=hp.len
  omega
 unfold Tl;refine UR (fun z:Bool×List Int=>Lab a.t_ z.2/\(z.1=false->PO a.t_ z.2)) (fun z=>2*mu z.2+if z.1=true then 1 else 0) (fun v z t r=>?_) ⟨hp,fun e=>by cases e⟩ (by simp only [if_true];omega)
 obtain ⟨g,p⟩:=z;obtain ⟨b,u⟩:=t
 simp only at r b u ⊢;unfold bu
 refine QK (fun d=>?_) (fun d=>hc p b (u d));subst d
 have J:=b.len;refine UR (fun z:Bool×Int×List Int=>∃ i:Nat,z.2.1=i/\i<=a.t_.length/\SI a.t_ p i 0 z.1 z.2.2) (fun z=>a.t_.length-z.2.1.toNat) (fun o z t n=>?_) ⟨0,rfl,Nat.zero_le _,⟨b,Nat.le_refl _,(fun e=>by cases e),fun _=>⟨rfl,fun j m _ _ c=>by omega⟩⟩⟩ (by simp;omega)
 obtain ⟨g,P,q⟩:=z;obtain ⟨i,rfl,f,h⟩:=t
 simp only at n h ⊢;unfold bt
 refine QK (fun d=>?_) (fun d=>?_)
 .have f:i<a.t_.length:=by rw [decide_eq_true_eq] at d;omega
  exact Q7u w hv f h.lab.len (fun g q M=>n (g,((i+1:Nat):Int),q) ⟨i+1,rfl,f,M⟩ (by simp only [Int.toNat_natCast];omega)) h
 .have f:i=a.t_.length:=by rw [decide_eq_false_iff_not] at d;omega
  refine r (g,q) ⟨h.lab,fun e=>?_⟩ ?_
  .obtain ⟨G,A⟩:=h.eq e
   simp only at G ⊢;subst G
   intro j m E B s;have I:=A j m E B (by omega)
   have n2:=A m j B E (by omega);have L:nr a.t_ m j=true:=by unfold nr at s ⊢;rw [yo];exact s
   have Q:¬ gl q m < gl q j:=fun c=>I ⟨c,s⟩
   have O:¬ gl q j < gl q m:=fun c=>n2 ⟨c,L⟩
   omega
  .cases g with
   | true=>have:=h.lt rfl;simp only [if_true];omega
   | false=>have:=h.le;simp;omega
end
def sel(R:List Rect)(p:List Int)(i:Nat):List Rect:=((List.range R.length).filter fun k=>gl p k==(i:Int)).map (gl R)
def Qe(R:List Rect)(p:List Int):List (List Rect):=((List.range R.length).filter fun i=>gl p i==(i:Int)).map (sel R p)
theorem CX{P:Nat->Bool}(n:Nat):((List.range n).filter P).length<=n:=by
 have:=List.length_filter_le P (List.range n)
 rwa [List.length_range] at this
theorem TE{α:Type}{P:Nat->Bool}{f:Nat->α}(k:Nat):((List.range (k+1)).filter P).map f=((List.range k).filter P).map f++if P k=true then [f k] else []:=by
 rw [List.range_succ,List.filter_append,List.map_append];congr 1
 rw [List.filter_cons];split <;> simp
theorem Q7t{F:Nat}(hF:Q8<=F){a:Re_}(hv:W6 a.t_){p:List Int}(hp:Lab a.t_ p):DM F a p=some ((Qe a.t_ p).map WZ,0):=by
 have r:=hF;unfold Q8 at hF
 have t:=hv.1;have D:=hp.len
 unfold DM;refine J4 (fun z:Int×List Re_=>∃ i:Nat,z.1=i/\i<=a.t_.length/\z.2=(((List.range i).filter fun i=>gl p i==(i:Int)).map fun i=>WZ (sel a.t_ p i))) (fun z=>a.t_.length-z.1.toNat) (fun g z q s=>?_) ⟨0,rfl,Nat.zero_le _,rfl⟩ (by simp;omega)
 obtain ⟨G,B⟩:=z;obtain ⟨i,rfl,n,rfl⟩:=q
 simp only at s ⊢;have C:((((List.range i).filter fun i=>gl p i==(i:Int)).map fun i=>WZ (sel a.t_ p i))).length<=i:=by rw [List.length_map];exact CX i
 unfold bq;refine Q6 (fun f=>?_) (fun f=>?_)
 .have n:i<a.t_.length:=by rw [decide_eq_true_eq] at f;omega
  have A:((i:Int)+1)=((i+1:Nat):Int):=by omega
  refine Q7 (by omega) ?_;simp only [Int.toNat_natCast]
  have d:∀ v,v=(((List.range (i+1)).filter fun i=>gl p i==(i:Int)).map fun i=>WZ (sel a.t_ p i))->DP F (i:Int) g v=some ((Qe a.t_ p).map WZ,0):=fun v hv=>by
   unfold DP;refine Q7 (W2 (by omega) (by omega)) ?_
   rw [A];exact s (((i+1:Nat):Int),v) ⟨i+1,rfl,n,hv⟩ (by simp only [Int.toNat_natCast];omega)
  refine Q6 (fun c=>?_) (fun c=>?_)
  .refine d _ ?_
   rw [TE,if_neg,List.append_nil];rw [bne_iff_ne] at c
   rw [beq_iff_eq];exact c
  .have m:(gl p i==(i:Int))=true:=by
    rw [beq_iff_eq];simpa using c
   refine J4 (fun z:Int×List Rect=>∃ k:Nat,z.1=k/\k<=a.t_.length/\z.2=(((List.range k).filter fun k=>gl p k==(i:Int)).map (gl a.t_))) (fun z=>a.t_.length-z.1.toNat) (fun b z q j=>?_) ⟨0,rfl,Nat.zero_le _,rfl⟩ (by simp;omega);obtain ⟨E,l⟩:=z
   obtain ⟨k,rfl,o,rfl⟩:=q;simp only at j ⊢
   have u:((((List.range k).filter fun k=>gl p k==(i:Int)).map (gl a.t_))).length<=k:=by rw [List.length_map];exact CX k
   have w:((k:Int)+1)=((k+1:Nat):Int):=by omega
   unfold bv;refine Q6 (fun f=>?_) (fun f=>?_)
   .have o:k<a.t_.length:=by rw [decide_eq_true_eq] at f;omega
    have e:∀ v,v=(((List.range (k+1)).filter fun k=>gl p k==(i:Int)).map (gl a.t_))->DQ F (k:Int) b v=some ((Qe a.t_ p).map WZ,0):=fun v hv=>by
     unfold DQ;refine Q7 (W2 (by omega) (by omega)) ?_
     rw [w];exact j (((k+1:Nat):Int),v) ⟨k+1,rfl,o,hv⟩ (by simp only [Int.toNat_natCast];omega)
    refine Q7 (by omega) ?_;simp only [Int.toNat_natCast]
    refine Q6 (fun h=>?_) (fun h=>?_)
    .refine Q7 (by omega) (Q7 (by simp only [Y5,List.length_cons,List.length_nil];omega) ?_)
     refine e _ ?_;rw [TE,if_pos h]
    .refine e _ ?_
     rw [TE,if_neg (by rw [h];simp),List.append_nil]
   .have o:k=a.t_.length:=by rw [decide_eq_false_iff_not] at f;omega
    subst o;unfold zJ
    refine Q4 (zT r (by omega)) ?_;refine Q7 (by simp only [Y5,List.length_cons,List.length_nil];omega) ?_
    refine d _ ?_;rw [TE,if_pos m]
    rfl
 .have n:i=a.t_.length:=by rw [decide_eq_false_iff_not] at f;omega
  subst n;unfold zI Qe
  rw [List.map_map];rfl
theorem Q8f{F:Nat}(hF:Q8<=F){a:Re_}(hv:W6 a.t_):∃ p,Lab a.t_ p/\PO a.t_ p/\DR F a=some ((Qe a.t_ p).map WZ,0):=by
 have d:=hF;unfold Q8 at hF
 have t:=hv.1;have c:Ok (DR F a) fun r=>∃ p,Lab a.t_ p/\PO a.t_ p/\r=((Qe a.t_ p).map WZ,0):=by
  unfold DR;refine Zh (Wv d a) ?_
  rw [WJ hv];refine QK (fun h=>by cases h) (fun _=>?_)
  refine J9 (by simp only [Y5];omega) ?_;simp only [Int.toNat_natCast]
  refine UR (fun z:Int×List Int=>∃ i:Nat,z.1=i/\i<=a.t_.length/\z.2.length=a.t_.length/\∀ j,j<i->gl z.2 j=j) (fun z=>a.t_.length-z.1.toNat) (fun o z w s=>?_) ⟨0,rfl,Nat.zero_le _,by simp,fun j f=>by omega⟩ (by simp;omega);obtain ⟨B,q⟩:=z
  obtain ⟨i,rfl,b,n,f⟩:=w;simp only at s n f ⊢
  have v:((i:Int)+1)=((i+1:Nat):Int):=by omega
  unfold bw;refine QK (fun m=>?_) (fun m=>?_)
  .have b:i<a.t_.length:=by simpa using m
   refine J9 (by omega) (J9 (W2 (by omega) (by omega)) ?_);rw [v]
   simp only [Int.toNat_natCast];refine s (((i+1:Nat):Int),q.set i (i:Int)) ⟨i+1,rfl,b,by simpa using n,fun j h=>?_⟩ (by simp only [Int.toNat_natCast];omega)
   simp only
   rw [vq (by omega)];split
   .rename_i e;rw [e]
   .exact f j (by omega)
  .have b:i=a.t_.length:=by
    have:¬ (i<a.t_.length):=by simpa using m
    omega
   subst b;refine Q7v d hv (fun p g l=>⟨_,Q7t d hv g,p,g,l,rfl⟩) ⟨n,fun i b=>by rw [f i b];omega,fun C A i b=>by rw [f i b];simp⟩
 obtain ⟨r,g,p,l,u,rfl⟩:=c;exact ⟨p,l,u,g⟩
structure Fam (S:Int->Int->Bool) (Q:List (List Rect)):Prop where
 un:∀ x y,S x y=true↔∃ q ∈ Q,Q2 q x y=true
 ne:∀ q ∈ Q,∃ x y,Q2 q x y=true
 cn:∀ q ∈ Q,Q3O (Q2 q)
 far:Q.Pairwise fun a b=>Q3Q a b/\Q3L a b
theorem Q8K{α:Type}{Rl:α->α->Prop}{l:List α}(h:l.Pairwise Rl){a b:α}(ha:a ∈ l)(hb:b ∈ l):a=b\/Rl a b\/Rl b a:=by
 induction l with
 | nil=>cases ha
 | cons c l ih=>
  rw [List.pairwise_cons] at h;rcases List.mem_cons.1 ha with e|ha2 <;> rcases List.mem_cons.1 hb with f | d
  .exact .inl (e.trans f.symm)
  .subst e;exact .inr (.inl (h.1 _ d))
  .subst f;exact .inr (.inr (h.1 _ ha2))
  .exact ih h.2 ha2 d
theorem Fam.sub{S:Int->Int->Bool}{Q Q' : List (List Rect)}(h:Fam S Q)(h' : Fam S Q'){q q' : List Rect}(hq:q ∈ Q)(hq' : q' ∈ Q'){x y:Int}(h1:Q2 q x y=true)(h2:Q2 q' x y=true):∀ u v,Q2 q u v=true->Q2 q' u v=true:=by
 refine h.cn q hq (fun u v=>Q2 q' u v=true) ⟨x,y,h1,h2⟩ fun u v g f m j c d=>?_
 obtain ⟨l,i,b⟩:=(h'.un g f).1 ((h.un g f).2 ⟨q,hq,j⟩);rcases Q8K h'.far hq' i with e|e|e
 .rw [e];exact b
 .exact (e.2 _ _ _ _ d b c).elim
 .exact (e.2 _ _ _ _ b d (Z2R c)).elim
theorem Fam.uniq{S:Int->Int->Bool}{Q Q' : List (List Rect)}(h:Fam S Q)(h' : Fam S Q'){q:List Rect}(hq:q ∈ Q):∃ q' ∈ Q',Q2 q=Q2 q':=by
 obtain ⟨x,y,e⟩:=h.ne q hq;obtain ⟨q',b,f⟩:=(h'.un x y).1 ((h.un x y).2 ⟨q,hq,e⟩)
 refine ⟨q',b,?_⟩;funext u v
 have g:=h.sub h' hq b e f u v;have i:=h'.sub h b hq f e u v
 cases c:Q2 q u v <;> cases d:Q2 q' u v <;> simp_all
theorem Z1q{R:List Rect}(ha:R.Pairwise Vk)(hp:∀ r ∈ R,WH r):Fam (Q2 R) (Ym R):=by
 refine ⟨fun x y=>?_,fun q b=>?_,fun q b=>((yk R).1 q b).2.conn fun r c=>hp r (Hj b c),Q8G ha⟩
 .rw [<-Z0l (Gx R),vg,List.any_eq_true]
 .obtain ⟨r,c⟩:=List.exists_mem_of_ne_nil _ ((yk R).1 q b).1
  have:=hp r (Hj b c)
  unfold WH at this;exact ⟨r.L_,r.w_,Wy c ((Qh _ _ _).2 (by omega))⟩
theorem UU{R:List Rect}{p:List Int}{i:Nat}{r:Rect}:r ∈ sel R p i↔∃ k,k<R.length/\gl p k=(i:Int)/\gl R k=r:=by
 unfold sel;rw [List.mem_map]
 constructor
 .rintro ⟨k,b,rfl⟩
  rw [List.mem_filter,List.mem_range,beq_iff_eq] at b;exact ⟨k,b.1,b.2,rfl⟩
 .rintro ⟨k,d,c,rfl⟩
  exact ⟨k,by rw [List.mem_filter,List.mem_range,beq_iff_eq];exact ⟨d,c⟩,rfl⟩
theorem Z1p{R:List Rect}(ha:R.Pairwise Vk)(hp:∀ r ∈ R,WH r){p:List Int}(hl:Lab R p)(hs:PO R p):Fam (Q2 R) (Qe R p):=by
 have Z:∀ i:Int,Cl R (fun k=>gl p k=i):=fun i j k d b v=>by
  show gl p j=i↔gl p k=i;rw [hs j k d b v]
 have D:∀ k,k<R.length->(gl p k).toNat<R.length/\gl p (gl p k).toNat=gl p k:=fun k b=>by
  have:=hl.low k b
  exact ⟨by omega,(hl.con _ (Z (gl p k)) k b).1 rfl⟩
 have c:∀ q,q ∈ Qe R p↔∃ i,i<R.length/\gl p i=(i:Int)/\sel R p i=q:=fun q=>by
  unfold Qe;rw [List.mem_map]
  constructor
  .rintro ⟨i,n,rfl⟩
   rw [List.mem_filter,List.mem_range,beq_iff_eq] at n;exact ⟨i,n.1,n.2,rfl⟩
  .rintro ⟨i,l,g,rfl⟩
   exact ⟨i,by rw [List.mem_filter,List.mem_range,beq_iff_eq];exact ⟨l,g⟩,rfl⟩
 have f:∀ k,k<R.length->WH (gl R k):=fun k b=>hp _ (V4 b)
 have u:∀ j k,j<R.length->k<R.length->j≠k->Vk (gl R j) (gl R k):=fun j k d b z=>by
  rw [List.pairwise_iff_getElem] at ha;rw [K5 d,K5 b]
  rcases Nat.lt_or_ge j k with h|h
  .exact ha j k d b h
  .exact xv (ha k j b d (by omega))
 refine ⟨fun x y=>?_,fun q N=>?_,fun q N=>?_,?_⟩
 .constructor
  .intro h
   obtain ⟨r,o,g⟩:=(QA _ _ _).1 h;obtain ⟨k,b,rfl⟩:=List.mem_iff_getElem.1 o
   have w:=D k b;have h4:=hl.low k b
   refine ⟨sel R p (gl p k).toNat,(c _).2 ⟨_,w.1,by rw [w.2];omega,rfl⟩,(QA _ _ _).2 ⟨R[k],UU.2 ⟨k,b,by omega,K5 b⟩,g⟩⟩
  .rintro ⟨q,N,h⟩
   obtain ⟨i,n,l,rfl⟩:=(c q).1 N;obtain ⟨r,o,g⟩:=(QA _ _ _).1 h
   obtain ⟨k,b,w,rfl⟩:=UU.1 o;exact Wy (V4 b) g
 .obtain ⟨i,n,l,rfl⟩:=(c q).1 N
  have:=f i n
  unfold WH at this;exact ⟨(gl R i).L_,(gl R i).w_,Wy (UU.2 ⟨i,n,l,rfl⟩) ((Qh _ _ _).2 (by omega))⟩
 .obtain ⟨i,n,l,rfl⟩:=(c q).1 N
  intro P Y W;obtain ⟨x0,y0,g,w⟩:=Y
  obtain ⟨r,o,h4⟩:=(QA _ _ _).1 g;obtain ⟨O,I,h5,rfl⟩:=UU.1 o
  have t:∀ k,k<R.length->gl p k=(i:Int)->∀ x y,(gl R k).has x y=true->Q2 (sel R p i) x y=true:=fun k b e x y h=>Wy (UU.2 ⟨k,b,e,rfl⟩) h
  have hC:Cl R (fun k=>gl p k=(i:Int)->∀ x y,(gl R k).has x y=true->P x y):=by
   have E:∀ j k,j<R.length->k<R.length->nr R j k=true->(gl p j=(i:Int)->∀ x y,(gl R j).has x y=true->P x y)->(gl p k=(i:Int)->∀ x y,(gl R k).has x y=true->P x y):=fun j k d b v U e=>by
    have ej:gl p j=(i:Int):=by rw [hs j k d b v];exact e
    obtain ⟨x,y,A,B,M,G,Q⟩:=Q0I v (f j d) (f k b);exact TC (S:=Q2 (sel R p i)) W (t k b e) G (W _ _ _ _ (t j d ej _ _ M) (t k b e _ _ G) Q (U ej _ _ M))
   intro j k d b v;exact ⟨E j k d b v,E k j b d (by unfold nr at v ⊢;rw [yo];exact v)⟩
  have J:gl p O=(i:Int)->∀ x y,(gl R O).has x y=true->P x y:=fun e=>TC (S:=Q2 (sel R p i)) W (t O I e) h4 w
  have K:=(hl.con _ hC O I).1 J;rw [h5,Int.toNat_natCast] at K
  intro x y a0;obtain ⟨r,o,h6⟩:=(QA _ _ _).1 a0
  obtain ⟨k,b,h7,rfl⟩:=UU.1 o;have L:=(hl.con _ hC k b).2
  rw [h7,Int.toNat_natCast] at L;exact L K rfl x y h6
 .unfold Qe
  rw [List.pairwise_map];refine List.Pairwise.imp_of_mem ?_ (List.Pairwise.filter _ List.nodup_range)
  intro i j n d z;have H:∀ x y A B,Q2 (sel R p i) x y=true->Q2 (sel R p j) A B=true->(x=A /\ y=B)\/Jh x y A B -> False:=fun x y A B a1 a2 T=>by
   obtain ⟨r,o,M⟩:=(QA _ _ _).1 a1;obtain ⟨k,b,G,rfl⟩:=UU.1 o
   obtain ⟨s,V,Q⟩:=(QA _ _ _).1 a2;obtain ⟨m,X,b4,rfl⟩:=UU.1 V
   have C:k≠m:=fun e=>by subst e;rw [G] at b4;exact z (by omega)
   rcases T with ⟨rfl,rfl⟩|T
   .exact u k m b X C _ _ M Q
   .have:=hs k m b X (Q3q (u k m b X C) M Q T)
    rw [G,b4] at this;exact z (by omega)
  exact ⟨fun x y l g=>H _ _ _ _ l g (.inl ⟨rfl,rfl⟩),fun x y A B l g w=>H _ _ _ _ l g (.inr w)⟩
theorem Q6z{R:List Rect}{p:List Int}{i:Nat}:(sel R p i).length<=R.length:=by unfold sel;rw [List.length_map];exact CX _
theorem Q7s{R:List Rect}{p:List Int}:(Qe R p).length<=R.length:=by unfold Qe;rw [List.length_map];exact CX _
theorem qI{F:Nat}(hF:Q8<=F){l:List Rect}(hl:l.length<=1000000)(hp:∀ r ∈ l,Qg r=true):BL F l=some (area l):=by
 unfold Q8 at hF;have b:∀ j,0<=((l.take j).map Yk).sum/\((l.take j).map Yk).sum<=268435456*1000000:=fun j=>by
  have:=LJ (l:=(l.take j).map Yk) (M:=268435456) (fun x i=>by
   obtain ⟨s,f,rfl⟩:=List.mem_map.1 i;exact Ml (hp s (List.mem_of_mem_take f)))
  simp only [List.length_map,List.length_take] at this;omega
 unfold BL;refine J4 (fun z:Int×Int=>∃ j:Nat,z=(((l.take j).map Yk).sum,(j:Int))/\j<=l.length) (fun z=>l.length-z.2.toNat) (fun c z m d=>?_) ⟨0,by simp,by omega⟩ (by simp;omega)
 obtain ⟨j,rfl,n⟩:=m;simp only at d ⊢
 have p:=b j;have e:=b (j+1)
 unfold jP;refine Q6 (fun h=>?_) (fun h=>?_)
 .have h:j<l.length:=by simpa using h
  refine Z4 (k:=?_);simp only [Int.toNat_natCast]
  have g:=(ZW _).1 (hp _ (V4 h));have o:=Ml (hp _ (V4 h))
  rw [Rf h] at e;refine Q7 (W2 (by omega) (by omega)) ?_
  refine Q7 (W2 (by omega) (by omega)) ?_;show gd (Q9 (Yk (gl l j))) _=_
  refine Q7 (W2 (by omega) (by omega)) ?_;show gd (Q9 (((l.take j).map Yk).sum+Yk (gl l j))) _=_
  refine Q7 (W2 (by omega) (by omega)) ?_;refine Z4 (k:=?_)
  refine d _ ⟨j+1,?_,h⟩ (by simp only;omega);rw [Rf h];rfl
 .have h:¬ j<l.length:=by simpa using h
  have:j=l.length:=by omega
  subst this;rw [List.take_length]
  rfl
structure WB (l:List (Rn (List Span))):Prop where
 pos:∀ b ∈ l,b.lo<b.hi
 ord:l.Pairwise fun b c=>b.hi<=c.lo
 sp:∀ b ∈ l,SpOk b.v
theorem YO(b:Rn (List Span))(l:List (Rn (List Span))):flat (b::l)=K3 b++flat l:=rfl
theorem kV:∀ {l:List (Rn (List Span))},WB l->∃ m,Bands m/\(∀ x y,Q2 (flat m) x y=Q2 (flat l) x y)/\(flat m).length<=(flat l).length/\∀ N,(∀ b ∈ l,N<=b.lo)->∀ c ∈ m,N<=c.lo
 | [],_=>⟨[],⟨.nil,(fun b s=>(List.not_mem_nil s).elim),(fun b s=>(List.not_mem_nil s).elim)⟩,fun _ _=>rfl,Nat.le_refl _,fun _ _ c g=>(List.not_mem_nil g).elim⟩
 | b::l,h=>by
  obtain ⟨m,i,o,u,C⟩:=kV (l:=l) ⟨fun c g=>h.pos c (by simp [g]),(List.pairwise_cons.1 h.ord).2,fun c g=>h.sp c (by simp [g])⟩;have r:=(List.pairwise_cons.1 h.ord).1
  have p:=C b.hi r;have w:=h.pos b (by simp)
  by_cases hv:b.v=[]
  .have e:K3 b=[]:=by unfold K3;rw [hv];rfl
   refine ⟨m,i,fun x y=>by rw [YO,e,o];rfl,by rw [YO,e];exact u,fun N j c g=>?_⟩;have:=p c g
   have:=j b (by simp)
   omega
  .cases m with
   | nil=>
    refine ⟨[b],⟨⟨?_,by simp⟩,?_,?_⟩,fun x y=>?_,?_,?_⟩
    .intro c g;rw [List.mem_singleton] at g;subst g;exact w
    .intro c g;rw [List.mem_singleton] at g;subst g;exact h.sp _ (by simp)
    .intro c g;rw [List.mem_singleton] at g;subst g;exact hv
    .rw [YO,YO,YN,YN,o]
    .rw [YO,YO,List.length_append,List.length_append];omega
    .intro N j c g;rw [List.mem_singleton] at g;subst g;exact j _ (by simp)
   | cons c m=>
    have t:=p c (by simp);have A:=i.runs.pos c (by simp)
    have n:=i.runs.head
    by_cases hj:c.lo=b.hi/\c.v=b.v
    .refine ⟨⟨b.lo,c.hi,b.v⟩::m,⟨⟨?_,List.pairwise_cons.2 ⟨?_,(List.pairwise_cons.1 i.runs.ch).2⟩⟩,?_,?_⟩,fun x y=>?_,?_,?_⟩
     .intro d f
      rcases List.mem_cons.1 f with rfl|f
      .show b.lo<c.hi;omega
      .exact i.runs.pos d (by simp [f])
     .intro d f
      have:=n d f
      unfold Rn.R at this ⊢;rw [hj.2] at this;exact this
     .intro d f
      rcases List.mem_cons.1 f with rfl|f
      .exact h.sp b (by simp)
      .exact i.sp d (by simp [f])
     .intro d f
      rcases List.mem_cons.1 f with rfl|f
      .exact hv
      .exact i.ne d (by simp [f])
     .rw [YO,YO,YN,YN, <-o,YO,YN, <-Bool.or_assoc]
      congr 1
      rw [CG,CG,CG,hj.2]
      by_cases a1:b.lo<=y <;> by_cases a2:y<c.hi <;> by_cases a3:c.lo<=y <;> by_cases a4:y<b.hi <;> simp [a1,a2,a3,a4] <;> omega
     .rw [YO,List.length_append] at u
      rw [YO,YO,List.length_append,List.length_append];have e:(K3 ⟨b.lo,c.hi,b.v⟩).length=(K3 b).length:=by unfold K3;rw [List.length_map,List.length_map]
      rw [e];omega
     .intro N j d f
      have q:=j b (by simp);rcases List.mem_cons.1 f with rfl|f
      .exact q
      .have:=p d (by simp [f]);omega
    .refine ⟨b::c::m,⟨⟨?_,List.pairwise_cons.2 ⟨?_,i.runs.ch⟩⟩,?_,?_⟩,fun x y=>?_,?_,?_⟩
     .intro d f
      rcases List.mem_cons.1 f with rfl|f
      .exact w
      .exact i.runs.pos d f
     .intro d f
      unfold Rn.R;rcases List.mem_cons.1 f with rfl|f
      .exact ⟨t,fun z B=>hj ⟨z.symm,B.symm⟩⟩
      .have:=(n d f).1
       exact ⟨by omega,fun z=>by omega⟩
     .intro d f
      rcases List.mem_cons.1 f with rfl|f
      .exact h.sp _ (by simp)
      .exact i.sp d f
     .intro d f
      rcases List.mem_cons.1 f with rfl|f
      .exact hv
      .exact i.ne d f
     .rw [YO,YO (l:=l),YN,YN,o]
     .rw [YO,YO (l:=l),List.length_append,List.length_append];omega
     .intro N j d f
      have q:=j b (by simp);rcases List.mem_cons.1 f with rfl|f
      .exact q
      .have:=p d f;omega
theorem Q0D{α:Type}[DecidableEq α]:∀ {q p:List α},q.Nodup->(∀ r ∈ q,r ∈ p)->q.length<=p.length
 | [],_,_,_=>Nat.zero_le _
 | a::q,p,h,hs=>by
  have b:a ∈ p:=hs a (by simp);have c:=List.nodup_cons.1 h
  have:=Q0D (q:=q) (p:=p.erase a) c.2 fun r d=>(List.mem_erase_of_ne (fun e=>by subst e;exact c.1 d)).2 (hs r (by simp [d]))
  rw [List.length_erase_of_mem b] at this;have:=List.length_pos_of_mem b
  rw [List.length_cons];omega
theorem xe{R p:List Rect}(hR:G3 R)(hp:∀ r ∈ p,r ∈ R):(cn (Q2 p)).length<=p.length:=by
 have i:=hR.apt;have g:∀ r ∈ R,WH r:=fun r f=>hR.pos f
 have j:R.Nodup:=by
  refine List.Pairwise.imp_of_mem (fun {a b} ha _ h e=>?_) i;subst e
  have:=g a ha
  unfold WH at this;have z:a.has a.L_ a.w_=true:=(Qh _ _ _).2 (by omega)
  exact h _ _ z z
 obtain ⟨B,q,rfl⟩:=hR
 let P:Rn (List Span)->Span->Bool:=fun b s=>decide ((⟨s.L_,b.lo,s.R_,b.hi⟩:Rect) ∈ p)
 have C:WB (B.map fun b=>⟨b.lo,b.hi,b.v.filter (P b)⟩):=by
  refine ⟨fun c l=>?_,?_,fun c l=>?_⟩
  .obtain ⟨b,o,rfl⟩:=List.mem_map.1 l
   exact q.runs.pos b o
  .rw [List.pairwise_map]
   exact q.runs.ch.imp fun h=>h.1
  .obtain ⟨b,o,rfl⟩:=List.mem_map.1 l
   have:=q.sp b o
   exact ⟨fun s A=>this.pos s (List.mem_filter.1 A).1,this.ch.filter _⟩
 obtain ⟨m,w,t,u, -⟩:=kV C;have e:∀ B:List (Rn (List Span)),flat (B.map fun b=>⟨b.lo,b.hi,b.v.filter (P b)⟩)=(flat B).filter fun r=>decide (r ∈ p):=by
  intro B
  induction B with
  | nil=>rfl
  | cons b B ih=>
   rw [List.map_cons,YO,YO,List.filter_append,ih];congr 1
   unfold K3;rw [List.filter_map];rfl
 rw [e] at t u;have n:cn (Q2 p)=flat m:=by
  refine PC w fun x y=>?_
  rw [<-w.runs.inR_flat,t];have:Q2 ((flat B).filter fun r=>decide (r ∈ p)) x y=true↔Q2 p x y=true:=by
   rw [QA,QA];constructor
   .rintro ⟨r,f,h⟩
    rw [List.mem_filter,decide_eq_true_eq] at f;exact ⟨r,f.2,h⟩
   .rintro ⟨r,f,h⟩
    exact ⟨r,by rw [List.mem_filter,decide_eq_true_eq];exact ⟨hp r f,f⟩,h⟩
  cases c:Q2 ((flat B).filter fun r=>decide (r ∈ p)) x y <;> cases d:Q2 p x y <;> simp_all
 rw [n];refine Nat.le_trans u (Q0D (j.filter _) fun r f=>?_)
 rw [List.mem_filter,decide_eq_true_eq] at f;exact f.2
theorem yC(l:List Rect):(Zt l).1.t_.length<=120:=by
 unfold Zt;split
 .simp
 .simp only;omega
theorem Z2d(a b:List Rect)(how:Int):(cn fun x y=>K2 (Q2 a x y) (Q2 b x y) how).length<=(2*a.length+2*b.length)*(a.length+b.length):=by
 have d:=vX (a:=a) (b:=b);have c:=Q2C (a:=a) (b:=b)
 exact Nat.le_trans ((vW a b how).len (N:=a.length+b.length) (by omega)) (Nat.mul_le_mul_right _ c)
theorem Q8F{R:List Rect}(hv:W6 R):∀ p ∈ Ym R,(cn (Q2 p)).length<=120:=fun p b=>by
 have e:=xe hv.2.2 (fun r c=>Hj b c);have d:=Q8I b
 have:=hv.1
 omega
theorem Cm{F:Nat}{t:Tape}(ht:TOk t){n:Int}(h1:1<=n)(h2:n<=1099511627776):∃ t' b,JX F t n=some (t',b)/\TOk t':=by
 obtain ⟨d,k,c,e,_,_⟩:=QL (F:=F) ht h1 h2;refine ⟨d,k==n-1,?_,e⟩
 unfold JX;refine Q4 c ?_
 refine Q7 (W2 (by omega) (by omega)) rfl
theorem Q4Z(t:Tape):(⟨t.l_,t.at_⟩:Tape)=t:=rfl
section
theorem qh{F:Nat}(hF:Q8<=F){a b:List Rect}(ha:a.length<=1000000)(hb:b.length<=1000000):Bv F [a,b]=some (a++b):=by
 unfold Q8 at hF;obtain ⟨m,rfl⟩:∃ m,F=m+3:=⟨F-3,by omega⟩
 have d:gl [a,b] (0:Int).toNat=a:=rfl;have c:gl [a,b] (1:Int).toNat=b:=rfl
 have k1:RB (m+3) [a,b] (((a.length:Nat):Int)+((b.length:Nat):Int))=some (a++b):=by
  unfold RB;refine Q4 (a:=[]) (by unfold Ka;rw [if_pos (by unfold Y5;omega)]) ?_
  show KM (m+3) [a,b] _ 0 []=_;unfold KM
  refine Z9 rfl ?_;rw [d]
  refine Z4 (k:=?_);refine Q7 (by simp [Y5];omega) ?_
  refine Z4 (k:=?_);show KM (m+3) [a,b] _ 1 ([]++a)=_
  unfold KM;refine Z9 rfl ?_
  rw [c];refine Z4 (k:=?_)
  refine Q7 (by simp [Y5];omega) ?_;refine Z4 (k:=?_)
  show KM (m+3) [a,b] _ 2 (([]++a)++b)=_;unfold KM
  refine Z3 rfl ?_;unfold qi
  simp
 show KN (m+3) [a,b] _ 0 0=_;unfold KN
 refine Z9 rfl ?_;rw [d]
 refine Z4 (k:=?_);refine Z4 (k:=?_)
 refine Z3 (by simp <;> omega) ?_;refine Z4 (k:=?_)
 show KN (m+3) [a,b] _ (0+((a.length:Nat):Int)) 1=_;unfold KN
 refine Z9 rfl ?_;rw [c]
 refine Z4 (k:=?_);refine Z4 (k:=?_)
 refine Z3 (by simp <;> omega) ?_;refine Z4 (k:=?_)
 show KN (m+3) [a,b] _ (0+((a.length:Nat):Int)+((b.length:Nat):Int)) 2=_;unfold KN
 refine Z3 rfl ?_;rw [Int.zero_add]
 exact k1
def zs(k:Int):Int:=if 0<=k/\k<=7 then 0 else if 8<=k/\k<=11 then 1 else 2
theorem Q3Z(F:Nat)(k:Int):Mx F k=some (zs k):=by
 have l:Vn F k true=some 0:=rfl;have j:Jn F true=some 1:=rfl
 have m:Jn F false=some 2:=rfl;have e:∀ n:Int,(k==n)=decide (k=n):=fun n=>by rw [Bool.eq_iff_iff];simp
 unfold Mx;simp only [e]
 by_cases h:0<=k/\k<=7
 .have f:zs k=0:=by unfold zs;rw [if_pos h]
  rw [f];have b:∀ {n:Int} {x:Option Int},(k≠n->x=some 0)->br (decide (k=n)) (Vn F k (decide (k=n))) x=some 0:=fun {n x} hx=>by
   refine Q6 (fun d=>by rw [d];exact l) (fun d=>hx (by simpa using d))
  refine b fun q=>b fun o=>b fun p=>b fun u=>b fun s=>b fun t=>b fun v=>?_
  rw [show decide (k=7)=true by rw [decide_eq_true_eq];omega];exact l
 .have c:∀ n:Int,0<=n->n<=7->decide (k=n)=false:=fun n r g=>by rw [decide_eq_false_iff_not];omega
  rw [c 0 (by omega) (by omega),c 1 (by omega) (by omega),c 2 (by omega) (by omega),c 3 (by omega) (by omega),c 4 (by omega) (by omega),c 5 (by omega) (by omega),c 6 (by omega) (by omega),c 7 (by omega) (by omega)];simp only [br]
  unfold Vn;simp only [br,e]
  by_cases g:8<=k/\k<=11
  .have f:zs k=1:=by unfold zs;rw [if_neg h,if_pos g]
   rw [f];have b:∀ {n:Int} {x:Option Int},(k≠n->x=some 1)->br (decide (k=n)) (Jn F (decide (k=n))) x=some 1:=fun {n x} hx=>by
    refine Q6 (fun d=>by rw [d];exact j) (fun d=>hx (by simpa using d))
   refine b fun q=>b fun o=>b fun p=>?_
   rw [show decide (k=11)=true by rw [decide_eq_true_eq];omega];exact j
  .have f:zs k=2:=by unfold zs;rw [if_neg h,if_neg g]
   rw [f];have i:∀ n:Int,8<=n->n<=11->decide (k=n)=false:=fun n r g=>by rw [decide_eq_false_iff_not];omega
   rw [i 8 (by omega) (by omega),i 9 (by omega) (by omega),i 10 (by omega) (by omega),i 11 (by omega) (by omega)];exact m
def zp(w:Int)(k:Int):Bool:=zs k==w
theorem xW(F:Nat)(k w:Int):My F k w=some (zp w k):=by
 unfold My;exact Q4 (Q3Z F k) rfl
structure LB (n:Nat) (L:List A2_):Prop where
 vl:VL L
 box:∀ f ∈ L,Qw n f.g_.t_
 n15:n<=15
theorem Q1w{l:List Rect}(hc:G3 l){n:Nat}(hb:Qw n l)(hn:n<=15):l.length<=120:=by
 have c:=hc.half hb;have b:n*((n+1) / 2)<=15*8:=Nat.mul_le_mul hn (by omega)
 omega
theorem Be{S:Int->Int->Bool}(hf:z8 S){n:Nat}(hn:n<=15)(hb:∀ x y,S x y=true->0<=x/\x<n/\0<=y/\y<n):W6 (cn S)/\Qw n (cn S):=by
 have h:=xn (n:=(n:Int)) hf hb;exact ⟨⟨Q1w (G3.cn hf) h hn,h.prop (by omega),G3.cn hf⟩,h⟩
variable {F n:Nat} {L:List A2_} {d:Int}
theorem LB.rbox(hL:LB n L)(d:Int)(p:Int->Bool):Qw n (W8 L d p):=fun r b=>by
 obtain ⟨f,c,b⟩:=yp b;exact hL.box f c r b
theorem LB.rval(hL:LB n L)(d:Int)(p:Int->Bool):W6 (cn (Q2 (W8 L d p)))/\Qw n (cn (Q2 (W8 L d p))):=Be (V8 _) hL.n15 fun x y h=>(hL.rbox d p).in h
theorem xV(hF:Q8<=F)(hL:LB n L)(d w:Int):Kv F L d w=some (⟨cn (Q2 (W8 L d (zp w)))⟩,0):=by
 have c:=hL.vl.len;unfold Kv
 refine Q4 (vG hF (by omega) (fun f b=>hL.vl.rlen b) d (zp w) (fun f _=>xW F f.k_ w)) ?_;have g:=Q8t (L:=L) (fun f b=>hL.vl.rlen b) d (zp w)
 refine Q4 (JE hF (by omega) fun r e=>?_) ?_
 .have:=hL.rbox d (zp w) r e
  omega
 .have:=(hL.rval d (zp w)).1.1
  rw [if_neg (by omega)]
theorem Kw(hF:Q8<=F)(hv:VL L)(d1:0<=d)(d2:d<=36864){a:Re_}(ha:W6 a.t_){m:Int}(m1:0<=m)(m2:m<=268435456):Jo F L d m a=some 0:=by
 unfold Jo;refine Q4 (vI hF L d) ?_
 rw [if_neg (by simp [(PE L).2 hv]),if_neg (by omega)];refine Z3 rfl ?_
 refine Q4 (Uk hF a) ?_;rw [WJ ha]
 refine Z3 rfl ?_;refine Z3 (by rw [decide_eq_false_iff_not];omega) ?_
 rw [show decide ((268435456:Int)<m)=false by rw [decide_eq_false_iff_not];omega];rfl
theorem Q4g(hF:Q8<=F)(hL:LB n L)(d1:0<=d)(d2:d<=36864):Kx F L d=some (⟨cn (Q2 (W8 L d (zp 0)))⟩,0):=by
 unfold Kx;refine Q4 (Kw hF hL.vl d1 d2 W6.nil (by omega) (by omega)) ?_
 refine Z3 rfl ?_;exact Q4 (xV hF hL d 0) rfl
noncomputable def QQ(L:List A2_)(d:Int)(a:List Rect):List Rect:=cn fun x y=>Q2 (W8 L d (zp 1)) x y&&Q2 a x y
noncomputable def Wp(L:List A2_)(d m:Int)(a:List Rect):List Rect:=((Ym (QQ L d a)).filter fun p=>decide (m<area p)).flatten
theorem CW(a b:List Rect):z8 fun x y=>Q2 a x y&&Q2 b x y:=Ve a b 2
theorem kZ(hL:LB n L)(d:Int)(a:List Rect):W6 (QQ L d a)/\Qw n (QQ L d a):=Be (CW _ _) hL.n15 fun x y h=>(hL.rbox d (zp 1)).in (Bool.and_eq_true _ _ ▸ h).1
theorem LW{m:Int}{a:List Rect}{r:Rect}(h:r ∈ Wp L d m a):r ∈ QQ L d a:=by
 obtain ⟨p,b,c⟩:=List.mem_flatten.1 h;exact Hj (List.mem_filter.1 b).1 c
theorem gb(hL:LB n L)(d m:Int)(a:List Rect):Qw n (Wp L d m a):=fun r b=>(kZ hL d a).2 r (LW b)
theorem ga(hL:LB n L)(d m:Int)(a:List Rect):W6 (cn (Q2 (Wp L d m a)))/\Qw n (cn (Q2 (Wp L d m a))):=Be (V8 _) hL.n15 fun x y h=>(gb hL d m a).in h
theorem vx{p:List Rect->Bool}:∀ Q:List (List Rect),(Q.filter p).flatten.length<=Q.flatten.length
 | []=>Nat.le_refl _
 | q::Q=>by
  have:=vx (p:=p) Q
  rw [List.filter_cons,List.flatten_cons,List.length_append];split
  .rw [List.flatten_cons,List.length_append];omega
  .omega
theorem Q4c(hF:Q8<=F)(hL:LB n L)(d1:0<=d)(d2:d<=36864){a:Re_}(ha:W6 a.t_){m:Int}(m1:0<=m)(m2:m<=268435456):VM F L d m a=some (⟨cn (Q2 (Wp L d m a.t_))⟩,0):=by
 have f:=hF;unfold Q8 at hF
 have B:=kZ hL d a.t_;have s:=B.1.1
 have J:=ha.1;have G:=hL.rval d (zp 1)
 have T:=G.1.1;unfold VM
 refine Q4 (Kw f hL.vl d1 d2 ha m1 m2) ?_;refine Z3 rfl ?_
 refine Q4 (xV f hL d 1) ?_;refine Z3 rfl ?_
 refine Q4 (Xw f (by omega) (fun r c=>(G.1.2.2.pos c).1) (fun r c=>(ha.2.2.pos c).1) (k:=fun u v=>u&&v) rfl (fun u v=>by cases u <;> cases v <;> rfl)) ?_;have e:(cn fun x y=>Q2 (cn (Q2 (W8 L d (zp 1)))) x y&&Q2 a.t_ x y)=QQ L d a.t_:=by
  unfold QQ;congr 1
  funext x y
  rw [y8 (V8 _)]
 rw [e];refine Z3 (by rw [decide_eq_false_iff_not];omega) ?_
 have N:=(Gx (QQ L d a.t_)).length_eq;refine J4 (fun z:List Rect×List Rect=>∃ (k:Nat) (Q:List (List Rect)),Q++Ww k z.1=Ym (QQ L d a.t_)/\z.1.length<=k/\z.1.length<=120/\z.2=(Q.filter fun p=>decide (m<area p)).flatten/\∀ r ∈ z.1,r ∈ QQ L d a.t_) (fun z=>z.1.length) (fun i z O H=>?_) ⟨_,[],rfl,Nat.le_refl _,s,rfl,fun _ h=>h⟩ (by simp only;omega)
 obtain ⟨l,M⟩:=z;obtain ⟨k,Q,j,D,E,rfl,t⟩:=O
 simp only at j D E t H ⊢;have I:Q.flatten.length<=120:=by
  have:=congrArg (fun q=>(List.flatten q).length) j
  simp only [List.flatten_append,List.length_append] at this;omega
 have S:=vx (p:=fun p=>decide (m<area p)) Q;unfold MA
 cases l with
 | nil=>
  refine Z3 (by simp) ?_;unfold Mz
  have K:Ww k []=[]:=by cases k <;> rfl
  rw [K,List.append_nil] at j;subst j
  refine Q4 (JE f (by omega) fun r c=>?_) ?_
  .have:=gb hL d m a.t_ r c
   omega
  .have:=(ga hL d m a.t_).1.1
   unfold Wp at this;rw [if_neg (by omega)];rfl
 | cons b l=>
  refine Z9 (by simp) ?_;refine Q4 (jj f (by simp) (by omega) (fun r c=>Ri (B.1.2.1 r (t r c)))) ?_
  cases k with
  | zero=>simp at D
  | succ k=>
  simp only [Ww] at j;have w:=CC b l
  have A:=w.perm.length_eq;simp only [List.length_append,List.length_cons,List.length_nil] at A D E
  have V:∀ r ∈ (YM (b::l)).1,r ∈ QQ L d a.t_:=fun r c=>t r (w.perm.mem_iff.1 (List.mem_append.2 (.inl c)))
  have U:1<=(YM (b::l)).1.length:=by
   have:=w.lens.1
   exact List.length_pos_iff.2 this
  refine Q4 (qI f (by omega) fun r c=>B.1.2.1 r (V r c)) ?_;have g:∀ o,o=(((Q++[(YM (b::l)).1])).filter fun p=>decide (m<area p)).flatten->i ((YM (b::l)).2,o)=some (⟨cn (Q2 (Wp L d m a.t_))⟩,0):=fun o P=>by
   refine H _ ⟨k,Q++[(YM (b::l)).1],by rw [<-j,List.append_assoc];rfl,by simp only;omega,by simp only;omega,P,fun r c=>t r (w.perm.mem_iff.1 (List.mem_append.2 (.inr c)))⟩ (by simp only [List.length_cons];omega)
  refine Q6 (fun C=>?_) (fun C=>?_)
  .refine Q7 (by simp only [Y5];omega) ?_
   refine g _ ?_;rw [List.filter_append,List.filter_cons,C];simp
  .refine g _ ?_
   rw [List.filter_append,List.filter_cons,C];simp
noncomputable def Vh(L:List A2_)(d m:Int)(a:List Rect)(x y:Int):Bool:=Q2 a x y && !(Q2 (W8 L d (zp 0)) x y||Q2 (Wp L d m a) x y)
theorem vD(L:List A2_)(d m:Int)(a:List Rect):z8 (Vh L d m a):=by
 have:=Pt a (W8 L d (zp 0)++Wp L d m a)
 simp only [YN] at this;exact this
end
section
theorem Q8Y{a b:Re_}(ha:W6 a.t_)(hb:W6 b.t_)(h:∀ x y,Q2 a.t_ x y=true->Q2 b.t_ x y=true->False):QV a b=false:=by
 rw [<-Bool.not_eq_true];intro c
 unfold QV at c;rw [WJ ha,WJ hb,Bool.true_and,Bool.true_and,TJ ha.2.1 hb.2.1] at c
 obtain ⟨x,y,f,e⟩:=c;exact h x y f e
theorem LayT.lb{L:List A2_}(h:LayT L):LB 9 L:=⟨h.vl,fun f b=>(h.fea f b).1.reg.box,by omega⟩
variable {F n:Nat} {L:List A2_} {d:Int}
end
section
variable {F n:Nat} {L:List A2_} {d:Int}
theorem bg(F:Nat)(f:A2_)(d:Int):Tf F f d=some (WW f d):=by
 unfold Tf WW
 cases decide (f.F_<=d) <;> rfl
def Qa(lo hi:Int)(k:Int):Bool:=decide (lo<=k)&&decide (k<=hi)
theorem Q0l(A B:List A2_)(d:Int)(p:Int->Bool):W8 (A++B) d p=W8 A d p++W8 B d p:=by simp [W8]
theorem Z2u(k:Int):Qa k k=fun x=>x==k:=by
 funext x
 unfold Qa;rw [Bool.eq_iff_iff]
 simp
 omega
theorem Q8a(hF:Q8<=F)(hL:LB n L)(lo hi d:Int):JP F L lo hi d=some (cn (Q2 (W8 L d (Qa lo hi)))):=by
 have t:=hF;unfold Q8 at hF
 have v:=hL.vl.len;have s:∀ i,(cn (Q2 (W8 (L.take i) d (Qa lo hi)))).length<=120:=fun i=>by
  refine Q1w (G3.cn (V8 _)) (xn (n:=(n:Int)) (V8 _) fun x y h=>?_) hL.n15;have m:Qw n (W8 (L.take i) d (Qa lo hi)):=fun r p=>by
   obtain ⟨f,w,p⟩:=yp p;exact hL.box f (List.mem_of_mem_take w) r p
  exact m.in h
 unfold JP;refine J4 (fun z:List Rect×Int=>∃ i:Nat,z=(cn (Q2 (W8 (L.take i) d (Qa lo hi))),(i:Int))/\i<=L.length) (fun z=>L.length-z.2.toNat) (fun g z D u=>?_) ⟨0,?_,Nat.zero_le _⟩ (by simp;omega)
 .obtain ⟨i,rfl,A⟩:=D
  simp only at u ⊢;unfold zE
  refine Q6 (fun h=>?_) (fun h=>?_)
  .have h:i<L.length:=by simpa using h
   have E:=hL.vl.rlen (V4 h);have e:W8 (L.take (i+1)) d (Qa lo hi)=W8 (L.take i) d (Qa lo hi)++(if (WW (gl L i) d&&Qa lo hi (gl L i).k_)=true then (gl L i).g_.t_ else []):=by
    rw [QD h,Q0l,XV];congr 1
    rw [show W8 [] d (Qa lo hi)=[] from rfl,List.append_nil]
   have q:∀ b,b=(WW (gl L i) d&&Qa lo hi (gl L i).k_)->JO F L (cn (Q2 (W8 (L.take i) d (Qa lo hi)))) (i:Int) g b=some (cn (Q2 (W8 L d (Qa lo hi)))):=fun b m=>by
    have c:∀ o,o=cn (Q2 (W8 (L.take (i+1)) d (Qa lo hi)))->Gr F (i:Int) g o=some (cn (Q2 (W8 L d (Qa lo hi)))):=fun o B=>by
     unfold Gr;refine Z4 (k:=?_)
     exact u _ ⟨i+1,by rw [B];simp,h⟩ (by simp only;omega)
    unfold JO;refine Q6 (fun j=>?_) (fun j=>?_)
    .simp only [Int.toNat_natCast]
     have:=s i
     refine Q4 (Gt t (by omega)) ?_;refine c _ ?_
     rw [e, <-m,j,if_pos rfl];congr 1
     funext x y
     rw [YN,y8 (V8 _)];rfl
    .refine c _ ?_
     rw [e, <-m,j,if_neg (by simp),List.append_nil]
   refine Z4 (k:=?_);simp only [Int.toNat_natCast]
   refine Q4 (bg F _ d) ?_;refine Q6 (fun l=>Q6 (fun j=>q _ ?_) (fun j=>q _ ?_)) (fun l=>q _ ?_)
   .rw [l];unfold Qa;rw [j];rfl
   .rw [l];unfold Qa;rw [j];rfl
   .rw [l];rfl
  .have h:¬ i<L.length:=by simpa using h
   unfold Th;rw [List.take_of_length_le (by omega)]
 .have C:W8 (L.take 0) d (Qa lo hi)=[]:=rfl
  rw [C,(PB (V8 [])).2 fun x y=>rfl];rfl
end
section
variable {F:Nat}
end
section
variable {F n:Nat} {L:List A2_} {d:Int}
end
section
structure LF6 (L:List A2_):Prop where
 vl:VL L
 tot:∀ (M:List A2_) d p,(∃ i,M=L.take i)->(W8 M d p).length<=300
variable {F:Nat} {L:List A2_} {d:Int}
theorem xq:∀ {l:List Int},Yl l->∀ {lo hi:Int},(∀ v ∈ l,lo<=v/\v<=hi)->lo<=hi+1->(l.length:Int)<=hi+1-lo
 | [],_,lo,hi,_,h=>by simp;omega
 | a::l,h,lo,hi,hb,h2=>by
  have c:=List.pairwise_cons.1 h;have e:=hb a (by simp)
  have:=xq (l:=l) c.2 (lo:=a+1) (hi:=hi) (fun v b=>by have:=c.1 v b;have:=hb v (by simp [b]);omega) (by omega)
  rw [List.length_cons];omega
theorem JR(hF:Q8<=F){a b:List Rect}{how:Int}(ha:a.length<=200000)(hb:b.length<=200000)(pa:∀ r ∈ a,Qg r=true)(pb:∀ r ∈ b,Qg r=true):G5 F a b how=some (cn fun x y=>K2 (Q2 a x y) (Q2 b x y) how):=by
 refine Q0a hF ha hb ?_ ?_
 .have:=xq (Uc b (Uc a (f:=Rect.L_) (g:=Rect.R_) .nil)) (lo:=0) (hi:=16384) (fun v e=>by
   rcases (ZI b _ _).1 e with h|⟨r,c,h⟩
   .rcases (ZI a _ _).1 h with h|⟨r,c,h⟩
    .cases h
    .have h:v=r.L_\/v=r.R_:=h
     have:=(ZW r).1 (pa r c);omega
   .have h:v=r.L_\/v=r.R_:=h
    have:=(ZW r).1 (pb r c);omega) (by omega)
  unfold Zb;omega
 .have:=xq (Uc b (Uc a (f:=Rect.w_) (g:=Rect.H_) .nil)) (lo:=0) (hi:=16384) (fun v e=>by
   rcases (ZI b _ _).1 e with h|⟨r,c,h⟩
   .rcases (ZI a _ _).1 h with h|⟨r,c,h⟩
    .cases h
    .have h:v=r.w_\/v=r.H_:=h
     have:=(ZW r).1 (pa r c);omega
   .have h:v=r.w_\/v=r.H_:=h
    have:=(ZW r).1 (pb r c);omega) (by omega)
  unfold ZA;omega
theorem HF{l:List Rect}(hc:G3 l){a:List Rect}(ha:∀ r ∈ a,Qg r=true)(hs:∀ x y,Q2 l x y=true->Q2 a x y=true):∀ r ∈ l,Qg r=true:=by
 have b:Qw (16384:Int) l:=hc.box fun x y h=>by
  obtain ⟨r,e,c⟩:=(QA _ _ _).1 (hs x y h);have:=(ZW r).1 (ha r e)
  rw [Qh] at c;omega
 exact b.prop (by omega)
theorem LF6.all(h:LF6 L)(d:Int)(p:Int->Bool):(W8 L d p).length<=300:=h.tot L d p ⟨L.length,by simp⟩
theorem LF6.prop(h:VL L)(d:Int)(p:Int->Bool):∀ r ∈ W8 L d p,Qg r=true:=fun r b=>by
 obtain ⟨f,c,b⟩:=yp b;exact ((XW f).1 (h.one f c)).2.2.2.2.2.2.2.2.2.1 r b
theorem Q3X:zp 0=Qa 0 7:=by
 funext k
 unfold zp zs Qa;rw [Bool.eq_iff_iff]
 simp only [beq_iff_eq,Bool.and_eq_true,decide_eq_true_eq];split
 .simpa
 .split <;> simp <;> omega
theorem Q3W:zp 1=Qa 8 11:=by
 funext k
 unfold zp zs Qa;rw [Bool.eq_iff_iff]
 simp only [beq_iff_eq,Bool.and_eq_true,decide_eq_true_eq];split
 .simp;omega
 .split <;> simp <;> omega
theorem bk(hF:Q8<=F)(hL:LF6 L)(lo hi d:Int):JP F L lo hi d=some (cn (Q2 (W8 L d (Qa lo hi)))):=by
 have t:=hF;unfold Q8 at hF
 have A:=hL.vl.len;have s:∀ i,(cn (Q2 (W8 (L.take i) d (Qa lo hi)))).length<=180000:=fun i=>by
  have l:=hL.tot (L.take i) d (Qa lo hi) ⟨i,rfl⟩;have j:=xf (W8 (L.take i) d (Qa lo hi))
  have u:2*(W8 (L.take i) d (Qa lo hi)).length*(W8 (L.take i) d (Qa lo hi)).length<=(2*300)*300:=Nat.mul_le_mul (by omega) (by omega);omega
 unfold JP;refine J4 (fun z:List Rect×Int=>∃ i:Nat,z=(cn (Q2 (W8 (L.take i) d (Qa lo hi))),(i:Int))/\i<=L.length) (fun z=>L.length-z.2.toNat) (fun g z E w=>?_) ⟨0,?_,Nat.zero_le _⟩ (by simp;omega)
 .obtain ⟨i,rfl,B⟩:=E
  simp only at w ⊢;unfold zE
  refine Q6 (fun h=>?_) (fun h=>?_)
  .have h:i<L.length:=by simpa using h
   have G:=hL.vl.rlen (V4 h);have e:W8 (L.take (i+1)) d (Qa lo hi)=W8 (L.take i) d (Qa lo hi)++(if (WW (gl L i) d&&Qa lo hi (gl L i).k_)=true then (gl L i).g_.t_ else []):=by
    rw [QD h,Q0l,XV];congr 1
    rw [show W8 [] d (Qa lo hi)=[] from rfl,List.append_nil]
   have q:∀ b,b=(WW (gl L i) d&&Qa lo hi (gl L i).k_)->JO F L (cn (Q2 (W8 (L.take i) d (Qa lo hi)))) (i:Int) g b=some (cn (Q2 (W8 L d (Qa lo hi)))):=fun b v=>by
    have c:∀ o,o=cn (Q2 (W8 (L.take (i+1)) d (Qa lo hi)))->Gr F (i:Int) g o=some (cn (Q2 (W8 L d (Qa lo hi)))):=fun o C=>by
     unfold Gr;refine Z4 (k:=?_)
     exact w _ ⟨i+1,by rw [C];simp,h⟩ (by simp only;omega)
    unfold JO;refine Q6 (fun j=>?_) (fun j=>?_)
    .simp only [Int.toNat_natCast]
     have:=s i
     refine Q4 (JR t (by omega) (by omega) (HF (a:=W8 L d (Qa lo hi)) (G3.cn (V8 _)) (LF6.prop hL.vl d (Qa lo hi)) fun x y h=>?_) ((XW _).1 (hL.vl.one _ (V4 h))).2.2.2.2.2.2.2.2.2.1) ?_
     .rw [y8 (V8 _)] at h
      obtain ⟨r,m,u⟩:=(QA _ _ _).1 h;refine Wy ?_ u
      unfold W8 at m ⊢;obtain ⟨f,p,m⟩:=List.mem_flatMap.1 m
      rw [List.mem_filter] at p;exact List.mem_flatMap.2 ⟨f,List.mem_filter.2 ⟨List.mem_of_mem_take p.1,p.2⟩,m⟩
     refine c _ ?_;rw [e, <-v,j,if_pos rfl]
     congr 1
     funext x y
     rw [YN,y8 (V8 _)];rfl
    .refine c _ ?_
     rw [e, <-v,j,if_neg (by simp),List.append_nil]
   refine Z4 (k:=?_);simp only [Int.toNat_natCast]
   refine Q4 (bg F _ d) ?_;refine Q6 (fun l=>Q6 (fun j=>q _ ?_) (fun j=>q _ ?_)) (fun l=>q _ ?_)
   .rw [l];unfold Qa;rw [j];rfl
   .rw [l];unfold Qa;rw [j];rfl
   .rw [l];rfl
  .have h:¬ i<L.length:=by simpa using h
   unfold Th;rw [List.take_of_length_le (by omega)]
 .have D:W8 (L.take 0) d (Qa lo hi)=[]:=rfl
  rw [D,(PB (V8 [])).2 fun x y=>rfl];rfl
theorem Lf(hF:Q8<=F)(hL:LF6 L)(d w:Int):Kv F L d w=some (Zt (cn (Q2 (W8 L d (zp w))))):=by
 have b:=hL.vl.len;unfold Kv
 refine Q4 (vG hF (by omega) (fun f c=>hL.vl.rlen c) d (zp w) (fun f _=>xW F f.k_ w)) ?_;have g:=hL.all d (zp w)
 refine Q4 (JE hF (by omega) fun r e=>?_) rfl;have:=(ZW r).1 (LF6.prop hL.vl d (zp w) r e)
 omega
noncomputable def Wn(L:List A2_)(d:Int):Int:=if QF L≠0 then QF L else if d<0\/36864<d then 9 else 0
theorem XL(hF:Q8<=F)(L:List A2_)(d:Int):XM F L d=some (Wn L d):=by
 unfold XM Wn;refine Q4 (zG hF L) ?_
 by_cases h:QF L=0
 .rw [h,if_neg (by simp)]
  refine Z3 rfl ?_
  by_cases h1:d<0
  .rw [if_pos (.inl h1)]
   exact Z9 (by simpa using h1) rfl
  .refine Z3 (by simpa using h1) ?_
   by_cases h2:36864<d
   .rw [if_pos (.inr h2),decide_eq_true h2];rfl
   .rw [if_neg (by omega),decide_eq_false h2];rfl
 .rw [if_pos h]
  exact Z9 (by simpa using h) rfl
theorem xo{L:List A2_}{d:Int}(h:Wn L d=0):VL L/\0<=d/\d<=36864:=by
 unfold Wn at h
 by_cases h1:QF L=0
 .rw [if_neg (by simp [h1])] at h
  refine ⟨(PE L).1 h1,?_⟩;split at h
  .cases h
  .omega
 .rw [if_pos h1] at h;exact absurd h h1
noncomputable def WC(L:List A2_)(d m:Int)(a:Re_):Int:=if Wn L d≠0 then Wn L d else if G9 a.t_=false then 7 else if m<0\/268435456<m then 2 else 0
theorem Li(hF:Q8<=F)(L:List A2_)(d m:Int)(a:Re_):Jo F L d m a=some (WC L d m a):=by
 unfold Jo WC;refine Q4 (vI hF L d) ?_
 have e:(if QF L≠0 then (([]:List A2_),QF L) else if d<0\/36864<d then ([],9) else (L.filter fun f=>WW f d,0)).2=Wn L d:=by
  unfold Wn;split
  .rfl
  .split <;> rfl
 rw [e]
 by_cases h:Wn L d=0
 .rw [h,if_neg (by simp)]
  refine Z3 rfl ?_;refine Q4 (Uk hF a) ?_
  cases hv:G9 a.t_ with
  | false=>rfl
  | true=>
   rw [if_neg (by simp)];refine Z3 rfl ?_
   by_cases h1:m<0
   .rw [if_pos (.inl h1)]
    exact Z9 (by simpa using h1) rfl
   .refine Z3 (by simpa using h1) ?_
    by_cases h2:268435456<m
    .rw [if_pos (.inr h2),decide_eq_true h2];rfl
    .rw [if_neg (by omega),decide_eq_false h2];rfl
 .rw [if_pos h]
  exact Z9 (by simpa using h) rfl
theorem Z0E(hF:Q8<=F)(hL:VL L->LF6 L)(d:Int):∃ v,Kx F L d=some v/\DE F L d=some v/\v.1.t_.length<=120/\(Wn L d=0->v=Zt (cn (Q2 (W8 L d (zp 0))))):=by
 by_cases h:Wn L d=0
 .obtain ⟨b,d1,e⟩:=xo h
  refine ⟨Zt (cn (Q2 (W8 L d (zp 0)))),?_,?_,yC _,fun _=>rfl⟩
  .unfold Kx
   refine Q4 (Kw hF b d1 e W6.nil (by omega) (by omega)) ?_;refine Z3 rfl ?_
   exact Q4 (Lf hF (hL b) d 0) rfl
  .unfold DE
   refine Q4 (XL hF L d) ?_;rw [h]
   refine Z3 rfl ?_;refine Q4 (bk hF (hL b) 0 7 d) ?_
   rw [<-Q3X];exact Q4 (Tv _) rfl
 .refine ⟨(⟨[]⟩,Wn L d),?_,?_,by simp,fun c=>absurd c h⟩
  .unfold Kx
   refine Q4 (Li hF L d 0 ⟨[]⟩) ?_;unfold WC
   rw [if_pos h];exact Z9 (by simpa using h) rfl
  .unfold DE
   refine Q4 (XL hF L d) ?_;exact Z9 (by simpa using h) rfl
end
end
end Go.Ab
