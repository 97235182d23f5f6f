/- What the plain programs compute, up to the law itself. -/
import Derived.Test.YtgfmopdbhjcpfaaGreatPuB
set_option linter.unusedVariables false
set_option linter.unusedSimpArgs false
set_option maxRecDepth 20000
namespace Go.Ab
noncomputable section
def put:List Int->Int->List Int
 | [],n=>[n]
 | a::l,n=>if a<n then a::put l n else if a=n then a::l else n::a::l
theorem W2K (n:Int) (l:List Int) (i:Nat) (h:i<l.length) (hlt:gl l i<n):put (l.drop i) n=gl l i::put (l.drop (i+1)) n:=by
 rw [Q1F h,put,if_pos hlt]
theorem Z1n {F:Nat} (hF:BIG<=F) {l:List Int} (hl:l.length<=1048576) (n:Int):Q8W F l n=some (put l n):=by
 unfold BIG at hF;unfold Q8W
 refine Y7 (fun z:Int=>∃ i:Nat,z=i/\i<=l.length/\put l n=l.take i++put (l.drop i) n) (fun z=>l.length-z.toNat) (fun d z f g=>?_) ⟨0,rfl,by simp,by simp⟩ (by simp;omega);obtain ⟨i,rfl,j,b⟩:=f
 have k2:(∀ h:i<l.length,n<=gl l i)->Z1o F l n (i:Int)=some (put l n):=by
  intro c;unfold Z1o
  refine Q9 (fun h=>?_) (fun h=>?_)
  ·have h:i<l.length:=by simpa using h
   have c:=c h;refine Z4 (k:=?_)
   unfold Q8c;rw [Q1F h,put] at b
   refine Q9 (fun a=>?_) (fun a=>?_)
   ·have a:gl l i=n:=by simpa using a
    rw [b,if_neg (by omega),if_pos a, <-Q1F h,List.take_append_drop]
   ·have a:gl l i≠n:=by simpa using a
    repeat (refine Z4 (k:=?_))
    rw [b,if_neg (by omega),if_neg a, <-Q1F h];simp
  ·have h:¬ i<l.length:=by simpa using h
   unfold Q8c;refine Q8 rfl ?_
   repeat (refine Z4 (k:=?_))
   have:i=l.length:=by omega
   subst this;simp [put] at b
   simp [b]
 unfold Z9o;refine Q9 (fun h=>?_) (fun h=>?_)
 ·have h:i<l.length:=by simpa using h
  refine Z4 (k:=?_);unfold Q8d
  refine Q9 (fun a=>?_) (fun a=>?_)
  ·have a:gl l i<n:=by simpa using a
   refine Z4 (k:=?_);refine g _ ⟨i+1,by omega,h,?_⟩ (by omega)
   rw [b,W2K n l i h a,J8 h,List.append_assoc];rfl
  ·exact k2 fun _=>by simpa using a
 ·unfold Q8d
  exact Q8 rfl (k2 fun e=>absurd e (by simpa using h))
def Q2F (r:Rect):Bool:=decide (0<=r.L_)&&(decide (r.L_<r.R_)&&(decide (r.R_<=16384)&&(decide (0<=r.w_)&&(decide (r.w_<r.H_)&&decide (r.H_<=16384)))))
theorem Q0f (r:Rect):Q2F r=true↔0<=r.L_/\r.L_<r.R_/\r.R_<=16384/\0<=r.w_/\r.w_<r.H_/\r.H_<=16384:=by simp [Q2F]
theorem Z5e (F:Nat) (r:Rect):Q5K F r=some (Q2F r):=by
 unfold Q5K;rw [Q3W (J3 F),Q3W (J3 F),Q3W (J3 F),Q3W (J3 F),Q3W (J3 F)]
 rfl
def Q0u (a b:Bool) (how:Int):Bool:=if how=1 then a||b else if how=2 then a&&b else a && !b
theorem Y3A (F:Nat) (a b:Bool) (how:Int):Z4t F a b how=some (Q0u a b how):=by
 unfold Z4t Q0u;rw [W0E,W0E]
 by_cases h1:how=1
 ·subst h1;cases a <;> cases b <;> rfl
 ·by_cases h2:how=2
  ·subst h2;cases a <;> cases b <;> rfl
  ·have c:(how==1)=false:=by simpa using h1
   have d:(how==2)=false:=by simpa using h2
   rw [c,d,if_neg h1,if_neg h2]
   cases a <;> cases b <;> rfl
theorem Z5f {F:Nat} (hF:BIG<=F) {l:List Rect} (hl:l.length<=LIM) (x y:Int):Q7Y F l x y=some (inR l x y):=by
 unfold BIG at hF;unfold LIM at hl
 unfold Q7Y;refine Y5I (l:=l) (fun m=>some (inR m x y)) (fun a i c d=>?_) (fun a=>?_) (by omega)
 ·unfold Z0A
  refine Z5 (Z0B c) ?_;refine Z4 (k:=?_)
  rw [Q3W (Q0m F i a),Q3W (Q0m F i a),Q3W (Q0m F i a)];unfold Q0m
  have e:inR (gl l i::l.drop (i+1)) x y=((gl l i).has x y||inR (l.drop (i+1)) x y):=rfl;rw [e]
  have b:(decide ((gl l i).L_<=x)&&(decide (x<(gl l i).R_)&&(decide ((gl l i).w_<=y)&&decide (y<(gl l i).H_))))=(gl l i).has x y:=by
   simp only [Rect.has,Bool.and_assoc]
  show br (decide ((gl l i).L_<=x)&&(decide (x<(gl l i).R_)&&(decide ((gl l i).w_<=y)&&decide (y<(gl l i).H_)))) _ _=_;rw [b]
  refine Q9 (fun h=>by rw [h];rfl) (fun h=>?_);refine Z4 (k:=?_)
  rw [d,h,Bool.false_or]
 ·unfold Z0A
  exact Q8 (Q2R _) rfl
def Z5M:List Rect->List Rect->Bool
 | [],[]=>true
 | a::l,b::m=>(a.L_==b.L_&&a.R_==b.R_)&&Z5M l m
 | _,_=>false
theorem Y3W:∀ {l m:List Rect},Z5M l m=true->l.length=m.length
 | [],[],_=>rfl
 | [],_::_,h=>by cases h
 | _::_,[],h=>by cases h
 | a::l,b::m,h=>by
  simp only [Z5M,Bool.and_eq_true] at h;simp [Y3W h.2]
theorem Y6N:∀ (l m:List Rect),l.length=m.length->∀ i,i<=l.length->Z5M (l.drop i) (m.drop i)=if h:i<l.length then (((gl l i).L_==(gl m i).L_&&(gl l i).R_==(gl m i).R_)&&Z5M (l.drop (i+1)) (m.drop (i+1))) else true:=by
 intro l m h i b;split
 ·rename_i a
  rw [Q1F a,Q1F (l:=m) (by omega)];rfl
 ·have:i=l.length:=by omega
  rw [List.drop_of_length_le (by omega),List.drop_of_length_le (by omega)];rfl
theorem Y3z {F:Nat} (hF:BIG<=F) {l m:List Rect} (hl:l.length<=LIM):Z4s F l m=some (Z5M l m):=by
 unfold BIG at hF;unfold LIM at hl
 unfold Z4s;refine Q9 (fun h=>?_) (fun h=>?_)
 ·have h:l.length≠m.length:=by simp at h;omega
  cases hs:Z5M l m with
  | false=>rfl
  | true=>exact absurd (Y3W hs) h
 ·have h:l.length=m.length:=by simp at h;omega
  refine Y7 (fun z:Int=>∃ i:Nat,z=i/\i<=l.length/\Z5M l m=Z5M (l.drop i) (m.drop i)) (fun z=>l.length-z.toNat) (fun f z g j=>?_) ⟨0,rfl,by simp,by simp⟩ (by simp;omega);obtain ⟨i,rfl,n,a⟩:=g
  rw [Y6N l m h i n] at a;unfold Z7P
  refine Q9 (fun b=>?_) (fun b=>?_)
  ·have b:i<l.length:=by simpa using b
   rw [dif_pos b] at a;refine Z4 (k:=?_)
   refine Z4 (k:=?_);have o:i<m.length:=by omega
   refine Q9 (fun c=>?_) (fun c=>?_)
   ·unfold Q6u
    refine Z5 rfl ?_;have c:(gl l i).L_≠(gl m i).L_:=by simpa using c
    have e:((gl l i).L_==(gl m i).L_)=false:=by simpa using c
    rw [a,e];rfl
   ·repeat (refine Z4 (k:=?_))
    have c:(gl l i).L_=(gl m i).L_:=by simpa using c
    have e:((gl l i).L_==(gl m i).L_)=true:=by simpa using c
    rw [e,Bool.true_and] at a;unfold Q6u
    refine Q9 (fun d=>?_) (fun d=>?_)
    ·have d:(gl l i).R_≠(gl m i).R_:=by simpa using d
     have e:((gl l i).R_==(gl m i).R_)=false:=by simpa using d
     rw [a,e];rfl
    ·have d:(gl l i).R_=(gl m i).R_:=by simpa using d
     have e:((gl l i).R_==(gl m i).R_)=true:=by simpa using d
     rw [e,Bool.true_and] at a;refine Z4 (k:=?_)
     exact j _ ⟨i+1,by omega,b,a⟩ (by omega)
  ·have b:¬ i<l.length:=by simpa using b
   rw [dif_neg b] at a;rw [a];rfl
section
theorem Y4O (l:List Int) (n v:Int):v ∈ put l n↔v=n\/v ∈ l:=by
 induction l with
 | nil=>simp [put]
 | cons a l ih=>
  unfold put;split
  ·rw [List.mem_cons,ih,List.mem_cons]
   constructor
   ·rintro (h|h|h);exact .inr (.inl h);exact .inl h;exact .inr (.inr h)
   ·rintro (h|h|h);exact .inr (.inl h);exact .inl h;exact .inr (.inr h)
  ·split
   ·rename_i h;subst h
    rw [List.mem_cons];constructor
    ·intro h;exact .inr h
    ·rintro (h|h);exact .inl h;exact h
   ·rw [List.mem_cons]
theorem Y8s {l:List Int} (h:Asc l) (n:Int):Asc (put l n):=by
 induction l with
 | nil=>exact List.pairwise_singleton _ _
 | cons a l ih=>
  obtain ⟨d,e⟩:=List.pairwise_cons.1 h;unfold put
  split
  ·rename_i c
   refine List.pairwise_cons.2 ⟨fun v b=>?_,ih e⟩;rcases (Y4O l n v).1 b with rfl|b
   ·exact c
   ·exact d v b
  ·split
   ·exact h
   ·refine List.pairwise_cons.2 ⟨fun v b=>?_,h⟩
    rcases List.mem_cons.1 b with rfl|b
    ·omega
    ·have:=d v b;omega
theorem Z6Y (l:List Int) (n:Int):(put l n).length<=l.length+1:=by
 induction l with
 | nil=>simp [put]
 | cons a l ih=>
  unfold put;split
  ·simp;omega
  ·split <;> simp
def Q8u (l:List Rect) (xs:List Int):List Int:=l.foldl (fun xs r=>put (put xs r.L_) r.R_) xs
def Z0E (l:List Rect) (ys:List Int):List Int:=l.foldl (fun ys r=>put (put ys r.w_) r.H_) ys
theorem Q8t {f g:Rect->Int} (l:List Rect):∀ {xs:List Int},Asc xs->Asc (l.foldl (fun xs r=>put (put xs (f r)) (g r)) xs):=by
 induction l with
 | nil=>intro xs h;exact h
 | cons r l ih=>intro xs h;exact ih (Y8s (Y8s h _) _)
theorem Q0w {f g:Rect->Int} (l:List Rect):∀ (xs:List Int) (v:Int),v ∈ l.foldl (fun xs r=>put (put xs (f r)) (g r)) xs↔v ∈ xs\/∃ r ∈ l,v=f r\/v=g r:=by
 induction l with
 | nil=>intro xs v;simp
 | cons r l ih=>
  intro xs v;rw [List.foldl_cons,ih,Y4O,Y4O]
  constructor
  ·rintro ((h|h|h) | ⟨q,a,h⟩)
   ·exact .inr ⟨r,by simp,.inr h⟩
   ·exact .inr ⟨r,by simp,.inl h⟩
   ·exact .inl h
   ·exact .inr ⟨q,by simp [a],h⟩
  ·rintro (h|⟨q,a,h⟩)
   ·exact .inl (.inr (.inr h))
   ·rcases List.mem_cons.1 a with rfl|a
    ·rcases h with h|h
     ·exact .inl (.inr (.inl h))
     ·exact .inl (.inl h)
    ·exact .inr ⟨q,a,h⟩
theorem Z7f {f g:Rect->Int} (l:List Rect):∀ (xs:List Int),(l.foldl (fun xs r=>put (put xs (f r)) (g r)) xs).length<=xs.length+2*l.length:=by
 induction l with
 | nil=>intro xs;simp
 | cons r l ih=>
  intro xs;have c:=ih (put (put xs (f r)) (g r))
  have b:=Z6Y (put xs (f r)) (g r);have a:=Z6Y xs (f r)
  simp only [List.foldl_cons,List.length_cons];omega
section
variable {F:Nat}
theorem Y8m (hF:BIG<=F) {a b l:List Rect} {v:Int} (hv:0<=v/\v<=1) (hl:gl [a,b] v.toNat=l) {ag:(List Int×List Int×Int)->Option (List Rect)} {y:Option (List Rect)} {xs ys:List Int} (hx:xs.length+2*l.length<=1000000) (hy:ys.length+2*l.length<=1000000)
  (h:ag (Q8u l xs,Z0E l ys,v+1)=y):Z3 (fun again (z:List Int×List Int×Int)=>Q8V F a b v ag again z.1 z.2.1 z.2.2) F (xs,ys,0)=y:=by
 have d:=hF;unfold BIG at hF
 refine Y7 (fun z:List Int×List Int×Int=>∃ j:Nat,z.2.2=j/\j<=l.length/\Q8u (l.drop j) z.1=Q8u l xs/\Z0E (l.drop j) z.2.1=Z0E l ys/\z.1.length+2*(l.length-j)<=1000000/\z.2.1.length+2*(l.length-j)<=1000000)
  (fun z=>l.length-z.2.2.toNat) (fun again z r n=>?_) ⟨0,rfl,by omega,by simp,by simp,by simpa using hx,by simpa using hy⟩ (by simp;omega)
 obtain ⟨g,i,u⟩:=z;obtain ⟨j,m,q,e,f,o,p⟩:=r
 simp only at m e f o p;subst m
 unfold Q8V;simp only [hl,Int.toNat_natCast]
 refine Q9 (fun c=>?_) (fun c=>?_)
 ·have c:j<l.length:=by simpa using c
  refine Z4 (k:=?_);have w:=Z6Y g (gl l j).L_
  have x:=Z6Y (put g (gl l j).L_) (gl l j).R_;have s:=Z6Y i (gl l j).w_
  have t:=Z6Y (put i (gl l j).w_) (gl l j).H_;refine Q3 (Z1n d (by omega) _) ?_
  refine Q3 (Z1n d (by omega) _) ?_;refine Q3 (Z1n d (by omega) _) ?_
  refine Q3 (Z1n d (by omega) _) ?_;refine Z4 (k:=?_)
  refine n _ ⟨j+1,rfl,by omega,?_,?_,by simp only;omega,by simp only;omega⟩ (by simp only;omega)
  ·rw [<-e,Q1F c];rfl
  ·rw [<-f,Q1F c];rfl
 ·have c:¬ j<l.length:=by simpa using c
  have:j=l.length:=by omega
  subst this;rw [List.drop_length] at e f
  unfold Q8T;refine Z4 (k:=?_)
  have e:g=Q8u l xs:=e;have f:i=Z0E l ys:=f
  rw [e,f];exact h
theorem Y0G (lo hi:Int):G8 ⟨lo,hi,[]⟩=[]:=rfl
theorem Z7b (lo hi:Int) (l:List Span) (s:Span):G8 ⟨lo,hi,l++[s]⟩=G8 ⟨lo,hi,l⟩++[⟨s.L_,lo,s.R_,hi⟩]:=by simp [G8]
theorem Q0v (b:Rn (List Span)):(G8 b).length=b.v.length:=by simp [G8]
theorem Z4B {α:Type} [Emb α] (l:List α) (x:α) {n:Nat} (h:n=l.length):gl (l++[x]) n=x:=by subst h;simp [gl,List.getD_eq_getElem?_getD]
theorem Z8X {α:Type} (l:List α) (x y:α) {n:Nat} (h:n=l.length):(l++[x]).set n y=l++[y]:=by subst h;simp
theorem W0y (hF:BIG<=F) {xs ys:List Int} {i k:Nat} {m:List Rect} {r:Rect} {ag:(Int×List Rect)->Option (List Rect)} {y:Option (List Rect)} (hk:k+1<xs.length) (hx:xs.length<=65536) (hm:m.length<=65536)
  (h:ag ((k:Int)+1,m++[⟨r.L_,r.w_,gl xs (k+1),r.H_⟩])=y):Q0t F xs ys i k (m++[r]) ag true=y:=by
 unfold BIG at hF;unfold Q0t
 refine Z5 rfl ?_;have a:(m++[r]).length=m.length+1:=by simp
 simp only [a];have b:(((m.length+1:Nat):Int)-1).toNat=m.length:=by omega
 have c:((k:Int)+1).toNat=k+1:=by omega
 rw [b,Z4B _ _ rfl,Z8X _ _ _ rfl,c]
 repeat (refine Z4 (k:=?_))
 exact h
theorem W0z (hF:BIG<=F) {xs ys:List Int} {i k:Nat} {m:List Rect} {ag:(Int×List Rect)->Option (List Rect)} {y:Option (List Rect)} (hk:k+1<xs.length) (hi:i+1<ys.length) (hx:xs.length<=65536) (hy:ys.length<=65536) (hm:m.length<=65536)
  (h:ag ((k:Int)+1,m++[⟨gl xs k,gl ys i,gl xs (k+1),gl ys (i+1)⟩])=y):Q0t F xs ys i k m ag false=y:=by
 unfold BIG at hF;unfold Q0t
 refine Q8 rfl ?_;have b:((k:Int)+1).toNat=k+1:=by omega
 have a:((i:Int)+1).toNat=i+1:=by omega
 rw [b,a];simp only [Int.toNat_natCast]
 repeat (refine Z4 (k:=?_))
 exact h
theorem W2f (hF:BIG<=F) {a b:List Rect} {how:Int} {xs ys:List Int} {i:Nat} (hi:i+1<ys.length) (hx:xs.length<=65536) (hy:ys.length<=65536) (ha:a.length<=LIM) (hb:b.length<=LIM)
  (hst:Step false xs fun x=>Q0u (inR a x (gl ys i)) (inR b x (gl ys i)) how) {out last:List Rect} {ag:(Int×List Rect×List Rect)->Option (List Rect)} {y:Option (List Rect)}
  (h:∀ l:List Span,SpOk l->(∀ x,inS l x=Q0u (inR a x (gl ys i)) (inR b x (gl ys i)) how)->l.length<=65536->Q3m F ys i out last ag (G8 ⟨gl ys i,gl ys (i+1),l⟩)=y) :
  Z3 (fun again (z:Int×List Rect)=>Q8U F a b how xs ys i out last ag again z.1 z.2) F (0,[])=y:=by
 have j:=hF;unfold BIG at hF
 refine Y7 (fun z:Int×List Rect=>∃ (k:Nat) (l:List Span),z=((k:Int),G8 ⟨gl ys i,gl ys (i+1),l⟩)/\l.length<=k/\(k+1<=xs.length\/k=0)/\(0<xs.length->Bst false (fun x=>Q0u (inR a x (gl ys i)) (inR b x (gl ys i)) how) (l.map Span.rn) (gl xs k)))
  (fun z=>xs.length-z.1.toNat) (fun again z J v=>?_) ⟨0,[],rfl,Nat.le_refl _,.inr rfl,fun w=>hst.start w⟩ (by simp;omega)
 obtain ⟨k,l,rfl,I,K,g⟩:=J;simp only at v ⊢
 unfold Q8U;refine Z4 (k:=?_)
 refine Q9 (fun c=>?_) (fun c=>?_)
 ·have c:k+1<xs.length:=by simp at c;omega
  have g:=g (by omega);have r:=hst.asc.at_lt (show k<k+1 by omega) c
  simp only [Int.toNat_natCast]
  repeat (refine Z4 (k:=?_))
  refine Q3 (Z5f j ha _ _) ?_
  repeat (refine Z4 (k:=?_))
  refine Q3 (Z5f j hb _ _) ?_;refine Q3 (Y3A _ _ _ _) ?_
  have e:=hst.gap k c;refine Q9 (fun m=>?_) (fun m=>?_)
  ·have m:Q0u (inR a (gl xs k) (gl ys i)) (inR b (gl xs k) (gl ys i)) how=false:=by simpa using m
   unfold Q3n;refine Z4 (k:=?_)
   exact v _ ⟨k+1,l,rfl,by omega,.inl (by omega),fun _=>g.skip (by omega) fun t B C=>(e t B C).trans m⟩ (by simp only;omega)
  ·have m:Q0u (inR a (gl xs k) (gl ys i)) (inR b (gl xs k) (gl ys i)) how=true:=by simpa using m
   have d:(∀ s,l.getLast?=some s->s.R_≠gl xs k)->Q0t F xs ys i k (G8 ⟨gl ys i,gl ys (i+1),l⟩) again false=y:=by
    intro A;refine W0z j c hi hx hy (by rw [Q0v];simp only;omega) (v _ ⟨k+1,l++[⟨gl xs k,gl xs (k+1)⟩],by rw [Z7b];rfl,by simp;omega,.inl (by omega),fun _=>?_⟩ (by simp only;omega))
    have:=g.add r e (fun q n E=>by
     rw [List.getLast?_map] at n
     cases f:l.getLast? with
     | none=>rw [f] at n;cases n
     | some s=>rw [f] at n;cases n;exact absurd E (A s f))
    simp only [m] at this;rw [List.map_append];exact this
   rcases List.eq_nil_or_concat l with rfl|⟨o,s,u⟩
   ·refine Q8 (by simp [Y0G]) ?_
    exact d fun s f=>by simp at f
   ·rw [List.concat_eq_append] at u
    subst u;rw [Z7b] at d ⊢
    have p:(G8 ⟨gl ys i,gl ys (i+1),o⟩++[(⟨s.L_,gl ys i,s.R_,gl ys (i+1)⟩:Rect)]).length=o.length+1:=by simp [Q0v]
    have H:o.length+1<=k:=by simpa using I
    simp only [p];have G:(((o.length+1:Nat):Int)-1).toNat=o.length:=by omega
    rw [G,Z4B _ _ (by rw [Q0v])];refine Z5 (by simp) ?_
    repeat (refine Z4 (k:=?_))
    by_cases f:s.R_=gl xs k
    ·have D:(s.R_==gl xs k)=true:=by simpa using f
     simp only [D];refine W0y j c hx (by rw [Q0v];simp only;omega) (v _ ⟨k+1,o ++ [⟨s.L_,gl xs (k+1)⟩],by rw [Z7b];rfl,by simp only [List.length_append,List.length_cons,List.length_nil];omega,.inl (by omega),fun _=>?_⟩ (by simp only;omega))
     rw [List.map_append] at g;have:=g.grow (a:=s.rn) f r fun t B C=>(e t B C).trans m
     rw [List.map_append];exact this
    ·have D:(s.R_==gl xs k)=false:=by simpa using f
     simp only [D];exact d fun q n=>by simp at n;subst n;exact f
 ·have c:¬ k+1<xs.length:=by simp at c;omega
  by_cases w:xs.length=0
  ·have:k=0:=by omega
   subst this;have:l=[]:=List.eq_nil_of_length_eq_zero (by omega)
   subst this;exact h [] .nil (fun x=>(hst.empty w x).symm) (by simp)
  ·have g:=g (by omega)
   exact h l (.of_runs g.runs) (fun x=>by rw [Z9y];exact hst.done (by omega) g x) (by omega)
theorem W2P {α:Type} [Emb α] (l m:List α) (x:α) {n:Nat} (h:n=l.length):gl (l++x::m) n=x:=by subst h;simp [gl,List.getD_eq_getElem?_getD]
theorem W1u {α:Type} (l m:List α) (x y:α) {n:Nat} (h:n=l.length):(l++x::m).set n y=l++y::m:=by subst h;simp
theorem W0A (hF:BIG<=F) {ys:List Int} {i:Nat} (hi:i+1<ys.length) (hy:ys.length<=65536) {out:List Rect} {lo hi' : Int} {l:List Span} (hl:l.length<=65536) {ag:(Int×List Rect×List Rect)->Option (List Rect)} {y:Option (List Rect)}
  (h:ag ((i:Int)+1,out,G8 ⟨lo,gl ys (i+1),l⟩)=y) :
  Z3 (fun again (z:Int×List Rect)=>Q8a F ys i out (G8 ⟨lo,hi',l⟩) ag again z.1 z.2) F (0,G8 ⟨lo,hi',l⟩)=y:=by
 unfold BIG at hF;refine Y7 (fun z:Int×List Rect=>∃ j:Nat,z=((j:Int),G8 ⟨lo,gl ys (i+1),l.take j⟩++G8 ⟨lo,hi',l.drop j⟩)/\j<=l.length) (fun z=>l.length-z.1.toNat) (fun again z g c=>?_) ⟨0,by simp [G8],by omega⟩ (by simp;omega)
 obtain ⟨j,rfl,n⟩:=g;simp only at c ⊢
 have m:((i:Int)+1).toNat=i+1:=by omega
 unfold Q8a;rw [Q0v]
 simp only
 refine Q9 (fun a=>?_) (fun a=>?_)
 ·have a:j<l.length:=by simpa using a
  refine Z4 (k:=?_);refine Z4 (k:=?_)
  have f:l.drop j=l[j]::l.drop (j+1):=List.drop_eq_getElem_cons a;have b:(G8 ⟨lo,gl ys (i+1),l.take j⟩++G8 ⟨lo,hi',l.drop j⟩).length=l.length:=by
   rw [List.length_append,Q0v,Q0v];simp;omega
  refine Q7 (by rw [b];omega) ?_;refine Z4 (k:=?_)
  rw [m];simp only [Int.toNat_natCast]
  have e:G8 ⟨lo,hi',l.drop j⟩=(⟨(l[j]).L_,lo,(l[j]).R_,hi'⟩:Rect)::G8 ⟨lo,hi',l.drop (j+1)⟩:=by rw [f];rfl
  have d:j=(G8 ⟨lo,gl ys (i+1),l.take j⟩).length:=by rw [Q0v];simp;omega
  rw [e,W2P _ _ _ d,W1u _ _ _ _ d];refine c _ ⟨j+1,?_,a⟩ (by simp only;omega)
  rw [List.take_succ_eq_append_getElem a,Z7b];simp
 ·have a:¬ j<l.length:=by simpa using a
  have:j=l.length:=by omega
  subst this;unfold Q7Z Q2E
  refine Z4 (k:=?_);rw [List.take_length,List.drop_length,Y0G,List.append_nil]
  exact h
structure RowSt (rowf:Int->List Span) (c:Int) (n:Nat) (out last:List Rect):Prop where
 ex:∃ acc,Bst [] rowf acc c/\(∀ r ∈ acc,r.v≠[])/\((last=[]/\out=flat acc/\∀ r ∈ acc,r.hi<c)\/∃ acc' b,acc=acc' ++ [b]/\b.hi=c/\last=G8 b/\out=flat acc' /\ b.v.length<=65536)
 len:out.length+last.length<=n*65536
theorem Y6b (a b:List (Rn (List Span))):flat (a++b)=flat a++flat b:=by simp [flat]
theorem Y5Z (b:Rn (List Span)):flat [b]=G8 b:=by simp [flat]
theorem Y0W (lo hi lo' hi' : Int):∀ (l m:List Span),Z5M (G8 ⟨lo,hi,l⟩) (G8 ⟨lo',hi',m⟩)=decide (l=m)
 | [],[]=>rfl
 | [],b::m=>rfl
 | a::l,[]=>rfl
 | a::l,b::m=>by
  have i:=Y0W lo hi lo' hi' l m;have f:G8 ⟨lo,hi,a::l⟩=(⟨a.L_,lo,a.R_,hi⟩:Rect)::G8 ⟨lo,hi,l⟩:=rfl
  have g:G8 ⟨lo',hi',b::m⟩=(⟨b.L_,lo',b.R_,hi'⟩:Rect)::G8 ⟨lo',hi',m⟩:=rfl;rw [f,g,Z5M,i]
  cases a;cases b
  rw [Bool.eq_iff_iff];constructor
  ·intro h
   rw [Bool.and_eq_true,Bool.and_eq_true] at h;obtain ⟨⟨d,c⟩,e⟩:=h
   have d:=eq_of_beq d;have c:=eq_of_beq c
   have e:=of_decide_eq_true e;simp only at d c
   rw [d,c,e];exact decide_eq_true rfl
  ·intro h
   have h:=of_decide_eq_true h
   injection h with d c
   injection d with e h4
   subst c;subst e;subst h4
   rw [Bool.and_eq_true,Bool.and_eq_true];exact ⟨⟨beq_self_eq_true _,beq_self_eq_true _⟩,decide_eq_true rfl⟩
theorem W2d (hF:BIG<=F) {ys:List Int} {i:Nat} (hi:i+1<ys.length) (hy:ys.length<=65536) {rowf:Int->List Span} (hst:Step [] ys rowf) {out last:List Rect} (hR:RowSt rowf (gl ys i) i out last)
  {ag:(Int×List Rect×List Rect)->Option (List Rect)} {y:Option (List Rect)} (hlen:(rowf (gl ys i)).length<=65536)
  (h:∀ out' last',RowSt rowf (gl ys (i+1)) (i+1) out' last' -> ag ((i:Int)+1,out',last')=y) :
  Q3m F ys i out last ag (G8 ⟨gl ys i,gl ys (i+1),rowf (gl ys i)⟩)=y:=by
 have s:=hF;unfold BIG at hF
 obtain ⟨⟨e,C,f,l⟩,p⟩:=hR;have o:=hst.asc.at_lt (show i<i+1 by omega) hi
 have d:=hst.gap i hi;have H:i*65536<=65536*65536:=Nat.mul_le_mul_right _ (by omega)
 generalize hv:rowf (gl ys i)=v at *;have g:(∀ a,e.getLast?=some a->a.hi=gl ys i->a.v≠v)->flat e=out++last->Q4N F i out last (G8 ⟨gl ys i,gl ys (i+1),v⟩) ag=y:=by
  intro G u;unfold Q4N Q2E
  refine Z4 (k:=?_);refine Z4 (k:=?_)
  refine h _ _ ⟨?_,?_⟩
  ·by_cases hv0:v=[]
   ·subst hv0
    exact ⟨e,C.skip (by omega) fun t A x=>d t A x,f,.inl ⟨Y0G _ _,u.symm,fun r c=>by have:=C.le r c;omega⟩⟩
   ·refine ⟨e++[⟨gl ys i,gl ys (i+1),v⟩],?_,fun r c=>?_,.inr ⟨e,_,rfl,rfl,rfl,u.symm,hlen⟩⟩
    ·have:=C.add o (fun t A x=>(d t A x).trans hv.symm) (fun a m D=>by rw [hv];exact G a m D)
     rw [hv] at this;exact this
    ·rcases List.mem_append.1 c with c|c
     ·exact f r c
     ·rw [List.mem_singleton.1 c];exact hv0
  ·rw [List.length_append,Q0v,Nat.add_mul];simp only;omega
 unfold Q3m;rcases l with ⟨rfl,rfl,E⟩|⟨j,b,rfl,B,rfl,rfl,q⟩
 ·refine Q8 rfl ?_
  unfold Q0U;refine Q8 rfl ?_
  exact g (fun a m D=>by have:=E a (List.mem_of_getLast? m);omega) (by simp)
 ·have z:b.v≠[]:=f b (by simp)
  have w:0<b.v.length:=by
   cases hh:b.v with
   | nil=>exact absurd hh z
   | cons _ _=>simp
  have I:G8 b=G8 ⟨b.lo,b.hi,b.v⟩:=rfl;refine Z5 (by rw [Q0v];simpa using w) ?_
  refine Q3 (Y3z s (by rw [Q0v];unfold LIM;omega)) ?_;rw [I,Y0W]
  refine Q9 (fun n=>?_) (fun n=>?_)
  ·have n:b.v=v:=of_decide_eq_true n
   refine Q7 (by rw [Q0v];simp only;omega) ?_;refine Z4 (k:=?_)
   have K:((gl (G8 ⟨b.lo,b.hi,b.v⟩) (0:Int).toNat).H_==gl ys (i:Int).toNat)=true:=by
    have:gl (G8 ⟨b.lo,b.hi,b.v⟩) (0:Int).toNat=(⟨(b.v[0]).L_,b.lo,(b.v[0]).R_,b.hi⟩:Rect):=by
     have:0<(G8 ⟨b.lo,b.hi,b.v⟩).length:=by rw [Q0v];exact w
     show gl (G8 ⟨b.lo,b.hi,b.v⟩) 0=_;rw [y7 this];simp [G8]
    rw [this];simpa using B
   rw [K];unfold Q0U
   refine Z5 rfl ?_;refine W0A s hi hy q ?_
   have J:=C.grow B o fun t A x=>(d t A x).trans n.symm
   refine h _ _ ⟨⟨j ++ [⟨b.lo,gl ys (i+1),b.v⟩],J,fun r c=>?_,.inr ⟨j,_,rfl,rfl,rfl,rfl,q⟩⟩,?_⟩
   ·rcases List.mem_append.1 c with c|c
    ·exact f r (by simp [c])
    ·rw [List.mem_singleton.1 c];exact z
   ·rw [Q0v] at p ⊢;rw [Nat.add_mul];exact Nat.le_trans p (Nat.le_add_right _ _)
  ·have n:b.v≠v:=of_decide_eq_false n
   unfold Q0U;refine Q8 rfl ?_
   exact g (fun a m D=>by rw [List.getLast?_append] at m;simp at m;subst m;exact n) (by rw [Y6b,Y5Z])
theorem W2e (hF:BIG<=F) {a b:List Rect} {how:Int} {xs ys:List Int} (hx:xs.length<=65536) (hy:ys.length<=65536) (ha:a.length<=LIM) (hb:b.length<=LIM)
  (hG:Grid xs ys fun x y=>Q0u (inR a x y) (inR b x y) how):Q5L F a b how xs ys=some (cn fun x y=>Q0u (inR a x y) (inR b x y) how):=by
 have h:=hF;unfold BIG at hF
 unfold Q5L;have d:=hG.step
 have f:=hG.rows;refine Y7 (fun z:Int×List Rect×List Rect=>∃ (i:Nat),z.1=(i:Int)/\((ys.length=0/\i=0/\z.2.1=[]/\z.2.2=[])\/(i+1<=ys.length/\RowSt (fun y=>spn fun x=>Q0u (inR a x y) (inR b x y) how) (gl ys i) i z.2.1 z.2.2)))
  (fun z=>ys.length-z.1.toNat) (fun g z K v=>?_) ⟨0,rfl,?_⟩ (by simp;omega)
 ·obtain ⟨N,I,w⟩:=z
  obtain ⟨i,m,e⟩:=K;simp only at m e v ⊢
  subst m;unfold Z3F
  refine Z4 (k:=?_);rcases e with ⟨j,rfl,rfl,rfl⟩|⟨m,B⟩
  ·refine Q8 (by simp [j]) ?_
   unfold Q4M;refine Z4 (k:=?_)
   have:=Step.cn f d .nil (fun t=>(d.empty j t).symm) (fun b hb=>by cases hb)
   rw [this.1];rfl
  ·refine Q9 (fun c=>?_) (fun c=>?_)
   ·have c:i+1<ys.length:=by simp at c;omega
    refine W2f h c hx hy ha hb (hG.x _) fun l J L p=>?_
    have u:spn (fun x=>Q0u (inR a x (gl ys i)) (inR b x (gl ys i)) how)=l:=Y0d J L;have:=W2d h c hy d B (ag:=g) (y:=some (cn fun x y=>Q0u (inR a x y) (inR b x y) how)) (by rw [u];exact p) fun D q n=>v _ ⟨i+1,rfl,.inr ⟨by omega,n⟩⟩ (by simp only;omega)
    rw [u] at this;exact this
   ·have c:¬ i+1<ys.length:=by simp at c;omega
    unfold Q4M;obtain ⟨⟨M,E,o,H⟩,C⟩:=B
    have A:i*65536<=65536*65536:=Nat.mul_le_mul_right _ (by omega);refine Z4 (k:=?_)
    have:=Step.cn f d E.runs (fun t=>d.done (by omega) E t) o
    rw [this.1];rcases H with ⟨rfl,rfl,_⟩|⟨G,O,rfl,_,rfl,rfl,_⟩
    ·simp
    ·rw [Y6b,Y5Z]
 ·by_cases j:ys.length=0
  ·exact .inl ⟨j,rfl,rfl,rfl⟩
  ·exact .inr ⟨by omega,⟨⟨[],d.start (by omega),fun r s=>(by cases s),.inl ⟨rfl,rfl,fun r s=>(by cases s)⟩⟩,by simp⟩⟩
theorem Y6h (a b:List Rect) (how:Int):Grid (Q8u b (Q8u a [])) (Z0E b (Z0E a [])) fun x y=>Q0u (inR a x y) (inR b x y) how:=
 Grid.of (Q8t b (Q8t a .nil)) (Q8t b (Q8t a .nil))
  (fun r c=>⟨(Q0w b _ _).2 (.inl ((Q0w a _ _).2 (.inr ⟨r,c,.inl rfl⟩))),(Q0w b _ _).2 (.inl ((Q0w a _ _).2 (.inr ⟨r,c,.inr rfl⟩)))⟩)
  (fun r c=>⟨(Q0w b _ _).2 (.inr ⟨r,c,.inl rfl⟩),(Q0w b _ _).2 (.inr ⟨r,c,.inr rfl⟩)⟩)
  (fun r c=>⟨(Q0w b _ _).2 (.inl ((Q0w a _ _).2 (.inr ⟨r,c,.inl rfl⟩))),(Q0w b _ _).2 (.inl ((Q0w a _ _).2 (.inr ⟨r,c,.inr rfl⟩)))⟩)
  (fun r c=>⟨(Q0w b _ _).2 (.inr ⟨r,c,.inl rfl⟩),(Q0w b _ _).2 (.inr ⟨r,c,.inr rfl⟩)⟩)
  (k:=fun p q=>Q0u p q how) (by show Q0u false false how=false;unfold Q0u;split;rfl;split <;> rfl)
theorem Z3E (hF:BIG<=F) {a b:List Rect} {how:Int} (ha:a.length<=200000) (hb:b.length<=200000) (hx:(Q8u b (Q8u a [])).length<=65536) (hy:(Z0E b (Z0E a [])).length<=65536) :
  U7 F a b how=some (cn fun x y=>Q0u (inR a x y) (inR b x y) how):=by
 have d:=hF;unfold BIG at hF
 have n:=Y6h a b how;have j:=W2e d hx hy (by unfold LIM;omega) (by unfold LIM;omega) n
 have o:=Z7f (f:=Rect.L_) (g:=Rect.R_) a [];have i:=Z7f (f:=Rect.w_) (g:=Rect.H_) a []
 have h:∀ c:(List Int×List Int×Int)->Option (List Rect),Q3o F a b how c (Q8u b (Q8u a [])) (Z0E b (Z0E a [])) 2=some (cn fun x y=>Q0u (inR a x y) (inR b x y) how):=fun c=>by
  unfold Q3o;exact Q8 rfl j
 have p:(Q8u a []).length<=2*a.length:=by have:=o;simpa [Q8u] using this
 have q:(Z0E a []).length<=2*a.length:=by have:=i;simpa [Z0E] using this
 unfold U7;refine Y7 (fun z:List Int×List Int×Int=>z=([],[],0)\/z=(Q8u a [],Z0E a [],1)\/z=(Q8u b (Q8u a []),Z0E b (Z0E a []),2)) (fun z=>2-z.2.2.toNat) (fun c z m e=>?_) (.inl rfl) (by simp;omega)
 rcases m with rfl|rfl|rfl
 ·simp only
  unfold Q3o;refine Z5 rfl ?_
  refine Z4 (k:=?_);refine Y8m d (l:=a) (by omega) rfl (by simp;omega) (by simp;omega) ?_
  exact e _ (.inr (.inl rfl)) (by simp)
 ·simp only
  unfold Q3o;refine Z5 rfl ?_
  refine Z4 (k:=?_);refine Y8m d (l:=b) (by omega) rfl (xs:=Q8u a []) (ys:=Z0E a []) (by omega) (by omega) ?_
  exact e _ (.inr (.inr rfl)) (by simp)
 ·exact h c
end
end
section
theorem W0g {xs ys:List Int} {S:Int->Int->Bool} (h:Grid xs ys S):Fin S:=by
 have d:=h.step
 by_cases h0:ys.length=0
 ·exact (Step.cn h.rows d .nil (fun t=>(d.empty h0 t).symm) (fun b w=>by cases w)).2
 ·have n:∀ i,i+1<=ys.length->∃ g,Bst [] (fun y=>spn fun x=>S x y) g (gl ys i)/\∀ r ∈ g,r.v≠[]:=by
   intro i
   induction i with
   | zero=>intro _;exact ⟨[],d.start (by omega),fun r c=>by cases c⟩
   | succ i ih=>
    intro z;obtain ⟨g,l,f⟩:=ih (by omega)
    have k:=d.asc.at_lt (show i<i+1 by omega) (by omega);have e:=d.gap i (by omega)
    by_cases hv:spn (fun x=>S x (gl ys i))=[]
    ·exact ⟨g,l.skip (by omega) fun t q o=>(e t q o).trans hv,f⟩
    ·rcases List.eq_nil_or_concat g with rfl|⟨s,b,j⟩
     ·refine ⟨_,l.add k e (fun a m=>by simp at m),fun r c=>?_⟩
      simp at c;rw [c];exact hv
     ·rw [List.concat_eq_append] at j
      subst j
      by_cases hm:b.hi=gl ys i/\b.v=spn fun x=>S x (gl ys i)
      ·refine ⟨_,l.grow hm.1 k fun t q o=>(e t q o).trans hm.2.symm,fun r c=>?_⟩
       rcases List.mem_append.1 c with c|c
       ·exact f r (by simp [c])
       ·rw [List.mem_singleton.1 c];exact f b (by simp)
      ·refine ⟨_,l.add k e (fun a m u p=>?_),fun r c=>?_⟩
       ·simp at m;subst m;exact hm ⟨u,p⟩
       ·rcases List.mem_append.1 c with c|c
        ·exact f r c
        ·rw [List.mem_singleton.1 c];exact hv
  obtain ⟨g,l,f⟩:=n (ys.length-1) (by omega);exact (Step.cn h.rows d l.runs (fun t=>d.done (by omega) l t) f).2
theorem Q6z (a b:List Rect) (how:Int):Fin fun x y=>Q0u (inR a x y) (inR b x y) how:=W0g (Y6h a b how)
theorem Y9M (l:List Rect):(fun x y=>Q0u (inR l x y) (inR [] x y) 1)=inR l:=by
 funext x y;simp [Q0u,inR]
theorem K2 (l:List Rect):Fin (inR l):=by have:=Q6z l [] 1;rwa [Y9M] at this
theorem Z1x (l:List Rect):Q2l l↔cn (inR l)=l:=⟨fun h=>h.eq_cn.symm,fun h=>by rw [<-h];exact Q2l.cn (K2 l)⟩
theorem Z4K {l:List Rect}:(Q8u l []).length<=2*l.length:=by have:=Z7f (f:=Rect.L_) (g:=Rect.R_) l [];simpa [Q8u] using this
theorem Y7r {l:List Rect}:(Z0E l []).length<=2*l.length:=by have:=Z7f (f:=Rect.w_) (g:=Rect.H_) l [];simpa [Z0E] using this
theorem Y1f {a b:List Rect}:(Q8u b (Q8u a [])).length<=2*a.length+2*b.length:=by
 have c:=Z7f (f:=Rect.L_) (g:=Rect.R_) b (Q8u a []);have d:=Z4K (l:=a)
 have c:(Q8u b (Q8u a [])).length<=(Q8u a []).length+2*b.length:=c;omega
theorem Y6i {a b:List Rect}:(Z0E b (Z0E a [])).length<=2*a.length+2*b.length:=by
 have c:=Z7f (f:=Rect.w_) (g:=Rect.H_) b (Z0E a []);have d:=Y7r (l:=a)
 have c:(Z0E b (Z0E a [])).length<=(Z0E a []).length+2*b.length:=c;omega
theorem Q6b {F:Nat} (hF:BIG<=F) {a b:List Rect} {how:Int} (h:a.length+b.length<=32768):U7 F a b how=some (cn fun x y=>Q0u (inR a x y) (inR b x y) how):=
 Z3E hF (by omega) (by omega) (by have:=Y1f (a:=a) (b:=b);omega) (by have:=Y6i (a:=a) (b:=b);omega)
theorem Z2I {F:Nat} (hF:BIG<=F) {l:List Rect} (h:l.length<=32768):U7 F l [] 1=some (cn (inR l)):=by
 rw [Q6b hF (by simpa using h),Y9M]
theorem Z4x {α:Type} [Emb α] [DecidableEq α] (l m:List α) (h:l.length=m.length) (i:Nat) (hi:i<l.length):decide (l.drop i=m.drop i)=(decide (gl l i=gl m i)&&decide (l.drop (i+1)=m.drop (i+1))):=by
 rw [Q1F hi,Q1F (l:=m) (by omega)];rw [Bool.eq_iff_iff,Bool.and_eq_true,decide_eq_true_iff,decide_eq_true_iff,decide_eq_true_iff,List.cons.injEq]
theorem Y7P (r s:Rect):((r.L_==s.L_)&&((r.w_==s.w_)&&((r.R_==s.R_)&&((r.H_==s.H_)&&true))))=decide (r=s):=by
 cases r;cases s
 rw [Bool.eq_iff_iff,decide_eq_true_iff];simp
theorem Y2y {F:Nat} (hF:BIG<=F) {l m:List Rect} (hm:m.length<=LIM):Z2G F l m=some (decide (l=m)):=by
 unfold BIG at hF;unfold LIM at hm
 unfold Z2G;refine Q9 (fun h=>?_) (fun h=>?_)
 ·have h:l.length≠m.length:=by simp at h;omega
  rw [decide_eq_false fun e=>h (by rw [e])]
 ·have h:l.length=m.length:=by simp at h;omega
  refine Y7 (fun z:Int=>∃ i:Nat,z=i/\i<=l.length/\decide (l=m)=decide (l.drop i=m.drop i)) (fun z=>l.length-z.toNat) (fun d z f g=>?_) ⟨0,rfl,by omega,by simp⟩ (by simp;omega);obtain ⟨i,rfl,j,c⟩:=f
  unfold Z6h;refine Q9 (fun b=>?_) (fun b=>?_)
  ·have b:i<l.length:=by simpa using b
   rw [Z4x l m h i b] at c;refine Z4 (k:=?_)
   refine Z4 (k:=?_);rw [Y7P]
   refine Q9 (fun a=>?_) (fun a=>?_)
   ·have a:decide (gl l i=gl m i)=false:=by simpa using a
    rw [c,a];rfl
   ·have a:decide (gl l i=gl m i)=true:=by simpa using a
    rw [a,Bool.true_and] at c;refine Z4 (k:=?_)
    exact g _ ⟨i+1,by omega,b,c⟩ (by omega)
  ·have b:¬ i<l.length:=by simpa using b
   have:i=l.length:=by omega
   rw [c,List.drop_of_length_le (by omega),List.drop_of_length_le (by omega),decide_eq_true rfl];rfl
def Val (l:List Rect):Prop:=l.length<=120/\(∀ r ∈ l,Q2F r=true)/\Q2l l
open Classical in
noncomputable def Q3H (l:List Rect):Bool:=decide (Val l)
theorem Q0P (l:List Rect):Q3H l=true↔Val l:=by unfold Q3H;exact @decide_eq_true_iff (Val l) (Classical.propDecidable _)
theorem Q8K {l:List Rect} (h:¬ Val l):Q3H l=false:=by rw [<-Bool.not_eq_true,Q0P];exact h
theorem Q3g {l:List Rect} (h:Val l):Q3H l=true:=(Q0P l).2 h
theorem W0Q {α:Type} [Emb α] {l:List α} {p:α->Prop} {i:Nat} (h:i<l.length):(∀ x ∈ l.drop i,p x)↔p (gl l i)/\∀ x ∈ l.drop (i+1),p x:=by rw [Q1F h];simp
theorem Q1i {F:Nat} (hF:BIG<=F) (a:Re_):Q1j F a=some (Q3H a.t_):=by
 have f:=hF;unfold BIG at hF
 obtain ⟨l⟩:=a;simp only
 unfold Q1j;refine Q9 (fun h=>?_) (fun h=>?_)
 ·have h:120<l.length:=by simp at h;omega
  rw [Q8K fun e=>by have:=e.1;omega]
 ·have h:l.length<=120:=by simp at h;omega
  refine Y7 (fun z:Int=>∃ i:Nat,z=i/\i<=l.length/\((∀ r ∈ l,Q2F r=true)↔∀ r ∈ l.drop i,Q2F r=true)) (fun z=>l.length-z.toNat) (fun g z j m=>?_) ⟨0,rfl,by omega,by simp⟩ (by simp;omega);obtain ⟨i,rfl,n,d⟩:=j
  unfold Z6f;simp only
  refine Q9 (fun c=>?_) (fun c=>?_)
  ·have c:i<l.length:=by simpa using c
   rw [W0Q (p:=fun r=>Q2F r=true) c] at d;refine Z4 (k:=?_)
   refine Q3 (Z5e _ _) ?_;refine Q9 (fun b=>?_) (fun b=>?_)
   ·have b:Q2F (gl l i)=false:=by simpa using b
    rw [Q8K fun e=>by have:=(d.1 e.2.1).1;rw [b] at this;cases this]
   ·have b:Q2F (gl l i)=true:=by simpa using b
    refine Z4 (k:=?_);exact m _ ⟨i+1,by omega,c,d.trans ⟨fun h=>h.2,fun h=>⟨b,h⟩⟩⟩ (by omega)
  ·have c:¬ i<l.length:=by simpa using c
   rw [List.drop_of_length_le (by omega)] at d;unfold Z1U
   refine Q3 (Z2I f (by simp only;omega)) ?_;refine Q3 (Y2y f (by unfold LIM;simp only;omega)) ?_
   simp only
   by_cases hc:cn (inR l)=l
   ·rw [decide_eq_true hc,Q3g ⟨h,d.2 (by simp),(Z1x l).2 hc⟩]
   ·rw [decide_eq_false hc,Q8K fun e=>hc ((Z1x l).1 e.2.2)]
theorem Y2B {F:Nat} (l:List Rect):Z2J F l=some (if 120<l.length then (⟨[]⟩,1) else (⟨l⟩,0)):=by
 unfold Z2J;refine Q9 (fun h=>?_) (fun h=>?_)
 ·have h:120<l.length:=by simp at h;omega
  rw [if_pos h]
 ·have h:¬ 120<l.length:=by simp at h;omega
  rw [if_neg h]
theorem Y5H {F:Nat} (hF:BIG<=F) {l:List Rect} (hl:l.length<=120) (hp:∀ r ∈ l,Q2F r=true):Z9n F l=some (if 120<(cn (inR l)).length then (⟨[]⟩,1) else (⟨cn (inR l)⟩,0)):=by
 have c:=hF;unfold BIG at hF
 unfold Z9n;refine Q8 (by simp;omega) ?_
 refine Y7 (fun z:Int=>∃ i:Nat,z=i/\i<=l.length) (fun z=>l.length-z.toNat) (fun b z d e=>?_) ⟨0,rfl,by omega⟩ (by simp;omega);obtain ⟨i,rfl,f⟩:=d
 unfold Y0Y;refine Q9 (fun a=>?_) (fun a=>?_)
 ·have a:i<l.length:=by simpa using a
  refine Z4 (k:=?_);refine Q3 (Z5e _ _) ?_
  refine Q8 (by rw [Int.toNat_natCast,hp _ (W9 a)];rfl) ?_;refine Z4 (k:=?_)
  exact e _ ⟨i+1,by omega,a⟩ (by omega)
 ·unfold Z6i
  refine Q3 (Z2I c (by omega)) ?_;refine Q3 (Y2B _) ?_
  rfl
end
section
open Go.Sort
def Srt (l:List Int):Prop:=l.Pairwise (· <= ·)
theorem Y9w {l:List Int} (hl:l.length<=LIM):∃ r,Z7G l=some r/\Srt r/\(∀ v,v ∈ r↔v ∈ l)/\r.length=l.length:=by
 refine ⟨l.mergeSort fun x y=>decide (x<=y),by unfold Z7G;rw [if_pos hl],?_,fun v=>List.mem_mergeSort,List.length_mergeSort l⟩;have:=List.pairwise_mergeSort (le:=fun x y:Int=>decide (x<=y)) (fun a b c e d=>by simp at *;omega) (fun a b=>by simp;omega) l
 exact this.imp fun h=>by simpa using h
def dd:List Int->List Int
 | []=>[]
 | [a]=>[a]
 | a::b::l=>if a=b then dd (b::l) else a::dd (b::l)
theorem Y1O (l:List Int) (x:Int):dd (l++[x])=if l.getLast?=some x then dd l else dd l++[x]:=by
 match l with
 | []=>simp [dd]
 | [a]=>by_cases h:a=x <;> simp [dd,h]
 | a::b::l=>
  have c:=Y1O (b::l) x;have e:(a::b::l).getLast?=(b::l).getLast?:=by simp [List.getLast?_cons]
  rw [e]
  by_cases h:a=b
  ·simp only [List.cons_append,dd,h,if_true] at c ⊢
   exact c
  ·simp only [List.cons_append,dd,h,if_false] at c ⊢
   rw [c];split <;> rfl
theorem Y4P (l:List Int) (v:Int):v ∈ dd l↔v ∈ l:=by
 match l with
 | []=>simp [dd]
 | [a]=>simp [dd]
 | a::b::l=>
  have c:=Y4P (b::l) v;unfold dd
  split
  ·rename_i h;subst h;rw [c];simp
  ·rw [List.mem_cons,c,List.mem_cons (a:=v) (b:=a)]
theorem Y7q (l:List Int) (h:Srt l):Asc (dd l):=by
 match l with
 | []=>exact .nil
 | [a]=>exact List.pairwise_singleton _ _
 | a::b::l=>
  obtain ⟨g,d⟩:=List.pairwise_cons.1 h;have e:=Y7q (b::l) d
  unfold dd;split
  ·exact e
  ·rename_i f
   refine List.pairwise_cons.2 ⟨fun v c=>?_,e⟩;rw [Y4P] at c
   have:=g b (by simp)
   rcases List.mem_cons.1 c with rfl|c
   ·omega
   ·have:=(List.pairwise_cons.1 d).1 v c;omega
theorem Y7p (l:List Int):(dd l).length<=l.length:=by
 match l with
 | []=>simp [dd]
 | [a]=>simp [dd]
 | a::b::l=>
  have c:=Y7p (b::l);unfold dd
  split
  ·simp at c ⊢;omega
  ·simp at c ⊢;omega
theorem Y4b {l:List Int} {i:Nat} (h:i<l.length):(l.take (i+1)).getLast?=some (gl l i):=by rw [J8 h];simp
theorem Y0E {α:Type} [Emb α] (l:List α) (i j:Nat) (x:α) (h:i<l.length):gl (l.set i x) j=if i=j then x else gl l j:=by
 simp only [gl,List.getD_eq_getElem?_getD,List.getElem?_set]
 by_cases hij:i=j
 ·subst hij;simp [h]
 ·simp [hij]
theorem Z5E {α:Type} (l:List α) (i n:Nat) (x:α) (h:n<=i):(l.set i x).take n=l.take n:=by
 apply List.ext_getElem?;intro j
 simp only [List.getElem?_take,List.getElem?_set];split
 ·rw [if_neg (by omega)]
 ·rfl
theorem Y2c {α:Type} [Emb α] (l:List α) (k n:Nat) (h:k<=l.length):(clr l (0+k) n).take k=l.take k:=by
 apply List.ext_getElem?;intro j
 simp only [List.getElem?_take,clr];split
 ·rename_i a
  have:j<l.length:=by omega
  simp only [List.getElem?_map,List.getElem?_range this,Option.map_some];rw [if_neg (by omega),y7 this,List.getElem?_eq_getElem this]
 ·rfl
theorem Y5d {α:Type} [Emb α] (l:List α) (lo n:Nat):(clr l lo n).length=l.length:=by simp [clr]
theorem Q8B {F:Nat} (hF:BIG<=F) {l:List Int} (hl:l.length<=LIM):Q1R F l=some (dd l):=by
 have G:=hF;unfold BIG at hF;unfold LIM at hl
 unfold Q1R;refine Q9 (fun h=>?_) (fun h=>?_)
 ·have h:l.length<2:=by simp at h;omega
  match l,h with
  | [],_=>rfl
  | [a],_=>rfl
 ·have h:2<=l.length:=by simp at h;omega
  refine Y7 (fun z:Int=>∃ k:Nat,z=k/\1<=k/\k<=l.length/\dd (l.take k)=l.take k) (fun z=>l.length-z.toNat) (fun x z A E=>?_) ⟨1,rfl,by omega,by omega,?_⟩ (by simp;omega)
  ·obtain ⟨k,rfl,K,L,v⟩:=A
   unfold Q8D;refine Q9 (fun m=>?_) (fun m=>?_)
   ·have m:k<l.length:=by simpa using m
    refine Z4 (k:=?_);refine Z4 (k:=?_)
    refine Z4 (k:=?_);have D:((k:Int)-1).toNat=k-1:=by omega
    rw [D];simp only [Int.toNat_natCast]
    have f:(l.take k).getLast?=some (gl l (k-1)):=by
     have:=Y4b (l:=l) (i:=k-1) (by omega)
     rwa [show k-1+1=k from by omega] at this
    refine Q9 (fun n=>?_) (fun n=>?_)
    ·have n:gl l k=gl l (k-1):=by simpa using n
     refine Z4 (k:=?_);have y:dd (l.take (k+1))=l.take k:=by rw [J8 m,Y1O,f,if_pos (by rw [n]),v]
     refine Y7 (fun z:Int×Int×List Int=>∃ (q r:Nat) (c:List Int),z=((q:Int),(r:Int),c)/\1<=r/\k+r<=l.length/\q+1<=k+r/\1<=q/\c.length=l.length/\(∀ j,q<=j->gl c j=gl l j)/\c.take q=dd (l.take (k+r)))
      (fun z=>l.length-z.2.1.toNat) (fun w z A o=>?_) ⟨k,1,l,rfl,by omega,by omega,by omega,by omega,rfl,fun _ _=>rfl,y.symm⟩ (by simp only;omega)
     obtain ⟨q,r,c,rfl,M,C,J,I,u,g,p⟩:=A;simp only at o ⊢
     unfold Q8C;simp only [Int.toNat_natCast,Nat.zero_add]
     refine Q9 (fun t=>?_) (fun t=>?_)
     ·have t:r<l.length-k:=by simp at t;omega
      refine Z4 (k:=?_);refine Z4 (k:=?_)
      refine Z4 (k:=?_);refine Z4 (k:=?_)
      have H:((r:Int)-1).toNat=r-1:=by omega
      rw [H];refine Z4 (k:=?_)
      rw [g (k+r) (by omega),g (k+(r-1)) (by omega)];have B:(l.take (k+r)).getLast?=some (gl l (k+(r-1))):=by
       have:=Y4b (l:=l) (i:=k+(r-1)) (by omega)
       rwa [show k+(r-1)+1=k+r from by omega] at this
      have s:dd (l.take (k+r+1))=if gl l (k+(r-1))=gl l (k+r) then dd (l.take (k+r)) else dd (l.take (k+r))++[gl l (k+r)]:=by
       rw [J8 (by omega),Y1O,B];simp
      refine Q9 (fun d=>?_) (fun d=>?_)
      ·have d:gl l (k+r)≠gl l (k+(r-1)):=by simpa using d
       repeat (refine Z4 (k:=?_))
       refine o _ ⟨q+1,r+1,c.set q (gl l (k+r)),rfl,by omega,by omega,by omega,by omega,by simp [u],fun j N=>?_,?_⟩ (by simp only;omega)
       ·rw [Y0E _ _ _ _ (by omega),if_neg (by omega)];exact g j (by omega)
       ·rw [show k+(r+1)=k+r+1 from rfl,s,if_neg (fun e=>d e.symm), <-p,J8 (by simp;omega),Z5E _ _ _ _ (Nat.le_refl _),Y0E _ _ _ _ (by omega),if_pos rfl]
      ·have d:gl l (k+r)=gl l (k+(r-1)):=by simpa using d
       unfold Q2j;refine Z4 (k:=?_)
       refine o _ ⟨q,r+1,c,rfl,by omega,by omega,by omega,by omega,u,g,?_⟩ (by simp only;omega);rw [show k+(r+1)=k+r+1 from rfl,s,if_pos d.symm,p]
     ·have t:¬ r<l.length-k:=by simp at t;omega
      unfold Q4C;simp only [Int.toNat_natCast,Y5d]
      refine Z4 (k:=?_);refine Z4 (k:=?_)
      rw [Y2c _ _ _ (by omega),p,List.take_of_length_le (by omega)]
    ·have n:gl l k≠gl l (k-1):=by simpa using n
     unfold Q4B;refine Z4 (k:=?_)
     refine E _ ⟨k+1,by omega,by omega,m,?_⟩ (by omega);rw [J8 m,Y1O,f,if_neg (fun e=>n (by simpa using e.symm)),v]
   ·have m:¬ k<l.length:=by simpa using m
    have:k=l.length:=by omega
    subst this;rw [List.take_length] at v
    unfold Q4A;rw [v]
  ·match l,h with
   | a::b::l,_=>rfl
end
section
open Go.Sort
def Y3F (l:List Rect):List Int:=l.flatMap fun r=>[r.w_,r.H_]
def Z6o (ls:List (List Rect)):List Int:=ls.flatMap Y3F
def Y3K (ls:List (List Rect)):List Int:=dd ((Z6o ls).mergeSort fun x y=>decide (x<=y))
theorem Y9v (l:List Int):Srt (l.mergeSort fun x y=>decide (x<=y)):=by
 have:=List.pairwise_mergeSort (le:=fun x y:Int=>decide (x<=y)) (fun a b c e d=>by simp at *;omega) (fun a b=>by simp;omega) l
 exact this.imp fun h=>by simpa using h
theorem Y6g (ls:List (List Rect)):Asc (Y3K ls):=Y7q _ (Y9v _)
theorem Y5L (ls:List (List Rect)) (v:Int):v ∈ Y3K ls↔∃ l ∈ ls,∃ r ∈ l,v=r.w_\/v=r.H_:=by
 unfold Y3K;rw [Y4P,List.mem_mergeSort]
 simp [Z6o,Y3F]
theorem Y9U (l:List Rect):(Y3F l).length=2*l.length:=by
 induction l with
 | nil=>rfl
 | cons r l ih=>
  have:(Y3F (r::l)).length=2+(Y3F l).length:=by simp [Y3F];omega
  rw [this,ih,List.length_cons];omega
def tot (ls:List (List Rect)):Nat:=(ls.map List.length).sum
theorem Y8R (ls:List (List Rect)):(Z6o ls).length=2*tot ls:=by
 induction ls with
 | nil=>rfl
 | cons l ls ih=>
  have:(Z6o (l::ls)).length=(Y3F l).length+(Z6o ls).length:=by simp [Z6o]
  rw [this,ih,Y9U];simp [tot];omega
theorem Y6f (ls:List (List Rect)):(Y3K ls).length<=2*tot ls:=by
 unfold Y3K;have:=Y7p ((Z6o ls).mergeSort fun x y=>decide (x<=y))
 rw [List.length_mergeSort,Y8R] at this;exact this
theorem Z5T {F:Nat} (hF:BIG<=F) {ls:List (List Rect)} (h:tot ls<=1000000000) (hn:ls.length<=1000000):Q9X F ls=some (Y3K ls):=by
 have g:=hF;unfold BIG at hF
 unfold Q9X;refine (Z1W (l:=ls) (σ:=List Int) (fun b a=>a.length+2*tot b<=2000000000) (fun b a=>some (dd ((a++Z6o b).mergeSort fun x y=>decide (x<=y))))
  (fun e i a n d m=>?_) (fun e a d=>?_) (by omega) (by simp;omega)).trans rfl
 ·unfold Z1P
  refine Z5 (Z0B n) ?_;refine Z4 (k:=?_)
  simp only [Int.toNat_natCast];generalize hl:gl ls i=l at *
  have q:tot (l::ls.drop (i+1))=l.length+tot (ls.drop (i+1)):=by simp [tot]
  rw [q] at d;refine (Z1W (l:=l) (σ:=List Int) (fun b a=>a.length+2*b.length+2*tot (ls.drop (i+1))<=2000000000) (fun b a=>some (dd ((a++Y3F b++Z6o (ls.drop (i+1))).mergeSort fun x y=>decide (x<=y))))
   (fun c j a p d f=>?_) (fun c a d=>?_) (by omega) (by omega)).trans ?_
  ·simp only
   unfold Z1O;simp only [Int.toNat_natCast,hl]
   refine Z5 (Z0B p) ?_;simp only [List.length_cons] at d
   refine Z4 (k:=?_);refine Z4 (k:=?_)
   refine Z4 (k:=?_);rw [f _ (by simp only [List.length_append,List.length_cons,List.length_nil];omega)]
   simp [Y3F]
  ·simp only
   unfold Z1O;simp only [Int.toNat_natCast,hl]
   refine Q8 (Q2R _) ?_;unfold Z1N
   refine Z4 (k:=?_);rw [m _ (by simp only [List.length_nil] at d;omega)]
   simp [Y3F]
  ·simp [Z6o]
 ·simp only
  unfold Z1P;refine Q8 (Q2R _) ?_
  unfold Z1M;have d:a.length<=2000000000:=by simp [tot] at d;omega
  have o:Z7G a=some (a.mergeSort fun x y=>decide (x<=y)):=by unfold Z7G;rw [if_pos (by unfold LIM;omega)]
  refine Q3 o ?_;refine Q3 (Q8B g (by rw [List.length_mergeSort];unfold LIM;omega)) ?_
  simp [Z6o]
theorem Q7h (F:Nat) (a b:Int):Q2t F a b=some (if a<b then -1 else if b<a then 1 else 0):=by
 unfold Q2t Q9F;refine Q3 rfl (Q3 rfl ?_)
 refine Q8 (by simp) (Q8 (by simp) ?_);refine Q9 (fun h=>?_) (fun h=>?_)
 ·have h:a<b:=by simpa using h
  rw [if_pos h]
 ·have h:¬ a<b:=by simpa using h
  rw [if_neg h];refine Q9 (fun h=>?_) (fun h=>?_)
  ·have h:b<a:=by simpa using h
   rw [if_pos h]
  ·have h:¬ b<a:=by simpa using h
   rw [if_neg h]
def cfL (a b:Span):Int:=if a.L_<b.L_ then -1 else if b.L_<a.L_ then 1 else 0
theorem Y1J (a b:Span):ltC cfL a b=decide (a.L_<b.L_):=by
 unfold ltC cfL
 by_cases h:a.L_<b.L_
 ·simp [h]
 ·by_cases h2:b.L_<a.L_ <;> simp [h,h2]
theorem W3f:SWO (ltC cfL) where
 irrefl x:=by rw [Y1J];simp
 trans x y z h1 h2:=by rw [Y1J] at *;simp at *;omega
 ntrans x y z h1 h2:=by rw [Y1J] at *;simp at *;omega
theorem Y8L {α:Type} [Emb α] (cf:α->α->Int) (hO:SWO (ltC cf)) (l:List α):(Q8Y cf l).Perm l/\(Q8Y cf l).Pairwise fun a b=>ltC cf b a=false:=by
 letI inst:Inhabited α:=⟨Emb.d⟩
 have h:=pdq_sorts (ltC cf) hO l.toArray 0 l.length (Lib.bitLen l.length) true true (Nat.zero_le _) (by simp) (.inl rfl);have c:(pdq (ltC cf) l.toArray 0 l.length (Lib.bitLen l.length) true true).size=l.length:=by simpa using h.1.1
 constructor
 ·have:=h.1.2.2
  simp only [List.extract_toArray,List.extract_eq_take_drop,Nat.sub_zero,List.drop_zero,List.take_length] at this;have e:((pdq (ltC cf) l.toArray 0 l.length (Lib.bitLen l.length) true true).extract 0 l.length).toList=Q8Y cf l:=by
   unfold Q8Y;generalize pdq (ltC cf) l.toArray 0 l.length (Lib.bitLen l.length) true true=d at c
   rw [<-c];simp
  rw [e] at this;exact this
 ·rw [List.pairwise_iff_getElem]
  intro i j m n f;have g : i<(pdq (ltC cf) l.toArray 0 l.length (Lib.bitLen l.length) true true).size:=by simpa [Q8Y] using m
  have k : j<(pdq (ltC cf) l.toArray 0 l.length (Lib.bitLen l.length) true true).size:=by simpa [Q8Y] using n
  have:=h.2 i j (Nat.zero_le _) f (by omega)
  rw [getElem!_pos _ j k,getElem!_pos _ i g] at this;simpa [Q8Y] using this
def flt (l:List Rect) (y:Int):List Span:=(l.filter fun r=>decide (r.w_<=y)&&decide (y<r.H_)).map fun r=>⟨r.L_,r.R_⟩
theorem Y5Y (r:Rect) (l:List Rect) (y:Int):flt (r::l) y=if (decide (r.w_<=y)&&decide (y<r.H_))=true then ⟨r.L_,r.R_⟩::flt l y else flt l y:=by
 unfold flt;rw [List.filter_cons]
 split <;> rfl
theorem W1H (l:List Rect) (x y:Int):inS (flt l y) x=inR l x y:=by
 induction l with
 | nil=>rfl
 | cons r l ih=>
  have e:inR (r::l) x y=(r.has x y||inR l x y):=rfl;rw [Y5Y,e, <-ih]
  split
  ·rename_i h
   simp only [Bool.and_eq_true,decide_eq_true_eq] at h;simp [inS,Span.has,Rect.has,h.1,h.2]
  ·rename_i h
   have:r.has x y=false:=Y2N (by simp at h;omega)
   rw [this,Bool.false_or]
theorem W1P (l:List Rect) (y:Int):(flt l y).length<=l.length:=by
 unfold flt;rw [List.length_map];exact List.length_filter_le _ _
theorem W1O {l:List Rect} (h:∀ r ∈ l,r.L_<r.R_) (y:Int):∀ s ∈ flt l y,s.L_<s.R_:=by
 intro s a;obtain ⟨r,b,rfl⟩:=List.mem_map.1 a
 exact h r (List.mem_filter.1 b).1
theorem Y1K (l m:List Span) (x:Int):inS (l++m) x=(inS l x||inS m x):=by simp [inS]
theorem W0d {l m:List Span} (h:l.Perm m) (x:Int):inS l x=inS m x:=by
 rw [Bool.eq_iff_iff];simp only [inS,List.any_eq_true]
 constructor
 ·rintro ⟨s,a,b⟩;exact ⟨s,h.mem_iff.1 a,b⟩
 ·rintro ⟨s,a,b⟩;exact ⟨s,h.mem_iff.2 a,b⟩
theorem W1K (a b:Int):Q0x a b=if a<b then b else a:=rfl
theorem Y8G {F:Nat} (hF:BIG<=F) {S:List Span} (hl:S.length<=1000000000) (hpos:∀ s ∈ S,s.L_<s.R_) (hs:S.Pairwise fun a b=>a.L_<=b.L_) :
  Z3 (fun again (z:Int×List Span)=>Z3b F S again z.1 z.2) F (0,[])=some (spn fun x=>inS S x):=by
 unfold BIG at hF;refine Y7 (fun z:Int×List Span=>∃ (i:Nat) (d:List Span),z=((i:Int),d)/\i<=S.length/\d.length<=i/\SpOk d/\(∀ x,inS d x=inS (S.take i) x)/\∀ o ∈ d,∀ j,i<=j->j<S.length->o.L_<=(gl S j).L_)
  (fun z=>S.length-z.1.toNat) (fun again z M w=>?_) ⟨0,[],rfl,by omega,Nat.le_refl _,.nil,fun x=>by simp,fun o c=>by cases c⟩ (by simp only;omega)
 obtain ⟨i,d,rfl,P,C,g,v,l⟩:=M;simp only at w ⊢
 unfold Z3b;refine Q9 (fun h=>?_) (fun h=>?_)
 ·have h:i<S.length:=by simpa using h
  refine Z4 (k:=?_);simp only [Int.toNat_natCast]
  have K:=hpos _ (W9 h);have q:∀ j,i+1<=j->j<S.length->(gl S i).L_<=(gl S j).L_:=by
   intro j D f;rw [y7 h,y7 f]
   exact List.pairwise_iff_getElem.1 hs i j h f (by omega)
  have p : ∀ x,inS (S.take (i+1)) x=(inS d x||(gl S i).has x):=by
   intro x;rw [J8 h,Y1K,v];simp [inS]
  have m:(∀ o,d.getLast?=some o->o.R_<(gl S i).L_)->Q4n F S i d again false=some (spn fun x=>inS S x):=by
   intro r;unfold Q4n
   refine Q8 rfl ?_;refine Z4 (k:=?_)
   unfold Q6q;refine Z4 (k:=?_)
   simp only [Int.toNat_natCast];refine w _ ⟨i+1,d++[gl S i],rfl,h,by simp;omega,⟨fun s hs=>?_,?_⟩,fun x=>?_,fun o c j D f=>?_⟩ (by simp only;omega)
   ·rcases List.mem_append.1 hs with hs|hs
    ·exact g.pos s hs
    ·rw [List.mem_singleton.1 hs];exact K
   ·refine List.pairwise_append.2 ⟨g.ch,List.pairwise_singleton _ _,fun o c b B=>?_⟩
    rw [List.mem_singleton.1 B];rcases List.eq_nil_or_concat d with y|⟨t,e,u⟩
    ·rw [y] at c;cases c
    ·rw [List.concat_eq_append] at u
     subst u;have N:=r e (by simp)
     rcases List.mem_append.1 c with c|c
     ·have R:=(List.pairwise_append.1 g.ch).2.2 o c e (by simp)
      have Q:=g.pos e (by simp);omega
     ·rw [List.mem_singleton.1 c];exact N
   ·rw [p,Y1K];simp [inS]
   ·rcases List.mem_append.1 c with c|c
    ·exact l o c j (by omega) f
    ·rw [List.mem_singleton.1 c];exact q j D f
  rcases List.eq_nil_or_concat d with y|⟨t,e,u⟩
  ·subst y
   refine Q8 rfl ?_;exact m fun o c=>by simp at c
  ·rw [List.concat_eq_append] at u
   subst u;have n:(t ++ [e]).length=t.length+1:=by simp
   have E:(((t.length+1:Nat):Int)-1).toNat=t.length:=by omega
   rw [n] at C ⊢;refine Z5 (by simp) ?_
   refine Z4 (k:=?_);refine Z4 (k:=?_)
   rw [E,Z4B _ _ rfl]
   by_cases hc:(gl S i).L_<=e.R_
   ·have A:decide ((gl S i).L_<=e.R_)=true:=by simpa using hc
    rw [A];unfold Q4n
    refine Z5 rfl ?_;simp only [n]
    refine Z4 (k:=?_);refine Z4 (k:=?_)
    refine Z4 (k:=?_);refine Z4 (k:=?_)
    rw [E,Z4B _ _ rfl,Z8X _ _ _ rfl];unfold Q6q
    refine Z4 (k:=?_);simp only [Int.toNat_natCast]
    have H:e.L_<=(gl S i).L_:=l e (by simp) i (Nat.le_refl _) h;have L:=g.pos e (by simp)
    have J:e.R_<=Q0x e.R_ (gl S i).R_/\(gl S i).R_<=Q0x e.R_ (gl S i).R_/\(Q0x e.R_ (gl S i).R_=e.R_\/Q0x e.R_ (gl S i).R_=(gl S i).R_):=by
     rw [W1K];split <;> omega
    refine w _ ⟨i+1,t ++ [⟨e.L_,Q0x e.R_ (gl S i).R_⟩],rfl,h,by simp;omega,⟨fun s hs=>?_,?_⟩,fun x=>?_,fun o c j D f=>?_⟩ (by simp only;omega)
    ·rcases List.mem_append.1 hs with hs|hs
     ·exact g.pos s (by simp [hs])
     ·rw [List.mem_singleton.1 hs];simp only;omega
    ·obtain ⟨O,_,I⟩:=List.pairwise_append.1 g.ch
     refine List.pairwise_append.2 ⟨O,List.pairwise_singleton _ _,fun o c b B=>?_⟩;rw [List.mem_singleton.1 B]
     exact I o c e (by simp)
    ·rw [p,Y1K,Y1K,Bool.or_assoc]
     congr 1
     have G:∀ (s:Span) x,inS [s] x=s.has x:=fun s x=>by simp [inS]
     rw [G,G,Bool.eq_iff_iff];simp only [Span.has,Bool.or_eq_true,Bool.and_eq_true,decide_eq_true_eq]
     omega
    ·rcases List.mem_append.1 c with c|c
     ·exact l o (by simp [c]) j (by omega) f
     ·rw [List.mem_singleton.1 c];exact l e (by simp) j (by omega) f
   ·have A:decide ((gl S i).L_<=e.R_)=false:=by simpa using hc
    rw [A];exact m fun o c=>by simp at c;subst c;omega
 ·have h:¬ i<S.length:=by simpa using h
  have:i=S.length:=by omega
  subst this;unfold Z3a
  rw [Y0d g fun x=>by rw [v,List.take_length]]
theorem Z2Z {F:Nat} (hF:BIG<=F) {l:List Rect} (hl:l.length<=1000000000) (hpos:∀ r ∈ l,r.L_<r.R_) (y:Int):Q8P F l y=some (spn fun x=>inR l x y):=by
 have n:=hF;unfold BIG at hF
 unfold Q8P;have m:∀ c:List Span,c=flt l y->Q9v F c=some (spn fun x=>inR l x y):=by
  rintro c rfl;unfold Q9v
  have u:=W1P l y;have j:Y0U (flt l y) (fun v w=>Z1h F v w)=some (Q8Y cfL (flt l y)):=
   Y9x cfL (by unfold LIM;omega) W3f fun a b=>by unfold Z1h;rw [Q7h];rfl
  refine Q3 j ?_;obtain ⟨p,o⟩:=Y8L cfL W3f (flt l y)
  have e:(fun x=>inR l x y)=fun x=>inS (Q8Y cfL (flt l y)) x:=by funext x;rw [W0d p,W1H]
  rw [e];refine Y8G n (by rw [p.length_eq];omega) (fun s o=>W1O hpos y s (p.mem_iff.1 o)) (o.imp fun {a b} h=>?_)
  rw [Y1J] at h;simp at h;exact h
 refine (Z1W (l:=l) (σ:=List Span) (fun d c=>c.length+d.length<=1000000000/\c++flt d y=flt l y) (fun d c=>some (spn fun x=>inR l x y))
  (fun f i c t g q=>?_) (fun f c g=>?_) (by omega) ⟨by simp;omega,rfl⟩)
 ·simp only
  unfold Z3c;refine Z5 (Z0B t) ?_
  refine Z4 (k:=?_);rw [Q3W (Q6s F l i c f)]
  simp only [Int.toNat_natCast];rw [Y5Y] at g
  simp only [List.length_cons] at g;unfold Q6s
  refine Q9 (fun h=>?_) (fun h=>?_)
  ·rw [if_pos h] at g
   refine Z4 (k:=?_);unfold Q6r
   refine Z4 (k:=?_);simp only [Int.toNat_natCast]
   exact q _ ⟨by simp only [List.length_append,List.length_cons,List.length_nil];omega,by rw [<-g.2];simp⟩
  ·rw [h] at g
   unfold Q6r;refine Z4 (k:=?_)
   exact q _ ⟨by omega,by simpa using g.2⟩
 ·simp only
  unfold Z3c;refine Q8 (Q2R _) ?_
  exact m c (by have:=g.2;simpa [flt] using this)
end
theorem W1p (r s:Span):((r.L_==s.L_)&&((r.R_==s.R_)&&true))=decide (r=s):=by
 cases r;cases s
 rw [Bool.eq_iff_iff,decide_eq_true_iff];simp
theorem Z5G {F:Nat} (hF:BIG<=F) {l m:List Span} (hm:m.length<=LIM):Q4I F l m=some (decide (l=m)):=by
 unfold BIG at hF;unfold LIM at hm
 unfold Q4I;refine Q9 (fun h=>?_) (fun h=>?_)
 ·have h:l.length≠m.length:=by simp at h;omega
  rw [decide_eq_false fun e=>h (by rw [e])]
 ·have h:l.length=m.length:=by simp at h;omega
  refine Y7 (fun z:Int=>∃ i:Nat,z=i/\i<=l.length/\decide (l=m)=decide (l.drop i=m.drop i)) (fun z=>l.length-z.toNat) (fun d z f g=>?_) ⟨0,rfl,by omega,by simp⟩ (by simp;omega);obtain ⟨i,rfl,j,c⟩:=f
  unfold Q9M;refine Q9 (fun b=>?_) (fun b=>?_)
  ·have b:i<l.length:=by simpa using b
   rw [Z4x l m h i b] at c;refine Z4 (k:=?_)
   refine Z4 (k:=?_);rw [W1p]
   refine Q9 (fun a=>?_) (fun a=>?_)
   ·have a:decide (gl l i=gl m i)=false:=by simpa using a
    rw [c,a];rfl
   ·have a:decide (gl l i=gl m i)=true:=by simpa using a
    rw [a,Bool.true_and] at c;refine Z4 (k:=?_)
    exact g _ ⟨i+1,by omega,b,c⟩ (by omega)
  ·have b:¬ i<l.length:=by simpa using b
   have:i=l.length:=by omega
   rw [c,List.drop_of_length_le (by omega),List.drop_of_length_le (by omega),decide_eq_true rfl];rfl
theorem Z5H {F:Nat} (hF:BIG<=F) {l m:List Rect} (hm:m.length<=LIM):Q4J F l m=some (decide (l=m)):=by
 unfold BIG at hF;unfold LIM at hm
 unfold Q4J;refine Q9 (fun h=>?_) (fun h=>?_)
 ·have h:l.length≠m.length:=by simp at h;omega
  rw [decide_eq_false fun e=>h (by rw [e])]
 ·have h:l.length=m.length:=by simp at h;omega
  refine Y7 (fun z:Int=>∃ i:Nat,z=i/\i<=l.length/\decide (l=m)=decide (l.drop i=m.drop i)) (fun z=>l.length-z.toNat) (fun d z f g=>?_) ⟨0,rfl,by omega,by simp⟩ (by simp;omega);obtain ⟨i,rfl,j,c⟩:=f
  unfold Q9O;refine Q9 (fun b=>?_) (fun b=>?_)
  ·have b:i<l.length:=by simpa using b
   rw [Z4x l m h i b] at c;refine Z4 (k:=?_)
   refine Z4 (k:=?_);rw [Y7P]
   refine Q9 (fun a=>?_) (fun a=>?_)
   ·have a:decide (gl l i=gl m i)=false:=by simpa using a
    rw [c,a];rfl
   ·have a:decide (gl l i=gl m i)=true:=by simpa using a
    rw [a,Bool.true_and] at c;refine Z4 (k:=?_)
    exact g _ ⟨i+1,by omega,b,c⟩ (by omega)
  ·have b:¬ i<l.length:=by simpa using b
   have:i=l.length:=by omega
   rw [c,List.drop_of_length_le (by omega),List.drop_of_length_le (by omega),decide_eq_true rfl];rfl
def Band.rn (b:Band):Rn (List Span):=⟨b.w_,b.H_,b.spans_⟩
def fl (l:List Band):List Rect:=flat (l.map Band.rn)
theorem Y4Z (b:Band) (l:List Band):fl (b::l)=G8 b.rn++fl l:=rfl
theorem W2R (l:List Band) (N:Nat) (h:∀ b ∈ l,b.spans_.length<=N):(fl l).length<=l.length*N:=by
 induction l with
 | nil=>simp [fl,flat]
 | cons b l ih=>
  have d:=ih fun c a=>h c (by simp [a])
  have e:=h b (by simp);rw [Y4Z,List.length_append,Q0v,List.length_cons,Nat.add_mul]
  simp only [Band.rn];omega
theorem Y1q {F:Nat} (hF:BIG<=F) {l:List Band} (hl:l.length<=1000000000) (hn:(fl l).length<=LIM) (hs:∀ b ∈ l,b.spans_.length<=1000000000):Z1f F l=some (fl l):=by
 unfold BIG at hF;unfold LIM at hn
 unfold Z1f;refine (Z1W (l:=l) (σ:=List Rect) (fun c a=>a.length+(fl c).length<=4294967296) (fun c a=>some (a++fl c)) (fun f i a m d n=>?_) (fun f a d=>?_) (by omega) (by simp;omega)).trans (by simp)
 ·unfold Z0v
  refine Z5 (Z0B m) ?_;refine Z4 (k:=?_)
  simp only [Int.toNat_natCast];have g:=hs _ (W9 m)
  rw [Y4Z,List.length_append,Q0v] at d;rw [Y4Z]
  generalize hb:gl l i=b at d g ⊢;have d:a.length+(b.spans_.length+(fl (l.drop (i+1))).length)<=4294967296:=d
  refine (Z1W (l:=b.spans_) (σ:=List Rect) (fun c a=>a.length+c.length+(fl (l.drop (i+1))).length<=4294967296) (fun c a=>some (a++(c.map (fun s=>(⟨s.L_,b.w_,s.R_,b.H_⟩:Rect))++fl (l.drop (i+1)))))
   (fun e j a o d h=>?_) (fun e a d=>?_) (by omega) (by omega)).trans rfl
  ·unfold Z0u
   simp only [Int.toNat_natCast,hb];refine Z5 (Z0B o) ?_
   simp only [List.length_cons] at d;refine Z4 (k:=?_)
   refine Z4 (k:=?_);refine Z4 (k:=?_)
   rw [h _ (by simp only [List.length_append,List.length_cons,List.length_nil];omega)];simp
  ·unfold Z0u
   simp only [Int.toNat_natCast,hb];refine Q8 (Q2R _) ?_
   unfold Z0t;refine Z4 (k:=?_)
   rw [n _ (by simpa using d)];simp
 ·unfold Z0v
  refine Q8 (Q2R _) ?_;simp [Z0s,fl,flat]
theorem Z4Y {F:Nat} (hF:BIG<=F) {cs:List Int} {row:Int->Option (List Span)} {S:Int->Int->Bool} (hS:Y3s S) (hst:Step [] cs fun y=>spn fun x=>S x y) (hc:cs.length<=65536)
  (hrow:∀ y,row y=some (spn fun x=>S x y)) (hlen:∀ y,(spn fun x=>S x y).length<=65536):Q7I F cs row=some (cn S):=by
 have E:=hF;unfold BIG at hF
 unfold Q7I;have H:∀ c:List Band,Runs (c.map Band.rn)->(∀ t,atR [] (c.map Band.rn) t=spn fun x=>S x t)->c.length<=cs.length->(∀ b ∈ c,b.spans_.length<=65536)->Q6O F c=some (cn S):=by
  intro c U n D g;unfold Q6O
  have M:=W2R c 65536 g;have L:c.length*65536<=65536*65536:=Nat.mul_le_mul_right _ (by omega)
  refine Q3 (Y1q E (by omega) (by unfold LIM;omega) (fun b d=>by have:=g b d;omega)) ?_;have N:=(Step.cn hS hst (acc:=(c.map Band.rn).filter fun r=> !r.v.isEmpty) (U.filter _) (fun t=>by
   rw [U.atR_filter _ (fun r _ W=>by simpa using W)];exact n t) (fun b d=>by
   have:=(List.mem_filter.1 d).2
   intro C;rw [C] at this;simp at this)).1
  rw [N];congr 1
  have:∀ l:List (Rn (List Span)),flat l=flat (l.filter fun r=> !r.v.isEmpty):=by
   intro l
   induction l with
   | nil=>rfl
   | cons a l B=>
    rw [List.filter_cons];have e:flat (a::l)=G8 a++flat l:=rfl
    cases n:a.v with
    | nil=>
     have:G8 a=[]:=by simp [G8,n]
     rw [e,this,List.nil_append,B];simp
    | cons s v=>
     simp only [List.isEmpty_cons,Bool.not_false,if_true];have K:flat (a::l.filter fun r=> !r.v.isEmpty)=G8 a++flat (l.filter fun r=> !r.v.isEmpty):=rfl
     rw [e,K, <-B]
  exact this _
 refine Y7 (fun z:Int×List Band=>∃ (i:Nat) (c:List Band),z=((i:Int)+1,c)/\c.length<=i/\(∀ b ∈ c,b.spans_.length<=65536)/\((cs.length=0/\i=0)\/(i+1<=cs.length/\Bst [] (fun y=>spn fun x=>S x y) (c.map Band.rn) (gl cs i))))
  (fun z=>cs.length+1-z.1.toNat) (fun u z X B=>?_) ⟨0,[],rfl,Nat.le_refl _,fun b d=>(List.not_mem_nil d).elim,?_⟩ (by simp;omega)
 ·obtain ⟨i,c,rfl,D,g,w⟩:=X
  simp only at B ⊢;unfold Z4Z
  rcases w with ⟨G,rfl⟩|⟨Y,J⟩
  ·have Q:c=[]:=List.eq_nil_of_length_eq_zero (by omega)
   subst Q;refine Q8 (by simp;omega) ?_
   exact H [] .nil (fun t=>(hst.empty G t).symm) (by simp) (fun b d=>by cases d)
  ·refine Q9 (fun f=>?_) (fun f=>?_)
   ·have f:i+1<cs.length:=by simp at f;omega
    have I:=hst.asc.at_lt (show i<i+1 by omega) f;have o:=hst.gap i f
    have R:((i:Int)+1-1).toNat=i:=by omega
    have K:((i:Int)+1).toNat=i+1:=by omega
    rw [R];refine Z4 (k:=?_)
    refine Z4 (k:=?_);refine Z4 (k:=?_)
    refine Z4 (k:=?_);refine Z4 (k:=?_)
    refine Q3 (hrow _) ?_;generalize n:(spn fun x=>S x (gl cs i))=v at *
    have O:v.length<=65536:=by rw [<-n];exact hlen _
    have h:(∀ q,(c.map Band.rn).getLast?=some q->q.hi=gl cs i->q.v≠v)->Q1u F cs ((i:Int)+1) c v u false=some (cn S):=by
     intro m;unfold Q1u
     refine Q8 rfl ?_;rw [R,K]
     refine Z4 (k:=?_);unfold Q4e
     refine Z4 (k:=?_);refine B _ ⟨i+1,c++[⟨gl cs i,gl cs (i+1),v⟩],by simp,by simp;omega,fun b d=>?_,.inr ⟨by omega,?_⟩⟩ (by simp only;omega)
     ·rcases List.mem_append.1 d with d|d
      ·exact g b d
      ·rw [List.mem_singleton.1 d];exact O
     ·rw [List.map_append]
      have:=J.add I (fun t M L=>(o t M L).trans n.symm) (fun a V C=>by rw [n];exact m a V C)
      rw [n] at this;exact this
    rcases List.eq_nil_or_concat c with G|⟨A,e,C⟩
    ·subst G
     refine Q8 rfl ?_;exact h fun q m=>by simp at m
    ·rw [List.concat_eq_append] at C
     subst C;have j:(A ++ [e]).length=A.length+1:=by simp
     have T:(((A.length+1:Nat):Int)-1).toNat=A.length:=by omega
     rw [j] at D ⊢;have p:gl (A ++ [e]) A.length=e:=Z4B _ _ rfl
     refine Z5 (by simp) ?_;refine Z4 (k:=?_)
     refine Z4 (k:=?_);rw [T,p]
     by_cases hh:e.H_=gl cs i
     ·refine Z5 (by simpa using hh) ?_
      refine Z4 (k:=?_);refine Z4 (k:=?_)
      refine Q3 (Z5G E (by unfold LIM;omega)) ?_
      by_cases hvv:e.spans_=v
      ·rw [decide_eq_true hvv]
       unfold Q1u;refine Z5 rfl ?_
       simp only [j];refine Z4 (k:=?_)
       refine Z4 (k:=?_);rw [T,p,Z8X _ _ _ rfl,K]
       unfold Q4e;refine Z4 (k:=?_)
       refine B _ ⟨i+1,A ++ [⟨e.w_,gl cs (i+1),e.spans_⟩],by simp,by simp;omega,fun b d=>?_,.inr ⟨by omega,?_⟩⟩ (by simp only;omega)
       ·rcases List.mem_append.1 d with d|d
        ·exact g b (by simp [d])
        ·rw [List.mem_singleton.1 d];exact g e (by simp)
       ·rw [List.map_append] at J ⊢
        exact J.grow (a:=e.rn) hh I fun t M L=>(o t M L).trans hvv.symm
      ·rw [decide_eq_false hvv]
       exact h fun q m _=>by rw [List.map_append] at m;simp at m;subst m;exact hvv
     ·refine Q8 (by simpa using hh) ?_
      exact h fun q m P=>by rw [List.map_append] at m;simp at m;subst m;exact absurd P hh
   ·have f:¬ i+1<cs.length:=by simp at f;omega
    exact H c J.runs (fun t=>hst.done (by omega) J t) (by omega) g
 ·by_cases G:cs.length=0
  ·exact .inl ⟨G,rfl⟩
  ·exact .inr ⟨by omega,hst.start (by omega)⟩
theorem Y0M (ls:List (List Rect)) {l:List Rect} (h:l ∈ ls):Y5k (Y3K ls) l:=fun r a=>⟨(Y5L ls _).2 ⟨l,h,r,a,.inl rfl⟩,(Y5L ls _).2 ⟨l,h,r,a,.inr rfl⟩⟩
theorem Y2J (l:List Rect) {ls:List (List Rect)} (h:l ∈ ls):Grid (Q8u l []) (Y3K ls) (inR l):=by
 have:=Grid.of (xs:=Q8u l []) (ys:=Y3K ls) (a:=l) (b:=[]) (Q8t l .nil) (Y6g ls)
  (fun r c=>⟨(Q0w l _ _).2 (.inr ⟨r,c,.inl rfl⟩),(Q0w l _ _).2 (.inr ⟨r,c,.inr rfl⟩)⟩) (fun r c=>by cases c) (Y0M ls h) (fun r c=>by cases c) (k:=fun p q=>p||q) rfl
 have e:(fun x y=>inR l x y||inR [] x y)=inR l:=by funext x y;simp [inR]
 rwa [e] at this
theorem Z0K {F:Nat} (hF:BIG<=F) {l:List Rect} (hl:l.length<=32768) (hpos:∀ r ∈ l,r.L_<r.R_):Q3i F l=some (cn (inR l)):=by
 unfold Q3i;have a:=Y2J l (ls:=[l]) (by simp)
 have c:tot [l]=l.length:=by simp [tot]
 have b:=Y6f [l];refine Q3 (Z5T hF (by omega) (by simp)) ?_
 refine Q3 (Z4Y hF a.rows a.step (by omega) (fun y=>?_) (fun y=>?_)) rfl
 ·unfold Q7c
  exact Q3 (Z2Z hF (by omega) hpos y) rfl
 ·have:=(a.x y).spn_len
  have d:=Z4K (l:=l);omega
theorem Z2W {F:Nat} (hF:BIG<=F) {l:List Rect} {q:Rect->Option Bool} (p:Rect->Bool) (hl:l.length<=1000000000) (hq:∀ r ∈ l,q r=some (p r)):∃ i:Int,Q4x F l q=some i/\(0<=i↔l.any p=true):=by
 unfold BIG at hF;have b:∀ (n i:Nat),i<=l.length->l.length-i<n->∃ r:Int,Z3 (fun again (z:Int)=>U4 F l q again z) n (i:Int)=some r/\(0<=r↔(l.drop i).any p=true):=by
  intro n
  induction n with
  | zero=>intro i _ h;omega
  | succ n ih=>
   intro i j m;have e:Z3 (fun again (z:Int)=>U4 F l q again z) (n+1) (i:Int)=U4 F l q (Z3 (fun again (z:Int)=>U4 F l q again z) n) (i:Int):=rfl
   rw [e]
   by_cases h:i<l.length
   ·rw [Y3o h]
    by_cases a:p (gl l i)=true
    ·refine ⟨i,?_,by rw [a];simp⟩
     unfold U4;refine Z5 (Z0B h) ?_
     refine Z4 (k:=?_);exact Q3 (hq _ (W9 h)) (Z5 a rfl)
    ·have a:p (gl l i)=false:=by simpa using a
     obtain ⟨r,f,c⟩:=ih (i+1) h (by omega);refine ⟨r,?_,by rw [c,a];simp⟩
     unfold U4;refine Z5 (Z0B h) ?_
     refine Z4 (k:=?_);refine Q3 (hq _ (W9 h)) (Q8 a ?_)
     refine Z4 (k:=?_);exact f
   ·have:i=l.length:=by omega
    subst this;refine ⟨-1,?_,by simp⟩
    unfold U4;exact Q8 (Q2R _) rfl
 obtain ⟨r,g,d⟩:=b F 0 (Nat.zero_le _) (by omega);exact ⟨r,g,by simpa using d⟩
theorem Q1C {F:Nat} (hF:BIG<=F) {l:List Rect} {q:Rect->Option Bool} (p:Rect->Bool) (hl:l.length<=1000000000) (hq:∀ r ∈ l,q r=some (p r)):K6 F l q=some (l.any p):=by
 obtain ⟨i,a,b⟩:=Z2W hF p hl hq;unfold K6
 refine Q3 a ?_;congr 1
 rw [Bool.eq_iff_iff, <-b,decide_eq_true_iff]
theorem Y0g (F:Nat) (r:Rect):Q9t F r=some (Q2F r):=by
 unfold Q9t;rw [Q3W (J0 F),Q3W (J0 F),Q3W (J0 F),Q3W (J0 F),Q3W (J0 F)]
 rfl
theorem Q0k {F:Nat} (hF:BIG<=F) (a:Re_):Q0l F a=some (Q3H a.t_):=by
 obtain ⟨l⟩:=a;simp only
 unfold Q0l;have b:=hF
 unfold BIG at hF;refine Q9 (fun h=>?_) (fun h=>?_)
 ·have h:120<l.length:=by simp at h;omega
  rw [Q8K fun d=>by have:=d.1;omega];rfl
 ·have h:l.length<=120:=by simp at h;omega
  refine Q3 (Q1C b (fun r=> !Q2F r) (by simp only;omega) (fun r _=>by unfold Z1K;rw [Y0g];rfl)) ?_;unfold Q6M
  refine Q9 (fun e=>?_) (fun e=>?_)
  ·rw [Q8K fun d=>?_]
   simp only [List.any_eq_true] at e;obtain ⟨r,c,f⟩:=e
   rw [d.2.1 r c] at f;cases f
  ·have g:∀ r ∈ l,Q2F r=true:=by
    intro r c;have:=List.any_eq_false.1 e r c
    simpa using this
   refine Q3 (Z0K b (by simp only;omega) (fun r c=>((Q0f r).1 (g r c)).2.1)) ?_;refine Q3 (Z5H b (by unfold LIM;simp only;omega)) ?_
   simp only
   by_cases hc:cn (inR l)=l
   ·rw [decide_eq_true hc,Q3g ⟨h,g,(Z1x l).2 hc⟩]
   ·rw [decide_eq_false hc,Q8K fun d=>hc ((Z1x l).1 d.2.2)]
def Q4i {α:Type} (p:α->Bool) (l:List α):Int:=if l.any p then (l.findIdx p:Int) else -1
theorem Q9j {α:Type} [Emb α] {l:List α} {p:α->Bool} {i:Nat} (h:i<l.length) (hb:∀ j,j<i->p (gl l j)=false) (hi:p (gl l i)=true):l.findIdx p=i:=by
 induction l generalizing i with
 | nil=>simp at h
 | cons a l ih=>
  rw [List.findIdx_cons]
  cases i with
  | zero=>
   have:p a=true:=hi
   rw [this];rfl
  | succ i=>
   have b:p a=false:=hb 0 (by omega);rw [b]
   have:=ih (i:=i) (by simpa using h) (fun j c=>hb (j+1) (by omega)) hi
   simp [this]
theorem Q2Y {α:Type} [Emb α] {l:List α} {p:α->Bool} (h:∀ j,j<l.length->p (gl l j)=false):l.any p=false:=by
 rw [List.any_eq_false];intro x b
 obtain ⟨j,a,rfl⟩:=List.getElem_of_mem b;have:=h j a
 rw [y7 a] at this;simpa using this
theorem Z0Y {F:Nat} (hF:BIG<=F) {l:List A2_} {q:A2_->Option Bool} (p:A2_->Bool) (hl:l.length<=1000000000) (hq:∀ r ∈ l,q r=some (p r)):Q1b F l q=some (Q4i p l):=by
 unfold BIG at hF;unfold Q1b
 refine Y7 (fun z:Int=>∃ i:Nat,z=i/\i<=l.length/\∀ j,j<i->p (gl l j)=false) (fun z=>l.length-z.toNat) (fun b z f g=>?_) ⟨0,rfl,by omega,fun j m=>by omega⟩ (by simp;omega);obtain ⟨i,rfl,n,c⟩:=f
 unfold Q4H;refine Q9 (fun h=>?_) (fun h=>?_)
 ·have h:i<l.length:=by simpa using h
  refine Z4 (k:=?_);refine Q3 (hq _ (W9 h)) ?_
  simp only [Int.toNat_natCast];refine Q9 (fun a=>?_) (fun a=>?_)
  ·have d:l.any p=true:=List.any_eq_true.2 ⟨_,W9 h,a⟩
   rw [Q4i,if_pos d,Q9j h c a]
  ·refine Z4 (k:=?_)
   refine g _ ⟨i+1,by omega,h,fun j m=>?_⟩ (by omega);rcases Nat.lt_or_ge j i with e|e
   ·exact c j e
   ·have:j=i:=by omega
    subst this;exact a
 ·have h:¬ i<l.length:=by simpa using h
  have:i=l.length:=by omega
  subst this;have d:=Q2Y c
  rw [Q4i,d];rfl
theorem Z0l {F:Nat} (hF:BIG<=F) {l:List A2_} {q:A2_->Option Bool} (p:A2_->Bool) (hl:l.length<=1000000000) (hq:∀ r ∈ l,q r=some (p r)):Q0O F l q=some (l.filter fun r=> !p r):=by
 have v:=hF;unfold BIG at hF
 unfold Q0O;refine Q3 (Z0Y v p hl hq) ?_
 by_cases g:l.any p=true
 ·obtain ⟨x,o,t⟩:=List.any_eq_true.1 g
  have d:l.findIdx p<l.length:=List.findIdx_lt_length_of_exists ⟨x,o,t⟩;have y:p (gl l (l.findIdx p))=true:=by rw [y7 d];exact List.findIdx_getElem (w:=d)
  have B:∀ j,j<l.findIdx p->p (gl l j)=false:=by
   intro j s;rw [y7 (by omega)]
   simpa using List.not_of_lt_findIdx s
  rw [Q4i,if_pos g];refine Q8 (by simp) ?_
  refine Z4 (k:=?_);generalize l.findIdx p=i0 at *
  have H:(l.take (i0+1)).filter (fun r=> !p r)=l.take i0:=by
   rw [J8 d,List.filter_append];have E:(l.take i0).filter (fun r=> !p r)=l.take i0:=by
    rw [List.filter_eq_self];intro x o
    obtain ⟨j,s,rfl⟩:=List.getElem_of_mem o;have C : j<i0:=by simp at s;omega
    have:=B j C
    rw [y7 (by omega)] at this;simp [this]
   rw [E];simp [y]
  refine Y7 (fun z:Int×Int×List A2_=>∃ (i j:Nat) (a:List A2_),z=((i:Int),(j:Int),a)/\i<j/\j<=l.length/\a.length=l.length/\(∀ m,j<=m->gl a m=gl l m)/\a.take i=(l.take j).filter fun r=> !p r)
   (fun z=>l.length-z.2.1.toNat) (fun A z I u=>?_) ⟨i0,i0+1,l,rfl,by omega,by omega,rfl,fun _ _=>rfl,H.symm⟩ (by simp only;omega)
  obtain ⟨i,j,a,rfl,D,s,c,e,f⟩:=I;simp only at u ⊢
  unfold Q3Z;rw [c]
  refine Q9 (fun h=>?_) (fun h=>?_)
  ·have h:j<l.length:=by simpa using h
   refine Z4 (k:=?_);simp only [Int.toNat_natCast]
   rw [e j (Nat.le_refl _)];refine Q3 (hq _ (W9 h)) ?_
   have n:(l.take (j+1)).filter (fun r=> !p r)=(l.take j).filter (fun r=> !p r)++(if p (gl l j)=true then [] else [gl l j]):=by
    rw [J8 h,List.filter_append]
    by_cases b:p (gl l j)=true
    ·rw [if_pos b];simp [b]
    ·rw [if_neg b];simp [b]
   refine Q9 (fun b=>?_) (fun b=>?_)
   ·have b:p (gl l j)=false:=by simpa using b
    refine Z4 (k:=?_);refine Z4 (k:=?_)
    unfold K4;refine Z4 (k:=?_)
    refine u _ ⟨i+1,j+1,a.set i (gl l j),rfl,by omega,by omega,by simp [c],fun m G=>?_,?_⟩ (by simp only;omega)
    ·rw [Y0E _ _ _ _ (by omega),if_neg (by omega)];exact e m (by omega)
    ·rw [n,if_neg (by rw [b];simp), <-f,J8 (by simp;omega),Z5E _ _ _ _ (Nat.le_refl _),Y0E _ _ _ _ (by omega),if_pos rfl]
   ·have b:p (gl l j)=true:=by simpa using b
    unfold K4;refine Z4 (k:=?_)
    refine u _ ⟨i,j+1,a,rfl,by omega,by omega,c,fun m G=>e m (by omega),?_⟩ (by simp only;omega);rw [n,if_pos b,List.append_nil,f]
  ·have h:¬ j<l.length:=by simpa using h
   unfold Q1p;simp only [Int.toNat_natCast,Y5d,c]
   refine Z4 (k:=?_);refine Z4 (k:=?_)
   rw [Y2c _ _ _ (by omega),f,List.take_of_length_le (by omega)]
 ·have g:l.any p=false:=by simpa using g
  rw [Q4i,g];refine Z5 rfl ?_
  congr 1
  symm
  rw [List.filter_eq_self];intro x o
  have:=List.any_eq_false.1 g x o
  simpa using this
theorem Q9U {F:Nat} {l:List Rect} (hl:l.length<=LIM):Q2z F l=some l:=by
 unfold Q2z
 cases h:l with
 | nil=>
  show gdc _ _=_;unfold gdc
  exact @Q7 _ _ (Classical.propDecidable _) _ _ rfl rfl
 | cons a l' =>
  have:(a::l').length=l'.length+1:=rfl
  show (gd _ _)=_;rw [<-h]
  refine Z4 (k:=?_);simp
noncomputable def Z3G (f:A2_):Int:=
 if f.N_<1\/1073741824<f.N_ then 2 else if f.k_<0\/15<f.k_ then 14 else if f.F_<0\/f.u_<=f.F_\/36865<f.u_ then 9
 else if f.g_.t_.length=0\/Q3H f.g_.t_=false then 7 else 0
theorem Z9j {F:Nat} (hF:BIG<=F) (f:A2_):Z3D F f=some (Z3G f):=by
 have d:∀ b:Bool,(b=true↔f.g_.t_.length=0\/Q3H f.g_.t_=false)->Q5J F b=some (if f.g_.t_.length=0\/Q3H f.g_.t_=false then 7 else 0):=by
  intro b a;unfold Q5J
  refine Q9 (fun h=>by rw [if_pos (a.1 h)]) (fun h=>by rw [if_neg fun c=>by rw [a.2 c] at h;cases h])
 have e:∀ b:Bool,(b=true↔f.F_<0\/f.u_<=f.F_\/36865<f.u_)->Q2C F f b=some (if f.F_<0\/f.u_<=f.F_\/36865<f.u_ then 9 else if f.g_.t_.length=0\/Q3H f.g_.t_=false then 7 else 0):=by
  intro b a;unfold Q2C
  refine Q9 (fun h=>by rw [if_pos (a.1 h)]) (fun h=>?_);rw [if_neg fun c=>by rw [a.2 c] at h;cases h]
  refine Q3 (Q1i hF _) ?_;rw [Q7o (Q5J F)]
  exact d _ (by simp [or_comm])
 have g:∀ b:Bool,(b=true↔f.k_<0\/15<f.k_)->Q2D F f b=some (if f.k_<0\/15<f.k_ then 14 else if f.F_<0\/f.u_<=f.F_\/36865<f.u_ then 9 else if f.g_.t_.length=0\/Q3H f.g_.t_=false then 7 else 0):=by
  intro b a;unfold Q2D
  refine Q9 (fun h=>by rw [if_pos (a.1 h)]) (fun h=>?_);rw [if_neg fun c=>by rw [a.2 c] at h;cases h]
  rw [Q7o (Q2C F f),Q7o (Q2C F f)];exact e _ (by simp)
 unfold Z3D Z1k Z3G;rw [Q7o (fun b=>br b (some (2:Int)) (br (decide (f.k_<(0:Int))) (Q2D F f true) (Q2D F f (decide ((15:Int)<f.k_)))))]
 refine Q9 (fun h=>by rw [if_pos (by simpa using h)]) (fun h=>?_);rw [if_neg (by simpa using h),Q7o (Q2D F f)]
 exact g _ (by simp)
theorem Z9H {F:Nat} (hF:BIG<=F) (f:A2_):Q8n F f=some (Z3G f):=by
 have e:∀ b:Bool,(b=true↔f.g_.t_.length=0\/Q3H f.g_.t_=false)->Q2L F b=some (if f.g_.t_.length=0\/Q3H f.g_.t_=false then 7 else 0):=by
  intro b c;unfold Q2L
  refine Q9 (fun h=>by rw [if_pos (c.1 h)]) (fun h=>by rw [if_neg fun d=>by rw [c.2 d] at h;cases h])
 have g:∀ b:Bool,(b=true↔f.F_<0\/f.u_<=f.F_\/36865<f.u_)->Q0d F f b=some (if f.F_<0\/f.u_<=f.F_\/36865<f.u_ then 9 else if f.g_.t_.length=0\/Q3H f.g_.t_=false then 7 else 0):=by
  intro b c;unfold Q0d
  refine Q9 (fun h=>by rw [if_pos (c.1 h)]) (fun h=>?_);rw [if_neg fun d=>by rw [c.2 d] at h;cases h]
  refine Q9 (fun a=>?_) (fun a=>?_)
  ·have a:f.g_.t_.length=0:=by simp at a;simp [a]
   exact e _ (by simp [a])
  ·have a:f.g_.t_.length≠0:=by simp at a;simpa using a
   exact Q3 (Q0k hF _) (e _ (by simp [a]))
 have i:∀ b:Bool,(b=true↔f.k_<0\/15<f.k_)->Q0e F f b=some (if f.k_<0\/15<f.k_ then 14 else if f.F_<0\/f.u_<=f.F_\/36865<f.u_ then 9 else if f.g_.t_.length=0\/Q3H f.g_.t_=false then 7 else 0):=by
  intro b c;unfold Q0e
  refine Q9 (fun h=>by rw [if_pos (c.1 h)]) (fun h=>?_);rw [if_neg fun d=>by rw [c.2 d] at h;cases h]
  rw [Q7o (Q0d F f),Q7o (Q0d F f)];exact g _ (by simp)
 unfold Q8n Q4W Z3G;rw [Q7o (fun b=>br b (some (2:Int)) (br (decide (f.k_<(0:Int))) (Q0e F f true) (Q0e F f (decide ((15:Int)<f.k_)))))]
 refine Q9 (fun h=>by rw [if_pos (by simpa using h)]) (fun h=>?_);rw [if_neg (by simpa using h),Q7o (Q0e F f)]
 exact i _ (by simp)
noncomputable def Z3X:Option Int->List A2_->Int
 | _,[]=>0
 | p,f::l=>if Z3G f≠0 then Z3G f else if p.any (fun n=>decide (f.N_<=n)) then 3 else Z3X (some f.N_) l
noncomputable def Z0e (l:List A2_):Int:=if 60<l.length then 1 else Z3X none l
def Z7V (l:List A2_) (i:Nat):Option Int:=if i=0 then none else some (gl l (i-1)).N_
theorem Y2G (l:List A2_) (i:Nat):Z7V l (i+1)=some (gl l i).N_:=by simp [Z7V]
theorem Y2w {F:Nat} (hF:BIG<=F) (l:List A2_):Z2E F l=some (Z0e l):=by
 have j:=hF;unfold BIG at hF
 unfold Z2E Z0e;refine Q9 (fun h=>?_) (fun h=>?_)
 ·have h:60<l.length:=by simp at h;omega
  rw [if_pos h]
 ·have h:¬ 60<l.length:=by simp at h;omega
  rw [if_neg h];refine Y7 (fun z:Int=>∃ i:Nat,z=i/\i<=l.length/\Z3X none l=Z3X (Z7V l i) (l.drop i)) (fun z=>l.length-z.toNat) (fun d z r q=>?_) ⟨0,rfl,by omega,rfl⟩ (by simp;omega)
  obtain ⟨i,rfl,s,a⟩:=r;unfold Z6e
  refine Q9 (fun e=>?_) (fun e=>?_)
  ·have e:i<l.length:=by simpa using e
   rw [Q1F e,Z3X] at a;refine Z4 (k:=?_)
   simp only [Int.toNat_natCast];refine Q3 (Z9j j _) ?_
   refine Q9 (fun c=>?_) (fun c=>?_)
   ·have c:Z3G (gl l i)≠0:=by simpa using c
    rw [a,if_pos c]
   ·have c:Z3G (gl l i)=0:=by simpa using c
    rw [if_neg (by simp [c])] at a;have o:∀ b:Bool,b=(Z7V l i).any (fun n=>decide ((gl l i).N_<=n))->Q5q F i d b=some (Z3X none l):=by
     intro b g;unfold Q5q
     refine Q9 (fun m=>?_) (fun m=>?_)
     ·rw [a,if_pos (g ▸ m)]
     ·rw [if_neg (by rw [<-g,m];simp)] at a
      refine Z4 (k:=?_);refine q _ ⟨i+1,by omega,e,?_⟩ (by omega)
      rw [a,Y2G]
    refine Q9 (fun f=>?_) (fun f=>?_)
    ·have f:0<i:=by simpa using f
     refine Z4 (k:=?_);refine Z4 (k:=?_)
     have p:((i:Int)-1).toNat=i-1:=by omega
     rw [p];exact o _ (by simp [Z7V,show i≠0 from by omega])
    ·have f:i=0:=by simp at f;omega
     exact o _ (by simp [Z7V,f])
  ·have e:¬ i<l.length:=by simpa using e
   rw [List.drop_of_length_le (by omega)] at a;rw [a];rfl
theorem Y0J {F:Nat} (hF:BIG<=F) (l:List A2_):Q9D F l=some (Z0e l):=by
 have j:=hF;unfold BIG at hF
 unfold Q9D Z0e;refine Q9 (fun h=>?_) (fun h=>?_)
 ·have h:60<l.length:=by simp at h;omega
  rw [if_pos h]
 ·have h:¬ 60<l.length:=by simp at h;omega
  rw [if_neg h];refine Y7 (fun z:Int=>∃ i:Nat,z=i/\i<=l.length/\Z3X none l=Z3X (Z7V l i) (l.drop i)) (fun z=>l.length-z.toNat) (fun d z r q=>?_) ⟨0,rfl,by omega,rfl⟩ (by simp;omega)
  obtain ⟨i,rfl,s,a⟩:=r;unfold Z3Q
  refine Q9 (fun e=>?_) (fun e=>?_)
  ·have e:i<l.length:=by simpa using e
   rw [Q1F e,Z3X] at a;refine Z4 (k:=?_)
   simp only [Int.toNat_natCast];refine Q3 (Z9H j _) ?_
   refine Q9 (fun c=>?_) (fun c=>?_)
   ·have c:Z3G (gl l i)≠0:=by simpa using c
    rw [a,if_pos c]
   ·have c:Z3G (gl l i)=0:=by simpa using c
    rw [if_neg (by simp [c])] at a;have o:∀ b:Bool,b=(Z7V l i).any (fun n=>decide ((gl l i).N_<=n))->Q3x F i d b=some (Z3X none l):=by
     intro b g;unfold Q3x
     refine Q9 (fun m=>?_) (fun m=>?_)
     ·rw [a,if_pos (g ▸ m)]
     ·rw [if_neg (by rw [<-g,m];simp)] at a
      refine Z4 (k:=?_);refine q _ ⟨i+1,by omega,e,?_⟩ (by omega)
      rw [a,Y2G]
    refine Q9 (fun f=>?_) (fun f=>?_)
    ·have f:0<i:=by simpa using f
     refine Z4 (k:=?_);refine Z4 (k:=?_)
     have p:((i:Int)-1).toNat=i-1:=by omega
     rw [p];exact o _ (by simp [Z7V,show i≠0 from by omega])
    ·have f:i=0:=by simp at f;omega
     exact o _ (by simp [Z7V,f])
  ·have e:¬ i<l.length:=by simpa using e
   rw [List.drop_of_length_le (by omega)] at a;rw [a];rfl
structure VL (l:List A2_):Prop where
 len:l.length<=60
 one:∀ f ∈ l,Z3G f=0
 asc:l.Pairwise fun f g=>f.N_<g.N_
theorem Y3i:∀ (l:List A2_) (p:Option Int),Z3X p l=0↔(∀ f ∈ l,Z3G f=0)/\l.Pairwise (fun f g=>f.N_<g.N_)/\∀ n,p=some n->∀ f ∈ l,n<f.N_
 | [],p=>by simp [Z3X]
 | f::l,p=>by
  have k:=Y3i l (some f.N_);unfold Z3X
  by_cases h1:Z3G f=0
  ·rw [if_neg (by simp [h1])]
   by_cases e:p.any (fun n=>decide (f.N_<=n))=true
   ·rw [if_pos e]
    constructor
    ·intro h;cases h
    ·rintro ⟨_,_,h⟩
     cases p with
     | none=>simp at e
     | some n=>
      have e:f.N_<=n:=by simpa using e
      have:=h n rfl f (by simp)
      omega
   ·rw [if_neg e,k]
    constructor
    ·rintro ⟨a,b,c⟩
     refine ⟨fun g d=>?_,List.pairwise_cons.2 ⟨fun g d=>c _ rfl g d,b⟩,fun n i g d=>?_⟩
     ·rcases List.mem_cons.1 d with rfl|d
      ·exact h1
      ·exact a g d
     ·subst i
      have e:n<f.N_:=by simpa using e
      rcases List.mem_cons.1 d with rfl|d
      ·exact e
      ·have:=c _ rfl g d;omega
    ·rintro ⟨a,b,c⟩
     obtain ⟨m,j⟩:=List.pairwise_cons.1 b;exact ⟨fun g d=>a g (by simp [d]),j,fun n i g d=>by cases i;exact m g d⟩
  ·rw [if_pos h1]
   constructor
   ·intro h;exact absurd h h1
   ·rintro ⟨a,_,_⟩;exact absurd (a f (by simp)) h1
theorem Z1w (l:List A2_):Z0e l=0↔VL l:=by
 unfold Z0e
 by_cases h:60<l.length
 ·rw [if_pos h]
  exact ⟨fun h=>(by cases h),fun c=>by have:=c.len;omega⟩
 ·rw [if_neg h,Y3i]
  exact ⟨fun ⟨a,b,_⟩=>⟨by omega,a,b⟩,fun c=>⟨c.one,c.asc,fun n d=>by cases d⟩⟩
theorem Z6W (f:A2_):Z3G f=0↔1<=f.N_/\f.N_<=1073741824/\0<=f.k_/\f.k_<=15/\0<=f.F_/\f.F_<f.u_/\f.u_<=36865/\f.g_.t_.length≠0/\Val f.g_.t_:=by
 unfold Z3G;rw [<-Q0P]
 by_cases h1:f.N_<1\/1073741824<f.N_
 ·rw [if_pos h1];simp;omega
 ·rw [if_neg h1]
  by_cases h2:f.k_<0\/15<f.k_
  ·rw [if_pos h2];simp;omega
  ·rw [if_neg h2]
   by_cases h3:f.F_<0\/f.u_<=f.F_\/36865<f.u_
   ·rw [if_pos h3];simp;omega
   ·rw [if_neg h3]
    by_cases a:f.g_.t_.length=0\/Q3H f.g_.t_=false
    ·rw [if_pos a]
     constructor
     ·intro h;cases h
     ·rintro ⟨_,_,_,_,_,_,_,c,b⟩
      rcases a with a|a
      ·exact absurd a c
      ·rw [b] at a;cases a
    ·rw [if_neg a]
     refine ⟨fun _=>?_,fun _=>rfl⟩;have c:f.g_.t_.length≠0:=fun h=>a (.inl h)
     have b:Q3H f.g_.t_=true:=by
      cases hv:Q3H f.g_.t_ with
      | true=>rfl
      | false=>exact absurd (.inr hv) a
     refine ⟨by omega,by omega,by omega,by omega,by omega,by omega,by omega,c,b⟩
theorem Z9I {F:Nat} {f:A2_} (h:f.g_.t_.length<=LIM):Q8o F f=some f:=by
 unfold Q8o;exact Q3 (Q9U h) rfl
theorem VL.rlen {l:List A2_} (h:VL l) {f:A2_} (hf:f ∈ l):f.g_.t_.length<=120:=((Z6W f).1 (h.one f hf)).2.2.2.2.2.2.2.2.1
theorem Y2Y {F:Nat} (hF:BIG<=F) {l:List A2_} (h:VL l):Z2N F l=some l:=by
 unfold BIG at hF;have c:=h.len
 unfold Z2N;refine Y7 (fun z:Int×List A2_=>∃ i:Nat,z=((i:Int),l.take i)/\i<=l.length) (fun z=>l.length-z.1.toNat) (fun b z e d=>?_) ⟨0,rfl,by omega⟩ (by simp only;omega)
 obtain ⟨i,rfl,f⟩:=e;simp only at d ⊢
 unfold Z6A;refine Q9 (fun a=>?_) (fun a=>?_)
 ·have a:i<l.length:=by simpa using a
  refine Z4 (k:=?_);simp only [Int.toNat_natCast]
  refine Q3 (Z9I (by have:=h.rlen (W9 a);unfold LIM;omega)) ?_;refine Z4 (k:=?_)
  refine Z4 (k:=?_);exact d _ ⟨i+1,by rw [J8 a];rfl,a⟩ (by simp only;omega)
 ·have a:¬ i<l.length:=by simpa using a
  unfold Z2i;rw [List.take_of_length_le (by omega)]
def Z9V (f:A2_) (d:Int):Bool:=decide (f.F_<=d)&&decide (d<f.u_)
theorem Z3N (F:Nat) (f:A2_) (d:Int):Q6A F f d=some (Z9V f d):=by
 unfold Q6A;rw [Q3W (Q5V F)];rfl
theorem Y0H {F:Nat} (hF:BIG<=F) (l:List A2_) (d:Int):Q9C F l d=some (if Z0e l≠0 then Z0e l else if d<0\/36864<d then 9 else 0):=by
 unfold Q9C;refine Q3 (Y0J hF l) ?_
 refine Q9 (fun h=>?_) (fun h=>?_)
 ·have h:Z0e l≠0:=by simpa using h
  rw [if_pos h]
 ·have h:Z0e l=0:=by simpa using h
  rw [if_neg (by simp [h]),Q7o (Q3u F)];unfold Q3u
  refine Q9 (fun h=>?_) (fun h=>?_)
  ·rw [if_pos (by simpa using h)]
  ·rw [if_neg (by simpa using h)]
theorem Z7Z {F:Nat} (hF:BIG<=F) (l:List A2_) (d:Int):Z2k F l d=some (if Z0e l≠0 then ([],Z0e l) else if d<0\/36864<d then ([],9) else (l.filter fun f=>Z9V f d,0)):=by
 unfold Z2k;refine Q3 (Y0H hF l d) ?_
 by_cases h:Z0e l=0
 ·simp only [h,ne_eq,not_true_eq_false,if_false]
  by_cases h2:d<0\/36864<d
  ·simp only [h2,if_true]
   exact Z5 rfl rfl
  ·simp only [h2,if_false]
   refine Q8 rfl ?_;have b:=(Z1w l).1 h
   refine Q3 (Y2Y hF b) ?_;have a:=b.len
   refine Q3 (Z0l hF (fun f=> !Z9V f d) (by omega) (fun f _=>by unfold Z4I;rw [Z3N];rfl)) ?_;simp
 ·have e:(if Z0e l≠0 then Z0e l else if d<0\/36864<d then 9 else 0)=Z0e l:=if_pos h
  rw [e,if_pos h];refine Z5 (by simpa using h) rfl
def Q4P (l:List A2_) (n:Int):Nat:=l.countP fun f=>decide (f.N_<n)
theorem Z8s {l:List A2_} (h:l.Pairwise fun f g=>f.N_<g.N_) (n:Int):Q4P l n<=l.length/\(∀ j,j<Q4P l n->(gl l j).N_<n)/\∀ j,Q4P l n<=j->j<l.length->n<=(gl l j).N_:=by
 induction l with
 | nil=>exact ⟨Nat.le_refl _,fun j i=>by simp [Q4P] at i,fun j _ i=>by simp at i⟩
 | cons f l ih=>
  obtain ⟨p,k⟩:=List.pairwise_cons.1 h;obtain ⟨a,b,c⟩:=ih k
  by_cases hf:f.N_<n
  ·have e:Q4P (f::l) n=Q4P l n+1:=by simp [Q4P,hf]
   rw [e];refine ⟨by simp;exact a,fun j i=>?_,fun j i d=>?_⟩
   ·cases j with
    | zero=>exact hf
    | succ j=>exact b j (by omega)
   ·cases j with
    | zero=>omega
    | succ j=>exact c j (by omega) (by simpa using d)
  ·have m:Q4P l n=0:=by
    unfold Q4P;rw [List.countP_eq_zero]
    intro g o;have:=p g o
    simp;omega
   have e:Q4P (f::l) n=0:=by
    have:Q4P (f::l) n=Q4P l n:=by simp [Q4P,hf]
    rw [this,m]
   rw [e];refine ⟨Nat.zero_le _,fun j i=>by omega,fun j _ d=>?_⟩
   cases j with
   | zero=>show n<=f.N_;omega
   | succ j=>exact c j (by omega) (by simpa using d)
structure TOk (t:Tape):Prop where
 at_:0<=t.at_
 len:t.l_.length<=400
theorem Y5R {F:Nat} (a:Int) {n:Int} (h1:1<=n) (h2:n<=1099511627776):∃ k,Z2e F a n=some k/\0<=k/\k<n:=by
 have c:=Int.tmod_lt_of_pos a (show 0<n by omega);have b:=Int.lt_tmod_of_pos a (show 0<n by omega)
 unfold Z2e;generalize a.tmod n=m at *
 by_cases h:m<0
 ·refine ⟨m+n,?_,by omega,by omega⟩
  refine Q8 (by simp;omega) ?_;refine Z4 (k:=?_)
  refine Z5 (by simpa using h) ?_;refine Z4 (k:=?_)
  rfl
 ·refine ⟨m,?_,by omega,by omega⟩
  refine Q8 (by simp;omega) ?_;refine Z4 (k:=?_)
  exact Q8 (by simpa using h) rfl
theorem Z6 {F:Nat} {t:Tape} (ht:TOk t) {n:Int} (h1:1<=n) (h2:n<=1099511627776):∃ t' k,Z9 F t n=some (t',k)/\TOk t' /\ 0<=k/\k<n:=by
 obtain ⟨a,b⟩:=ht;unfold Z9
 by_cases h:(t.l_.length:Int)<=t.at_
 ·exact ⟨t,0,Z5 (by simpa using h) rfl,⟨a,b⟩,by omega,by omega⟩
 ·obtain ⟨k,c,k1,k2⟩:=Y5R (F:=F) (gl t.l_ ((t.at_+1)-1).toNat) h1 h2
  refine ⟨⟨t.l_,t.at_+1⟩,k,?_,⟨by simp only;omega,b⟩,k1,k2⟩;refine Q8 (by simpa using h) ?_
  refine Z4 (k:=?_);refine Z4 (k:=?_)
  refine Z4 (k:=?_);exact Q3 c rfl
theorem V7 {F:Nat} {t:Tape} (ht:TOk t) {lo hi:Int} (h1:lo<=hi) (h0 : -1099511627<=lo) (h2:hi<=1099511627):∃ t' k,V6 F t lo hi=some (t',k)/\TOk t' /\ lo<=k/\k<=hi:=by
 obtain ⟨t',k,d,a,b,c⟩:=Z6 (F:=F) ht (n:=(hi-lo)+1) (by omega) (by omega);refine ⟨t',lo+k,?_,a,by omega,by omega⟩
 unfold V6;refine Z4 (k:=?_)
 refine Z4 (k:=?_);refine Q3 d ?_
 refine Z4 (k:=?_);rfl
def Box (n:Int) (l:List Rect):Prop:=∀ r ∈ l,0<=r.L_/\r.L_<r.R_/\r.R_<=n/\0<=r.w_/\r.w_<r.H_/\r.H_<=n
theorem Box.prop {n:Int} {l:List Rect} (h:Box n l) (hn:n<=16384):∀ r ∈ l,Q2F r=true:=fun r a=>(Q0f r).2 (by have:=h r a;omega)
theorem Box.in {n:Int} {l:List Rect} (h:Box n l) {x y:Int} (hx:inR l x y=true):0<=x/\x<n/\0<=y/\y<n:=by
 obtain ⟨r,a,b⟩:=List.any_eq_true.1 hx;rw [J2] at b
 have:=h r a
 omega
theorem W0m {l:List (Rn (List Span))} {r:Rect} (h:r ∈ flat l):∃ b ∈ l,∃ s ∈ b.v,r=⟨s.L_,b.lo,s.R_,b.hi⟩:=by
 obtain ⟨b,c,d⟩:=List.mem_flatMap.1 h;obtain ⟨s,a,rfl⟩:=List.mem_map.1 d
 exact ⟨b,c,s,a,rfl⟩
theorem Q2l.pos {l:List Rect} (h:Q2l l) {r:Rect} (hr:r ∈ l):r.L_<r.R_/\r.w_<r.H_:=by
 obtain ⟨b,a,rfl⟩:=h;obtain ⟨c,d,s,e,rfl⟩:=W0m hr
 exact ⟨(a.sp c d).pos s e,a.runs.pos c d⟩
theorem Z1p {l:List Rect} {r:Rect} (hr:r ∈ l) {x y:Int} (h:r.has x y=true):inR l x y=true:=List.any_eq_true.2 ⟨r,hr,h⟩
theorem Q2l.box {l:List Rect} (h:Q2l l) {n:Int} (hn:∀ x y,inR l x y=true->0<=x/\x<n/\0<=y/\y<n):Box n l:=by
 intro r c;obtain ⟨e,d⟩:=h.pos c
 have a:=hn r.L_ r.w_ (Z1p c ((J2 _ _ _).2 (by omega)));have b:=hn (r.R_-1) (r.H_-1) (Z1p c ((J2 _ _ _).2 (by omega)))
 omega
theorem W0G {S:Int->Int->Bool} (hf:Fin S) {n:Int} (hn:∀ x y,S x y=true->0<=x/\x<n/\0<=y/\y<n):Box n (cn S):=
 (Q2l.cn hf).box fun x y h=>hn x y (by rwa [Q1w hf] at h)
theorem Y4n:Q2l []:=⟨[],⟨.nil,fun b a=>(List.not_mem_nil a).elim,fun b a=>(List.not_mem_nil a).elim⟩,rfl⟩
theorem Y0O {r:Rect} (h1:r.L_<r.R_) (h2:r.w_<r.H_):Q2l [r]:=
 ⟨[⟨r.w_,r.H_,[⟨r.L_,r.R_⟩]⟩],⟨⟨fun b a=>by rw [List.mem_singleton.1 a];exact h2,List.pairwise_singleton _ _⟩,fun b a=>by
  rw [List.mem_singleton.1 a];exact ⟨fun s c=>by rw [List.mem_singleton.1 c];exact h1,List.pairwise_singleton _ _⟩,fun b a=>by rw [List.mem_singleton.1 a];simp⟩,rfl⟩
theorem Y8o (n:Int):Box n []:=fun r a=>(List.not_mem_nil a).elim
theorem Val.nil:Val []:=⟨by simp,fun r a=>(List.not_mem_nil a).elim,Y4n⟩
theorem Q8h {F:Nat} {t:Tape} (ht:TOk t) {n:Int} (h1:1<=n) (h2:n<=16384):∃ t' r,Q1X F t n=some (t',r)/\TOk t' /\ Box n [r]:=by
 obtain ⟨w,x,c,h,A,s⟩:=Z6 (F:=F) ht (n:=n) (by omega) (by omega);obtain ⟨z,y,g,b,q,m⟩:=Z6 (F:=F) h (n:=n) (by omega) (by omega)
 obtain ⟨B,u,a,f,C,l⟩:=Z6 (F:=F) b (n:=n-x) (by omega) (by omega);obtain ⟨e,v,j,d,o,p⟩:=Z6 (F:=F) f (n:=n-y) (by omega) (by omega)
 refine ⟨e,⟨x,y,(x+1)+u,(y+1)+v⟩,?_,d,fun r i=>?_⟩
 ·unfold Q1X
  refine Q3 c ?_;refine Q3 g ?_
  simp only
  refine Z4 (k:=?_);refine Z4 (k:=?_)
  refine Q3 a ?_;simp only
  refine Z4 (k:=?_);refine Z4 (k:=?_)
  refine Z4 (k:=?_);refine Q3 j ?_
  simp only
  refine Z4 (k:=?_);rfl
 ·rw [List.mem_singleton.1 i]
  simp only
  omega
structure RegT (n:Int) (a:Re_):Prop where
 box:Box n a.t_
 val:Val a.t_
theorem Z0b {F:Nat} (hF:BIG<=F) {t:Tape} (ht:TOk t) {n most:Int} (h1:1<=n) (h2:n<=16384) (m1:0<=most) (m2:most<=100):∃ t' a R,Q1L F t n most=some (t',a)/\TOk t' /\ RegT n a/\(List.length (α:=Rect) R:Int)<=most/\inR a.t_=inR R:=by
 have j:=hF;unfold BIG at hF
 obtain ⟨B,c,s,G,H,I⟩:=Z6 (F:=F) ht (n:=most+1) (by omega) (by omega);have i:∀ (k f:Nat) (t:Tape) (l:List Rect),k<f->TOk t->Box n l->l.length+k<=100->(l.length:Int)+k<=most->∃ t' a R,Z3 (fun again (z:Int×List Int×Int×List Rect)=>Q0J F n again z.1 z.2.1 z.2.2.1 z.2.2.2) f ((k:Int),t.l_,t.at_,l)=some (t',a)/\TOk t' /\ RegT n a/\(List.length (α:=Rect) R:Int)<=most/\inR a.t_=inR R:=by
  intro k
  induction k with
  | zero=>
   intro f t l D ht g A w
   cases f with
   | zero=>omega
   | succ f=>
    have o:=Y5H j (l:=l) (by omega) (g.prop h2);refine ⟨⟨t.l_,t.at_⟩,(if 120<(cn (inR l)).length then ((⟨[]⟩:Re_),(1:Int)) else (⟨cn (inR l)⟩,0)).1,(if 120<(cn (inR l)).length then [] else l),?_,ht,?_⟩
    ·show Q0J F n _ 0 t.l_ t.at_ l=_
     unfold Q0J;refine Q8 rfl ?_
     unfold Q6c;exact Q3 o rfl
    ·split
     ·exact ⟨⟨Y8o _,Val.nil⟩,by simp;omega,rfl⟩
     ·rename_i p
      have b:Box n (cn (inR l)):=W0G (K2 l) fun x y h=>g.in h
      exact ⟨⟨b,by simp only;omega,b.prop h2,Q2l.cn (K2 l)⟩,by omega,by funext x y;exact Q1w (K2 l) x y⟩
  | succ k ih=>
   intro f t l D ht g A w
   cases f with
   | zero=>omega
   | succ f=>
    obtain ⟨t',r,v,C,E⟩:=Q8h (F:=F) ht h1 h2;obtain ⟨u,a,Q,e,m,b⟩:=ih f t' (l++[r]) (by omega) C (fun q d=>by
     rcases List.mem_append.1 d with d|d
     ·exact g q d
     ·exact E q d) (by simp;omega) (by simp;omega)
    refine ⟨u,a,Q,?_,m,b⟩;show Q0J F n _ ((k+1:Nat):Int) t.l_ t.at_ l=_
    unfold Q0J;refine Z5 (by simp) ?_
    refine Q3 v ?_;refine Z4 (k:=?_)
    refine Z4 (k:=?_);have:((k+1:Nat):Int)-1=(k:Int):=by omega
    rw [this];exact e
 obtain ⟨t',a,Q,e,m,b⟩:=i c.toNat F B [] (by omega) G (Y8o _) (by simp;omega) (by simp;omega);refine ⟨t',a,Q,?_,m,b⟩
 unfold Q1L;refine Z4 (k:=?_)
 refine Q3 s ?_;have:(c.toNat:Int)=c:=by omega
 rw [this] at e;exact e
theorem Z0P {F:Nat} (hF:BIG<=F) {t:Tape} (ht:TOk t) {n most:Int} (h1:1<=n) (h2:n<=16384) (m1:0<=most) (m2:most<=100):∃ t' a,Q1L F t n most=some (t',a)/\TOk t' /\ RegT n a:=by
 obtain ⟨t',a,_,e,o,h,_⟩:=Z0b hF ht h1 h2 m1 m2;exact ⟨t',a,e,o,h⟩
theorem Z8x {F:Nat} (hF:BIG<=F) {t:Tape} (ht:TOk t) {n most:Int} (h1:1<=n) (h2:n<=16384) (m1:1<=most) (m2:most<=100):∃ t' a R,Q2b F t n most=some (t',a)/\TOk t' /\ RegT n a/\a.t_.length≠0/\(List.length (α:=Rect) R:Int)<=most/\inR a.t_=inR R:=by
 obtain ⟨c,a,Q,d,e,k,l⟩:=Z0b hF ht h1 h2 (by omega) m2;unfold Q2b
 by_cases h:a.t_.length=0
 ·obtain ⟨f,r,j,g,b⟩:=Q8h (F:=F) e h1 h2
  have i:=b r (by simp);refine ⟨⟨f.l_,f.at_⟩,⟨[r]⟩,[r],?_,g,⟨b,by simp,b.prop h2,Y0O (by omega) (by omega)⟩,by simp,by simp;omega,rfl⟩
  refine Q3 d ?_;refine Z5 (by simp only [h];rfl) ?_
  exact Q3 j rfl
 ·refine ⟨⟨c.l_,c.at_⟩,⟨a.t_⟩,Q,?_,e,k,h,l⟩
  refine Q3 d ?_;exact Q8 (by simpa using h) rfl
theorem Z9w {F:Nat} (hF:BIG<=F) {t:Tape} (ht:TOk t) {n most:Int} (h1:1<=n) (h2:n<=16384) (m1:0<=most) (m2:most<=100):∃ t' a,Q2b F t n most=some (t',a)/\TOk t' /\ RegT n a/\a.t_.length≠0:=by
 obtain ⟨e,a,c,d,k⟩:=Z0P hF ht h1 h2 m1 m2;unfold Q2b
 by_cases h:a.t_.length=0
 ·obtain ⟨f,r,j,g,b⟩:=Q8h (F:=F) d h1 h2
  have i:=b r (by simp);refine ⟨⟨f.l_,f.at_⟩,⟨[r]⟩,?_,g,⟨b,by simp,b.prop h2,Y0O (by omega) (by omega)⟩,by simp⟩
  refine Q3 c ?_;refine Z5 (by simp only [h];rfl) ?_
  exact Q3 j rfl
 ·refine ⟨⟨e.l_,e.at_⟩,⟨a.t_⟩,?_,d,k,h⟩
  refine Q3 c ?_;exact Q8 (by simpa using h) rfl
structure FeaT (f:A2_):Prop where
 kind:0<=f.k_/\f.k_<=15
 F_:0<=f.F_/\f.F_<20
 u_:f.F_<f.u_/\f.u_<=f.F_+30
 reg:RegT 9 f.g_
 ne:f.g_.t_.length≠0
theorem Z6s {F:Nat} (hF:BIG<=F) {t:Tape} (ht:TOk t) (n:Int):∃ t' f,Q4T F t n=some (t',f)/\TOk t' /\ FeaT f/\f.N_=n:=by
 obtain ⟨w,a,h,o,s,z⟩:=Z6 (F:=F) ht (n:=20) (by omega) (by omega);obtain ⟨x,b,m,g,v,y⟩:=Z6 (F:=F) o (n:=16) (by omega) (by omega)
 obtain ⟨B,c,e,l,u,A⟩:=V7 (F:=F) g (lo:=1) (hi:=30) (by omega) (by omega) (by omega);obtain ⟨i,r,q,j,p,d⟩:=Z9w hF l (n:=9) (most:=2) (by omega) (by omega) (by omega) (by omega)
 refine ⟨i,⟨n,b,a,a+c,r⟩,?_,j,⟨by simp only;omega,by simp only;omega,by simp only;omega,p,d⟩,rfl⟩;unfold Q4T
 refine Q3 h ?_;refine Q3 m ?_
 refine Q3 e ?_;simp only
 refine Z4 (k:=?_);exact Q3 q rfl
theorem FeaT.one {f:A2_} (h:FeaT f) (h1:1<=f.N_) (h2:f.N_<=1073741824):Z3G f=0:=
 (Z6W f).2 ⟨h1,h2,h.kind.1,h.kind.2,h.F_.1,h.u_.1,by have:=h.F_;have:=h.u_;omega,h.ne,h.reg.val⟩
def Y5T (l:List A2_) (f:A2_):List A2_:=l.take (Q4P l f.N_)++[f]++l.drop (Q4P l f.N_)
noncomputable def Y7B (l:List A2_) (f:A2_):List A2_×Int:=
 if Z0e l≠0 then ([],Z0e l) else if Z3G f≠0 then ([],Z3G f) else if Q4P l f.N_<l.length/\(gl l (Q4P l f.N_)).N_=f.N_ then ([],6)
 else if l.length=60 then ([],1) else (Y5T l f,0)
theorem Z9k {F:Nat} (hF:BIG<=F) (l:List A2_) (f:A2_):Z6V F l f=some (Y7B l f):=by
 have m:=hF;unfold BIG at hF
 unfold Z6V Y7B;refine Q3 (Y2w m l) ?_
 by_cases h:Z0e l=0
 ·refine Q8 (by simp [h]) ?_
  rw [if_neg (by simp [h])];refine Q3 (Z9j m f) ?_
  by_cases h1:Z3G f=0
  ·refine Q8 (by simp [h1]) ?_
   rw [if_neg (by simp [h1])];have q:=(Z1w l).1 h
   have r:=q.len;obtain ⟨a,b,c⟩:=Z8s q.asc f.N_
   unfold Y5T;generalize Q4P l f.N_=k at *
   refine Y7 (fun z:Int=>∃ i:Nat,z=i/\i<=k) (fun z=>l.length-z.toNat) (fun o z u s=>?_) ⟨0,rfl,by omega⟩ (by simp;omega);obtain ⟨i,rfl,v⟩:=u
   have n:i=k->Z1l F l f (i:Int)=some (if k<l.length/\(gl l k).N_=f.N_ then ([],6) else if l.length=60 then ([],1) else (l.take k++[f]++l.drop k,0)):=by
    rintro rfl;unfold Z1l
    have j:∀ b:Bool,(b=true↔i<l.length/\(gl l i).N_=f.N_)->Q7V F l f (i:Int) b=some (if i<l.length/\(gl l i).N_=f.N_ then ([],6) else if l.length=60 then ([],1) else (l.take i++[f]++l.drop i,0)):=by
     intro b p;unfold Q7V
     refine Q9 (fun h=>by rw [if_pos (p.1 h)]) (fun h=>?_);rw [if_neg fun t=>by rw [p.2 t] at h;cases h]
     refine Q9 (fun h=>?_) (fun h=>?_)
     ·have h:l.length=60:=by simp at h;omega
      rw [if_pos h]
     ·have h:l.length≠60:=by simp at h;omega
      rw [if_neg h];simp only [Int.toNat_natCast]
      refine Z4 (k:=?_);refine Z4 (k:=?_)
      refine Z4 (k:=?_);refine Z4 (k:=?_)
      refine Z4 (k:=?_);simp
    refine Q9 (fun d=>?_) (fun d=>?_)
    ·have d:i<l.length:=by simpa using d
     refine Z4 (k:=?_);exact j _ (by simp [d])
    ·have d:¬ i<l.length:=by simpa using d
     exact j _ (by simp [d])
   unfold Z9l;refine Q9 (fun d=>?_) (fun d=>?_)
   ·have d:i<l.length:=by simpa using d
    refine Z4 (k:=?_);unfold Q7W
    simp only [Int.toNat_natCast];refine Q9 (fun g=>?_) (fun g=>?_)
    ·have g:(gl l i).N_<f.N_:=by simpa using g
     refine Z4 (k:=?_);refine s _ ⟨i+1,by omega,?_⟩ (by omega)
     rcases Nat.lt_or_ge i k with e|e
     ·exact e
     ·have:=c i e d;omega
    ·have g:¬ (gl l i).N_<f.N_:=by simpa using g
     refine n ?_;rcases Nat.lt_or_ge i k with e|e
     ·exact absurd (b i e) g
     ·omega
   ·have d:¬ i<l.length:=by simpa using d
    unfold Q7W;exact Q8 rfl (n (by omega))
  ·refine Z5 (by simpa using h1) ?_
   rw [if_pos h1]
 ·refine Z5 (by simpa using h) ?_
  rw [if_pos h]
theorem Y5S {l:List A2_} {f g:A2_}:g ∈ Y5T l f↔g=f\/g ∈ l:=by
 unfold Y5T;constructor
 ·intro h
  rcases List.mem_append.1 h with h|h
  ·rcases List.mem_append.1 h with h|h
   ·exact .inr (List.mem_of_mem_take h)
   ·exact .inl (List.mem_singleton.1 h)
  ·exact .inr (List.mem_of_mem_drop h)
 ·rintro (rfl|h)
  ·simp
  ·rw [<-List.take_append_drop (Q4P l f.N_) l] at h
   rcases List.mem_append.1 h with h|h
   ·simp [h]
   ·simp [h]
theorem W1F {l:List A2_} {f:A2_} (hl:VL l) (hf:Z3G f=0) (hn:¬ (Q4P l f.N_<l.length/\(gl l (Q4P l f.N_)).N_=f.N_)) (h60:l.length≠60):VL (Y5T l f):=by
 obtain ⟨a,b,c⟩:=Z8s hl.asc f.N_;have p:=hl.len
 refine ⟨by simp [Y5T];omega,fun g h=>?_,?_⟩
 ·rcases Y5S.1 h with rfl|h
  ·exact hf
  ·exact hl.one g h
 ·unfold Y5T
  generalize Q4P l f.N_=k at *;have w:∀ g ∈ l.take k,g.N_<f.N_:=by
   intro g h;obtain ⟨j,m,rfl⟩:=List.getElem_of_mem h
   have d : j<k:=by simp at m;omega
   have:=b j d
   rw [y7 (by omega)] at this;simpa using this
  have t:∀ g ∈ l.drop k,f.N_<g.N_:=by
   intro g h;obtain ⟨j,m,rfl⟩:=List.getElem_of_mem h
   have d : k+j<l.length:=by simp at m;omega
   have s:=c (k+j) (by omega) d;rw [y7 d] at s
   have A:(l[k+j]).N_≠f.N_:=by
    intro e;rcases Nat.eq_zero_or_pos j with rfl|n
    ·exact hn ⟨by omega,by rw [y7 (by omega)];exact e⟩
    ·have v:=c k (Nat.le_refl _) (by omega)
     rw [y7 (by omega)] at v;have z:=List.pairwise_iff_getElem.1 hl.asc k (k+j) (by omega) d (by omega)
     omega
   simp only [List.getElem_drop];omega
  have n:=hl.asc;rw [<-List.take_append_drop k l,List.pairwise_append] at n
  obtain ⟨q,u,r⟩:=n;rw [List.append_assoc,List.pairwise_append]
  refine ⟨q,List.pairwise_cons.2 ⟨t,u⟩,fun x o y i=>?_⟩;rcases List.mem_append.1 i with i|i
  ·rw [List.mem_singleton.1 i];exact w x o
  ·exact r x o y i
structure LayT (l:List A2_):Prop where
 vl:VL l
 fea:∀ f ∈ l,FeaT f/\1<=f.N_/\f.N_<=12
theorem Z8v {F:Nat} (hF:BIG<=F) {t:Tape} (ht:TOk t) {most:Int} (m1:0<=most) (m2:most<=50):∃ t' l,Q6S F t most=some (t',l)/\TOk t' /\ LayT l/\(l.length:Int)<=most:=by
 have d:=hF;unfold BIG at hF
 obtain ⟨H,c,C,J,L,N⟩:=Z6 (F:=F) ht (n:=most+1) (by omega) (by omega);have p:∀ (k f:Nat) (t:Tape) (l:List A2_),k<f->TOk t->LayT l->(l.length:Int)+k<=most->∃ t' l',Z3 (fun again (z:List A2_×Int×List Int×Int)=>Q0X F again z.1 z.2.1 z.2.2.1 z.2.2.2) f (l,(k:Int),t.l_,t.at_)=some (t',l')/\TOk t' /\ LayT l' /\ (l'.length:Int)<=most:=by
  intro k
  induction k with
  | zero=>
   intro f t l m ht e E
   cases f with
   | zero=>omega
   | succ f=>exact ⟨⟨t.l_,t.at_⟩,l,rfl,ht,e,by omega⟩
  | succ k ih=>
   intro f t l m ht e E
   cases f with
   | zero=>omega
   | succ f=>
    obtain ⟨M,n,B,G,K,O⟩:=V7 (F:=F) ht (lo:=1) (hi:=12) (by omega) (by omega) (by omega);obtain ⟨u,g,y,w,v,D⟩:=Z6s d G n
    have i:=v.one (by omega) (by omega);have I:=(Z1w l).2 e.vl
    have A:((k+1:Nat):Int)-1=(k:Int):=by omega
    by_cases hadd:(Y7B l g).2=0
    ·have j:LayT (Y7B l g).1/\(Y7B l g).1.length=l.length+1:=by
      unfold Y7B at hadd ⊢;rw [if_neg (by simp [I]),if_neg (by simp [i])] at hadd ⊢
      by_cases a:Q4P l g.N_<l.length/\(gl l (Q4P l g.N_)).N_=g.N_
      ·rw [if_pos a] at hadd;cases hadd
      ·rw [if_neg a] at hadd ⊢
       by_cases b:l.length=60
       ·rw [if_pos b] at hadd;cases hadd
       ·rw [if_neg b]
        refine ⟨⟨W1F e.vl i a b,fun x s=>?_⟩,?_⟩
        ·rcases Y5S.1 s with rfl|s
         ·exact ⟨v,by omega,by omega⟩
         ·exact e.fea x s
        ·have:=(Z8s e.vl.asc g.N_).1
         simp [Y5T];omega
     obtain ⟨q,r,a,b,h,o⟩:=ih f u (Y7B l g).1 (by omega) w j.1 (by omega);refine ⟨q,r,?_,b,h,o⟩
     show Q0X F _ l ((k+1:Nat):Int) t.l_ t.at_=_;unfold Q0X
     refine Z5 (by simp) ?_;refine Q3 B (Q3 y (Q3 (Z9k d l g) ?_))
     refine Z5 (by simpa using hadd) ?_;unfold Q2a
     refine Z4 (k:=?_);rw [A];exact a
    ·obtain ⟨q,r,a,b,h,o⟩:=ih f u l (by omega) w e (by omega)
     refine ⟨q,r,?_,b,h,o⟩;show Q0X F _ l ((k+1:Nat):Int) t.l_ t.at_=_
     unfold Q0X;refine Z5 (by simp) ?_
     refine Q3 B (Q3 y (Q3 (Z9k d l g) ?_));refine Q8 (by simpa using hadd) ?_
     unfold Q2a;refine Z4 (k:=?_)
     rw [A];exact a
 obtain ⟨t',l,a,b,h,o⟩:=p c.toNat F H [] (by omega) J ⟨⟨by simp,fun f m=>(List.not_mem_nil m).elim,.nil⟩,fun f m=>(List.not_mem_nil m).elim⟩ (by simp;omega);refine ⟨t',l,?_,b,h,o⟩
 unfold Q6S;refine Z4 (k:=?_)
 refine Q3 C ?_;have:(c.toNat:Int)=c:=by omega
 rw [this] at a;exact a
theorem Y5Q (F:Nat) (l:List Int):∃ t,Z6u F l=some t/\TOk t:=by
 unfold Z6u;have h:Q5U ((l.length:Nat):Int) 400=((min l.length 400:Nat):Int):=by unfold Q5U;split <;> omega
 rw [h];refine ⟨⟨l.take (min l.length 400),0⟩,?_,by simp only;omega,by simp;omega⟩
 refine Z4 (k:=?_);simp
theorem Y7k {R:Type} {body:(Int->Option R)->Int->Option R} {y:Option R} (N:Nat)
  (step:∀ again (i:Nat),i<N->again ((i:Int)+1)=y->body again (i:Int)=y) (stop:∀ again,body again (N:Int)=y) {F:Nat} (hF:N<F):Z3 body F 0=y:=by
 refine Y7 (fun z:Int=>∃ i:Nat,z=i/\i<=N) (fun z=>N-z.toNat) (fun again z a b=>?_) ⟨0,rfl,Nat.zero_le _⟩ (by simp;omega);obtain ⟨i,rfl,c⟩:=a
 rcases Nat.lt_or_ge i N with h|h
 ·exact step again i h (b _ ⟨i+1,by omega,h⟩ (by omega))
 ·have:i=N:=by omega
  subst this;exact stop again
theorem Runs.len {α:Type} {l:List (Rn α)} (h:Runs l) {n:Int}:∀ {a:Int},a<=n->(∀ r ∈ l,a<=r.lo/\r.hi<=n)->(l.length:Int)<=n-a:=by
 induction l with
 | nil=>intro a d _;simp;omega
 | cons r l ih=>
  intro a d b;have f:=b r (by simp)
  have e:=h.pos r (by simp);have:=ih h.tail (a:=r.hi) (by omega) fun q c=>⟨(h.head q c).1,(b q (by simp [c])).2⟩
  rw [List.length_cons];omega
theorem Y3g {S:Int->Int->Bool} (h:Fin S):cn S=[]↔∀ x y,S x y=false:=by
 constructor
 ·intro e x y
  rw [<-Q1w h,e];rfl
 ·intro e
  exact Y6l (l:=[]) ⟨.nil,fun b a=>(List.not_mem_nil a).elim,fun b a=>(List.not_mem_nil a).elim⟩ fun x y=>(e x y).symm
def ovB (r s:Rect):Bool:=decide (r.L_<s.R_)&&(decide (s.L_<r.R_)&&(decide (r.w_<s.H_)&&decide (s.w_<r.H_)))
theorem Z9c (F:Nat) (r s:Rect):Q7G F r s=some (ovB r s):=by
 unfold Q7G;rw [Q3W (Q0b F),Q3W (Q0b F),Q3W (Q0b F)]
 rfl
def ovL (a b:List Rect):Bool:=a.any fun r=>b.any fun s=>ovB r s
theorem Y7S {r s:Rect} (hr:Q2F r=true) (hs:Q2F s=true):ovB r s=true↔∃ x y,r.has x y=true/\s.has x y=true:=by
 rw [Q0f] at hr hs;simp only [J2]
 constructor
 ·intro h
  simp only [ovB,Bool.and_eq_true,decide_eq_true_eq] at h;refine ⟨max r.L_ s.L_,max r.w_ s.w_,?_⟩
  omega
 ·rintro ⟨x,y,h⟩
  simp only [ovB,Bool.and_eq_true,decide_eq_true_eq];omega
theorem Q2I (l:List Rect) (x y:Int):inR l x y=true↔∃ r ∈ l,r.has x y=true:=by unfold inR;rw [List.any_eq_true]
theorem Y4L {a b:List Rect} (ha:∀ r ∈ a,Q2F r=true) (hb:∀ r ∈ b,Q2F r=true):ovL a b=true↔∃ x y,inR a x y=true/\inR b x y=true:=by
 simp only [ovL,List.any_eq_true,Q2I];constructor
 ·rintro ⟨r,d,s,c,h⟩
  obtain ⟨x,y,f,e⟩:=(Y7S (ha r d) (hb s c)).1 h;exact ⟨x,y,⟨r,d,f⟩,⟨s,c,e⟩⟩
 ·rintro ⟨x,y,⟨r,d,f⟩,⟨s,c,e⟩⟩
  exact ⟨r,d,s,c,(Y7S (ha r d) (hb s c)).2 ⟨x,y,f,e⟩⟩
theorem Y9L {a b:List Rect}:ovL a b=ovL b a:=by
 rw [Bool.eq_iff_iff];simp only [ovL,List.any_eq_true,ovB,Bool.and_eq_true,decide_eq_true_eq]
 constructor <;> (rintro ⟨r,f,s,d,h,e,c,g⟩;exact ⟨s,d,r,f,e,h,g,c⟩)
noncomputable def Q3G (a b:Re_):Bool:=Q3H a.t_&&(Q3H b.t_&&ovL a.t_ b.t_)
theorem Y7d (a b:Re_):Q3G a b=Q3G b a:=by
 unfold Q3G;rw [Y9L]
 cases Q3H a.t_ <;> cases Q3H b.t_ <;> rfl
theorem Z4X {F:Nat} (hF:BIG<=F) (a b:Re_):Q7H F a b=some (Q3G a b):=by
 unfold Q7H Q3G;refine Q3 (Q0k hF a) ?_
 refine Q9 (fun h=>?_) (fun h=>by rw [h];rfl);refine Q3 (Q0k hF b) ?_
 refine Q9 (fun c=>?_) (fun c=>by rw [h,c];rfl);have e:=((Q0P _).1 h).1
 have d:=((Q0P _).1 c).1;refine Q3 (Q1C hF (fun r=>b.t_.any fun s=>ovB r s) (by omega) fun r _=>?_) ?_
 ·unfold Z1L
  refine Q3 (Q1C hF (fun s=>ovB r s) (by omega) fun s _=>?_) rfl;unfold Q8Q
  rw [Z9c];rfl
 ·rw [h,c];rfl
theorem Y2A {F:Nat} (hF:BIG<=F) (a b:Re_):Z2H F a b=some (Q3G a b):=by
 unfold Z2H Q3G;refine Q3 (Q1i hF a) ?_
 refine Q9 (fun h=>?_) (fun h=>by rw [h];rfl);refine Q3 (Q1i hF b) ?_
 refine Q9 (fun f=>?_) (fun f=>by rw [h,f];rfl);have i:=(Q0P _).1 h
 have d:=(Q0P _).1 f;have m:=i.1
 have l:=d.1;refine Q3 (Q6b hF (by omega)) ?_
 unfold Q5r;rw [h,f]
 show some _=some (ovL a.t_ b.t_);congr 1
 rw [Bool.eq_iff_iff,decide_eq_true_iff,Y4L i.2.1 d.2.1];have j:=Y3g (Q6z a.t_ b.t_ 2)
 have e:∀ x y,Q0u (inR a.t_ x y) (inR b.t_ x y) 2=true↔inR a.t_ x y=true/\inR b.t_ x y=true:=fun x y=>by simp [Q0u]
 constructor
 ·intro c
  refine Classical.byContradiction fun k=>?_
  have:cn (fun x y=>Q0u (inR a.t_ x y) (inR b.t_ x y) 2)=[]:=j.2 fun x y=>by
   rw [<-Bool.not_eq_true,e];exact fun g=>k ⟨x,y,g⟩
  rw [this] at c;simp at c
 ·rintro ⟨x,y,g⟩
  rcases Nat.eq_zero_or_pos (cn fun x y=>Q0u (inR a.t_ x y) (inR b.t_ x y) 2).length with c|c
  ·have:=j.1 (List.eq_nil_of_length_eq_zero c) x y
   rw [(e x y).2 g] at this;cases this
  ·omega
theorem Z2y (F:Nat) (l:List Rect):Q3k F l=some (if 120<l.length then (⟨[]⟩,1) else (⟨l⟩,0)):=by
 unfold Q3k;refine Q9 (fun h=>?_) (fun h=>?_)
 ·have h:120<l.length:=by simp at h;omega
  rw [if_pos h]
 ·have h:¬ 120<l.length:=by simp at h;omega
  rw [if_neg h]
theorem Q5G {F:Nat} (hF:BIG<=F) {l:List Rect} (hl:l.length<=32768) (hpos:∀ r ∈ l,r.L_<r.R_):Q0z F l=some (if 120<(cn (inR l)).length then (⟨[]⟩,1) else (⟨cn (inR l)⟩,0)):=by
 unfold Q0z;refine Q3 (Z0K hF hl hpos) ?_
 exact Q3 (Z2y F _) rfl
def Q0q (L:List A2_) (d:Int) (p:Int->Bool):List Rect:=(L.filter fun f=>Z9V f d&&p f.k_).flatMap fun f=>f.g_.t_
theorem Z6k (f:A2_) (L:List A2_) (d:Int) (p:Int->Bool):Q0q (f::L) d p=(if (Z9V f d&&p f.k_)=true then f.g_.t_ else [])++Q0q L d p:=by
 unfold Q0q;rw [List.filter_cons]
 split
 ·rw [List.flatMap_cons]
 ·rfl
theorem Y7a {L:List A2_} {d:Int} {p:Int->Bool} {r:Rect} (h:r ∈ Q0q L d p):∃ f ∈ L,r ∈ f.g_.t_:=by
 obtain ⟨f,a,b⟩:=List.mem_flatMap.1 h;exact ⟨f,(List.mem_filter.1 a).1,b⟩
theorem Y6S {L:List A2_} (h:∀ f ∈ L,f.g_.t_.length<=120) (d:Int) (p:Int->Bool):(Q0q L d p).length<=120*L.length:=by
 induction L with
 | nil=>simp [Q0q]
 | cons f L ih=>
  have b:=ih fun g a=>h g (by simp [a])
  have c:=h f (by simp);rw [Z6k,List.length_append,List.length_cons]
  split
  ·omega
  ·simp;omega
theorem Z3O {F:Nat} (hF:BIG<=F) {L:List A2_} (hl:L.length<=10000) (hr:∀ f ∈ L,f.g_.t_.length<=120) (d:Int) {q:Int->Option Bool} (p:Int->Bool) (hq:∀ f ∈ L,q f.k_=some (p f.k_)) :
  Q6B F L d q=some (Q0q L d p):=by
 unfold BIG at hF;unfold Q6B
 refine Z1W (l:=L) (I:=fun l s=>s.length+120*l.length<=2000000/\∀ f ∈ l,f.g_.t_.length<=120) (fun l s=>some (s++Q0q l d p)) (fun a i s m e o=>?_) (fun a s _=>?_) (by omega) ⟨by simp;omega,hr⟩
 ·obtain ⟨e,c⟩:=e
  have r:=c _ (List.mem_cons_self ..);rw [List.length_cons] at e
  have n:∀ b:Bool,b=(Z9V (gl L i) d&&p (gl L i).k_)->Q3w F L i s a b=some (s++Q0q (gl L i::L.drop (i+1)) d p):=by
   intro b j;unfold Q3w
   rw [Z6k];refine Q9 (fun h=>?_) (fun h=>?_)
   ·rw [<-j,if_pos h]
    simp only [Int.toNat_natCast];refine Q7 (by unfold LIM;omega) ?_
    unfold Q3v;refine Z4 (k:=?_)
    rw [o _ ⟨by rw [List.length_append];omega,fun f g=>c f (List.mem_cons_of_mem _ g)⟩,List.append_assoc]
   ·rw [<-j,if_neg (by simp [h])]
    unfold Q3v;refine Z4 (k:=?_)
    rw [o _ ⟨by omega,fun f g=>c f (List.mem_cons_of_mem _ g)⟩];rfl
  unfold Q5W;refine Z5 (Z0B m) ?_
  refine Z4 (k:=?_);simp only [Int.toNat_natCast]
  refine Q3 (Z3N F _ d) ?_;refine Q9 (fun h=>?_) (fun h=>?_)
  ·refine Q3 (hq _ (W9 m)) ?_
   exact n _ (by rw [h];rfl)
  ·exact n _ (by rw [h];rfl)
 ·show Q5W F L d q a (L.length:Int) s=_
  unfold Q5W Q9k;refine Q8 (Q2R _) ?_
  simp [Q0q]
theorem Z4n {F:Nat} (hF:BIG<=F) {a b:List Span} (ha:a.length<=1000000) (hb:b.length<=1000000):Q7a F [a,b]=some (a++b):=by
 unfold BIG at hF;obtain ⟨m,rfl⟩:∃ m,F=m+3:=⟨F-3,by omega⟩
 have d:gl [a,b] (0:Int).toNat=a:=rfl;have c:gl [a,b] (1:Int).toNat=b:=rfl
 have k1:Q2h (m+3) [a,b] (((a.length:Nat):Int)+((b.length:Nat):Int))=some (a++b):=by
  unfold Q2h;refine Q3 (a:=[]) (by unfold Y1d;rw [if_pos (by unfold LIM;omega)]) ?_
  show K7 (m+3) [a,b] _ 0 []=_;unfold K7
  refine Z5 rfl ?_;rw [d]
  refine Z4 (k:=?_);refine Q7 (by simp [LIM];omega) ?_
  refine Z4 (k:=?_);show K7 (m+3) [a,b] _ 1 ([]++a)=_
  unfold K7;refine Z5 rfl ?_
  rw [c];refine Z4 (k:=?_)
  refine Q7 (by simp [LIM];omega) ?_;refine Z4 (k:=?_)
  show K7 (m+3) [a,b] _ 2 (([]++a)++b)=_;unfold K7
  refine Q8 rfl ?_;unfold Q4y
  simp
 show K8 (m+3) [a,b] _ 0 0=_;unfold K8
 refine Z5 rfl ?_;rw [d]
 refine Z4 (k:=?_);refine Z4 (k:=?_)
 refine Q8 (by simp <;> omega) ?_;refine Z4 (k:=?_)
 show K8 (m+3) [a,b] _ (0+((a.length:Nat):Int)) 1=_;unfold K8
 refine Z5 rfl ?_;rw [c]
 refine Z4 (k:=?_);refine Z4 (k:=?_)
 refine Q8 (by simp <;> omega) ?_;refine Z4 (k:=?_)
 show K8 (m+3) [a,b] _ (0+((a.length:Nat):Int)+((b.length:Nat):Int)) 2=_;unfold K8
 refine Q8 rfl ?_;rw [Int.zero_add]
 exact k1
theorem Z3x {F:Nat} (hF:BIG<=F) {l:List Span} (hl:l.length<=1000000) (x:Int):Q6p F l x=some (inS l x):=by
 unfold BIG at hF;have c:∃ i:Int,Q4w F l (fun a=>Q0K F a x)=some i/\(0<=i↔inS l x=true):=by
  have m:∀ s:Span,Q0K F s x=some (s.has x):=fun s=>by
   unfold Q0K;rw [Q3W (Q3K F)];rfl
  have d:∀ (n i:Nat),i<=l.length->l.length-i<n->∃ r:Int,Z3 (fun again (z:Int)=>J1 F l (fun a=>Q0K F a x) again z) n (i:Int)=some r/\(0<=r↔inS (l.drop i) x=true):=by
   intro n
   induction n with
   | zero=>intro i _ h;omega
   | succ n ih=>
    intro i p q;show ∃ r:Int,J1 F l (fun a=>Q0K F a x) (Z3 (fun again (z:Int)=>J1 F l (fun a=>Q0K F a x) again z) n) (i:Int)=some r/\_
    by_cases h:i<l.length
    ·have e:inS (l.drop i) x=((gl l i).has x||inS (l.drop (i+1)) x):=Y3o h fun s=>s.has x
     rw [e]
     by_cases b:(gl l i).has x=true
     ·refine ⟨i,?_,by rw [b];simp⟩
      unfold J1;refine Z5 (Z0B h) ?_
      refine Z4 (k:=?_);exact Q3 (m _) (Z5 b rfl)
     ·have b:(gl l i).has x=false:=by simpa using b
      obtain ⟨r,o,j⟩:=ih (i+1) h (by omega);refine ⟨r,?_,by rw [j,b];simp⟩
      unfold J1;refine Z5 (Z0B h) ?_
      refine Z4 (k:=?_);refine Q3 (m _) (Q8 b ?_)
      refine Z4 (k:=?_);exact o
    ·have:i=l.length:=by omega
     subst this;refine ⟨-1,?_,by simp [inS]⟩
     unfold J1;exact Q8 (Q2R _) rfl
  obtain ⟨r,f,g⟩:=d F 0 (Nat.zero_le _) (by omega);exact ⟨r,f,by simpa using g⟩
 obtain ⟨i,f,g⟩:=c;unfold Q6p Q2P
 refine Q3 (Q3 f rfl) ?_;congr 1
 rw [Bool.eq_iff_iff, <-g,decide_eq_true_iff]
theorem Y9S {F:Nat} (hF:BIG<=F) {a b:List Span} (ha:a.length<=1000000) (hb:b.length<=1000000) {es:List Int} {f:Int->Bool} {k:Bool->Bool->Bool} {q:Bool->Bool->Option Bool} (hq:∀ u v,q u v=some (k u v))
  (hst:Step false es f) (hf:∀ x,f x=k (inS a x) (inS b x)) (hes:es.length<=8000000):Z3 (fun again (z:Int×List Span)=>Q4d F a b q es again z.1 z.2) F ((1:Int),([]:List Span))=some (spn f):=by
 have p:=hF;unfold BIG at hF
 by_cases h0:es.length=0
 ·obtain ⟨m,rfl⟩:∃ m,F=m+1:=⟨F-1,by omega⟩
  show Q4d (m+1) a b q es _ 1 []=_;unfold Q4d Q6J
  refine Q8 (by simp [h0]) ?_;rw [Y0c (hst.empty h0)]
 ·refine Y7 (fun z:Int×List Span=>∃ (i:Nat) (e:List Span),z=(((i+1:Nat):Int),e)/\i+1<=es.length/\Bst false f (e.map Span.rn) (gl es i)/\e.length<=i) (fun z=>es.length-z.1.toNat) (fun again z G E=>?_) ⟨0,[],rfl,by omega,hst.start (by omega),by simp⟩ (by simp;omega)
  obtain ⟨i,e,rfl,H,n,j⟩:=G;simp only
  unfold Q4d;refine Q9 (fun h=>?_) (fun h=>?_)
  ·have h:i+1<es.length:=by simp at h;omega
   have A:(((i+1:Nat):Int)-1).toNat=i:=by omega
   have B:((i+1:Nat):Int).toNat=i+1:=by omega
   have l:=hst.asc.at_lt (show i<i+1 by omega) h;refine Z4 (k:=?_)
   refine Z4 (k:=?_);rw [A]
   refine Q3 (Z3x p ha _) ?_;refine Q3 (Z3x p hb _) ?_
   refine Q3 (hq _ _) ?_;rw [<-hf]
   have d:∀ c : List Span,Bst false f (c.map Span.rn) (gl es (i+1))->c.length<=i+1->Q2r F ((i+1:Nat):Int) again c=some (spn f):=by
    intro c r w;unfold Q2r
    refine Z4 (k:=?_);exact E _ ⟨i+1,c,by simp,h,r,w⟩ (by simp;omega)
   cases hfe:f (gl es i) with
   | false=>
    refine Z5 rfl ?_;exact d e (n.skip (by omega) fun t r w=>(hst.gap i h t r w).trans hfe) (by omega)
   | true=>
    refine Q8 rfl ?_;rcases List.eq_nil_or_concat e with rfl|⟨g,s,y⟩
    ·refine Q8 rfl ?_
     unfold Q4c;refine Q8 rfl ?_
     rw [A,B];refine Z4 (k:=?_)
     refine Q7 (by simp [LIM]) ?_;refine d _ ?_ (by simp)
     have:=n.add l (hst.gap i h) (fun a ha=>by simp at ha)
     rw [hfe] at this;exact this
    ·rw [List.concat_eq_append] at y
     subst y;have C:(((g ++ [s]).length:Nat):Int)-1=((g.length:Nat):Int):=by simp
     have o:(((g.length:Nat):Int)).toNat=g.length:=by omega
     refine Z5 (by simp <;> omega) ?_;rw [C,o]
     refine Z4 (k:=?_);refine Q7 (by simp <;> omega) ?_
     rw [Z4B g s rfl];unfold Q4c
     by_cases hs:s.R_=gl es i
     ·refine Z5 (by simp [hs]) ?_
      rw [C,o,B];refine Z4 (k:=?_)
      refine Z4 (k:=?_);refine Q7 (by simp <;> omega) ?_
      rw [Z4B g s rfl,Z8X g s _ rfl];refine d _ ?_ (by simp at j ⊢;omega)
      rw [List.map_append] at n;have:=n.grow (a:=s.rn) hs l fun t r w=>(hst.gap i h t r w).trans hfe
      rw [List.map_append];exact this
     ·refine Q8 (by simpa using hs) ?_
      rw [A,B];refine Z4 (k:=?_)
      refine Q7 (by simp [LIM] at j ⊢;omega) ?_;refine d _ ?_ (by simp at j ⊢;omega)
      have:=n.add l (hst.gap i h) (fun a ha D=>by
       rw [List.map_append] at ha;simp at ha
       subst ha;exact absurd D hs)
      rw [hfe] at this;rw [List.map_append];exact this
  ·have h:i+1=es.length:=by simp at h;omega
   unfold Q6J;congr 1
   refine (Y0d (.of_runs n.runs) fun x=>?_).symm;rw [Z9y];exact hst.done h n x
def Y3d (l:List Span):List Int:=l.flatMap fun s=>[s.L_,s.R_]
theorem Y0L (l:List Span):(Y3d l).length=2*l.length:=by
 induction l with
 | nil=>rfl
 | cons s l ih=>unfold Y3d at ih ⊢;rw [List.flatMap_cons,List.length_append,ih];simp;omega
theorem Y7W {l:List Span} {c:List Int} (hc:Asc c) (hm:∀ s ∈ l,s.L_ ∈ c/\s.R_ ∈ c) {i:Nat} (hi:i+1<c.length) {t:Int} (h1:gl c i<=t) (h2:t<gl c (i+1)):inS l t=inS l (gl c i):=by
 unfold inS
 induction l with
 | nil=>rfl
 | cons s l ih=>
  rw [List.any_cons,List.any_cons,ih fun q d=>hm q (by simp [d])];congr 1
  obtain ⟨g,b⟩:=hm s (by simp);have f:=hc.gap hi h1 h2 g
  have h:=hc.gap hi h1 h2 b;unfold Span.has
  have a:decide (s.L_<=t)=decide (s.L_<=gl c i):=by simp only [f]
  have e:decide (t<s.R_)=decide (gl c i<s.R_):=by rw [decide_eq_decide];omega
  rw [a,e]
theorem W0e {l:List Span} {t:Int} (h:∀ s ∈ l,¬ (s.L_<=t/\t<s.R_)):inS l t=false:=by
 unfold inS;rw [List.any_eq_false]
 intro s a;have:=h s a
 simp only [Span.has,Bool.and_eq_true,decide_eq_true_eq];exact this
theorem Y1r {F:Nat} (hF:BIG<=F) {a b:List Span} (ha:a.length<=1000000) (hb:b.length<=1000000) {k:Bool->Bool->Bool} (hk:k false false=false) {q:Bool->Bool->Option Bool} (hq:∀ u v,q u v=some (k u v)) :
  Z1g F a b q=some (spn fun x=>k (inS a x) (inS b x)):=by
 have h:=hF;unfold BIG at hF
 unfold Z1g;refine Q3 (Z4n h ha hb) ?_
 have J:(a++b).length<=2000000:=by rw [List.length_append];omega
 refine Z1W (l:=a++b) (I:=fun l s=>s++Y3d l=Y3d (a++b)) (fun _ _=>some (spn fun x=>k (inS a x) (inS b x))) (fun g i s n o E=>?_) (fun g s o=>?_) (by omega) rfl
 ·have w:=Y0L (a++b)
  have L:s.length+2<=(Y3d (a++b)).length:=by
   rw [<-o,List.length_append,Y0L];simp;omega
  unfold Q6K;refine Z5 (Z0B n) ?_
  refine Z4 (k:=?_);simp only [Int.toNat_natCast]
  refine Q7 (by simp [LIM];omega) ?_;refine Z4 (k:=?_)
  refine E _ ?_;rw [<-o,List.append_assoc];rfl
 ·have y:s=Y3d (a++b):=by rw [<-o];simp [Y3d]
  show Q6K F a b q (a++b) g (((a++b).length:Nat):Int) s=_;unfold Q6K
  refine Q8 (Q2R _) ?_;unfold Z0w
  have w:=Y0L (a++b);obtain ⟨r,M,p,B,z⟩:=Y9w (l:=s) (by rw [y];unfold LIM;omega)
  refine Q3 M ?_;have G:r.length<=4000000:=by rw [z,y];omega
  refine Q3 (Q8B h (by unfold LIM;omega)) ?_;have K:=Y7p r
  have d:=Y7q r p;have c:∀ l,l=a\/l=b->∀ s ∈ l,s.L_ ∈ dd r/\s.R_ ∈ dd r:=by
   intro l j q A;have:q ∈ a++b:=by rcases j with rfl|rfl <;> simp [A]
   have m:∀ v,v ∈ [q.L_,q.R_]->v ∈ dd r:=fun v H=>(Y4P r v).2 ((B v).2 (by rw [y];exact List.mem_flatMap.2 ⟨q,this,H⟩))
   exact ⟨m _ (by simp),m _ (by simp)⟩
  refine Y9S h ha hb hq (f:=fun x=>k (inS a x) (inS b x)) ⟨d,fun i n t D m=>?_,fun t C=>?_,fun t C=>?_⟩ (fun _=>rfl) (by omega)
  ·simp only [Y7W d (c a (.inl rfl)) n D m,Y7W d (c b (.inr rfl)) n D m]
  ·have e:∀ l,l=a\/l=b->inS l t=false:=fun l j=>W0e fun q hq=>by have:=C _ (c l j q hq).1;omega
   simp only [e a (.inl rfl),e b (.inr rfl),hk]
  ·have e:∀ l,l=a\/l=b->inS l t=false:=fun l j=>W0e fun q hq=>by have:=C _ (c l j q hq).2;omega
   simp only [e a (.inl rfl),e b (.inr rfl),hk]
theorem Q8R {F:Nat} (hF:BIG<=F) {a b:List Rect} (hl:a.length+b.length<=16000) (ha:∀ r ∈ a,r.L_<r.R_) (hb:∀ r ∈ b,r.L_<r.R_) {k:Bool->Bool->Bool} (hk:k false false=false) {q:Bool->Bool->Option Bool} (hq:∀ u v,q u v=some (k u v)) :
  V9 F a b q=some (cn fun x y=>k (inR a x y) (inR b x y)):=by
 unfold V9;have d:Grid (Q8u b (Q8u a [])) (Y3K [a,b]) fun x y=>k (inR a x y) (inR b x y):=
  Grid.of (Q8t b (Q8t a .nil)) (Y6g _) (fun r c=>⟨(Q0w b _ _).2 (.inl ((Q0w a _ _).2 (.inr ⟨r,c,.inl rfl⟩))),(Q0w b _ _).2 (.inl ((Q0w a _ _).2 (.inr ⟨r,c,.inr rfl⟩)))⟩)
   (fun r c=>⟨(Q0w b _ _).2 (.inr ⟨r,c,.inl rfl⟩),(Q0w b _ _).2 (.inr ⟨r,c,.inr rfl⟩)⟩) (Y0M _ (by simp)) (Y0M _ (by simp)) hk
 have e:=Y2J a (ls:=[a,b]) (by simp);have f:=Y2J b (ls:=[a,b]) (by simp)
 have o:tot [a,b]=a.length+b.length:=by simp [tot]
 have g:=Y6f [a,b];have i:=Y1f (a:=a) (b:=b)
 refine Q3 (Z5T hF (by omega) (by simp)) ?_;refine Q3 (Z4Y hF d.rows d.step (by omega) (fun y=>?_) (fun y=>?_)) rfl
 ·unfold Z0y
  have n:=(e.x y).spn_len;have h:=(f.x y).spn_len
  have j:=Z4K (l:=a);have m:=Z4K (l:=b)
  refine Q3 (Z2Z hF (by omega) ha y) ?_;refine Q3 (Z2Z hF (by omega) hb y) ?_
  refine Q3 (Y1r hF (by omega) (by omega) hk hq) ?_;congr 2
  funext x
  rw [(e.rows.sp y).2 x,(f.rows.sp y).2 x]
 ·have:=(d.x y).spn_len
  omega
def Sm (r:Rect):Prop:= -1000000<=r.L_/\r.L_<=1000000 /\ -1000000<=r.w_/\r.w_<=1000000 /\ -1000000<=r.R_/\r.R_<=1000000 /\ -1000000<=r.H_/\r.H_<=1000000
theorem W1t {r:Rect} (h:Q2F r=true):Sm r:=by
 rw [Q0f] at h;unfold Sm;omega
def Y7e (a b:Rect):Int:=Q0x 0 (Q5U a.H_ b.H_-Q0x a.w_ b.w_)
def Y5P (a b:Rect):Int:=Q0x 0 (Q5U a.R_ b.R_-Q0x a.L_ b.L_)
def W2q (a b:Rect):Bool:=a.R_==b.L_||b.R_==a.L_
def Y7L (a b:Rect):Bool:=a.H_==b.w_||b.H_==a.w_
def com (a b:Rect):Int:=(if W2q a b=true then Y7e a b else 0)+(if Y7L a b=true then Y5P a b else 0)
theorem W1D {a b:Rect} (ha:Sm a) (hb:Sm b):0<=Y7e a b/\Y7e a b<=2000000 /\ -2000000<=Q5U a.H_ b.H_-Q0x a.w_ b.w_/\Q5U a.H_ b.H_-Q0x a.w_ b.w_<=2000000:=by
 unfold Sm at ha hb;unfold Y7e Q0x Q5U
 repeat' split
 all_goals omega
theorem W1E {a b:Rect} (ha:Sm a) (hb:Sm b):0<=Y5P a b/\Y5P a b<=2000000 /\ -2000000<=Q5U a.R_ b.R_-Q0x a.L_ b.L_/\Q5U a.R_ b.R_-Q0x a.L_ b.L_<=2000000:=by
 unfold Sm at ha hb;unfold Y5P Q0x Q5U
 repeat' split
 all_goals omega
theorem Y4i {F:Nat} {a b:Rect} (ha:Sm a) (hb:Sm b) {v:Int} (h1:0<=v) (h2:v<=2000000) (c:Bool):Q4a F a b v c=some (v+if c=true then Y5P a b else 0):=by
 obtain ⟨f,d,e,g⟩:=W1E ha hb;unfold Q4a
 cases c with
 | true=>
  refine Z5 rfl ?_;refine Q7 (Z7 (by omega) (by omega)) ?_
  show gd (I64 (v+Y5P a b)) _=_;refine Q7 (Z7 (by omega) (by omega)) ?_
  rfl
 | false=>
  refine Q8 rfl ?_;show some v=some (v+0)
  rw [Int.add_zero]
theorem Y4j {F:Nat} {a b:Rect} (ha:Sm a) (hb:Sm b) {v:Int} (h1:0<=v) (h2:v<=2000000):Q2p F a b v=some (v+if Y7L a b=true then Y5P a b else 0):=by
 unfold Q2p;rw [Y4i ha hb h1 h2,Y4i ha hb h1 h2]
 unfold Y7L
 cases a.H_==b.w_ <;> rfl
theorem Y4k {F:Nat} {a b:Rect} (ha:Sm a) (hb:Sm b) (c:Bool):Q4b F a b c=some ((if c=true then Y7e a b else 0)+if Y7L a b=true then Y5P a b else 0):=by
 obtain ⟨f,d,e,g⟩:=W1D ha hb;unfold Q4b
 cases c with
 | true=>
  refine Z5 rfl ?_;refine Q7 (Z7 (by omega) (by omega)) ?_
  show gd (I64 (0+Y7e a b)) _=_;refine Q7 (Z7 (by omega) (by omega)) ?_
  show Q2p F a b (0+Y7e a b)=_;rw [Y4j ha hb (by omega) (by omega)]
  simp
 | false=>
  refine Q8 rfl ?_;rw [Y4j ha hb (by omega) (by omega)]
  rfl
theorem Y1l (F:Nat) {a b:Rect} (ha:Sm a) (hb:Sm b):Z1b F a b=some (com a b):=by
 unfold Z1b;rw [Y4k ha hb,Y4k ha hb]
 unfold com W2q
 cases a.R_==b.L_ <;> rfl
def Q3p (a b:Rect):Bool:=decide (0<com a b)
theorem Z2u {F:Nat} {q:List Rect} {r:Rect} {i:Nat} (hi:i<q.length) (hl:q.length<=1000000) (hq:∀ s ∈ q,Sm s) (hr:Sm r) :
  Q5i F r q i=some (if Q3p (gl q i) r=true then q++[r] else q,Q3p (gl q i) r):=by
 unfold Q5i;refine Q7 (by omega) ?_
 simp only [Int.toNat_natCast];refine Q3 (Y1l F (hq _ (W9 hi)) hr) ?_
 show Q4L F r q (Q3p (gl q i) r)=_;unfold Q4L
 cases Q3p (gl q i) r with
 | true=>
  refine Z5 rfl ?_;refine Q7 (by simp [LIM];omega) rfl
 | false=>exact Q8 rfl rfl
theorem W1G {F:Nat} (hF:BIG<=F) {l q:List Rect} {k:Nat} (hk:k<q.length) (hl:l.length<=900000) (hql:q.length<=900000) (hq:∀ s ∈ q,Sm s) (hr:∀ r ∈ l,Sm r) :
  Q1m F l q k=some (l,if l.any (Q3p (gl q k))=true then q++[gl l (l.findIdx (Q3p (gl q k)))] else q,Q4i (Q3p (gl q k)) l):=by
 unfold BIG at hF;unfold Q1m
 refine Y7 (fun z:Int×List Rect=>∃ i:Nat,z=((i:Int),q)/\i<=l.length/\∀ j,j<i->Q3p (gl q k) (gl l j)=false) (fun z=>l.length-z.1.toNat) (fun c z g e=>?_) ⟨0,rfl,by omega,fun j m=>by omega⟩ (by simp;omega);obtain ⟨i,rfl,n,d⟩:=g
 simp only at e ⊢;unfold Q5f
 refine Q9 (fun h=>?_) (fun h=>?_)
 ·have h:i<l.length:=by simpa using h
  refine Z4 (k:=?_);simp only [Int.toNat_natCast]
  refine Q3 (Z2u hk (by omega) hq (hr _ (W9 h))) ?_;simp only
  refine Q9 (fun a=>?_) (fun a=>?_)
  ·have b:l.any (Q3p (gl q k))=true:=List.any_eq_true.2 ⟨_,W9 h,a⟩
   rw [if_pos a,Q4i,if_pos b,if_pos b,Q9j h d a]
  ·rw [a,if_neg (by simp)]
   refine Z4 (k:=?_);refine e _ ⟨i+1,rfl,h,fun j m=>?_⟩ (by simp only;omega)
   rcases Nat.lt_or_ge j i with f|f
   ·exact d j f
   ·have:j=i:=by omega
    subst this;exact a
 ·have h:¬ i<l.length:=by simpa using h
  have:i=l.length:=by omega
  subst this;have b:=Q2Y d
  rw [Q4i,b];rfl
theorem W0u {F:Nat} (hF:BIG<=F) {l q:List Rect} {k:Nat} (hk:k<q.length) (hl:l.length+q.length<=900000) (hq:∀ s ∈ q,Sm s) (hr:∀ r ∈ l,Sm r) :
  Q1c F l q k=some (q++l.filter (Q3p (gl q k)),l.filter fun r=> !Q3p (gl q k) r):=by
 have G:=hF;unfold BIG at hF
 unfold Q1c;refine Q3 (W1G G hk (by omega) (by omega) hq hr) ?_
 generalize a:Q3p (gl q k)=p;simp only
 by_cases f:l.any p=true
 ·obtain ⟨x,d,C⟩:=List.any_eq_true.1 f
  have c:l.findIdx p<l.length:=List.findIdx_lt_length_of_exists ⟨x,d,C⟩;have v:p (gl l (l.findIdx p))=true:=by rw [y7 c];exact List.findIdx_getElem (w:=c)
  have B:∀ j,j<l.findIdx p->p (gl l j)=false:=by
   intro j t;rw [y7 (by omega)]
   simpa using List.not_of_lt_findIdx t
  rw [Q4i,if_pos f,if_pos f];refine Q8 (by simp) ?_
  refine Z4 (k:=?_);generalize l.findIdx p=i0 at *
  have D:(l.take i0).filter (fun r=> !p r)=l.take i0:=by
   rw [List.filter_eq_self];intro x d
   obtain ⟨j,t,rfl⟩:=List.getElem_of_mem d;have o : j<i0:=by simp at t;omega
   have:=B j o
   rw [y7 (by omega)] at this;simp [this]
  have J:(l.take i0).filter p=[]:=by
   rw [List.filter_eq_nil_iff];intro x d
   obtain ⟨j,t,rfl⟩:=List.getElem_of_mem d;have o : j<i0:=by simp at t;omega
   have:=B j o
   rw [y7 (by omega)] at this;simp [this]
  have M:(l.take (i0+1)).filter (fun r=> !p r)=l.take i0:=by
   rw [J8 c,List.filter_append,D];simp [v]
  have I:(l.take (i0+1)).filter p=[gl l i0]:=by
   rw [J8 c,List.filter_append,J];simp [v]
  refine Y7 (fun z:Int×Int×List Rect×List Rect=>∃ (i j:Nat) (b:List Rect),z=((i:Int),(j:Int),b,q++(l.take j).filter p)/\i<j/\j<=l.length/\b.length=l.length/\(∀ m,j<=m->gl b m=gl l m)/\b.take i=(l.take j).filter fun r=> !p r)
   (fun z=>l.length-z.2.1.toNat) (fun H z Q E=>?_) ⟨i0,i0+1,l,by rw [I];rfl,by omega,by omega,rfl,fun _ _=>rfl,M.symm⟩ (by simp only;omega)
  obtain ⟨i,j,b,rfl,P,t,e,g,n⟩:=Q;simp only at E ⊢
  unfold Q4K;rw [e]
  have N:((l.take j).filter p).length<=j:=by
   have:=List.length_filter_le p (l.take j)
   simp at this;omega
  have K:gl (q++(l.take j).filter p) k=gl q k:=by simp [gl,List.getD_eq_getElem?_getD,List.getElem?_append,hk]
  refine Q9 (fun h=>?_) (fun h=>?_)
  ·have h:j<l.length:=by simpa using h
   refine Z4 (k:=?_);simp only [Int.toNat_natCast]
   rw [g j (Nat.le_refl _)];refine Q3 (Z2u (by simp;omega) (by simp;omega) (fun s A=>?_) (hr _ (W9 h))) ?_
   ·rcases List.mem_append.1 A with A|A
    ·exact hq s A
    ·exact hr s (List.mem_of_mem_take (List.mem_filter.1 A).1)
   rw [K,a];have y:(l.take (j+1)).filter (fun r=> !p r)=(l.take j).filter (fun r=> !p r)++(if p (gl l j)=true then [] else [gl l j]):=by
    rw [J8 h,List.filter_append]
    by_cases a:p (gl l j)=true
    ·rw [if_pos a];simp [a]
    ·rw [if_neg a];simp [a]
   have u:(l.take (j+1)).filter p=(l.take j).filter p++(if p (gl l j)=true then [gl l j] else []):=by
    rw [J8 h,List.filter_append]
    by_cases a:p (gl l j)=true
    ·rw [if_pos a];simp [a]
    ·rw [if_neg a];simp [a]
   simp only
   refine Q9 (fun a=>?_) (fun a=>?_)
   ·have a:p (gl l j)=false:=by simpa using a
    refine Z4 (k:=?_);refine Z4 (k:=?_)
    unfold G7;refine Z4 (k:=?_)
    rw [a,if_neg (by simp)];refine E _ ⟨i+1,j+1,b.set i (gl l j),?_,by omega,by omega,by simp [e],fun m O=>?_,?_⟩ (by simp only;omega)
    ·rw [u,a,if_neg (by simp),List.append_nil];rfl
    ·rw [Y0E _ _ _ _ (by omega),if_neg (by omega)];exact g m (by omega)
    ·rw [y,if_neg (by rw [a];simp), <-n,J8 (by simp;omega),Z5E _ _ _ _ (Nat.le_refl _),Y0E _ _ _ _ (by omega),if_pos rfl]
   ·have a:p (gl l j)=true:=by simpa using a
    unfold G7;refine Z4 (k:=?_)
    rw [a,if_pos rfl];refine E _ ⟨i,j+1,b,?_,by omega,by omega,e,fun m O=>g m (by omega),?_⟩ (by simp only;omega)
    ·rw [u,a,if_pos rfl, <-List.append_assoc];rfl
    ·rw [y,if_pos a,List.append_nil,n]
  ·have h:¬ j<l.length:=by simpa using h
   have L:j=l.length:=by omega
   unfold Q1B;simp only [Int.toNat_natCast,Y5d,e]
   refine Z4 (k:=?_);refine Z4 (k:=?_)
   rw [Y2c _ _ _ (by omega),n,List.take_of_length_le (by omega)]
 ·have f:l.any p=false:=by simpa using f
  rw [Q4i,f];refine Z5 rfl ?_
  have D:l.filter p=[]:=by
   rw [List.filter_eq_nil_iff];intro x d
   have:=List.any_eq_false.1 f x d
   simpa using this
  have J:l.filter (fun r=> !p r)=l:=by
   rw [List.filter_eq_self];intro x d
   have:=List.any_eq_false.1 f x d
   simpa using this
  rw [D,J];simp
def jn:Nat->List Rect->Nat->List Rect->List Rect×List Rect
 | 0,q,_,rest=>(q,rest)
 | n+1,q,k,rest=>if k<q.length then jn n (q++rest.filter (Q3p (gl q k))) (k+1) (rest.filter fun r=> !Q3p (gl q k) r) else (q,rest)
def Z2f:List Rect->List Rect×List Rect
 | []=>([],[])
 | a::l=>jn (l.length+2) [a] 0 l
theorem Y1e {α:Type} (p:α->Bool) (l:List α):(l.filter p).length+(l.filter fun r=> !p r).length=l.length:=by
 induction l with
 | nil=>rfl
 | cons a l ih=>by_cases h:p a=true <;> simp [h] <;> omega
theorem Y7F {F:Nat} {l:List Rect} (h:l.length<=LIM):Q3b F l=some l:=by
 unfold Q3b
 cases h:l with
 | nil=>
  show gdc _ _=_;unfold gdc
  exact @Q7 _ _ (Classical.propDecidable _) _ _ rfl rfl
 | cons a l' =>
  have:(a::l').length=l'.length+1:=rfl
  show (gd _ _)=_;rw [<-h]
  refine Z4 (k:=?_);simp
theorem Y1m {F:Nat} (hF:BIG<=F) {l:List Rect} (hne:l≠[]) (hl:l.length<=400000) (hs:∀ r ∈ l,Sm r):Z1c F l=some (Z2f l):=by
 have f:=hF;unfold BIG at hF
 cases l with
 | nil=>exact absurd rfl hne
 | cons a l=>
  simp only [List.length_cons] at hl;unfold Z1c
  refine Q7 (by simp only [List.length_cons];omega) ?_;refine Q7 (by simp only [List.length_cons];omega) ?_
  have m:(1:Int).toNat=1:=rfl;rw [m]
  refine Q3 (Y7F (by simp [LIM];omega)) ?_;simp only [List.drop_succ_cons,List.drop_zero,List.take_succ_cons,List.take_zero]
  refine Y7 (fun z:List Rect×Int×List Rect=>∃ (n k:Nat) (q b:List Rect),z=(b,(k:Int),q)/\k<=q.length/\q.length+b.length=l.length+1/\(∀ r ∈ q++b,Sm r)/\l.length+2<=n+k/\jn n q k b=Z2f (a::l))
   (fun z=>l.length+2-z.2.1.toNat) (fun g z o i=>?_) ⟨l.length+2,0,[a],l,rfl,by simp,by simp;omega,fun r c=>hs r (by simpa using c),by omega,rfl⟩ (by simp;omega)
  obtain ⟨n,k,q,b,rfl,t,j,d,u,e⟩:=o;simp only at i ⊢
  unfold Z4U Z0o
  cases n with
  | zero=>omega
  | succ n=>
  rw [jn] at e;refine Q9 (fun h=>?_) (fun h=>?_)
  ·have h:k<q.length:=by simpa using h
   rw [if_pos h] at e;refine Q3 (W0u f h (by omega) (fun s hs=>d s (by simp [hs])) (fun s hs=>d s (by simp [hs]))) ?_
   refine Z4 (k:=?_);have p:=Y1e (Q3p (gl q k)) b
   refine i _ ⟨n,k+1,_,_,rfl,by simp;omega,by simp;omega,fun r c=>d r ?_,by omega,e⟩ (by simp only;omega);simp only [List.mem_append,List.mem_filter] at c ⊢
   rcases c with (c|c) | c
   ·exact .inl c
   ·exact .inr c.1
   ·exact .inr c.1
  ·have h:¬ k<q.length:=by simpa using h
   rw [if_neg h] at e;unfold Z0n
   rw [e]
def Apt (r s:Rect):Prop:=∀ x y,r.has x y=true->s.has x y=true->False
def W2z (q:List Rect):Prop:=∀ i,0<i->i<q.length->∃ j,j<i/\Q3p (gl q j) (gl q i)=true
structure JnOk (q rest q' rest' : List Rect):Prop where
 perm:(q' ++ rest').Perm (q++rest)
 chain:W2z q'
 pre:q <+: q'
 apart:∀ r ∈ q',∀ s ∈ rest',Q3p r s=false
theorem Y4K {α:Type} (p:α->Bool) (l:List α):(l.filter p++l.filter fun r=> !p r).Perm l:=List.filter_append_perm p l
theorem W3m:∀ (n:Nat) (q:List Rect) (k:Nat) (rest:List Rect),q.length+rest.length<n+k->k<=q.length->W2z q->(∀ i,i<k->∀ s ∈ rest,Q3p (gl q i) s=false)->JnOk q rest (jn n q k rest).1 (jn n q k rest).2:=by
 intro n
 induction n with
 | zero=>intro q k rest o p;omega
 | succ n ih=>
  intro q k rest o p l g;rw [jn]
  by_cases hk:k<q.length
  ·rw [if_pos hk]
   have x:=Y1e (Q3p (gl q k)) rest;have d:∀ i,i<q.length->gl (q++rest.filter (Q3p (gl q k))) i=gl q i:=fun i a=>by simp [gl,List.getD_eq_getElem?_getD,List.getElem?_append,a]
   have h:=ih (q++rest.filter (Q3p (gl q k))) (k+1) (rest.filter fun r=> !Q3p (gl q k) r) (by simp;omega) (by simp;omega) (fun i a e=>?_) (fun i a s f=>?_)
   ·refine ⟨h.perm.trans ?_,h.chain,?_,h.apart⟩
    ·rw [List.append_assoc]
     exact (Y4K _ rest).append_left q
    ·exact (List.prefix_append _ _).trans h.pre
   ·by_cases hiq:i<q.length
    ·obtain ⟨j,v,u⟩:=l i a hiq
     exact ⟨j,v,by rw [d i hiq,d j (by omega)];exact u⟩
    ·refine ⟨k,by omega,?_⟩
     rw [d k hk];have w:gl (q++rest.filter (Q3p (gl q k))) i ∈ rest.filter (Q3p (gl q k)):=by
      have b : i-q.length<(rest.filter (Q3p (gl q k))).length:=by simp at e;omega
      have:gl (q++rest.filter (Q3p (gl q k))) i=gl (rest.filter (Q3p (gl q k))) (i-q.length):=by
       simp [gl,List.getD_eq_getElem?_getD,List.getElem?_append,hiq]
      rw [this];exact W9 b
     exact (List.mem_filter.1 w).2
   ·have c:=List.mem_filter.1 f
    rcases Nat.lt_or_ge i k with m|m
    ·rw [d i (by omega)];exact g i m s c.1
    ·have:i=k:=by omega
     subst this;rw [d i hk];simpa using c.2
  ·rw [if_neg hk]
   refine ⟨List.Perm.refl _,l,List.prefix_refl _,fun r t s f=>?_⟩;obtain ⟨i,a,rfl⟩:=List.getElem_of_mem t
   have:=g i (by simp only at a;omega) s f
   rwa [y7 a] at this
theorem Y4c (a:Rect) (l:List Rect):JnOk [a] l (Z2f (a::l)).1 (Z2f (a::l)).2:=
 W3m (l.length+2) [a] 0 l (by simp;omega) (by simp) (fun i b c=>by simp at c;omega) (fun i b=>by omega)
def Z8r:Nat->List Rect->List (List Rect)
 | 0,_=>[]
 | _+1,[]=>[]
 | n+1,a::l=>(Z2f (a::l)).1::Z8r n (Z2f (a::l)).2
def Y1a (l:List Rect):List (List Rect):=Z8r l.length l
theorem JnOk.lens {a:Rect} {l q r:List Rect} (h:JnOk [a] l q r):q≠[]/\r.length<=l.length:=by
 have c:=h.perm.length_eq;simp at c
 obtain ⟨t,d⟩:=h.pre;have:1<=q.length:=by rw [<-d];simp
 exact ⟨fun b=>by rw [b] at this;simp at this,by omega⟩
theorem Y5K:∀ (n:Nat) (l:List Rect),l.length<=n->(Z8r n l).flatten.Perm l:=by
 intro n
 induction n with
 | zero=>intro l b;have:l=[]:=List.eq_nil_of_length_eq_zero (by omega);subst this;exact List.Perm.refl _
 | succ n ih=>
  intro l b
  cases l with
  | nil=>exact List.Perm.refl _
  | cons a l=>
   have h:=Y4c a l;have:=h.lens.2
   simp only [Z8r,List.flatten_cons];simp only [List.length_cons] at b
   exact ((ih _ (by omega)).append_left _).trans h.perm
theorem Y2H (l:List Rect):(Y1a l).flatten.Perm l:=Y5K _ l (Nat.le_refl _)
def lt2 (a b:Int×Int):Prop:=a.1<b.1\/(a.1=b.1/\a.2<b.2)
theorem W1B {a b:Int×Int} (h:a≠b):lt2 a b\/lt2 b a:=by
 unfold lt2;have:a.1≠b.1\/a.2≠b.2:=by
  rcases Int.decEq a.1 b.1 with c|c
  ·exact .inl c
  ·right;intro d;exact h (Prod.ext c d)
 omega
theorem Q2l.apt {l:List Rect} (h:Q2l l):l.Pairwise Apt:=by
 obtain ⟨b,e,rfl⟩:=h;unfold flat
 rw [List.pairwise_flatMap];refine ⟨fun c f=>?_,?_⟩
 ·unfold G8
  rw [List.pairwise_map];refine (e.sp c f).ch.imp fun h x y d a=>?_
  rw [J2] at d a;simp only at d a
  omega
 ·refine e.runs.ch.imp fun h r i s g x y d a=>?_
  obtain ⟨u,_,rfl⟩:=List.mem_map.1 i;obtain ⟨v,_,rfl⟩:=List.mem_map.1 g
  rw [J2] at d a;simp only at d a
  have:=h.1
  omega
theorem Y8M {l p:List Rect} (hp:p ∈ Y1a l) {r:Rect} (hr:r ∈ p):r ∈ l:=(Y2H l).mem_iff.1 (List.mem_flatten.2 ⟨p,hp,hr⟩)
theorem Y7u (F:Nat) (hF:BIG<=F) (u v:Int):Z4L F [u,v]=some (if u≠0 then u else v):=by
 unfold BIG at hF;obtain ⟨F,rfl⟩:∃ G,F=G+3:=⟨F-3,by omega⟩
 unfold Z4L;show Q2X _ [u,v] _ 0=_
 unfold Q2X;refine Z5 (by simp) ?_
 refine Q7 (by simp) ?_;have b:gl [u,v] (0:Int).toNat=u:=rfl
 rw [b]
 by_cases hu:u=0
 ·subst hu
  refine Q8 (by simp) ?_;refine Q7 (Z7 (by omega) (by omega)) ?_
  rw [if_neg (by simp)];show Q2X _ [0,v] _ (0+1)=_
  unfold Q2X;refine Z5 (by simp) ?_
  refine Q7 (by simp) ?_;have a:gl [0,v] ((0:Int)+1).toNat=v:=rfl
  rw [a]
  by_cases hv:v=0
  ·subst hv
   refine Q8 (by simp) ?_;refine Q7 (Z7 (by omega) (by omega)) ?_
   show Q2X _ [0,0] _ (0+1+1)=_;unfold Q2X
   exact Q8 (by simp) rfl
  ·exact Z5 (by simpa using hv) rfl
 ·rw [if_pos hu]
  exact Z5 (by simpa using hu) rfl
theorem Z9G (a b:List Rect):Fin fun x y=>inR a x y && !inR b x y:=Q6z a b 3
section
theorem val_one {r:Rect} (h:Q2F r=true):Val [r]:=by
 have b:=(Q0f r).1 h;exact ⟨by simp,fun s a=>by rw [List.mem_singleton.1 a];exact h,Y0O (by omega) (by omega)⟩
section
variable {F:Nat} {a:Re_} {z1:Tape×Re_} {x1 k:Int} {x y:Int}
end
end
theorem Y4Y {B:List (Rn (List Span))} {N:Nat} (h:∀ b ∈ B,b.v.length<=N):(flat B).length<=B.length*N:=by
 induction B with
 | nil=>simp [flat]
 | cons c B ih=>
  have e:flat (c::B)=G8 c++flat B:=rfl;have:=ih fun d f=>h d (by simp [f])
  have g:=h c (by simp);rw [e,List.length_append,Q0v,List.length_cons,Nat.add_mul]
  omega
noncomputable def Z7B (a b:Re_):Bool:=Q3H a.t_&&(Q3H b.t_&&decide (cn (fun x y=>Q0u (inR a.t_ x y) (inR b.t_ x y) 3)=[]))
theorem Y1v {F:Nat} (hF:BIG<=F) (a b:Re_):Z1m F a b=some (Z7B a b):=by
 unfold Z1m Z7B;refine Q3 (Q1i hF a) ?_
 refine Q9 (fun h=>?_) (fun h=>by rw [h];rfl);rw [h]
 refine Q3 (Q1i hF b) ?_;refine Q9 (fun c=>?_) (fun c=>by rw [c];rfl)
 rw [c];have e:=((Q0P _).1 h).1
 have d:=((Q0P _).1 c).1;refine Q3 (Q6b hF (by omega)) ?_
 show some _=some _;congr 1
 simp only [Bool.true_and];generalize cn _=q
 cases q with
 | nil=>rfl
 | cons r q=>simp;omega
theorem Y3O {a b:Re_} (ha:Val a.t_) (hb:Val b.t_):Z7B a b=true↔∀ x y,inR a.t_ x y=true->inR b.t_ x y=true:=by
 unfold Z7B;rw [Q3g ha,Q3g hb,Bool.true_and,Bool.true_and,decide_eq_true_eq,Y3g (Q6z _ _ _)]
 constructor
 ·intro h x y c
  have:=h x y
  simp only [Q0u] at this;rw [c] at this
  simpa using this
 ·intro h x y
  simp only [Q0u]
  cases c:inR a.t_ x y with
  | false=>rfl
  | true=>rw [h x y c];rfl
theorem Z9X {l:List Int} {M:Int} (h:∀ x ∈ l,0<=x/\x<=M):0<=l.sum/\l.sum<=M*l.length:=by
 induction l with
 | nil=>simp
 | cons x l ih=>
  have d:=h x (by simp);have c:=ih fun y b=>h y (by simp [b])
  simp only [List.sum_cons,List.length_cons];have e:M*((l.length+1:Nat):Int)=M*l.length+M:=by rw [Int.natCast_add,Int.mul_add];simp
  omega
theorem Z8U {f:Rect->Int} {l:List Rect} {j:Nat} (h:j<l.length):((l.take (j+1)).map f).sum=((l.take j).map f).sum+f (gl l j):=by
 rw [J8 h,List.map_append,List.sum_append];simp
def ar1 (r:Rect):Int:=(r.R_-r.L_)*(r.H_-r.w_)
def area (l:List Rect):Int:=(l.map ar1).sum
theorem Y3m {r:Rect} (h:Q2F r=true):0<=ar1 r/\ar1 r<=268435456:=by
 rw [Q0f] at h;unfold ar1
 have c:0<=r.R_-r.L_/\r.R_-r.L_<=16384:=by omega
 have b:0<=r.H_-r.w_/\r.H_-r.w_<=16384:=by omega
 refine ⟨Int.mul_nonneg c.1 b.1,?_⟩;have:=Int.mul_le_mul c.2 b.2 b.1 (by omega)
 omega
theorem Y3B {F:Nat} (hF:BIG<=F) {l:List Rect} (hl:l.length<=1000000) (hp:∀ r ∈ l,Q2F r=true):Z4u F l=some (area l):=by
 unfold BIG at hF;have b:∀ j,0<=((l.take j).map ar1).sum/\((l.take j).map ar1).sum<=268435456*1000000:=fun j=>by
  have:=Z9X (l:=(l.take j).map ar1) (M:=268435456) (fun x i=>by
   obtain ⟨s,e,rfl⟩:=List.mem_map.1 i;exact Y3m (hp s (List.mem_of_mem_take e)))
  simp only [List.length_map,List.length_take] at this;omega
 unfold Z4u;refine Y7 (fun z:Int×Int=>∃ j:Nat,z=(((l.take j).map ar1).sum,(j:Int))/\j<=l.length) (fun z=>l.length-z.2.toNat) (fun c z m d=>?_) ⟨0,by simp,by omega⟩ (by simp;omega)
 obtain ⟨j,rfl,o⟩:=m;simp only at d ⊢
 have p:=b j;have f:=b (j+1)
 unfold Z7R;refine Q9 (fun h=>?_) (fun h=>?_)
 ·have h:j<l.length:=by simpa using h
  refine Z4 (k:=?_);simp only [Int.toNat_natCast]
  have g:=(Q0f _).1 (hp _ (W9 h));have n:=Y3m (hp _ (W9 h))
  rw [Z8U h] at f;refine Q7 (Z7 (by omega) (by omega)) ?_
  refine Q7 (Z7 (by omega) (by omega)) ?_;show gd (I64 (ar1 (gl l j))) _=_
  refine Q7 (Z7 (by omega) (by omega)) ?_;show gd (I64 (((l.take j).map ar1).sum+ar1 (gl l j))) _=_
  refine Q7 (Z7 (by omega) (by omega)) ?_;refine Z4 (k:=?_)
  refine d _ ⟨j+1,?_,h⟩ (by simp only;omega);rw [Z8U h];rfl
 ·have h:¬ j<l.length:=by simpa using h
  have:j=l.length:=by omega
  subst this;rw [List.take_length]
  rfl
theorem Q9y {F:Nat} (hF:BIG<=F) {a:Re_} (hv:Val a.t_):Q7d F a=some (area a.t_):=by
 have:=hv.1
 unfold Q7d;refine Q3 (Q1i hF a) ?_
 rw [Q3g hv];refine Q8 rfl ?_
 exact Q3 (Y3B hF (by omega) hv.2.1) rfl
theorem SpOk.half {n:Int}:∀ {l:List Span},SpOk l->∀ {a:Int},a<=n+1->(∀ s ∈ l,a<=s.L_/\s.R_<=n)->2*(l.length:Int)<=n+1-a
 | [],_,a,ha,_=>by simp;omega
 | s::l,h,a,ha,hb=>by
  have e:=hb s (by simp);have d:=h.pos s (by simp)
  have c:SpOk l:=⟨fun q b=>h.pos q (by simp [b]),(List.pairwise_cons.1 h.ch).2⟩;have:=SpOk.half (n:=n) c (a:=s.R_+1) (by omega) fun q b=>⟨by have:=(List.pairwise_cons.1 h.ch).1 q b;omega,(hb q (by simp [b])).2⟩
  rw [List.length_cons];omega
theorem Q2l.half {l:List Rect} (hc:Q2l l) {n:Nat} (hb:Box n l):l.length<=n*((n+1) / 2):=by
 obtain ⟨b,g,rfl⟩:=hc;have f:∀ c ∈ b,∃ s,s ∈ c.v:=fun c hc=>List.exists_mem_of_ne_nil _ (g.ne c hc)
 have d:∀ c ∈ b,∀ s ∈ c.v,(⟨s.L_,c.lo,s.R_,c.hi⟩:Rect) ∈ flat b:=fun c hc s e=>List.mem_flatMap.2 ⟨c,hc,List.mem_map.2 ⟨s,e,rfl⟩⟩
 have m:(b.length:Int)<=n-0:=g.runs.len (by omega) fun c hc=>by
  obtain ⟨s,e⟩:=f c hc;have:=hb _ (d c hc s e)
  simp only at this;omega
 have h:∀ c ∈ b,c.v.length<=(n+1) / 2:=fun c hc=>by
  have:=(g.sp c hc).half (n:=n) (a:=0) (by omega) fun s e=>by
   have:=hb _ (d c hc s e)
   simp only at this ⊢;omega
  omega
 have j:=Y4Y h;have i:b.length*((n+1) / 2)<=n*((n+1) / 2):=Nat.mul_le_mul_right _ (by omega)
 omega
def Z4j (f:Nat->Int):Nat->Int
 | 0=>0
 | n+1=>Z4j f n+f n
theorem Q6Z {f g:Nat->Int} {n:Nat} (h:∀ i,i<n->f i=g i):Z4j f n=Z4j g n:=by
 induction n with
 | zero=>rfl
 | succ n ih=>rw [Z4j,Z4j,ih fun i b=>h i (by omega),h n (by omega)]
theorem Y5q (f g:Nat->Int) (n:Nat):Z4j (fun i=>f i+g i) n=Z4j f n+Z4j g n:=by
 induction n with
 | zero=>rfl
 | succ n ih=>rw [Z4j,Z4j,Z4j,ih];omega
theorem Z9Y (n:Nat):Z4j (fun _=>0) n=0:=by
 induction n with
 | zero=>rfl
 | succ n ih=>rw [Z4j,ih];rfl
theorem Y3S (c lo hi:Int) (h0:0<=lo) (h1:lo<=hi) (n:Nat):Z4j (fun i=>if lo<=(i:Int)/\(i:Int)<hi then c else 0) n=(if (n:Int)<=lo then 0 else if (n:Int)<=hi then n-lo else hi-lo)*c:=by
 induction n with
 | zero=>rw [Z4j,if_pos (by omega),Int.zero_mul]
 | succ n ih=>
  rw [Z4j,ih];simp only [Int.natCast_succ]
  by_cases a:(n:Int)<lo
  ·rw [if_pos (by omega),if_neg (by omega),if_pos (by omega)];omega
  ·by_cases b:(n:Int)<hi
   ·rw [if_pos (show lo<=(n:Int)/\(n:Int)<hi by omega),if_neg (show ¬ (n:Int)+1<=lo by omega),if_pos (show (n:Int)+1<=hi by omega)]
    by_cases e:(n:Int)<=lo
    ·have:(n:Int)=lo:=by omega
     rw [if_pos e,show (n:Int)+1-lo=1 by omega,Int.zero_mul,Int.one_mul];omega
    ·rw [if_neg e,if_pos (by omega),show (n:Int)+1-lo=(n-lo)+1 by omega,Int.add_mul,Int.one_mul]
   ·rw [if_neg (show ¬ (lo<=(n:Int)/\(n:Int)<hi) by omega),if_neg (show ¬ (n:Int)+1<=lo by omega)]
    by_cases e:(n:Int)<=lo
    ·have d:lo=hi:=by omega
     have f:(n:Int)=lo:=by omega
     rw [if_pos e]
     by_cases e3:(n:Int)+1<=hi
     ·omega
     ·rw [if_neg e3,d,Int.sub_self];omega
    ·rw [if_neg e]
     by_cases e4:(n:Int)<=hi
     ·rw [if_pos e4,if_neg (by omega),show (n:Int)=hi by omega];omega
     ·rw [if_neg e4,if_neg (by omega)];omega
def cnt (N:Nat) (S:Int->Int->Bool):Int:=Z4j (fun x=>Z4j (fun y=>if S x y=true then 1 else 0) N) N
theorem Y7s {N:Nat} {S T:Int->Int->Bool} (h:∀ x y,S x y=true->T x y=true->False):cnt N (fun x y=>S x y||T x y)=cnt N S+cnt N T:=by
 unfold cnt;rw [<-Y5q]
 refine Q6Z fun x _=>?_
 rw [<-Y5q];refine Q6Z fun y _=>?_
 have:=h x y
 cases e:S x y <;> cases e2:T x y <;> simp_all
theorem W0B {N:Nat} {S:Int->Int->Bool} (h:∀ x y,S x y=false):cnt N S=0:=by
 unfold cnt;rw [Q6Z (g:=fun _=>0) fun x _=>by rw [Q6Z (g:=fun _=>0) fun y _=>by rw [h];rfl,Z9Y],Z9Y]
theorem W2g {N:Nat} {r:Rect} (h1:0<=r.L_) (h2:r.L_<=r.R_) (h3:r.R_<=N) (h4:0<=r.w_) (h5:r.w_<=r.H_) (h6:r.H_<=N):cnt N r.has=ar1 r:=by
 have e:∀ x:Nat,Z4j (fun y=>if r.has x y=true then 1 else 0) N=if r.L_<=(x:Int)/\(x:Int)<r.R_ then r.H_-r.w_ else 0:=fun x=>by
  by_cases hx:r.L_<=(x:Int)/\(x:Int)<r.R_
  ·rw [if_pos hx,Q6Z (g:=fun i=>if r.w_<=(i:Int)/\(i:Int)<r.H_ then 1 else 0) fun y _=>by
    by_cases hy:r.w_<=(y:Int)/\(y:Int)<r.H_
    ·rw [if_pos ((J2 r x y).2 ⟨hx.1,hx.2,hy.1,hy.2⟩),if_pos hy]
    ·rw [if_neg (fun h=>hy (by have:=(J2 r x y).1 h;omega)),if_neg hy],Y3S 1 _ _ h4 h5]
   by_cases a:(N:Int)<=r.w_
   ·rw [if_pos a];omega
   ·rw [if_neg a];split <;> omega
  ·rw [if_neg hx,Q6Z (g:=fun _=>0) fun y _=>by rw [if_neg (fun h=>hx (by have:=(J2 r x y).1 h;omega))],Z9Y]
 unfold cnt;rw [Q6Z fun x _=>e x,Y3S _ _ _ h1 h2]
 unfold ar1
 by_cases a:(N:Int)<=r.L_
 ·rw [if_pos a,show r.R_-r.L_=0 by omega]
 ·rw [if_neg a]
  by_cases b:(N:Int)<=r.R_
  ·rw [if_pos b,show (N:Int)=r.R_ by omega]
  ·rw [if_neg b]
@[irreducible] def sq (S:Int->Int->Bool):Int:=cnt 16384 S
theorem Z5F (S:Int->Int->Bool):sq S=cnt 16384 S:=by unfold sq;rfl
theorem Y5i:∀ {l:List Rect},l.Pairwise Apt->(∀ r ∈ l,Q2F r=true)->area l=sq (inR l)
 | [],_,_=>by
  rw [Z5F,W0B (S:=inR []) (fun x y=>rfl)];rfl
 | r::l,ha,hp=>by
  have c:=(Q0f r).1 (hp r (by simp));have b:=Y5i (l:=l) (List.pairwise_cons.1 ha).2 fun q c=>hp q (by simp [c])
  have e:inR (r::l)=fun x y=>r.has x y||inR l x y:=by
   funext x y;simp [inR]
  rw [Z5F] at b ⊢;rw [e,Y7s (fun x y h g=>by
   obtain ⟨s,f,d⟩:=(Q2I l x y).1 g;exact (List.pairwise_cons.1 ha).1 s f x y h d),W2g (by omega) (by omega) (by omega) (by omega) (by omega) (by omega), <-b]
  simp [area]
theorem Val.area {l:List Rect} (h:Val l):area l=sq (inR l):=Y5i h.2.2.apt h.2.1
section
def Ok {R:Type} (x:Option R) (G:R->Prop):Prop:=∃ r,x=some r/\G r
theorem Z6X {R:Type} {r:R} {G:R->Prop} (h:G r):Ok (some r) G:=⟨r,rfl,h⟩
theorem Q1I {R:Type} {p:Prop} [Decidable p] {x:Option R} {G:R->Prop} (h:p) (k:Ok x G):Ok (gd p x) G:=by unfold gd;rw [if_pos h];exact k
theorem Q4O {α R:Type} {x:Option α} {f:α->Option R} {a:α} {G:R->Prop} (h:x=some a) (k:Ok (f a) G):Ok (x.bind f) G:=by rw [h];exact k
theorem Q6v {R:Type} {b:Bool} {x y:Option R} {G:R->Prop} (ht:b=true->Ok x G) (hf:b=false->Ok y G):Ok (br b x y) G:=by cases b;exact hf rfl;exact ht rfl
theorem Z9r {σ R:Type} {body:(σ->Option R)->σ->Option R} {G:R->Prop} (I:σ->Prop) (μ:σ->Nat)
  (round:∀ again z,I z->(∀ z',I z' -> μ z' < μ z->Ok (again z') G)->Ok (body again z) G):∀ {n:Nat} {z:σ},I z->μ z<n->Ok (Z3 body n z) G:=by
 intro n
 induction n with
 | zero=>intro z _ h;omega
 | succ n ih=>
  intro z b h;exact round _ z b fun z' c d=>ih c (by omega)
section
variable (R:List Rect)
end
variable {F:Nat} {a:Re_}
end
theorem Z5Q {F:Nat} (hF:BIG<=F) {l:List Rect} (hl:l.length<=1000000) (hp:∀ r ∈ l,Q2F r=true):Q9W F l=some (area l):=by
 unfold BIG at hF;have b:∀ j,0<=((l.take j).map ar1).sum/\((l.take j).map ar1).sum<=268435456*1000000:=fun j=>by
  have:=Z9X (l:=(l.take j).map ar1) (M:=268435456) (fun x i=>by
   obtain ⟨s,e,rfl⟩:=List.mem_map.1 i;exact Y3m (hp s (List.mem_of_mem_take e)))
  simp only [List.length_map,List.length_take] at this;omega
 unfold Q9W;refine Y7 (fun z:Int×Int=>∃ j:Nat,z=(((l.take j).map ar1).sum,(j:Int))/\j<=l.length) (fun z=>l.length-z.2.toNat) (fun c z m d=>?_) ⟨0,by simp,by omega⟩ (by simp;omega)
 obtain ⟨j,rfl,o⟩:=m;simp only at d ⊢
 have p:=b j;have f:=b (j+1)
 unfold Z5S;refine Q9 (fun h=>?_) (fun h=>?_)
 ·have h:j<l.length:=by simpa using h
  refine Z4 (k:=?_);simp only [Int.toNat_natCast]
  have g:=(Q0f _).1 (hp _ (W9 h));have n:=Y3m (hp _ (W9 h))
  rw [Z8U h] at f;refine Q7 (Z7 (by omega) (by omega)) ?_
  refine Q7 (Z7 (by omega) (by omega)) ?_;show gd (I64 (ar1 (gl l j))) _=_
  refine Q7 (Z7 (by omega) (by omega)) ?_;show gd (I64 (((l.take j).map ar1).sum+ar1 (gl l j))) _=_
  refine Q7 (Z7 (by omega) (by omega)) ?_;refine Z4 (k:=?_)
  refine d _ ⟨j+1,?_,h⟩ (by simp only;omega);rw [Z8U h];rfl
 ·have h:¬ j<l.length:=by simpa using h
  have:j=l.length:=by omega
  subst this;rw [List.take_length]
  rfl
theorem Q8Z {F:Nat} {t:Tape} (ht:TOk t) {n:Int} (h1:1<=n) (h2:n<=1099511627776):∃ t' b,Q2T F t n=some (t',b)/\TOk t':=by
 obtain ⟨c,k,d,e,_,_⟩:=Z6 (F:=F) ht h1 h2;refine ⟨c,k==n-1,?_,e⟩
 unfold Q2T;refine Q3 d ?_
 refine Q7 (Z7 (by omega) (by omega)) rfl
section
theorem Q7C {F:Nat} (hF:BIG<=F) {a b:List Rect} (ha:a.length<=1000000) (hb:b.length<=1000000):Q3I F [a,b]=some (a++b):=by
 unfold BIG at hF;obtain ⟨m,rfl⟩:∃ m,F=m+3:=⟨F-3,by omega⟩
 have d:gl [a,b] (0:Int).toNat=a:=rfl;have c:gl [a,b] (1:Int).toNat=b:=rfl
 have k1:Q2i (m+3) [a,b] (((a.length:Nat):Int)+((b.length:Nat):Int))=some (a++b):=by
  unfold Q2i;refine Q3 (a:=[]) (by unfold Y1d;rw [if_pos (by unfold LIM;omega)]) ?_
  show K9 (m+3) [a,b] _ 0 []=_;unfold K9
  refine Z5 rfl ?_;rw [d]
  refine Z4 (k:=?_);refine Q7 (by simp [LIM];omega) ?_
  refine Z4 (k:=?_);show K9 (m+3) [a,b] _ 1 ([]++a)=_
  unfold K9;refine Z5 rfl ?_
  rw [c];refine Z4 (k:=?_)
  refine Q7 (by simp [LIM];omega) ?_;refine Z4 (k:=?_)
  show K9 (m+3) [a,b] _ 2 (([]++a)++b)=_;unfold K9
  refine Q8 rfl ?_;unfold Q4z
  simp
 show G2 (m+3) [a,b] _ 0 0=_;unfold G2
 refine Z5 rfl ?_;rw [d]
 refine Z4 (k:=?_);refine Z4 (k:=?_)
 refine Q8 (by simp <;> omega) ?_;refine Z4 (k:=?_)
 show G2 (m+3) [a,b] _ (0+((a.length:Nat):Int)) 1=_;unfold G2
 refine Z5 rfl ?_;rw [c]
 refine Z4 (k:=?_);refine Z4 (k:=?_)
 refine Q8 (by simp <;> omega) ?_;refine Z4 (k:=?_)
 show G2 (m+3) [a,b] _ (0+((a.length:Nat):Int)+((b.length:Nat):Int)) 2=_;unfold G2
 refine Q8 rfl ?_;rw [Int.zero_add]
 exact k1
def zs (k:Int):Int:=if 0<=k/\k<=7 then 0 else if 8<=k/\k<=11 then 1 else 2
theorem Y4r (F:Nat) (k:Int):Z6K F k=some (zs k):=by
 have l:Q0i F k true=some 0:=rfl;have j:Q2v F true=some 1:=rfl
 have p:Q2v F false=some 2:=rfl;have e:∀ n:Int,(k==n)=decide (k=n):=fun n=>by rw [Bool.eq_iff_iff];simp
 unfold Z6K;simp only [e]
 by_cases h:0<=k/\k<=7
 ·have f:zs k=0:=by unfold zs;rw [if_pos h]
  rw [f];have b:∀ {n:Int} {x:Option Int},(k≠n->x=some 0)->br (decide (k=n)) (Q0i F k (decide (k=n))) x=some 0:=fun {n x} hx=>by
   refine Q9 (fun d=>by rw [d];exact l) (fun d=>hx (by simpa using d))
  refine b fun o=>b fun m=>b fun q=>b fun u=>b fun v=>b fun s=>b fun t=>?_
  rw [show decide (k=7)=true by rw [decide_eq_true_eq];omega];exact l
 ·have c:∀ n:Int,0<=n->n<=7->decide (k=n)=false:=fun n r i=>by rw [decide_eq_false_iff_not];omega
  rw [c 0 (by omega) (by omega),c 1 (by omega) (by omega),c 2 (by omega) (by omega),c 3 (by omega) (by omega),c 4 (by omega) (by omega),c 5 (by omega) (by omega),c 6 (by omega) (by omega),c 7 (by omega) (by omega)];simp only [br]
  unfold Q0i;simp only [br,e]
  by_cases i:8<=k/\k<=11
  ·have f:zs k=1:=by unfold zs;rw [if_neg h,if_pos i]
   rw [f];have b:∀ {n:Int} {x:Option Int},(k≠n->x=some 1)->br (decide (k=n)) (Q2v F (decide (k=n))) x=some 1:=fun {n x} hx=>by
    refine Q9 (fun d=>by rw [d];exact j) (fun d=>hx (by simpa using d))
   refine b fun o=>b fun m=>b fun q=>?_
   rw [show decide (k=11)=true by rw [decide_eq_true_eq];omega];exact j
  ·have f:zs k=2:=by unfold zs;rw [if_neg h,if_neg i]
   rw [f];have g:∀ n:Int,8<=n->n<=11->decide (k=n)=false:=fun n r i=>by rw [decide_eq_false_iff_not];omega
   rw [g 8 (by omega) (by omega),g 9 (by omega) (by omega),g 10 (by omega) (by omega),g 11 (by omega) (by omega)];exact p
def zp (w:Int) (k:Int):Bool:=zs k==w
theorem Y4s (F:Nat) (k w:Int):Z6L F k w=some (zp w k):=by
 unfold Z6L;exact Q3 (Y4r F k) rfl
structure LB (n:Nat) (L:List A2_):Prop where
 vl:VL L
 box:∀ f ∈ L,Box n f.g_.t_
 n15:n<=15
theorem W2O {l:List Rect} (hc:Q2l l) {n:Nat} (hb:Box n l) (hn:n<=15):l.length<=120:=by
 have b:=hc.half hb;have c:n*((n+1) / 2)<=15*8:=Nat.mul_le_mul hn (by omega)
 omega
theorem Y4w {S:Int->Int->Bool} (hf:Fin S) {n:Nat} (hn:n<=15) (hb:∀ x y,S x y=true->0<=x/\x<n/\0<=y/\y<n):Val (cn S)/\Box n (cn S):=by
 have h:=W0G (n:=(n:Int)) hf hb;exact ⟨⟨W2O (Q2l.cn hf) h hn,h.prop (by omega),Q2l.cn hf⟩,h⟩
variable {F n:Nat} {L:List A2_} {d:Int}
theorem LB.rbox (hL:LB n L) (d:Int) (p:Int->Bool):Box n (Q0q L d p):=fun r b=>by
 obtain ⟨f,c,b⟩:=Y7a b;exact hL.box f c r b
theorem LB.rval (hL:LB n L) (d:Int) (p:Int->Bool):Val (cn (inR (Q0q L d p)))/\Box n (cn (inR (Q0q L d p))):=Y4w (K2 _) hL.n15 fun x y h=>(hL.rbox d p).in h
theorem Y1S (hF:BIG<=F) (hL:LB n L) (d w:Int):Z8O F L d w=some (⟨cn (inR (Q0q L d (zp w)))⟩,0):=by
 have c:=hL.vl.len;unfold Z8O
 refine Q3 (Z3O hF (by omega) (fun f b=>hL.vl.rlen b) d (zp w) (fun f _=>Y4s F f.k_ w)) ?_;have g:=Y6S (L:=L) (fun f b=>hL.vl.rlen b) d (zp w)
 refine Q3 (Q5G hF (by omega) fun r e=>?_) ?_
 ·have:=hL.rbox d (zp w) r e
  omega
 ·have:=(hL.rval d (zp w)).1.1
  rw [if_neg (by omega)]
theorem Z2Q (hF:BIG<=F) (hv:VL L) (d1:0<=d) (d2:d<=36864) {a:Re_} (ha:Val a.t_) {m:Int} (m1:0<=m) (m2:m<=268435456):Q8I F L d m a=some 0:=by
 unfold Q8I;refine Q3 (Z7Z hF L d) ?_
 rw [if_neg (by simp [(Z1w L).2 hv]),if_neg (by omega)];refine Q8 rfl ?_
 refine Q3 (Q0k hF a) ?_;rw [Q3g ha]
 refine Q8 rfl ?_;refine Q8 (by rw [decide_eq_false_iff_not];omega) ?_
 rw [show decide ((268435456:Int)<m)=false by rw [decide_eq_false_iff_not];omega];rfl
theorem Y4u (hF:BIG<=F) (hL:LB n L) (d1:0<=d) (d2:d<=36864):Z6N F L d=some (⟨cn (inR (Q0q L d (zp 0)))⟩,0):=by
 unfold Z6N;refine Q3 (Z2Q hF hL.vl d1 d2 Val.nil (by omega) (by omega)) ?_
 refine Q8 rfl ?_;exact Q3 (Y1S hF hL d 0) rfl
noncomputable def Z4T (L:List A2_) (d:Int) (a:List Rect):List Rect:=cn fun x y=>inR (Q0q L d (zp 1)) x y&&inR a x y
noncomputable def Z1C (L:List A2_) (d m:Int) (a:List Rect):List Rect:=((Y1a (Z4T L d a)).filter fun p=>decide (m<area p)).flatten
theorem W1S (a b:List Rect):Fin fun x y=>inR a x y&&inR b x y:=Q6z a b 2
theorem Y5v (hL:LB n L) (d:Int) (a:List Rect):Val (Z4T L d a)/\Box n (Z4T L d a):=Y4w (W1S _ _) hL.n15 fun x y h=>(hL.rbox d (zp 1)).in (Bool.and_eq_true _ _ ▸ h).1
theorem Y8B {m:Int} {a:List Rect} {r:Rect} (h:r ∈ Z1C L d m a):r ∈ Z4T L d a:=by
 obtain ⟨p,c,b⟩:=List.mem_flatten.1 h;exact Y8M (List.mem_filter.1 c).1 b
theorem Y0e (hL:LB n L) (d m:Int) (a:List Rect):Box n (Z1C L d m a):=fun r b=>(Y5v hL d a).2 r (Y8B b)
theorem Y3T (hL:LB n L) (d m:Int) (a:List Rect):Val (cn (inR (Z1C L d m a)))/\Box n (cn (inR (Z1C L d m a))):=Y4w (K2 _) hL.n15 fun x y h=>(Y0e hL d m a).in h
theorem Z5j {p:List Rect->Bool}:∀ Q:List (List Rect),(Q.filter p).flatten.length<=Q.flatten.length
 | []=>Nat.le_refl _
 | q::Q=>by
  have:=Z5j (p:=p) Q
  rw [List.filter_cons,List.flatten_cons,List.length_append];split
  ·rw [List.flatten_cons,List.length_append];omega
  ·omega
theorem Y4t (hF:BIG<=F) (hL:LB n L) (d1:0<=d) (d2:d<=36864) {a:Re_} (ha:Val a.t_) {m:Int} (m1:0<=m) (m2:m<=268435456):Z6M F L d m a=some (⟨cn (inR (Z1C L d m a.t_))⟩,0):=by
 have c:=hF;unfold BIG at hF
 have C:=Y5v hL d a.t_;have s:=C.1.1
 have M:=ha.1;have H:=hL.rval d (zp 1)
 have K:=H.1.1;unfold Z6M
 refine Q3 (Z2Q c hL.vl d1 d2 ha m1 m2) ?_;refine Q8 rfl ?_
 refine Q3 (Y1S c hL d 1) ?_;refine Q8 rfl ?_
 refine Q3 (Q8R c (by omega) (fun r f=>(H.1.2.2.pos f).1) (fun r f=>(ha.2.2.pos f).1) (k:=fun u v=>u&&v) rfl (fun u v=>by cases u <;> cases v <;> rfl)) ?_;have e:(cn fun x y=>inR (cn (inR (Q0q L d (zp 1)))) x y&&inR a.t_ x y)=Z4T L d a.t_:=by
  unfold Z4T;congr 1
  funext x y
  rw [Q1w (K2 _)]
 rw [e];refine Q8 (by rw [decide_eq_false_iff_not];omega) ?_
 have T:=(Y2H (Z4T L d a.t_)).length_eq;refine Y7 (fun z:List Rect×List Rect=>∃ (k:Nat) (Q:List (List Rect)),Q++Z8r k z.1=Y1a (Z4T L d a.t_)/\z.1.length<=k/\z.1.length<=120/\z.2=(Q.filter fun p=>decide (m<area p)).flatten/\∀ r ∈ z.1,r ∈ Z4T L d a.t_) (fun z=>z.1.length) (fun i z V E=>?_) ⟨_,[],rfl,Nat.le_refl _,s,rfl,fun _ h=>h⟩ (by simp only;omega)
 obtain ⟨l,N⟩:=z;obtain ⟨k,Q,j,D,G,rfl,t⟩:=V
 simp only at j D G t E ⊢;have S:Q.flatten.length<=120:=by
  have:=congrArg (fun q=>(List.flatten q).length) j
  simp only [List.flatten_append,List.length_append] at this;omega
 have J:=Z5j (p:=fun p=>decide (m<area p)) Q;unfold Z8P
 cases l with
 | nil=>
  refine Q8 (by simp) ?_;unfold Z4a
  have O:Z8r k []=[]:=by cases k <;> rfl
  rw [O,List.append_nil] at j;subst j
  refine Q3 (Q5G c (by omega) fun r f=>?_) ?_
  ·have:=Y0e hL d m a.t_ r f
   omega
  ·have:=(Y3T hL d m a.t_).1.1
   unfold Z1C at this;rw [if_neg (by omega)];rfl
 | cons b l=>
  refine Z5 (by simp) ?_;refine Q3 (Y1m c (by simp) (by omega) (fun r f=>W1t (C.1.2.1 r (t r f)))) ?_
  cases k with
  | zero=>simp at D
  | succ k=>
  simp only [Z8r] at j;have w:=Y4c b l
  have B:=w.perm.length_eq;simp only [List.length_append,List.length_cons,List.length_nil] at B D G
  have P:∀ r ∈ (Z2f (b::l)).1,r ∈ Z4T L d a.t_:=fun r f=>t r (w.perm.mem_iff.1 (List.mem_append.2 (.inl f)))
  have I:1<=(Z2f (b::l)).1.length:=by
   have:=w.lens.1
   exact List.length_pos_iff.2 this
  refine Q3 (Z5Q c (by omega) fun r f=>C.1.2.1 r (P r f)) ?_;have g:∀ o,o=(((Q++[(Z2f (b::l)).1])).filter fun p=>decide (m<area p)).flatten->i ((Z2f (b::l)).2,o)=some (⟨cn (inR (Z1C L d m a.t_))⟩,0):=fun o U=>by
   refine E _ ⟨k,Q++[(Z2f (b::l)).1],by rw [<-j,List.append_assoc];rfl,by simp only;omega,by simp only;omega,U,fun r f=>t r (w.perm.mem_iff.1 (List.mem_append.2 (.inr f)))⟩ (by simp only [List.length_cons];omega)
  refine Q9 (fun A=>?_) (fun A=>?_)
  ·refine Q7 (by simp only [LIM];omega) ?_
   refine g _ ?_;rw [List.filter_append,List.filter_cons,A];simp
  ·refine g _ ?_
   rw [List.filter_append,List.filter_cons,A];simp
noncomputable def elS (L:List A2_) (d m:Int) (a:List Rect) (x y:Int):Bool:=inR a x y && !(inR (Q0q L d (zp 0)) x y||inR (Z1C L d m a) x y)
theorem Y7o (L:List A2_) (d m:Int) (a:List Rect):Fin (elS L d m a):=by
 have:=Z9G a (Q0q L d (zp 0)++Z1C L d m a)
 simp only [Z2g] at this;exact this
end
section
theorem Y5M {a b:Re_} (ha:Val a.t_) (hb:Val b.t_) (h:∀ x y,inR a.t_ x y=true->inR b.t_ x y=true->False):Q3G a b=false:=by
 rw [<-Bool.not_eq_true];intro c
 unfold Q3G at c;rw [Q3g ha,Q3g hb,Bool.true_and,Bool.true_and,Y4L ha.2.1 hb.2.1] at c
 obtain ⟨x,y,e,f⟩:=c;exact h x y e f
theorem LayT.lb {L:List A2_} (h:LayT L):LB 9 L:=⟨h.vl,fun f b=>(h.fea f b).1.reg.box,by omega⟩
variable {F n:Nat} {L:List A2_} {d:Int}
end
section
variable {F n:Nat} {L:List A2_} {d:Int}
end
section
variable {F:Nat}
end
section
variable {F n:Nat} {L:List A2_} {d:Int}
end
section
variable {F:Nat} {L:List A2_} {d:Int}
theorem Y5h:∀ {l:List Int},Asc l->∀ {lo hi:Int},(∀ v ∈ l,lo<=v/\v<=hi)->lo<=hi+1->(l.length:Int)<=hi+1-lo
 | [],_,lo,hi,_,h=>by simp;omega
 | a::l,h,lo,hi,hb,h2=>by
  have b:=List.pairwise_cons.1 h;have e:=hb a (by simp)
  have:=Y5h (l:=l) b.2 (lo:=a+1) (hi:=hi) (fun v c=>by have:=b.1 v c;have:=hb v (by simp [c]);omega) (by omega)
  rw [List.length_cons];omega
theorem Q3P (hF:BIG<=F) {a b:List Rect} {how:Int} (ha:a.length<=200000) (hb:b.length<=200000) (pa:∀ r ∈ a,Q2F r=true) (pb:∀ r ∈ b,Q2F r=true):U7 F a b how=some (cn fun x y=>Q0u (inR a x y) (inR b x y) how):=by
 refine Z3E hF ha hb ?_ ?_
 ·have:=Y5h (Q8t b (Q8t a (f:=Rect.L_) (g:=Rect.R_) .nil)) (lo:=0) (hi:=16384) (fun v e=>by
   rcases (Q0w b _ _).1 e with h|⟨r,c,h⟩
   ·rcases (Q0w a _ _).1 h with h|⟨r,c,h⟩
    ·cases h
    ·have h:v=r.L_\/v=r.R_:=h
     have:=(Q0f r).1 (pa r c);omega
   ·have h:v=r.L_\/v=r.R_:=h
    have:=(Q0f r).1 (pb r c);omega) (by omega)
  unfold Q8u;omega
 ·have:=Y5h (Q8t b (Q8t a (f:=Rect.w_) (g:=Rect.H_) .nil)) (lo:=0) (hi:=16384) (fun v e=>by
   rcases (Q0w b _ _).1 e with h|⟨r,c,h⟩
   ·rcases (Q0w a _ _).1 h with h|⟨r,c,h⟩
    ·cases h
    ·have h:v=r.w_\/v=r.H_:=h
     have:=(Q0f r).1 (pa r c);omega
   ·have h:v=r.w_\/v=r.H_:=h
    have:=(Q0f r).1 (pb r c);omega) (by omega)
  unfold Z0E;omega
end
section
def Z5o (r:Rg_):Int:=
 if r.y_<0\/100<r.y_ then 18 else if r.c_<0\/40<=r.c_ then 13 else if r.g_.t_.length=0\/Q3H r.g_.t_=false then 7 else 0
theorem Q8X (r:Rg_):Z5o r=0↔0<=r.y_/\r.y_<=100/\0<=r.c_/\r.c_<40/\r.g_.t_.length≠0/\Val r.g_.t_:=by
 unfold Z5o;rw [<-Q0P]
 by_cases h1:r.y_<0\/100<r.y_
 ·rw [if_pos h1];simp;omega
 ·rw [if_neg h1]
  by_cases h2:r.c_<0\/40<=r.c_
  ·rw [if_pos h2];simp;omega
  ·rw [if_neg h2]
   by_cases b:r.g_.t_.length=0\/Q3H r.g_.t_=false
   ·rw [if_pos b]
    constructor
    ·intro h;cases h
    ·rintro ⟨_,_,_,_,e,c⟩
     rcases b with b|b
     ·exact absurd b e
     ·rw [c] at b;cases b
   ·rw [if_neg b]
    refine ⟨fun _=>?_,fun _=>rfl⟩;have e:r.g_.t_.length≠0:=fun h=>b (.inl h)
    have c:Q3H r.g_.t_=true:=by
     cases hv:Q3H r.g_.t_ with
     | true=>rfl
     | false=>exact absurd (.inr hv) b
    exact ⟨by omega,by omega,by omega,by omega,e,c⟩
theorem Z9A {F:Nat} (hF:BIG<=F) (r:Rg_):Q8k F r=some (Z5o r):=by
 unfold Q8k Z5o;rw [Q7o (Q2K F r)]
 unfold Q2K;refine Q9 (fun h=>by rw [if_pos (by simpa using h)]) (fun h=>?_)
 rw [if_neg (by simpa using h),Q7o (Q2J F r)];unfold Q2J
 refine Q9 (fun h=>by rw [if_pos (by simpa using h)]) (fun h=>?_);rw [if_neg (by simpa using h)]
 refine Q9 (fun h=>?_) (fun h=>?_)
 ·have h:r.g_.t_.length=0:=by simpa using h
  rw [if_pos (.inl h)];rfl
 ·have h:r.g_.t_.length≠0:=by simpa using h
  refine Q3 (Q0k hF _) ?_;unfold Q4V
  refine Q9 (fun b=>?_) (fun b=>?_)
  ·rw [if_pos (.inr (by simpa using b))]
  ·rw [if_neg (by rintro (h3|h3);exact h h3;rw [h3] at b;cases b)]
def ltR (f g:Rg_):Bool:=decide (f.y_<g.y_)||(decide (f.y_=g.y_)&&decide (f.c_<g.c_))
theorem Q8e (f g:Rg_):ltR f g=true↔f.y_<g.y_\/(f.y_=g.y_/\f.c_<g.c_):=by unfold ltR;simp
theorem Y0s {f g h:Rg_} (h1:ltR f g=true) (h2:ltR g h=true):ltR f h=true:=by
 rw [Q8e] at *;omega
theorem Z8B {F:Nat} (hF:BIG<=F) (f g:Rg_):∃ c,Q6U F f g=some c/\(c<0↔ltR f g=true)/\(0<c↔ltR g f=true):=by
 refine ⟨if (if f.y_<g.y_ then (-1:Int) else if g.y_<f.y_ then 1 else 0)≠0 then (if f.y_<g.y_ then (-1:Int) else if g.y_<f.y_ then 1 else 0) else (if f.c_<g.c_ then (-1:Int) else if g.c_<f.c_ then 1 else 0),?_,?_⟩
 ·unfold Q6U
  exact Q3 (Q7h _ _ _) (Q3 (Q7h _ _ _) (Q3 (Y7u F hF _ _) rfl))
 ·rw [Q8e,Q8e]
  by_cases h1:f.y_<g.y_
  ·simp [h1];omega
  ·by_cases h2:g.y_<f.y_
   ·simp [h1,h2];omega
   ·by_cases h3:f.c_<g.c_
    ·simp [h1,h2,h3];omega
    ·by_cases h4:g.c_<f.c_
     ·simp [h1,h2,h3,h4];omega
     ·simp [h1,h2,h3,h4]
def hGo:Option Rg_->List Rg_->Int
 | _,[]=>0
 | p,f::l=>if Z5o f≠0 then Z5o f else if p.any (fun g=> !ltR g f) then 3 else hGo (some f) l
def NX (l:List Rg_):Prop:=l.Pairwise fun f g=>f.y_=g.y_->Q3G f.g_ g.g_=false
open Classical in
def Q9n (l:List Rg_):Int:=if 200<l.length then 1 else if hGo none l≠0 then hGo none l else if NX l then 0 else 11
def Z5h (l:List Rg_) (i:Nat):Option Rg_:=if i=0 then none else some (gl l (i-1))
theorem Y2F (l:List Rg_) (i:Nat):Z5h l (i+1)=some (gl l i):=by simp [Z5h]
theorem W2y {l:List Rg_}:NX l↔∀ j,j<l.length->∀ i,i<j->(gl l i).y_=(gl l j).y_->Q3G (gl l i).g_ (gl l j).g_=false:=by
 unfold NX;rw [List.pairwise_iff_getElem]
 constructor
 ·intro h j b i f c
  rw [y7 b,y7 (by omega)] at *;exact h i j (by omega) b f c
 ·intro h i j f b e c
  have:=h j b i e
  rw [y7 b,y7 (by omega)] at this;exact this c
theorem Y5G {F:Nat} (hF:BIG<=F) {l:List Rg_} (hl:l.length<=200) {y:Int} (h0:NX l->y=0) (h1:¬ NX l->y=11):Q5m F l=some y:=by
 have t:=hF;unfold BIG at hF
 unfold Q5m;refine Y7 (fun z:Int=>∃ i:Nat,z=i/\i<=l.length/\∀ j,j<i->∀ a,a<j->(gl l a).y_=(gl l j).y_->Q3G (gl l a).g_ (gl l j).g_=false) (fun z=>l.length-z.toNat) (fun v z w D=>?_) ⟨0,rfl,by omega,fun j r=>absurd r (Nat.not_lt_zero j)⟩ (by simp;omega)
 obtain ⟨i,rfl,G,C⟩:=w;unfold Z6a
 refine Q9 (fun m=>?_) (fun m=>?_)
 ·have m:i<l.length:=by simpa using m
  refine Z4 (k:=?_);refine Z4 (k:=?_)
  refine Y7 (fun z:Int=>∃ j:Nat,z=j/\j<=i/\∀ a,a<j->(gl l a).y_=(gl l i).y_->Q3G (gl l a).g_ (gl l i).g_=false) (fun z=>i-z.toNat) (fun f z w s=>?_) ⟨0,rfl,by omega,fun j r=>absurd r (Nat.not_lt_zero j)⟩ (by simp;omega);obtain ⟨j,rfl,r,B⟩:=w
  unfold Z5Z;simp only [Int.toNat_natCast]
  have o:(l.take i).length=i:=by rw [List.length_take];omega
  simp only [o];refine Q9 (fun g=>?_) (fun g=>?_)
  ·have g:j<i:=by simpa using g
   have e:gl (l.take i) j=gl l j:=by simp [gl,List.getD_eq_getElem?_getD,g]
   rw [e];refine Z4 (k:=?_)
   have A:∀ b:Bool,b=(decide ((gl l j).y_=(gl l i).y_)&&Q3G (gl l j).g_ (gl l i).g_)->Q5l F j f b=some y:=by
    intro b h;unfold Q5l
    refine Q9 (fun c=>?_) (fun c=>?_)
    ·rw [c,eq_comm,Bool.and_eq_true,decide_eq_true_eq] at h
     rw [h1 fun E=>by rw [W2y.1 E i m j g h.1] at h;cases h.2]
    ·rw [c] at h
     refine Z4 (k:=?_);refine s _ ⟨j+1,by omega,g,fun a u p=>?_⟩ (by omega)
     rcases Nat.lt_or_ge a j with q|q
     ·exact B a q p
     ·have:a=j:=by omega
      subst this;rw [decide_eq_true p,Bool.true_and] at h
      exact h.symm
   refine Q9 (fun c=>?_) (fun c=>?_)
   ·refine Q3 (Y2A t _ _) (A _ ?_)
    have c:(gl l j).y_=(gl l i).y_:=by simpa using c
    rw [decide_eq_true c,Bool.true_and]
   ·refine A _ ?_
    have c:¬ (gl l j).y_=(gl l i).y_:=by simpa using c
    rw [decide_eq_false c,Bool.false_and]
  ·have g:j=i:=by
    have:¬ j<i:=by simpa using g
    omega
   subst g;unfold Z1T
   refine Z4 (k:=?_);refine D _ ⟨j+1,by omega,m,fun b h a u p=>?_⟩ (by omega)
   rcases Nat.lt_or_ge b j with q|q
   ·exact C b q a u p
   ·have:b=j:=by omega
    subst this;exact B a u p
 ·have m:i=l.length:=by
   have:¬ i<l.length:=by simpa using m
   omega
  subst m;rw [h0 (W2y.2 C)];rfl
theorem Y2t {F:Nat} (hF:BIG<=F) (l:List Rg_):Z2D F l=some (Q9n l):=by
 have w:=hF;unfold BIG at hF
 unfold Z2D;refine Q9 (fun h=>?_) (fun h=>?_)
 ·have h:200<l.length:=by simp at h;omega
  rw [Q9n,if_pos h]
 ·have h:¬ 200<l.length:=by simp at h;omega
  have v:hGo none l=0->Q5m F l=some (Q9n l):=fun p=>by
   refine Y5G w (by omega) (fun E=>?_) (fun E=>?_)
   ·rw [Q9n,if_neg h,if_neg (by simp [p]),if_pos E]
   ·rw [Q9n,if_neg h,if_neg (by simp [p]),if_neg E]
  have A:hGo none l≠0->Q9n l=hGo none l:=fun p=>by rw [Q9n,if_neg h,if_pos p]
  refine Y7 (fun z:Int=>∃ i:Nat,z=i/\i<=l.length/\hGo none l=hGo (Z5h l i) (l.drop i)) (fun z=>l.length-z.toNat) (fun e z I H=>?_) ⟨0,rfl,by omega,rfl⟩ (by simp;omega);obtain ⟨i,rfl,J,m⟩:=I
  unfold Z6b;refine Q9 (fun t=>?_) (fun t=>?_)
  ·have t:i<l.length:=by simpa using t
   rw [Q1F t,hGo] at m;refine Z4 (k:=?_)
   simp only [Int.toNat_natCast];have s:∀ c:Int,Z5o (gl l i)=c->c≠0->Q9n l=c:=fun c r q=>by
    rw [if_pos (by rw [r];exact q),r] at m;rw [A (by rw [m];exact q),m]
   have f:Z5o (gl l i)=0->∀ b:Bool,b=(Z5h l i).any (fun g=> !ltR g (gl l i))->Q1W F i e b=some (Q9n l):=by
    intro r b u;rw [if_neg (by simp [r])] at m
    unfold Q1W;refine Q9 (fun q=>?_) (fun q=>?_)
    ·rw [if_pos (u ▸ q)] at m
     rw [A (by rw [m];decide),m]
    ·rw [if_neg (by rw [<-u,q];simp)] at m
     refine Z4 (k:=?_);refine H _ ⟨i+1,by omega,t,?_⟩ (by omega)
     rw [m,Y2F]
   rw [Q7o (Q5p F l i e)];unfold Q5p
   refine Q9 (fun r=>?_) (fun r=>?_)
   ·rw [s 18 (by unfold Z5o;rw [if_pos (by simpa using r)]) (by decide)]
   ·rw [Q7o (Q5o F l i e)]
    unfold Q5o;refine Q9 (fun q=>?_) (fun q=>?_)
    ·rw [s 13 (by unfold Z5o;rw [if_neg (by simpa using r),if_pos (by simpa using q)]) (by decide)]
    ·refine Q3 (Q1i w _) ?_
     rw [Q7o (Q5n F l i e)];unfold Q5n
     refine Q9 (fun j=>?_) (fun j=>?_)
     ·have j:(gl l i).g_.t_.length=0\/Q3H (gl l i).g_.t_=false:=by
       rw [Bool.or_eq_true] at j;rcases j with o|o
       ·exact .inr (by simpa using o)
       ·exact .inl (by simpa using o)
      rw [s 7 (by unfold Z5o;rw [if_neg (by simpa using r),if_neg (by simpa using q),if_pos j]) (by decide)]
     ·have j:¬ ((gl l i).g_.t_.length=0\/Q3H (gl l i).g_.t_=false):=by
       rw [Bool.or_eq_false_iff] at j;simp only [Int.toNat_natCast] at j
       rintro (o|o)
       ·rw [o] at j;simp at j
       ·rw [o] at j;simp at j
      have o:Z5o (gl l i)=0:=by unfold Z5o;rw [if_neg (by simpa using r),if_neg (by simpa using q),if_neg j]
      refine Q9 (fun p=>?_) (fun p=>?_)
      ·have p:0<i:=by simpa using p
       refine Z4 (k:=?_);refine Z4 (k:=?_)
       have G:((i:Int)-1).toNat=i-1:=by omega
       rw [G];have D:(Z5h l i).any (fun g=> !ltR g (gl l i))=!ltR (gl l (i-1)) (gl l i):=by simp [Z5h,show i≠0 from by omega]
       refine Q9 (fun B=>?_) (fun B=>?_)
       ·refine f o _ ?_
        have B:(gl l i).y_<(gl l (i-1)).y_:=by simpa using B
        rw [D,eq_comm,Bool.not_eq_true', <-Bool.not_eq_true,Q8e];omega
       ·have B:¬ (gl l i).y_<(gl l (i-1)).y_:=by simpa using B
        refine Z4 (k:=?_);refine Z4 (k:=?_)
        refine Q9 (fun C=>?_) (fun C=>?_)
        ·have C:(gl l i).y_=(gl l (i-1)).y_:=by simpa using C
         refine Z4 (k:=?_);refine Z4 (k:=?_)
         refine f o _ ?_;rw [D,Bool.eq_iff_iff,Bool.not_eq_true', <-Bool.not_eq_true,Q8e,decide_eq_true_eq]
         simp only [Int.toNat_natCast];omega
        ·have C:¬ (gl l i).y_=(gl l (i-1)).y_:=by simpa using C
         refine f o _ ?_;rw [D,eq_comm,Bool.not_eq_false',Q8e];omega
      ·have p:i=0:=by simp at p;omega
       exact f o _ (by simp [Z5h,p])
  ·have t:¬ i<l.length:=by simpa using t
   rw [List.drop_of_length_le (by omega)] at m;exact v m
end
theorem Z1G {F:Nat} (hF:BIG<=F) {l:List Rg_} {q:Rg_->Option Bool} (p:Rg_->Bool) (hl:l.length<=1000000000) (hq:∀ r ∈ l,q r=some (p r)):Q1n F l q=some (Q4i p l):=by
 unfold BIG at hF;unfold Q1n
 refine Y7 (fun z:Int=>∃ i:Nat,z=i/\i<=l.length/\∀ j,j<i->p (gl l j)=false) (fun z=>l.length-z.toNat) (fun c z m o=>?_) ⟨0,rfl,by omega,fun j s=>by omega⟩ (by simp;omega);obtain ⟨i,rfl,t,e⟩:=m
 unfold Q5h;refine Q9 (fun h=>?_) (fun h=>?_)
 ·have h:i<l.length:=by simpa using h
  refine Z4 (k:=?_);refine Q3 (hq _ (W9 h)) ?_
  simp only [Int.toNat_natCast];refine Q9 (fun b=>?_) (fun b=>?_)
  ·have f:l.any p=true:=List.any_eq_true.2 ⟨_,W9 h,b⟩
   rw [Q4i,if_pos f,Q9j h e b]
  ·refine Z4 (k:=?_)
   refine o _ ⟨i+1,by omega,h,fun j s=>?_⟩ (by omega);rcases Nat.lt_or_ge j i with g|g
   ·exact e j g
   ·have:j=i:=by omega
    subst this;exact b
 ·have h:¬ i<l.length:=by simpa using h
  have:i=l.length:=by omega
  subst this;have f:=Q2Y e
  rw [Q4i,f];rfl
theorem Y5U {α:Type} (p:α->Bool) (l:List α):0<=Q4i p l↔l.any p=true:=by
 unfold Q4i;split
 ·rename_i h;simp [h]
 ·rename_i h;simp [h]
theorem Q9S {F:Nat} (hF:BIG<=F) {l:List Rg_} {q:Rg_->Option Bool} (p:Rg_->Bool) (hl:l.length<=1000000000) (hq:∀ r ∈ l,q r=some (p r)):Q0A F l q=some (l.any p):=by
 unfold Q0A;refine Q3 (Z1G hF p hl hq) ?_
 congr 1
 rw [Bool.eq_iff_iff, <-Y5U,decide_eq_true_iff]
structure GrpOf (gs:List (Int×List Rg_)) (l:List Rg_):Prop where
 nd:(gs.map (·.1)).Nodup
 row:∀ e ∈ gs,e.2=l.filter fun f=>decide (f.y_=e.1)
 key:∀ f ∈ l,∃ e ∈ gs,e.1=f.y_
theorem GrpOf.nil:GrpOf [] []:=⟨by simp,fun e b=>by simp at b,fun f c=>by simp at c⟩
theorem GrpOf.gRow {gs:List (Int×List Rg_)} {l:List Rg_} (h:GrpOf gs l) (y:Int):gRow y gs=l.filter fun f=>decide (f.y_=y):=by
 unfold Go.Ab.gRow;rcases Q7p y gs with ⟨r,q,i,o⟩|⟨j,b⟩
 ·rw [i]
  simp only
  rw [h.row q (List.mem_of_getElem? i),o]
 ·rw [j,List.getElem?_eq_none (Nat.le_refl _)]
  simp only
  symm
  rw [List.filter_eq_nil_iff];intro f p c
  obtain ⟨e,m,g⟩:=h.key f p;exact b e m (by rw [g];exact of_decide_eq_true c)
theorem GrpOf.app {gs:List (Int×List Rg_)} {l:List Rg_} (h:GrpOf gs l) (f:Rg_):GrpOf (gApp f.y_ [f] gs) (l++[f]):=by
 obtain ⟨q,z,G,B,D⟩:=Z9C (y:=f.y_) (m:=[f]) (gs:=gs);have u:=Y4h (y:=f.y_) (m:=[f]) h.nd
 have A:(gApp f.y_ [f] gs)[Q0G f.y_ gs]?=some q:=by rw [B,Z9p D,if_pos rfl]
 have s:∀ e ∈ gApp f.y_ [f] gs,e=q\/(e ∈ gs/\e.1≠f.y_):=by
  intro e o;obtain ⟨j,c⟩:=List.getElem?_of_mem o
  by_cases b:j=Q0G f.y_ gs
  ·rw [b,A] at c;cases c;exact .inl rfl
  ·right
   have t:=c;rw [B,Z9p D,if_neg b] at t
   refine ⟨List.mem_of_getElem? t,fun w=>b ?_⟩;exact Y0r u c A (by rw [w,z])
 refine ⟨u,fun e o=>?_,fun g r=>?_⟩
 ·rcases s e o with rfl|⟨H,J⟩
  ·rw [G,h.gRow,List.filter_append,z];simp
  ·rw [h.row e H,List.filter_append]
   have:([f].filter fun g=>decide (g.y_=e.1))=[]:=by simp;exact fun E=>J E.symm
   rw [this,List.append_nil]
 ·rcases List.mem_append.1 r with r|r
  ·obtain ⟨e,o,v⟩:=h.key g r
   by_cases w:e.1=f.y_
   ·exact ⟨q,List.mem_of_getElem? A,by rw [z, <-v,w]⟩
   ·obtain ⟨j,c⟩:=List.getElem?_of_mem o
    have b:j≠Q0G f.y_ gs:=by
     rintro rfl;rcases Q7p f.y_ gs with ⟨_,K,p,C⟩|⟨I,_⟩
     ·rw [c] at p;cases p;exact w C
     ·rw [I,List.getElem?_eq_none (Nat.le_refl _)] at c;cases c
    refine ⟨e,List.mem_of_getElem? (i:=j) ?_,v⟩;rw [B,Z9p D,if_neg b];exact c
  ·have:g=f:=by simpa using r
   subst this;exact ⟨q,List.mem_of_getElem? A,z⟩
theorem W0k (y:Int) (m:List Rg_) (gs:List (Int×List Rg_)):(gApp y m gs).length<=gs.length+1:=by
 obtain ⟨q,_,_,h,b⟩:=Z9C (y:=y) (m:=m) (gs:=gs);rw [h,Z6l b]
 split <;> omega
theorem Y0z {F:Nat} (hF:BIG<=F) {l:List Rg_} (hl:l.length<=200):∃ gs,Z3l F l=some gs/\GrpOf gs l/\gs.length<=l.length:=by
 unfold BIG at hF;have c:∀ (n i:Nat) (gs:List (Int×List Rg_)),i<=l.length->l.length-i<n->GrpOf gs (l.take i)->gs.length<=i->∃ r,Z3 (fun again (z:Int×(List (Int×(List Rg_))))=>Q1N F l again z.1 z.2) n ((i:Int),gs)=some r/\GrpOf r l/\r.length<=l.length:=by
  intro n
  induction n with
  | zero=>intro i gs _ h;omega
  | succ n ih=>
   intro i gs o p b g
   by_cases h:i<l.length
   ·obtain ⟨r,j,e⟩:=ih (i+1) (gApp (gl l i).y_ [gl l i] gs) h (by omega) (by rw [J8 h];exact b.app _) (by have:=W0k (gl l i).y_ [gl l i] gs;omega)
    refine ⟨r,?_,e⟩;show Q1N F l _ (i:Int) gs=_
    unfold Q1N;simp only [Int.toNat_natCast]
    refine Z5 (by simpa using h) ?_;refine Z4 (k:=?_)
    refine Q7 ?_ ?_
    ·rw [b.gRow]
     have:=List.length_filter_le (fun f:Rg_=>decide (f.y_=(gl l i).y_)) (l.take i)
     have m:(l.take i).length<=200:=by rw [List.length_take];omega
     simp only [LIM,List.length_cons,List.length_nil];omega
    ·refine Z4 (k:=?_)
     exact j
   ·have:i=l.length:=by omega
    subst this;refine ⟨gs,?_,by rw [List.take_length] at b;exact b,g⟩
    show Q1N F l _ _ gs=_;unfold Q1N
    exact Q8 (by simp) rfl
 exact c F 0 [] (Nat.zero_le _) (by omega) (by rw [List.take_zero];exact GrpOf.nil) (Nat.zero_le _)
def Y3M (e:Int×List Rg_):Prop:=¬ e.2.Pairwise fun f g=>Q3G f.g_ g.g_=false
theorem Y8q {gs:List (Int×List Rg_)} {l:List Rg_} (h:GrpOf gs l):NX l↔∀ e ∈ gs,¬ Y3M e:=by
 unfold NX Y3M;constructor
 ·intro o e c p
  refine p ?_;rw [h.row e c,List.pairwise_filter]
  exact o.imp fun {f g} hh h1 h2=>hh (by simp at h1 h2;omega)
 ·intro o
  rw [List.pairwise_iff_getElem];intro i j r s m q
  obtain ⟨e,c,b⟩:=h.key l[i] (List.getElem_mem _);have:=Classical.not_not.1 (o e c)
  rw [h.row e c,List.pairwise_filter,List.pairwise_iff_getElem] at this;exact this i j r s m (by simp [b]) (by simp [b,q])
theorem Y8r {e:Int×List Rg_}:¬ Y3M e↔∀ j,j<e.2.length->∀ i,i<j->Q3G (gl e.2 i).g_ (gl e.2 j).g_=false:=by
 unfold Y3M;rw [Classical.not_not,List.pairwise_iff_getElem]
 constructor
 ·intro h j b i f
  rw [y7 b,y7 (by omega)];exact h i j (by omega) b f
 ·intro h i j f b c
  have:=h j b i c
  rw [y7 b,y7 (by omega)] at this;exact this
theorem Z7r {F:Nat} (hF:BIG<=F) {e:Int×List Rg_} (hl:e.2.length<=200) {rest:List (Int×List Rg_)} {ag:List (Int×List Rg_)->Option Int} {y:Int} (hb:Y3M e->y=11) (hg:¬ Y3M e->ag rest=some y) :
  Z3 (fun again (z:Int)=>Q9i F e rest ag again z) F (0:Int)=some y:=by
 have b:=hF;unfold BIG at hF
 refine Y7 (fun z:Int=>∃ i:Nat,z=i/\i<=e.2.length/\∀ j,j<i->∀ a,a<j->Q3G (gl e.2 a).g_ (gl e.2 j).g_=false) (fun z=>e.2.length-z.toNat) (fun again z v s=>?_) ⟨0,rfl,by omega,fun j p=>absurd p (Nat.not_lt_zero j)⟩ (by simp;omega);obtain ⟨i,rfl,A,q⟩:=v
 unfold Q9i;simp only [Int.toNat_natCast]
 refine Q9 (fun h=>?_) (fun h=>?_)
 ·have h:i<e.2.length:=by simpa using h
  refine Z4 (k:=?_);refine Z4 (k:=?_)
  refine Q3 (Q9S b (fun f=>Q3G f.g_ (gl e.2 i).g_) (by rw [List.length_take];omega) (fun r _=>by unfold Z0D;exact Q3 (Z4X b _ _) rfl)) ?_;refine Q9 (fun m=>?_) (fun m=>?_)
  ·rw [hb fun w=>?_]
   ·obtain ⟨f,u,c⟩:=List.any_eq_true.1 m
    obtain ⟨a,l,rfl⟩:=List.getElem_of_mem u;have g:a<i:=by rw [List.length_take] at l;omega
    have:=Y8r.1 (Classical.not_not.2 w) i h a g
    rw [List.getElem_take] at c;rw [y7 (show a<e.2.length by omega)] at this
    rw [this] at c;cases c
  ·refine Z4 (k:=?_)
   refine s _ ⟨i+1,by omega,h,fun j p a l=>?_⟩ (by omega);rcases Nat.lt_or_ge j i with o|o
   ·exact q j o a l
   ·have:j=i:=by omega
    subst this;have t:=List.any_eq_false.1 m (gl e.2 a) (by
     rw [y7 (show a<e.2.length by omega)];have:e.2[a]=(e.2.take j)[a]'(by rw [List.length_take];omega):=by rw [List.getElem_take]
     rw [this];exact List.getElem_mem _)
    simpa using t
 ·have h:i=e.2.length:=by
   have:¬ i<e.2.length:=by simpa using h
   omega
  subst h;exact hg (Y8r.2 q)
theorem Z9t {α:Type} {l:List α} {i:Nat} (hi:i<l.length) (p:α->Prop):(∀ e ∈ l,p e)↔p l[i]/\∀ e ∈ l.eraseIdx i,p e:=by
 constructor
 ·exact fun h=>⟨h _ (List.getElem_mem _),fun e b=>h e (List.mem_of_mem_eraseIdx b)⟩
 ·rintro ⟨g,c⟩ e b
  obtain ⟨j,f,rfl⟩:=List.getElem_of_mem b
  by_cases hij:j=i
  ·subst hij;exact g
  ·exact c _ (List.mem_eraseIdx_iff_getElem.2 ⟨j,f,hij,rfl⟩)
theorem Z7s {F:Nat} (hF:BIG<=F):∀ (n:Nat) (gs:List (Int×List Rg_)) (y:Int),gs.length<n->(∀ e ∈ gs,e.2.length<=200)->((∀ e ∈ gs,¬ Y3M e)->y=0)->((¬ ∀ e ∈ gs,¬ Y3M e)->y=11) ->
  Z3 (fun again (z:(List (Int×(List Rg_))))=>Q5T F again z) n gs=some y:=by
 intro n
 induction n with
 | zero=>intro gs y h;omega
 | succ n ih=>
  intro gs y r c p q;show Q5T F _ gs=_
  unfold Q5T
  cases gs with
  | nil=>
   rw [Y8N,p (fun e f=>by simp at f)];rfl
  | cons g l=>
   refine Y6Z (by simp) fun i o=>?_
   refine Z7r hF (c _ (List.getElem_mem _)) (fun j=>q fun b=>b _ (List.getElem_mem _) j) (fun j=>?_);refine ih _ y (by rw [List.length_eraseIdx];rw [if_pos o];simp at r ⊢;omega) (fun e f=>c e (List.mem_of_mem_eraseIdx f)) (fun b=>p ?_) (fun m=>q fun b=>m ?_)
   ·exact (Z9t o (fun e=>¬ Y3M e)).2 ⟨j,b⟩
   ·exact ((Z9t o (fun e=>¬ Y3M e)).1 b).2
theorem Y0B {F:Nat} (hF:BIG<=F) (l:List Rg_):Q9B F l=some (Q9n l):=by
 have o:=hF;unfold BIG at hF
 unfold Q9B;refine Q9 (fun h=>?_) (fun h=>?_)
 ·have h:200<l.length:=by simp at h;omega
  rw [Q9n,if_pos h]
 ·have h:¬ 200<l.length:=by simp at h;omega
  have v:hGo none l=0->Q5S F l=some (Q9n l):=fun m=>by
   unfold Q5S;obtain ⟨E,A,C,N⟩:=Y0z o (l:=l) (by omega)
   refine Q3 A ?_;have p:E.length<F:=by omega
   refine Z7s o F E _ p (fun e j=>?_) (fun D=>?_) (fun D=>?_)
   ·rw [C.row e j]
    have:=List.length_filter_le (fun f:Rg_=>decide (f.y_=e.1)) l
    omega
   ·rw [Q9n,if_neg h,if_neg (by simp [m]),if_pos ((Y8q C).2 D)]
   ·rw [Q9n,if_neg h,if_neg (by simp [m]),if_neg fun G=>D ((Y8q C).1 G)]
  have w:hGo none l≠0->Q9n l=hGo none l:=fun m=>by rw [Q9n,if_neg h,if_pos m]
  refine Y7 (fun z:Int=>∃ i:Nat,z=i/\i<=l.length/\hGo none l=hGo (Z5h l i) (l.drop i)) (fun z=>l.length-z.toNat) (fun s z K H=>?_) ⟨0,rfl,by omega,rfl⟩ (by simp;omega);obtain ⟨i,rfl,O,j⟩:=K
  unfold Z3M;refine Q9 (fun t=>?_) (fun t=>?_)
  ·have t:i<l.length:=by simpa using t
   rw [Q1F t,hGo] at j;refine Z4 (k:=?_)
   simp only [Int.toNat_natCast];refine Q3 (Z9A o _) ?_
   refine Q9 (fun q=>?_) (fun q=>?_)
   ·have q:Z5o (gl l i)≠0:=by simpa using q
    rw [if_pos q] at j;rw [w (by rw [j];exact q),j]
   ·have q:Z5o (gl l i)=0:=by simpa using q
    rw [if_neg (by simp [q])] at j;have r:∀ b:Bool,b=(Z5h l i).any (fun g=> !ltR g (gl l i))->Q3t F i s b=some (Q9n l):=by
     intro b u;unfold Q3t
     refine Q9 (fun B=>?_) (fun B=>?_)
     ·rw [if_pos (u ▸ B)] at j
      rw [w (by rw [j];decide),j]
     ·rw [if_neg (by rw [<-u,B];simp)] at j
      refine Z4 (k:=?_);refine H _ ⟨i+1,by omega,t,?_⟩ (by omega)
      rw [j,Y2F]
    refine Q9 (fun m=>?_) (fun m=>?_)
    ·have m:0<i:=by simpa using m
     refine Z4 (k:=?_);refine Z4 (k:=?_)
     have A:((i:Int)-1).toNat=i-1:=by omega
     rw [A];obtain ⟨c,I,M,P⟩:=Z8B o (gl l (i-1)) (gl l i)
     refine Q3 I (r _ ?_);have J:(Z5h l i).any (fun g=> !ltR g (gl l i))=!ltR (gl l (i-1)) (gl l i):=by simp [Z5h,show i≠0 from by omega]
     rw [J,Bool.eq_iff_iff,Bool.not_eq_true', <-Bool.not_eq_true, <-M,decide_eq_true_eq];omega
    ·have m:i=0:=by simp at m;omega
     exact r _ (by simp [Z5h,m])
  ·have t:¬ i<l.length:=by simpa using t
   rw [List.drop_of_length_le (by omega)] at j;exact v j
structure HL (l:List Rg_):Prop where
 len:l.length<=200
 one:∀ f ∈ l,Z5o f=0
 asc:l.Pairwise fun f g=>ltR f g=true
 nx:NX l
theorem Y2P:∀ (l:List Rg_) (p:Option Rg_),hGo p l=0↔(∀ f ∈ l,Z5o f=0)/\l.Pairwise (fun f g=>ltR f g=true)/\∀ n,p=some n->∀ f ∈ l,ltR n f=true
 | [],p=>by simp [hGo]
 | f::l,p=>by
  have o:=Y2P l (some f);unfold hGo
  by_cases h1:Z5o f=0
  ·rw [if_neg (by simp [h1])]
   by_cases i:p.any (fun g=> !ltR g f)=true
   ·rw [if_pos i]
    constructor
    ·intro h;cases h
    ·rintro ⟨_,_,h⟩
     cases p with
     | none=>simp at i
     | some n=>
      have i:ltR n f=false:=by simpa using i
      rw [h n rfl f (by simp)] at i;cases i
   ·rw [if_neg i,o]
    constructor
    ·rintro ⟨a,b,c⟩
     refine ⟨fun g e=>?_,List.pairwise_cons.2 ⟨fun g e=>c _ rfl g e,b⟩,fun n j g e=>?_⟩
     ·rcases List.mem_cons.1 e with rfl|e
      ·exact h1
      ·exact a g e
     ·subst j
      have i:ltR n f=true:=by simpa using i
      rcases List.mem_cons.1 e with rfl|e
      ·exact i
      ·exact Y0s i (c _ rfl g e)
    ·rintro ⟨a,b,c⟩
     obtain ⟨q,m⟩:=List.pairwise_cons.1 b;exact ⟨fun g e=>a g (by simp [e]),m,fun n j g e=>by cases j;exact q g e⟩
  ·rw [if_pos h1]
   constructor
   ·intro h;exact absurd h h1
   ·rintro ⟨a,_,_⟩;exact absurd (a f (by simp)) h1
theorem Z3W (l:List Rg_):Q9n l=0↔HL l:=by
 unfold Q9n
 by_cases h:200<l.length
 ·rw [if_pos h]
  exact ⟨fun h=>(by cases h),fun c=>by have:=c.len;omega⟩
 ·rw [if_neg h]
  by_cases h2:hGo none l=0
  ·rw [if_neg (by simp [h2])]
   obtain ⟨a,b,_⟩:=(Y2P l none).1 h2
   by_cases h3:NX l
   ·rw [if_pos h3];exact ⟨fun _=>⟨by omega,a,b,h3⟩,fun _=>rfl⟩
   ·rw [if_neg h3];exact ⟨fun h=>(by cases h),fun c=>absurd c.nx h3⟩
  ·rw [if_pos h2]
   exact ⟨fun h=>absurd h h2,fun c=>absurd ((Y2P l none).2 ⟨c.one,c.asc,fun n e=>by cases e⟩) h2⟩
section
variable {F:Nat} {L:List A2_} {d:Int}
end
section
variable {F n:Nat} {L:List A2_} {d:Int}
end
section
variable {F:Nat} {L:List A2_} {d:Int}
theorem Y5V {l:List Rect} (hc:Q2l l) (hl:l.length<=120) {a:List Rect} (ha:∀ r ∈ a,Q2F r=true) (hs:∀ x y,inR l x y=true->inR a x y=true):Val l:=by
 have b:Box (16384:Int) l:=hc.box fun x y h=>by
  obtain ⟨r,e,c⟩:=(Q2I _ _ _).1 (hs x y h);have:=(Q0f r).1 (ha r e)
  rw [J2] at c;omega
 exact ⟨hl,b.prop (by omega),hc⟩
end
section
variable {F:Nat} {L:List A2_} {d:Int}
end
def Q3D (y c:Int) (f:Rg_):Bool:=decide (f.y_=y)&&decide (f.c_=c)
def Z6C (y:Int) (a:List Rect) (f:Rg_):Rg_:=if f.y_=y then ⟨f.y_,f.c_,⟨cn fun u v=>inR f.g_.t_ u v && !inR a u v⟩⟩ else f
def Q1S (l:List Rg_) (y c:Int) (a:List Rect):List Rg_:=(l.filter fun f=> !Q3D y c f).map (Z6C y a)
def vA (l:List Rg_) (y c:Int) (a:List Rect):List Rect:=match l.find? (Q3D y c) with|some f=>cn fun u v=>inR f.g_.t_ u v||inR a u v|none=>a
def neR (f:Rg_):Bool:= !decide (f.g_.t_.length=0)
def Z9U (l:List Rg_):Bool:=decide (200<l.length)||l.any fun f=>decide (120<f.g_.t_.length)
def Z6F (l:List Rg_) (r:Rg_):Nat:=l.countP fun f=>ltR f r
def Y8W (l:List Rg_) (r:Rg_):List Rg_:=l.take (Z6F l r)++[r]++l.drop (Z6F l r)
def Z6H (l:List Rg_) (y c:Int) (a:List Rect):List Rg_:=
 if (vA l y c a).length=0 then (Q1S l y c a).filter neR else Y8W ((Q1S l y c a).filter neR) ⟨y,c,⟨vA l y c a⟩⟩
def addH (l:List Rg_) (y c:Int) (a:Re_):List Rg_×Int:=
 if Q9n l≠0 then ([],Q9n l) else if y<0\/100<y then ([],18) else if c<0\/40<=c then ([],13) else if Q3H a.t_=false then ([],7)
 else if Z9U (Z6H l y c a.t_)=true then ([],1) else (Z6H l y c a.t_,0)
theorem Y6Q (l:List Rg_) (x:Rg_) (y c:Int) (a:List Rect):Q1S (l++[x]) y c a=Q1S l y c a++(if Q3D y c x=true then [] else [Z6C y a x]):=by
 unfold Q1S;rw [List.filter_append,List.map_append]
 congr 1
 cases h:Q3D y c x with
 | true=>simp [h]
 | false=>simp [h]
theorem W1j (l:List Rg_) (x:Rg_) (y c:Int) (a:List Rect) (h:Q3D y c x=true->∀ f ∈ l,Q3D y c f=false):vA (l++[x]) y c a=if Q3D y c x=true then cn (fun u v=>inR x.g_.t_ u v||inR a u v) else vA l y c a:=by
 unfold vA;rw [List.find?_append]
 cases hx:Q3D y c x with
 | true=>
  have:l.find? (Q3D y c)=none:=List.find?_eq_none.2 fun f b=>by rw [h hx f b];simp
  rw [this];simp [hx]
 | false=>simp [hx]
theorem Y9p (l:List Rg_) (y c:Int) (a:List Rect) (h:∀ f ∈ l,Q3D y c f=false):vA l y c a=a:=by
 unfold vA;have:l.find? (Q3D y c)=none:=List.find?_eq_none.2 fun f b=>by rw [h f b];simp
 rw [this]
theorem Y0V {l:List Rg_} (h:l.Pairwise fun f g=>ltR f g=true) {i:Nat} (hi:i<l.length) {y c:Int} (hs:Q3D y c (gl l i)=true):∀ f ∈ l.take i,Q3D y c f=false:=by
 intro f m;obtain ⟨j,e,rfl⟩:=List.getElem_of_mem m
 have b:j<i:=by rw [List.length_take] at e;omega
 rw [List.getElem_take];have:=List.pairwise_iff_getElem.1 h j i (by omega) hi b
 rw [Q8e] at this;rw [y7 hi] at hs
 unfold Q3D at hs ⊢;rw [Bool.and_eq_true,decide_eq_true_eq,decide_eq_true_eq] at hs
 rw [<-Bool.not_eq_true,Bool.and_eq_true,decide_eq_true_eq,decide_eq_true_eq];omega
theorem HL.val {l:List Rg_} (h:HL l) {f:Rg_} (hf:f ∈ l):Val f.g_.t_:=((Q8X f).1 (h.one f hf)).2.2.2.2.2
theorem Y2v {F:Nat} (hF:BIG<=F) {l:List Rg_} (h:HL l) {y c:Int} {a:Re_} (ha:Val a.t_) {r:List Rg_×Int} (hk:Q7Q F y c (vA l y c a.t_) ((Q1S l y c a.t_).filter neR)=some r) :
  Z3 (fun again (z:(List Rect)×Int×(List Rg_))=>Z4r F l y c a again z.1 z.2.1 z.2.2) F (a.t_,(0:Int),([]:List Rg_))=some r:=by
 have s:=hF;unfold BIG at hF
 have J:=h.len;refine Y7 (fun z:(List Rect)×Int×(List Rg_)=>∃ i:Nat,z=(vA (l.take i) y c a.t_,(i:Int),(Q1S (l.take i) y c a.t_).filter neR)/\i<=l.length) (fun z=>l.length-z.2.1.toNat) (fun again z N G=>?_) ⟨0,by rw [List.take_zero];rfl,by omega⟩ (by simp only;omega)
 obtain ⟨i,rfl,P⟩:=N;simp only at G ⊢
 unfold Z4r;simp only [Int.toNat_natCast]
 refine Q9 (fun j=>?_) (fun j=>?_)
 ·have j:i<l.length:=by simpa using j
  have t:=h.val (W9 j);have M:((Q1S (l.take i) y c a.t_).filter neR).length<=200:=by
   have H:=List.length_filter_le neR (Q1S (l.take i) y c a.t_);unfold Q1S at H ⊢
   rw [List.length_map] at H;have:=List.length_filter_le (fun f=> !Q3D y c f) (l.take i)
   have e:(l.take i).length<=l.length:=by rw [List.length_take];omega
   omega
  have g:∀ (v:List Rect) (q:List Rg_),v=vA (l.take (i+1)) y c a.t_->q=(Q1S (l.take (i+1)) y c a.t_).filter neR->Q5I F i again v q=some r:=by
   rintro v q rfl rfl;unfold Q5I
   refine Z4 (k:=?_);exact G _ ⟨i+1,rfl,j⟩ (by simp only;omega)
  have A:=W1j (l.take i) (gl l i) y c a.t_ (Y0V h.asc j);have B:=Y6Q (l.take i) (gl l i) y c a.t_
  rw [<-J8 j] at A B;have I:∀ w:List Rect,Q3D y c (gl l i)=false->(⟨(gl l i).y_,(gl l i).c_,⟨w⟩⟩:Rg_)=Z6C y a.t_ (gl l i)->Q7R F l (vA (l.take i) y c a.t_) i ((Q1S (l.take i) y c a.t_).filter neR) again w=some r:=by
   intro w m O;unfold Q7R
   simp only [Int.toNat_natCast];have C:(Q1S (l.take (i+1)) y c a.t_).filter neR=(Q1S (l.take i) y c a.t_).filter neR++[(⟨(gl l i).y_,(gl l i).c_,⟨w⟩⟩:Rg_)].filter neR:=by
    rw [B,if_neg (by rw [m];simp),List.filter_append,O]
   have K:vA (l.take i) y c a.t_=vA (l.take (i+1)) y c a.t_:=by rw [A,if_neg (by rw [m];simp)]
   refine Q9 (fun o=>?_) (fun o=>?_)
   ·have o:w.length≠0:=by simp at o;omega
    refine Z4 (k:=?_);refine g _ _ K ?_
    rw [C];congr 1
    simp [neR,o]
   ·have o:w.length=0:=by simp at o;simp [o]
    refine g _ _ K ?_;rw [C]
    simp [neR,o]
  refine Z4 (k:=?_);have E:∀ b:Bool,b=Q3D y c (gl l i)->Q7S F l y a (vA (l.take i) y c a.t_) i ((Q1S (l.take i) y c a.t_).filter neR) again b=some r:=by
   intro b D;unfold Q7S
   simp only [Int.toNat_natCast];refine Q9 (fun e=>?_) (fun e=>?_)
   ·have m:Q3D y c (gl l i)=true:=by rw [<-D,e]
    rw [Y9p _ y c a.t_ (Y0V h.asc j m)];refine Q3 (Q3P s (by have:=ha.1;omega) (by have:=t.1;omega) ha.2.1 t.2.1) (g _ _ ?_ ?_)
    ·rw [A,if_pos m]
     congr 1
     funext u v
     simp [Q0u,Bool.or_comm]
    ·rw [B,if_pos m,List.append_nil]
   ·have m:Q3D y c (gl l i)=false:=by rw [<-D,e]
    refine Q9 (fun p=>?_) (fun p=>?_)
    ·have p:(gl l i).y_=y:=by simpa using p
     refine Q3 (Q3P s (by have:=t.1;omega) (by have:=ha.1;omega) t.2.1 ha.2.1) (I _ m ?_);unfold Z6C;rw [if_pos p]
     simp [Q0u]
    ·have p:¬ (gl l i).y_=y:=by simpa using p
     refine I _ m ?_;unfold Z6C;rw [if_neg p]
  refine Q9 (fun e=>?_) (fun e=>?_)
  ·have e:(gl l i).y_=y:=by simpa using e
   refine E _ ?_;unfold Q3D
   rw [decide_eq_true e,Bool.true_and];rfl
  ·have e:¬ (gl l i).y_=y:=by simpa using e
   refine E _ ?_;unfold Q3D
   rw [decide_eq_false e,Bool.false_and]
 ·have j:i=l.length:=by
   have:¬ i<l.length:=by simpa using j
   omega
  subst j;rw [List.take_length]
  exact hk
def Y3G (f:Rg_):Int×Int:=(f.y_,f.c_)
theorem Z9u {f g:Rg_}:lt2 (Y3G f) (Y3G g)↔ltR f g=true:=by rw [Q8e];unfold lt2 Y3G;exact Iff.rfl
theorem Y4l {l:List Rg_} (h:l.Pairwise fun f g=>ltR f g=true) (r:Rg_):Z6F l r<=l.length/\(∀ j,j<Z6F l r->ltR (gl l j) r=true)/\∀ j,Z6F l r<=j->j<l.length->ltR (gl l j) r=false:=by
 induction l with
 | nil=>exact ⟨Nat.le_refl _,fun j i=>by simp [Z6F] at i,fun j _ i=>by simp at i⟩
 | cons f l ih=>
  obtain ⟨t,q⟩:=List.pairwise_cons.1 h;obtain ⟨a,b,c⟩:=ih q
  cases hf:ltR f r with
  | true=>
   have e:Z6F (f::l) r=Z6F l r+1:=by simp [Z6F,hf]
   rw [e];refine ⟨by simp;exact a,fun j i=>?_,fun j i o=>?_⟩
   ·cases j with
    | zero=>exact hf
    | succ j=>exact b j (by omega)
   ·cases j with
    | zero=>omega
    | succ j=>exact c j (by omega) (by simpa using o)
  | false=>
   have m:∀ g ∈ l,ltR g r=false:=fun g p=>by
    rw [<-Bool.not_eq_true];intro s
    rw [Y0s (t g p) s] at hf;cases hf
   have e:Z6F (f::l) r=0:=by
    unfold Z6F;rw [List.countP_eq_zero]
    intro g p;rcases List.mem_cons.1 p with rfl|p
    ·rw [hf];simp
    ·rw [m g p];simp
   rw [e];refine ⟨Nat.zero_le _,fun j i=>absurd i (Nat.not_lt_zero j),fun j _ o=>?_⟩
   cases j with
   | zero=>exact hf
   | succ j=>
    have i:j<l.length:=by simpa using o
    exact m _ (W9 i)
theorem Y8V (l:List Rg_) (r:Rg_):(Y8W l r).Perm (l++[r]):=by
 unfold Y8W;have b:(l.take (Z6F l r)++[r]++l.drop (Z6F l r)).Perm (l.take (Z6F l r)++(l.drop (Z6F l r)++[r])):=by
  rw [List.append_assoc];exact List.Perm.append_left _ List.perm_append_comm
 rw [<-List.append_assoc,List.take_append_drop] at b;exact b
theorem W0c {l:List Rg_} (h:l.Pairwise fun f g=>ltR f g=true) {r:Rg_} (hr:∀ f ∈ l,Y3G f≠Y3G r):(Y8W l r).Pairwise fun f g=>ltR f g=true:=by
 obtain ⟨a,b,c⟩:=Y4l h r;unfold Y8W
 generalize Z6F l r=k at *;have s:∀ f ∈ l.take k,ltR f r=true:=fun f e=>by
  obtain ⟨j,p,rfl⟩:=List.getElem_of_mem e;have i:j<k:=by rw [List.length_take] at p;omega
  have:=b j i
  rw [y7 (show j<l.length by omega)] at this;rw [List.getElem_take];exact this
 have t:∀ f ∈ l.drop k,ltR r f=true:=fun f e=>by
  obtain ⟨j,p,rfl⟩:=List.getElem_of_mem e;have i:k+j<l.length:=by rw [List.length_drop] at p;omega
  have q:=c (k+j) (by omega) i;rw [y7 i] at q
  rw [List.getElem_drop];have u:=hr _ (List.getElem_mem i)
  rcases W1B u with o|o
  ·rw [Z9u.1 o] at q;cases q
  ·exact Z9u.1 o
 rw [List.pairwise_append,List.pairwise_append];refine ⟨⟨h.sublist (List.take_sublist _ _),List.pairwise_singleton _ _,fun f e g m=>?_⟩,h.sublist (List.drop_sublist _ _),fun f e g m=>?_⟩
 ·rw [List.mem_singleton] at m;subst m;exact s f e
 ·rcases List.mem_append.1 e with e|e
  ·exact Y0s (s f e) (t g m)
  ·rw [List.mem_singleton] at e;subst e;exact t g m
theorem Z3U (y:Int) (a:List Rect) (f:Rg_):Y3G (Z6C y a f)=Y3G f:=by unfold Z6C;split <;> rfl
theorem Y9T (y:Int) (a:List Rect) (f g:Rg_):ltR (Z6C y a f) (Z6C y a g)=ltR f g:=by
 rw [Bool.eq_iff_iff, <-Z9u, <-Z9u,Z3U,Z3U]
theorem Y2m {l:List Rg_} (h:l.Pairwise fun f g=>ltR f g=true) (y c:Int) (a:List Rect):((Q1S l y c a).filter neR).Pairwise fun f g=>ltR f g=true:=by
 refine List.Pairwise.filter _ ?_;unfold Q1S
 rw [List.pairwise_map];refine List.Pairwise.imp (fun {f g} hh=>?_) (List.Pairwise.filter _ h)
 rw [Y9T];exact hh
theorem Y9F {l:List Rg_} {y c:Int} {a v:List Rect}:∀ f ∈ (Q1S l y c a).filter neR,Y3G f≠Y3G ⟨y,c,⟨v⟩⟩:=by
 intro f e h;have e:=(List.mem_filter.1 e).1
 unfold Q1S at e;obtain ⟨g,j,rfl⟩:=List.mem_map.1 e
 have b:=(List.mem_filter.1 j).2;rw [Z3U] at h
 unfold Y3G at h;have m:g.y_=y:=congrArg Prod.fst h
 have i:g.c_=c:=congrArg Prod.snd h;unfold Q3D at b
 simp [m,i] at b
theorem W0T {l:List Rg_} (h:l.Pairwise fun f g=>ltR f g=true) (y c:Int) (a:List Rect):(Z6H l y c a).Pairwise fun f g=>ltR f g=true:=by
 unfold Z6H;split
 ·exact Y2m h y c a
 ·exact W0c (Y2m h y c a) Y9F
theorem Y0S (l:List Rg_) (y c:Int) (a:List Rect):((Q1S l y c a++[(⟨y,c,⟨vA l y c a⟩⟩:Rg_)]).filter neR).Perm (Z6H l y c a):=by
 rw [List.filter_append];unfold Z6H
 split
 ·rename_i h
  have:[(⟨y,c,⟨vA l y c a⟩⟩:Rg_)].filter neR=[]:=by simp [neR,h]
  rw [this,List.append_nil]
 ·rename_i h
  have:[(⟨y,c,⟨vA l y c a⟩⟩:Rg_)].filter neR=[⟨y,c,⟨vA l y c a⟩⟩]:=by simp [neR,h]
  rw [this];exact (Y8V _ _).symm
theorem Y3Y (l:List Rg_) (y c:Int) (a:List Rect):(Q1S l y c a).length<=l.length:=by
 unfold Q1S;rw [List.length_map]
 exact List.length_filter_le _ _
theorem Z3C {F:Nat} (hF:BIG<=F) {L:List Rg_} (hl:L.length<=201):Q6t F L=some (if Z9U L=true then ([],1) else (L,0)):=by
 unfold BIG at hF;unfold Q6t
 refine Q9 (fun h=>?_) (fun h=>?_)
 ·have h:200<L.length:=by have:=of_decide_eq_true h;omega
  rw [if_pos (by unfold Z9U;rw [decide_eq_true h,Bool.true_or])]
 ·have h:¬ 200<L.length:=by have:=of_decide_eq_false h;omega
  refine Y7 (fun z:Int=>∃ i:Nat,z=i/\i<=L.length/\∀ j,j<i->¬ 120<(gl L j).g_.t_.length) (fun z=>L.length-z.toNat) (fun g z o q=>?_) ⟨0,rfl,by omega,fun j e=>absurd e (Nat.not_lt_zero j)⟩ (by simp;omega);obtain ⟨i,rfl,r,m⟩:=o
  unfold Z7N;simp only [Int.toNat_natCast]
  refine Q9 (fun b=>?_) (fun b=>?_)
  ·have b:i<L.length:=by simpa using b
   refine Z4 (k:=?_);refine Q9 (fun c=>?_) (fun c=>?_)
   ·have c:120<(gl L i).g_.t_.length:=by have:=of_decide_eq_true c;omega
    rw [if_pos];unfold Z9U
    rw [Bool.or_eq_true];exact .inr (List.any_eq_true.2 ⟨_,W9 b,decide_eq_true c⟩)
   ·have c:¬ 120<(gl L i).g_.t_.length:=by have:=of_decide_eq_false c;omega
    refine Z4 (k:=?_);refine q _ ⟨i+1,by omega,b,fun j e=>?_⟩ (by omega)
    rcases Nat.lt_or_ge j i with l|l
    ·exact m j l
    ·have:j=i:=by omega
     subst this;exact c
  ·have b:i=L.length:=by
    have:¬ i<L.length:=by simpa using b
    omega
   subst b;rw [if_neg]
   ·rfl
   ·unfold Z9U
    rw [decide_eq_false h,Bool.false_or,Q2Y (p:=fun f:Rg_=>decide (120<f.g_.t_.length)) fun j e=>decide_eq_false (m j e)];simp
theorem Y1t {F:Nat} (hF:BIG<=F) {l:List Rg_} (h:HL l) {y c:Int} {a:List Rect} :
  Q7Q F y c (vA l y c a) ((Q1S l y c a).filter neR)=some (if Z9U (Z6H l y c a)=true then ([],1) else (Z6H l y c a,0)):=by
 have r:=hF;unfold BIG at hF
 have w:=h.len;have C:((Q1S l y c a).filter neR).length<=200:=by
  have o:=Y3Y l y c a;have f:=List.length_filter_le neR (Q1S l y c a)
  omega
 have s:=Y2m h.asc y c a;unfold Q7Q Z6H
 generalize (Q1S l y c a).filter neR=R at *;generalize vA l y c a=v at *
 refine Q9 (fun o=>?_) (fun o=>?_)
 ·have o:v.length≠0:=by have:=of_decide_eq_true o;omega
  rw [if_neg o];obtain ⟨k1,k2,A⟩:=Y4l s ⟨y,c,⟨v⟩⟩
  unfold Y8W;generalize Z6F R ⟨y,c,⟨v⟩⟩=k at *
  refine Y7 (fun z:Int=>∃ i:Nat,z=i/\i<=k) (fun z=>R.length-z.toNat) (fun q z D B=>?_) ⟨0,rfl,by omega⟩ (by simp;omega);obtain ⟨i,rfl,E⟩:=D
  have t:i=k->Z1j F y c v R (i:Int)=some (if Z9U (R.take k++[(⟨y,c,⟨v⟩⟩:Rg_)]++R.drop k)=true then ([],1) else (R.take k++[⟨y,c,⟨v⟩⟩]++R.drop k,0)):=by
   rintro rfl;unfold Z1j
   simp only [Int.toNat_natCast];refine Q7 (by omega) (Q7 (by omega) (Q7 (by simp only [LIM];omega) (Q7 (by simp only [LIM,List.length_cons,List.length_nil];omega) (Q7 (by omega) (Q7 (by omega) (Q7 (by simp only [LIM,List.length_cons,List.length_nil];omega) ?_))))))
   have e:((([]:List Rg_)++((R.drop 0).take i))++([(⟨y,c,(⟨v⟩:Re_)⟩:Rg_)]:List Rg_))++((R.drop (0+i)).take (R.length-i))=R.take i++[⟨y,c,⟨v⟩⟩]++R.drop i:=by
    rw [List.nil_append,List.drop_zero,Nat.zero_add,List.take_of_length_le (l:=R.drop i) (by rw [List.length_drop];omega)]
   rw [e];refine Z3C r ?_
   simp only [List.length_append,List.length_take,List.length_drop,List.length_cons,List.length_nil];omega
  have g:∀ b:Bool,(b=true↔i<R.length/\ltR (gl R i) ⟨y,c,⟨v⟩⟩=true)->Q3O F y c v R i q b=some (if Z9U (R.take k++[(⟨y,c,⟨v⟩⟩:Rg_)]++R.drop k)=true then ([],1) else (R.take k++[⟨y,c,⟨v⟩⟩]++R.drop k,0)):=by
   intro b u;unfold Q3O
   refine Q9 (fun f=>?_) (fun f=>?_)
   ·obtain ⟨p,j⟩:=u.1 f
    have m:i<k:=by
     rcases Nat.lt_or_ge i k with m|m
     ·exact m
     ·rw [A i m p] at j;cases j
    refine Z4 (k:=?_);exact B _ ⟨i+1,by omega,m⟩ (by omega)
   ·refine t ?_
    rcases Nat.lt_or_ge i k with m|m
    ·have:=u.2 ⟨by omega,k2 i m⟩
     rw [f] at this;cases this
    ·omega
  unfold Z9i;simp only [Int.toNat_natCast]
  refine Q9 (fun f=>?_) (fun f=>?_)
  ·have f:i<R.length:=by simpa using f
   refine Z4 (k:=?_);refine Q9 (fun p=>?_) (fun p=>?_)
   ·refine g _ ?_
    have p:=of_decide_eq_true p;rw [Q8e];simp;omega
   ·have p:=of_decide_eq_false p
    refine Z4 (k:=?_);refine Q9 (fun j=>?_) (fun j=>?_)
    ·have j:(gl R i).y_=y:=by simpa using j
     refine Z4 (k:=?_);refine g _ ?_
     rw [Q8e,decide_eq_true_eq];simp only;omega
    ·have j:¬ (gl R i).y_=y:=by simpa using j
     refine g _ ?_;rw [Q8e];simp;omega
  ·have f:¬ i<R.length:=by simpa using f
   refine g _ ?_;simp;omega
 ·have o:v.length=0:=by have:=of_decide_eq_false o;omega
  rw [if_pos o];exact Z3C r (by omega)
theorem Y4F {F:Nat} (hF:BIG<=F) (l:List Rg_) (y c:Int) (a:Re_):Z6U F l y c a=some (addH l y c a):=by
 unfold Z6U addH;refine Q3 (Y2t hF l) ?_
 refine Q9 (fun h=>?_) (fun h=>?_)
 ·rw [if_pos (by simpa using h)]
 ·have h:Q9n l=0:=by simpa using h
  rw [if_neg (by simp [h]),Q7o (Q7U F l y c a)];unfold Q7U
  refine Q9 (fun f=>by rw [if_pos (by simpa using f)]) (fun f=>?_);rw [if_neg (by simpa using f),Q7o (Q7T F l y c a)]
  unfold Q7T;refine Q9 (fun e=>by rw [if_pos (by simpa using e)]) (fun e=>?_)
  rw [if_neg (by simpa using e)];refine Q3 (Q1i hF _) ?_
  refine Q9 (fun b=>by rw [if_pos (by simpa using b)]) (fun b=>?_);have b:Q3H a.t_=true:=by simpa using b
  rw [if_neg (by rw [b];simp)];exact Y2v hF ((Z3W l).1 h) ((Q0P _).1 b) (Y1t hF ((Z3W l).1 h))
theorem Y4a {a b:Re_} (h:∀ x y,inR a.t_ x y=true->inR b.t_ x y=true->False):Q3G a b=false:=by
 by_cases ha:Val a.t_
 ·by_cases hb:Val b.t_
  ·exact Y5M ha hb h
  ·unfold Q3G
   have:Q3H b.t_=false:=by rw [<-Bool.not_eq_true,Q0P];exact hb
   rw [this];simp
 ·unfold Q3G
  have:Q3H a.t_=false:=by rw [<-Bool.not_eq_true,Q0P];exact ha
  rw [this];rfl
theorem Z6n {a b:Re_} (ha:Val a.t_) (hb:Val b.t_) (h:Q3G a b=false):∀ x y,inR a.t_ x y=true->inR b.t_ x y=true->False:=by
 intro x y e c;unfold Q3G at h
 rw [Q3g ha,Q3g hb,Bool.true_and,Bool.true_and] at h;have:=(Y4L ha.2.1 hb.2.1).2 ⟨x,y,e,c⟩
 rw [this] at h;cases h
theorem W1I (a b:List Rect) (x y:Int):inR (a++b) x y=(inR a x y||inR b x y):=by
 rw [Bool.eq_iff_iff,Bool.or_eq_true,Q2I,Q2I,Q2I];constructor
 ·rintro ⟨r,c,h⟩
  rcases List.mem_append.1 c with c|c
  ·exact .inl ⟨r,c,h⟩
  ·exact .inr ⟨r,c,h⟩
 ·rintro (⟨r,c,h⟩|⟨r,c,h⟩)
  ·exact ⟨r,List.mem_append_left _ c,h⟩
  ·exact ⟨r,List.mem_append_right _ c,h⟩
theorem Y3e (f:Rg_) (y:Int) (a:List Rect) {u v:Int} (h:inR (Z6C y a f).g_.t_ u v=true):inR f.g_.t_ u v=true/\(f.y_=y->inR a u v=false):=by
 unfold Z6C at h;split at h
 ·rename_i b
  simp only at h;rw [Q1w (Z9G _ _),Bool.and_eq_true,Bool.not_eq_true'] at h
  exact ⟨h.1,fun _=>h.2⟩
 ·rename_i b
  exact ⟨h,fun c=>absurd c b⟩
theorem W2m {l:List Rg_} {y c:Int} {a:List Rect} {u v:Int}:inR (vA l y c a) u v=true↔inR a u v=true\/∃ f,l.find? (Q3D y c)=some f/\inR f.g_.t_ u v=true:=by
 unfold vA;split
 ·rename_i f b
  have:=Q6z f.g_.t_ a 1
  simp only [Q0u,if_true] at this;rw [Q1w this,Bool.or_eq_true]
  constructor
  ·rintro (h|h)
   ·exact .inr ⟨f,b,h⟩
   ·exact .inl h
  ·rintro (h|⟨g,hg,h⟩)
   ·exact .inr h
   ·rw [b] at hg;cases hg;exact .inl h
 ·rename_i b
  constructor
  ·exact fun h=>.inl h
  ·rintro (h|⟨g,hg,h⟩)
   ·exact h
   ·rw [b] at hg;cases hg
theorem Y3p {l:List Rg_} {y c:Int} {a:List Rect} {f:Rg_}:f ∈ Z6H l y c a↔(f ∈ Q1S l y c a\/f=⟨y,c,⟨vA l y c a⟩⟩)/\f.g_.t_.length≠0:=by
 rw [<-(Y0S l y c a).mem_iff,List.mem_filter,List.mem_append,List.mem_singleton];unfold neR
 simp
theorem Y3X (y c:Int) (f:Rg_):Q3D y c f=true↔f.y_=y/\f.c_=c:=by unfold Q3D;simp
theorem Z8Z {l:List Rg_} {y c:Int} {a:List Rect} {f:Rg_}:f ∈ Q1S l y c a↔∃ g ∈ l,Q3D y c g=false/\f=Z6C y a g:=by
 unfold Q1S;rw [List.mem_map]
 constructor
 ·rintro ⟨g,b,rfl⟩
  have:=List.mem_filter.1 b
  exact ⟨g,this.1,by simpa using this.2,rfl⟩
 ·rintro ⟨g,b,e,rfl⟩
  exact ⟨g,List.mem_filter.2 ⟨b,by simpa using e⟩,rfl⟩
theorem Y6A {l:List Rg_} (h:Z9U l=false):l.length<=200/\∀ f ∈ l,f.g_.t_.length<=120:=by
 unfold Z9U at h;rw [Bool.or_eq_false_iff] at h
 refine ⟨by have:=of_decide_eq_false h.1;omega,fun f b=>?_⟩;have:=List.any_eq_false.1 h.2 f b
 simp at this;exact this
theorem HL.apart {l:List Rg_} (h:HL l) {f g:Rg_} (hf:f ∈ l) (hg:g ∈ l) (hy:f.y_=g.y_) (hc:f.c_≠g.c_):∀ x y,inR f.g_.t_ x y=true->inR g.g_.t_ x y=true->False:=by
 obtain ⟨i,c,rfl⟩:=List.getElem_of_mem hf;obtain ⟨j,m,rfl⟩:=List.getElem_of_mem hg
 have e:=List.pairwise_iff_getElem.1 h.nx;rcases Nat.lt_trichotomy i j with b|b|b
 ·exact Z6n (h.val hf) (h.val hg) (e i j c m b hy)
 ·subst b;exact absurd rfl hc
 ·exact fun x y p o=>Z6n (h.val hg) (h.val hf) (e j i m c b hy.symm) x y o p
theorem HL.add {l:List Rg_} (h:HL l) {y c:Int} (hy:0<=y/\y<=100) (hc:0<=c/\c<40) {a:List Rect} (ha:Val a) (ht:Z9U (Z6H l y c a)=false):HL (Z6H l y c a):=by
 obtain ⟨X,U⟩:=Y6A ht;have O:∀ g ∈ l,∀ x G,inR (Z6C y a g).g_.t_ x G=true->inR g.g_.t_ x G=true:=fun g _ x G q=>(Y3e g y a q).1
 refine ⟨X,fun f s=>?_,W0T h.asc y c a,?_⟩
 ·have b:=U f s
  obtain ⟨s,o⟩:=Y3p.1 s;rcases s with s|rfl
  ·obtain ⟨g,t,H,rfl⟩:=Z8Z.1 s
   obtain ⟨S,Z,T,g4,g5,V⟩:=(Q8X g).1 (h.one g t);unfold Z6C at o b ⊢
   split at o <;> rename_i z
   ·rw [if_pos z] at b ⊢
    rw [Q8X];simp only at b o ⊢
    exact ⟨S,Z,T,g4,o,Y5V (Q2l.cn (Z9G _ _)) b V.2.1 fun u v q=>by rw [Q1w (Z9G _ _),Bool.and_eq_true] at q;exact q.1⟩
   ·rw [if_neg z];exact h.one g t
  ·rw [Q8X]
   simp only at b o ⊢;refine ⟨hy.1,hy.2,hc.1,hc.2,o,?_⟩
   unfold vA at b o ⊢;split at o <;> rename_i N
   ·rename_i g
    rw [N] at b;simp only at b
    have p:=Q6z g.g_.t_ a 1;simp only [Q0u,if_true] at p
    refine Y5V (Q2l.cn p) b (a:=g.g_.t_++a) (fun r B=>?_) fun u v q=>?_
    ·rcases List.mem_append.1 B with B|B
     ·exact (h.val (List.mem_of_find?_eq_some N)).2.1 r B
     ·exact ha.2.1 r B
    ·rw [Q1w p] at q
     rw [W1I];exact q
   ·exact ha
 ·unfold NX
  have A:∀ {f g:Rg_},(f.y_=g.y_->Q3G f.g_ g.g_=false)->(g.y_=f.y_->Q3G g.g_ f.g_=false):=fun {f g} q m=>by rw [Y7d];exact q m.symm
  refine ((Y0S l y c a).pairwise_iff A).1 (List.Pairwise.filter _ ?_);rw [List.pairwise_append]
  refine ⟨?_,List.pairwise_singleton _ _,fun f s g t m=>?_⟩
  ·unfold Q1S
   rw [List.pairwise_map,List.pairwise_filter];have hn:=List.pairwise_iff_getElem.1 h.nx
   rw [List.pairwise_iff_getElem];intro i j M Q E _ _ m
   have e:∀ f:Rg_,(Z6C y a f).y_=f.y_:=fun f=>congrArg Prod.fst (Z3U y a f)
   rw [e,e] at m;have:=Z6n (h.val (List.getElem_mem M)) (h.val (List.getElem_mem Q)) (hn i j M Q E m)
   exact Y4a fun u v K I=>this u v (Y3e _ y a K).1 (Y3e _ y a I).1
  ·rw [List.mem_singleton] at t
   subst t;obtain ⟨g,t,H,rfl⟩:=Z8Z.1 s
   have e:(Z6C y a g).y_=g.y_:=congrArg Prod.fst (Z3U y a g);rw [e] at m
   simp only at m;refine Y4a fun u v K I=>?_
   obtain ⟨Y,W⟩:=Y3e _ y a K;rcases W2m.1 I with C|⟨k,P,C⟩
   ·rw [W m] at C;cases C
   ·have D:=List.mem_of_find?_eq_some P
    have w:=(Y3X y c k).1 (List.find?_some P);refine h.apart t D (by rw [m,w.1]) (fun J=>?_) u v Y C
    rw [<-Bool.not_eq_true,Y3X] at H;exact H ⟨m,by rw [J,w.2]⟩
theorem HL.nil:HL []:=⟨by simp,fun f b=>by simp at b,.nil,.nil⟩
end
end Go.Ab
