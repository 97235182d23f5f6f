/- What the plain programs compute, up to the law itself. -/
import Derived.Test.YtgfmopdbhjcpfaaGreatPuB
set_option linter.unusedVariables false
set_option linter.unusedSimpArgs false
set_option maxRecDepth 20000
namespace Go.Ab
noncomputable section
def put:List Int->Int->List Int
 | [],n=>[n]
 | a::l,n=>if a<n then a::put l n else if a=n then a::l else n::a::l
theorem W0H (n:Int) (l:List Int) (i:Nat) (h:i<l.length) (hlt:gl l i<n):put (l.drop i) n=gl l i::put (l.drop (i+1)) n:=by
 rw [Q1J h,put,if_pos hlt]
theorem Z0J {F:Nat} (hF:BIG<=F) {l:List Int} (hl:l.length<=1048576) (n:Int):Q7i F l n=some (put l n):=by
 unfold BIG at hF;unfold Q7i
 refine Y9 (fun z:Int=>∃ i:Nat,z=i/\i<=l.length/\put l n=l.take i++put (l.drop i) n) (fun z=>l.length-z.toNat) (fun d z g e=>?_) ⟨0,rfl,by simp,by simp⟩ (by simp;omega);obtain ⟨i,rfl,j,b⟩:=g
 have k2:(∀ h:i<l.length,n<=gl l i)->Z0K F l n (i:Int)=some (put l n):=by
  intro c;unfold Z0K
  refine Q8 (fun h=>?_) (fun h=>?_)
  ·have h:i<l.length:=by simpa using h
   have c:=c h;refine Z7 (k:=?_)
   unfold Q8e;rw [Q1J h,put] at b
   refine Q8 (fun a=>?_) (fun a=>?_)
   ·have a:gl l i=n:=by simpa using a
    rw [b,if_neg (by omega),if_pos a, <-Q1J h,List.take_append_drop]
   ·have a:gl l i≠n:=by simpa using a
    repeat (refine Z7 (k:=?_))
    rw [b,if_neg (by omega),if_neg a, <-Q1J h];simp
  ·have h:¬ i<l.length:=by simpa using h
   unfold Q8e;refine Q9 rfl ?_
   repeat (refine Z7 (k:=?_))
   have:i=l.length:=by omega
   subst this;simp [put] at b
   simp [b]
 unfold Z7M;refine Q8 (fun h=>?_) (fun h=>?_)
 ·have h:i<l.length:=by simpa using h
  refine Z7 (k:=?_);unfold Q8f
  refine Q8 (fun a=>?_) (fun a=>?_)
  ·have a:gl l i<n:=by simpa using a
   refine Z7 (k:=?_);refine e _ ⟨i+1,by omega,h,?_⟩ (by omega)
   rw [b,W0H n l i h a,y4 h,List.append_assoc];rfl
  ·exact k2 fun _=>by simpa using a
 ·unfold Q8f
  exact Q9 rfl (k2 fun f=>absurd f (by simpa using h))
def Q3a (r:Rect):Bool:=decide (0<=r.L_)&&(decide (r.L_<r.R_)&&(decide (r.R_<=16384)&&(decide (0<=r.w_)&&(decide (r.w_<r.H_)&&decide (r.H_<=16384)))))
theorem Q0v (r:Rect):Q3a r=true↔0<=r.L_/\r.L_<r.R_/\r.R_<=16384/\0<=r.w_/\r.w_<r.H_/\r.H_<=16384:=by simp [Q3a]
theorem Z3R (F:Nat) (r:Rect):Q3O F r=some (Q3a r):=by
 unfold Q3O;rw [Q3S (J1 F),Q3S (J1 F),Q3S (J1 F),Q3S (J1 F),Q3S (J1 F)]
 rfl
def Q0w (a b:Bool) (how:Int):Bool:=if how=1 then a||b else if how=2 then a&&b else a && !b
theorem Y1M (F:Nat) (a b:Bool) (how:Int):Z1j F a b how=some (Q0w a b how):=by
 unfold Z1j Q0w;rw [Y8F,Y8F]
 by_cases h1:how=1
 ·subst h1;cases a <;> cases b <;> rfl
 ·by_cases h2:how=2
  ·subst h2;cases a <;> cases b <;> rfl
  ·have c:(how==1)=false:=by simpa using h1
   have d:(how==2)=false:=by simpa using h2
   rw [c,d,if_neg h1,if_neg h2]
   cases a <;> cases b <;> rfl
theorem Z3S {F:Nat} (hF:BIG<=F) {l:List Rect} (hl:l.length<=LIM) (x y:Int):Q5D F l x y=some (inR l x y):=by
 unfold BIG at hF;unfold LIM at hl
 unfold Q5D;refine Y3M (l:=l) (fun m=>some (inR m x y)) (fun a i c d=>?_) (fun a=>?_) (by omega)
 ·unfold Z0k
  refine Y2 (Z0m c) ?_;refine Z7 (k:=?_)
  rw [Q3S (Q0o F i a),Q3S (Q0o F i a),Q3S (Q0o F i a)];unfold Q0o
  have e:inR (gl l i::l.drop (i+1)) x y=((gl l i).has x y||inR (l.drop (i+1)) x y):=rfl;rw [e]
  have b:(decide ((gl l i).L_<=x)&&(decide (x<(gl l i).R_)&&(decide ((gl l i).w_<=y)&&decide (y<(gl l i).H_))))=(gl l i).has x y:=by
   simp only [Rect.has,Bool.and_assoc]
  show br (decide ((gl l i).L_<=x)&&(decide (x<(gl l i).R_)&&(decide ((gl l i).w_<=y)&&decide (y<(gl l i).H_)))) _ _=_;rw [b]
  refine Q8 (fun h=>by rw [h];rfl) (fun h=>?_);refine Z7 (k:=?_)
  rw [d,h,Bool.false_or]
 ·unfold Z0k
  exact Q9 (Q2V _) rfl
def Z4B:List Rect->List Rect->Bool
 | [],[]=>true
 | a::l,b::m=>(a.L_==b.L_&&a.R_==b.R_)&&Z4B l m
 | _,_=>false
theorem Y2l:∀ {l m:List Rect},Z4B l m=true->l.length=m.length
 | [],[],_=>rfl
 | [],_::_,h=>by cases h
 | _::_,[],h=>by cases h
 | a::l,b::m,h=>by
  simp only [Z4B,Bool.and_eq_true] at h;simp [Y2l h.2]
theorem Y4Q:∀ (l m:List Rect),l.length=m.length->∀ i,i<=l.length->Z4B (l.drop i) (m.drop i)=if h:i<l.length then (((gl l i).L_==(gl m i).L_&&(gl l i).R_==(gl m i).R_)&&Z4B (l.drop (i+1)) (m.drop (i+1))) else true:=by
 intro l m h i b;split
 ·rename_i a
  rw [Q1J a,Q1J (l:=m) (by omega)];rfl
 ·have:i=l.length:=by omega
  rw [List.drop_of_length_le (by omega),List.drop_of_length_le (by omega)];rfl
theorem Y1L {F:Nat} (hF:BIG<=F) {l m:List Rect} (hl:l.length<=LIM):Z1i F l m=some (Z4B l m):=by
 unfold BIG at hF;unfold LIM at hl
 unfold Z1i;refine Q8 (fun h=>?_) (fun h=>?_)
 ·have h:l.length≠m.length:=by simp at h;omega
  cases hs:Z4B l m with
  | false=>rfl
  | true=>exact absurd (Y2l hs) h
 ·have h:l.length=m.length:=by simp at h;omega
  refine Y9 (fun z:Int=>∃ i:Nat,z=i/\i<=l.length/\Z4B l m=Z4B (l.drop i) (m.drop i)) (fun z=>l.length-z.toNat) (fun f z n g=>?_) ⟨0,rfl,by simp,by simp⟩ (by simp;omega);obtain ⟨i,rfl,j,a⟩:=n
  rw [Y4Q l m h i j] at a;unfold Z6s
  refine Q8 (fun b=>?_) (fun b=>?_)
  ·have b:i<l.length:=by simpa using b
   rw [dif_pos b] at a;refine Z7 (k:=?_)
   refine Z7 (k:=?_);have o:i<m.length:=by omega
   refine Q8 (fun d=>?_) (fun d=>?_)
   ·unfold Q6p
    refine Y2 rfl ?_;have d:(gl l i).L_≠(gl m i).L_:=by simpa using d
    have e:((gl l i).L_==(gl m i).L_)=false:=by simpa using d
    rw [a,e];rfl
   ·repeat (refine Z7 (k:=?_))
    have d:(gl l i).L_=(gl m i).L_:=by simpa using d
    have e:((gl l i).L_==(gl m i).L_)=true:=by simpa using d
    rw [e,Bool.true_and] at a;unfold Q6p
    refine Q8 (fun c=>?_) (fun c=>?_)
    ·have c:(gl l i).R_≠(gl m i).R_:=by simpa using c
     have e:((gl l i).R_==(gl m i).R_)=false:=by simpa using c
     rw [a,e];rfl
    ·have c:(gl l i).R_=(gl m i).R_:=by simpa using c
     have e:((gl l i).R_==(gl m i).R_)=true:=by simpa using c
     rw [e,Bool.true_and] at a;refine Z7 (k:=?_)
     exact g _ ⟨i+1,by omega,b,a⟩ (by omega)
  ·have b:¬ i<l.length:=by simpa using b
   rw [dif_neg b] at a;rw [a];rfl
section
theorem Y3c (l:List Int) (n v:Int):v ∈ put l n↔v=n\/v ∈ l:=by
 induction l with
 | nil=>simp [put]
 | cons a l ih=>
  unfold put;split
  ·rw [List.mem_cons,ih,List.mem_cons]
   constructor
   ·rintro (h|h|h);exact .inr (.inl h);exact .inl h;exact .inr (.inr h)
   ·rintro (h|h|h);exact .inr (.inl h);exact .inl h;exact .inr (.inr h)
  ·split
   ·rename_i h;subst h
    rw [List.mem_cons];constructor
    ·intro h;exact .inr h
    ·rintro (h|h);exact .inl h;exact h
   ·rw [List.mem_cons]
theorem Y6t {l:List Int} (h:Asc l) (n:Int):Asc (put l n):=by
 induction l with
 | nil=>exact List.pairwise_singleton _ _
 | cons a l ih=>
  obtain ⟨d,e⟩:=List.pairwise_cons.1 h;unfold put
  split
  ·rename_i c
   refine List.pairwise_cons.2 ⟨fun v b=>?_,ih e⟩;rcases (Y3c l n v).1 b with rfl|b
   ·exact c
   ·exact d v b
  ·split
   ·exact h
   ·refine List.pairwise_cons.2 ⟨fun v b=>?_,h⟩
    rcases List.mem_cons.1 b with rfl|b
    ·omega
    ·have:=d v b;omega
theorem Z5D (l:List Int) (n:Int):(put l n).length<=l.length+1:=by
 induction l with
 | nil=>simp [put]
 | cons a l ih=>
  unfold put;split
  ·simp;omega
  ·split <;> simp
def Q8p (l:List Rect) (xs:List Int):List Int:=l.foldl (fun xs r=>put (put xs r.L_) r.R_) xs
def Z0p (l:List Rect) (ys:List Int):List Int:=l.foldl (fun ys r=>put (put ys r.w_) r.H_) ys
theorem Q8o {f g:Rect->Int} (l:List Rect):∀ {xs:List Int},Asc xs->Asc (l.foldl (fun xs r=>put (put xs (f r)) (g r)) xs):=by
 induction l with
 | nil=>intro xs h;exact h
 | cons r l ih=>intro xs h;exact ih (Y6t (Y6t h _) _)
theorem Q0A {f g:Rect->Int} (l:List Rect):∀ (xs:List Int) (v:Int),v ∈ l.foldl (fun xs r=>put (put xs (f r)) (g r)) xs↔v ∈ xs\/∃ r ∈ l,v=f r\/v=g r:=by
 induction l with
 | nil=>intro xs v;simp
 | cons r l ih=>
  intro xs v;rw [List.foldl_cons,ih,Y3c,Y3c]
  constructor
  ·rintro ((h|h|h) | ⟨q,a,h⟩)
   ·exact .inr ⟨r,by simp,.inr h⟩
   ·exact .inr ⟨r,by simp,.inl h⟩
   ·exact .inl h
   ·exact .inr ⟨q,by simp [a],h⟩
  ·rintro (h|⟨q,a,h⟩)
   ·exact .inl (.inr (.inr h))
   ·rcases List.mem_cons.1 a with rfl|a
    ·rcases h with h|h
     ·exact .inl (.inr (.inl h))
     ·exact .inl (.inl h)
    ·exact .inr ⟨q,a,h⟩
theorem Z5K {f g:Rect->Int} (l:List Rect):∀ (xs:List Int),(l.foldl (fun xs r=>put (put xs (f r)) (g r)) xs).length<=xs.length+2*l.length:=by
 induction l with
 | nil=>intro xs;simp
 | cons r l ih=>
  intro xs;have c:=ih (put (put xs (f r)) (g r))
  have b:=Z5D (put xs (f r)) (g r);have a:=Z5D xs (f r)
  simp only [List.foldl_cons,List.length_cons];omega
section
variable {F:Nat}
theorem Y6n (hF:BIG<=F) {a b l:List Rect} {v:Int} (hv:0<=v/\v<=1) (hl:gl [a,b] v.toNat=l) {ag:(List Int×List Int×Int)->Option (List Rect)} {y:Option (List Rect)} {xs ys:List Int} (hx:xs.length+2*l.length<=1000000) (hy:ys.length+2*l.length<=1000000)
  (h:ag (Q8p l xs,Z0p l ys,v+1)=y):Z8 (fun again (z:List Int×List Int×Int)=>Q8P F a b v ag again z.1 z.2.1 z.2.2) F (xs,ys,0)=y:=by
 have d:=hF;unfold BIG at hF
 refine Y9 (fun z:List Int×List Int×Int=>∃ j:Nat,z.2.2=j/\j<=l.length/\Q8p (l.drop j) z.1=Q8p l xs/\Z0p (l.drop j) z.2.1=Z0p l ys/\z.1.length+2*(l.length-j)<=1000000/\z.2.1.length+2*(l.length-j)<=1000000)
  (fun z=>l.length-z.2.2.toNat) (fun again z p o=>?_) ⟨0,rfl,by omega,by simp,by simp,by simpa using hx,by simpa using hy⟩ (by simp;omega)
 obtain ⟨g,i,x⟩:=z;obtain ⟨j,m,n,e,f,r,q⟩:=p
 simp only at m e f r q;subst m
 unfold Q8P;simp only [hl,Int.toNat_natCast]
 refine Q8 (fun c=>?_) (fun c=>?_)
 ·have c:j<l.length:=by simpa using c
  refine Z7 (k:=?_);have w:=Z5D g (gl l j).L_
  have t:=Z5D (put g (gl l j).L_) (gl l j).R_;have s:=Z5D i (gl l j).w_
  have u:=Z5D (put i (gl l j).w_) (gl l j).H_;refine Q4 (Z0J d (by omega) _) ?_
  refine Q4 (Z0J d (by omega) _) ?_;refine Q4 (Z0J d (by omega) _) ?_
  refine Q4 (Z0J d (by omega) _) ?_;refine Z7 (k:=?_)
  refine o _ ⟨j+1,rfl,by omega,?_,?_,by simp only;omega,by simp only;omega⟩ (by simp only;omega)
  ·rw [<-e,Q1J c];rfl
  ·rw [<-f,Q1J c];rfl
 ·have c:¬ j<l.length:=by simpa using c
  have:j=l.length:=by omega
  subst this;rw [List.drop_length] at e f
  unfold Q8N;refine Z7 (k:=?_)
  have e:g=Q8p l xs:=e;have f:i=Z0p l ys:=f
  rw [e,f];exact h
theorem Z9c (lo hi:Int):G5 ⟨lo,hi,[]⟩=[]:=rfl
theorem Z5G (lo hi:Int) (l:List Span) (s:Span):G5 ⟨lo,hi,l++[s]⟩=G5 ⟨lo,hi,l⟩++[⟨s.L_,lo,s.R_,hi⟩]:=by simp [G5]
theorem Q0x (b:Rn (List Span)):(G5 b).length=b.v.length:=by simp [G5]
theorem Z3u {α:Type} [Emb α] (l:List α) (x:α) {n:Nat} (h:n=l.length):gl (l++[x]) n=x:=by subst h;simp [gl,List.getD_eq_getElem?_getD]
theorem Z7w {α:Type} (l:List α) (x y:α) {n:Nat} (h:n=l.length):(l++[x]).set n y=l++[y]:=by subst h;simp
theorem Y8x (hF:BIG<=F) {xs ys:List Int} {i k:Nat} {m:List Rect} {r:Rect} {ag:(Int×List Rect)->Option (List Rect)} {y:Option (List Rect)} (hk:k+1<xs.length) (hx:xs.length<=65536) (hm:m.length<=65536)
  (h:ag ((k:Int)+1,m++[⟨r.L_,r.w_,gl xs (k+1),r.H_⟩])=y):Q0u F xs ys i k (m++[r]) ag true=y:=by
 unfold BIG at hF;unfold Q0u
 refine Y2 rfl ?_;have c:(m++[r]).length=m.length+1:=by simp
 simp only [c];have a:(((m.length+1:Nat):Int)-1).toNat=m.length:=by omega
 have b:((k:Int)+1).toNat=k+1:=by omega
 rw [a,Z3u _ _ rfl,Z7w _ _ _ rfl,b]
 repeat (refine Z7 (k:=?_))
 exact h
theorem Y8y (hF:BIG<=F) {xs ys:List Int} {i k:Nat} {m:List Rect} {ag:(Int×List Rect)->Option (List Rect)} {y:Option (List Rect)} (hk:k+1<xs.length) (hi:i+1<ys.length) (hx:xs.length<=65536) (hy:ys.length<=65536) (hm:m.length<=65536)
  (h:ag ((k:Int)+1,m++[⟨gl xs k,gl ys i,gl xs (k+1),gl ys (i+1)⟩])=y):Q0u F xs ys i k m ag false=y:=by
 unfold BIG at hF;unfold Q0u
 refine Q9 rfl ?_;have b:((k:Int)+1).toNat=k+1:=by omega
 have a:((i:Int)+1).toNat=i+1:=by omega
 rw [b,a];simp only [Int.toNat_natCast]
 repeat (refine Z7 (k:=?_))
 exact h
theorem W0d (hF:BIG<=F) {a b:List Rect} {how:Int} {xs ys:List Int} {i:Nat} (hi:i+1<ys.length) (hx:xs.length<=65536) (hy:ys.length<=65536) (ha:a.length<=LIM) (hb:b.length<=LIM)
  (hst:Step false xs fun x=>Q0w (inR a x (gl ys i)) (inR b x (gl ys i)) how) {out last:List Rect} {ag:(Int×List Rect×List Rect)->Option (List Rect)} {y:Option (List Rect)}
  (h:∀ l:List Span,SpOk l->(∀ x,inS l x=Q0w (inR a x (gl ys i)) (inR b x (gl ys i)) how)->l.length<=65536->Q3k F ys i out last ag (G5 ⟨gl ys i,gl ys (i+1),l⟩)=y) :
  Z8 (fun again (z:Int×List Rect)=>Q8O F a b how xs ys i out last ag again z.1 z.2) F (0,[])=y:=by
 have j:=hF;unfold BIG at hF
 refine Y9 (fun z:Int×List Rect=>∃ (k:Nat) (l:List Span),z=((k:Int),G5 ⟨gl ys i,gl ys (i+1),l⟩)/\l.length<=k/\(k+1<=xs.length\/k=0)/\(0<xs.length->Bst false (fun x=>Q0w (inR a x (gl ys i)) (inR b x (gl ys i)) how) (l.map Span.rn) (gl xs k)))
  (fun z=>xs.length-z.1.toNat) (fun again z G v=>?_) ⟨0,[],rfl,Nat.le_refl _,.inr rfl,fun A=>hst.start A⟩ (by simp;omega)
 obtain ⟨k,l,rfl,E,K,g⟩:=G;simp only at v ⊢
 unfold Q8O;refine Z7 (k:=?_)
 refine Q8 (fun c=>?_) (fun c=>?_)
 ·have c:k+1<xs.length:=by simp at c;omega
  have g:=g (by omega);have p:=hst.asc.at_lt (show k<k+1 by omega) c
  simp only [Int.toNat_natCast]
  repeat (refine Z7 (k:=?_))
  refine Q4 (Z3S j ha _ _) ?_
  repeat (refine Z7 (k:=?_))
  refine Q4 (Z3S j hb _ _) ?_;refine Q4 (Y1M _ _ _ _) ?_
  have d:=hst.gap k c;refine Q8 (fun m=>?_) (fun m=>?_)
  ·have m:Q0w (inR a (gl xs k) (gl ys i)) (inR b (gl xs k) (gl ys i)) how=false:=by simpa using m
   unfold Q3l;refine Z7 (k:=?_)
   exact v _ ⟨k+1,l,rfl,by omega,.inl (by omega),fun _=>g.skip (by omega) fun t C w=>(d t C w).trans m⟩ (by simp only;omega)
  ·have m:Q0w (inR a (gl xs k) (gl ys i)) (inR b (gl xs k) (gl ys i)) how=true:=by simpa using m
   have e:(∀ s,l.getLast?=some s->s.R_≠gl xs k)->Q0u F xs ys i k (G5 ⟨gl ys i,gl ys (i+1),l⟩) again false=y:=by
    intro B;refine Y8y j c hi hx hy (by rw [Q0x];simp only;omega) (v _ ⟨k+1,l++[⟨gl xs k,gl xs (k+1)⟩],by rw [Z5G];rfl,by simp;omega,.inl (by omega),fun _=>?_⟩ (by simp only;omega))
    have:=g.add p d (fun q n I=>by
     rw [List.getLast?_map] at n
     cases f:l.getLast? with
     | none=>rw [f] at n;cases n
     | some s=>rw [f] at n;cases n;exact absurd I (B s f))
    simp only [m] at this;rw [List.map_append];exact this
   rcases List.eq_nil_or_concat l with rfl|⟨o,s,r⟩
   ·refine Q9 (by simp [Z9c]) ?_
    exact e fun s f=>by simp at f
   ·rw [List.concat_eq_append] at r
    subst r;rw [Z5G] at e ⊢
    have u:(G5 ⟨gl ys i,gl ys (i+1),o⟩++[(⟨s.L_,gl ys i,s.R_,gl ys (i+1)⟩:Rect)]).length=o.length+1:=by simp [Q0x]
    have J:o.length+1<=k:=by simpa using E
    simp only [u];have H:(((o.length+1:Nat):Int)-1).toNat=o.length:=by omega
    rw [H,Z3u _ _ (by rw [Q0x])];refine Y2 (by simp) ?_
    repeat (refine Z7 (k:=?_))
    by_cases f:s.R_=gl xs k
    ·have D:(s.R_==gl xs k)=true:=by simpa using f
     simp only [D];refine Y8x j c hx (by rw [Q0x];simp only;omega) (v _ ⟨k+1,o ++ [⟨s.L_,gl xs (k+1)⟩],by rw [Z5G];rfl,by simp only [List.length_append,List.length_cons,List.length_nil];omega,.inl (by omega),fun _=>?_⟩ (by simp only;omega))
     rw [List.map_append] at g;have:=g.grow (a:=s.rn) f p fun t C w=>(d t C w).trans m
     rw [List.map_append];exact this
    ·have D:(s.R_==gl xs k)=false:=by simpa using f
     simp only [D];exact e fun q n=>by simp at n;subst n;exact f
 ·have c:¬ k+1<xs.length:=by simp at c;omega
  by_cases A:xs.length=0
  ·have:k=0:=by omega
   subst this;have:l=[]:=List.eq_nil_of_length_eq_zero (by omega)
   subst this;exact h [] .nil (fun x=>(hst.empty A x).symm) (by simp)
  ·have g:=g (by omega)
   exact h l (.of_runs g.runs) (fun x=>by rw [Z7W];exact hst.done (by omega) g x) (by omega)
theorem W0M {α:Type} [Emb α] (l m:List α) (x:α) {n:Nat} (h:n=l.length):gl (l++x::m) n=x:=by subst h;simp [gl,List.getD_eq_getElem?_getD]
theorem Y9u {α:Type} (l m:List α) (x y:α) {n:Nat} (h:n=l.length):(l++x::m).set n y=l++y::m:=by subst h;simp
theorem Y8z (hF:BIG<=F) {ys:List Int} {i:Nat} (hi:i+1<ys.length) (hy:ys.length<=65536) {out:List Rect} {lo hi' : Int} {l:List Span} (hl:l.length<=65536) {ag:(Int×List Rect×List Rect)->Option (List Rect)} {y:Option (List Rect)}
  (h:ag ((i:Int)+1,out,G5 ⟨lo,gl ys (i+1),l⟩)=y) :
  Z8 (fun again (z:Int×List Rect)=>Q8c F ys i out (G5 ⟨lo,hi',l⟩) ag again z.1 z.2) F (0,G5 ⟨lo,hi',l⟩)=y:=by
 unfold BIG at hF;refine Y9 (fun z:Int×List Rect=>∃ j:Nat,z=((j:Int),G5 ⟨lo,gl ys (i+1),l.take j⟩++G5 ⟨lo,hi',l.drop j⟩)/\j<=l.length) (fun z=>l.length-z.1.toNat) (fun again z m c=>?_) ⟨0,by simp [G5],by omega⟩ (by simp;omega)
 obtain ⟨j,rfl,n⟩:=m;simp only at c ⊢
 have f:((i:Int)+1).toNat=i+1:=by omega
 unfold Q8c;rw [Q0x]
 simp only
 refine Q8 (fun a=>?_) (fun a=>?_)
 ·have a:j<l.length:=by simpa using a
  refine Z7 (k:=?_);refine Z7 (k:=?_)
  have g:l.drop j=l[j]::l.drop (j+1):=List.drop_eq_getElem_cons a;have b:(G5 ⟨lo,gl ys (i+1),l.take j⟩++G5 ⟨lo,hi',l.drop j⟩).length=l.length:=by
   rw [List.length_append,Q0x,Q0x];simp;omega
  refine Z3 (by rw [b];omega) ?_;refine Z7 (k:=?_)
  rw [f];simp only [Int.toNat_natCast]
  have e:G5 ⟨lo,hi',l.drop j⟩=(⟨(l[j]).L_,lo,(l[j]).R_,hi'⟩:Rect)::G5 ⟨lo,hi',l.drop (j+1)⟩:=by rw [g];rfl
  have d:j=(G5 ⟨lo,gl ys (i+1),l.take j⟩).length:=by rw [Q0x];simp;omega
  rw [e,W0M _ _ _ d,Y9u _ _ _ _ d];refine c _ ⟨j+1,?_,a⟩ (by simp only;omega)
  rw [List.take_succ_eq_append_getElem a,Z5G];simp
 ·have a:¬ j<l.length:=by simpa using a
  have:j=l.length:=by omega
  subst this;unfold Q8b Q2H
  refine Z7 (k:=?_);rw [List.take_length,List.drop_length,Z9c,List.append_nil]
  exact h
structure RowSt (rowf:Int->List Span) (c:Int) (n:Nat) (out last:List Rect):Prop where
 ex:∃ acc,Bst [] rowf acc c/\(∀ r ∈ acc,r.v≠[])/\((last=[]/\out=flat acc/\∀ r ∈ acc,r.hi<c)\/∃ acc' b,acc=acc' ++ [b]/\b.hi=c/\last=G5 b/\out=flat acc' /\ b.v.length<=65536)
 len:out.length+last.length<=n*65536
theorem Y4f (a b:List (Rn (List Span))):flat (a++b)=flat a++flat b:=by simp [flat]
theorem Y4e (b:Rn (List Span)):flat [b]=G5 b:=by simp [flat]
theorem Z9r (lo hi lo' hi' : Int):∀ (l m:List Span),Z4B (G5 ⟨lo,hi,l⟩) (G5 ⟨lo',hi',m⟩)=decide (l=m)
 | [],[]=>rfl
 | [],b::m=>rfl
 | a::l,[]=>rfl
 | a::l,b::m=>by
  have g:=Z9r lo hi lo' hi' l m;have f:G5 ⟨lo,hi,a::l⟩=(⟨a.L_,lo,a.R_,hi⟩:Rect)::G5 ⟨lo,hi,l⟩:=rfl
  have i:G5 ⟨lo',hi',b::m⟩=(⟨b.L_,lo',b.R_,hi'⟩:Rect)::G5 ⟨lo',hi',m⟩:=rfl;rw [f,i,Z4B,g]
  cases a;cases b
  rw [Bool.eq_iff_iff];constructor
  ·intro h
   rw [Bool.and_eq_true,Bool.and_eq_true] at h;obtain ⟨⟨c,d⟩,e⟩:=h
   have c:=eq_of_beq c;have d:=eq_of_beq d
   have e:=of_decide_eq_true e;simp only at c d
   rw [c,d,e];exact decide_eq_true rfl
  ·intro h
   have h:=of_decide_eq_true h
   injection h with c d
   injection c with e h4
   subst d;subst e;subst h4
   rw [Bool.and_eq_true,Bool.and_eq_true];exact ⟨⟨beq_self_eq_true _,beq_self_eq_true _⟩,decide_eq_true rfl⟩
theorem W0b (hF:BIG<=F) {ys:List Int} {i:Nat} (hi:i+1<ys.length) (hy:ys.length<=65536) {rowf:Int->List Span} (hst:Step [] ys rowf) {out last:List Rect} (hR:RowSt rowf (gl ys i) i out last)
  {ag:(Int×List Rect×List Rect)->Option (List Rect)} {y:Option (List Rect)} (hlen:(rowf (gl ys i)).length<=65536)
  (h:∀ out' last',RowSt rowf (gl ys (i+1)) (i+1) out' last' -> ag ((i:Int)+1,out',last')=y) :
  Q3k F ys i out last ag (G5 ⟨gl ys i,gl ys (i+1),rowf (gl ys i)⟩)=y:=by
 have o:=hF;unfold BIG at hF
 obtain ⟨⟨e,C,f,n⟩,B⟩:=hR;have p:=hst.asc.at_lt (show i<i+1 by omega) hi
 have d:=hst.gap i hi;have H:i*65536<=65536*65536:=Nat.mul_le_mul_right _ (by omega)
 generalize hv:rowf (gl ys i)=v at *;have j:(∀ a,e.getLast?=some a->a.hi=gl ys i->a.v≠v)->flat e=out++last->Q4N F i out last (G5 ⟨gl ys i,gl ys (i+1),v⟩) ag=y:=by
  intro D u;unfold Q4N Q2H
  refine Z7 (k:=?_);refine Z7 (k:=?_)
  refine h _ _ ⟨?_,?_⟩
  ·by_cases hv0:v=[]
   ·subst hv0
    exact ⟨e,C.skip (by omega) fun t z x=>d t z x,f,.inl ⟨Z9c _ _,u.symm,fun r c=>by have:=C.le r c;omega⟩⟩
   ·refine ⟨e++[⟨gl ys i,gl ys (i+1),v⟩],?_,fun r c=>?_,.inr ⟨e,_,rfl,rfl,rfl,u.symm,hlen⟩⟩
    ·have:=C.add p (fun t z x=>(d t z x).trans hv.symm) (fun a m E=>by rw [hv];exact D a m E)
     rw [hv] at this;exact this
    ·rcases List.mem_append.1 c with c|c
     ·exact f r c
     ·rw [List.mem_singleton.1 c];exact hv0
  ·rw [List.length_append,Q0x,Nat.add_mul];simp only;omega
 unfold Q3k;rcases n with ⟨rfl,rfl,G⟩|⟨g,b,rfl,s,rfl,rfl,A⟩
 ·refine Q9 rfl ?_
  unfold Q0Y;refine Q9 rfl ?_
  exact j (fun a m E=>by have:=G a (List.mem_of_getLast? m);omega) (by simp)
 ·have q:b.v≠[]:=f b (by simp)
  have w:0<b.v.length:=by
   cases hh:b.v with
   | nil=>exact absurd hh q
   | cons _ _=>simp
  have J:G5 b=G5 ⟨b.lo,b.hi,b.v⟩:=rfl;refine Y2 (by rw [Q0x];simpa using w) ?_
  refine Q4 (Y1L o (by rw [Q0x];unfold LIM;omega)) ?_;rw [J,Z9r]
  refine Q8 (fun l=>?_) (fun l=>?_)
  ·have l:b.v=v:=of_decide_eq_true l
   refine Z3 (by rw [Q0x];simp only;omega) ?_;refine Z7 (k:=?_)
   have K:((gl (G5 ⟨b.lo,b.hi,b.v⟩) (0:Int).toNat).H_==gl ys (i:Int).toNat)=true:=by
    have:gl (G5 ⟨b.lo,b.hi,b.v⟩) (0:Int).toNat=(⟨(b.v[0]).L_,b.lo,(b.v[0]).R_,b.hi⟩:Rect):=by
     have:0<(G5 ⟨b.lo,b.hi,b.v⟩).length:=by rw [Q0x];exact w
     show gl (G5 ⟨b.lo,b.hi,b.v⟩) 0=_;rw [z8 this];simp [G5]
    rw [this];simpa using s
   rw [K];unfold Q0Y
   refine Y2 rfl ?_;refine Y8z o hi hy A ?_
   have I:=C.grow s p fun t z x=>(d t z x).trans l.symm
   refine h _ _ ⟨⟨g ++ [⟨b.lo,gl ys (i+1),b.v⟩],I,fun r c=>?_,.inr ⟨g,_,rfl,rfl,rfl,rfl,A⟩⟩,?_⟩
   ·rcases List.mem_append.1 c with c|c
    ·exact f r (by simp [c])
    ·rw [List.mem_singleton.1 c];exact q
   ·rw [Q0x] at B ⊢;rw [Nat.add_mul];exact Nat.le_trans B (Nat.le_add_right _ _)
  ·have l:b.v≠v:=of_decide_eq_false l
   unfold Q0Y;refine Q9 rfl ?_
   exact j (fun a m E=>by rw [List.getLast?_append] at m;simp at m;subst m;exact l) (by rw [Y4f,Y4e])
theorem W0c (hF:BIG<=F) {a b:List Rect} {how:Int} {xs ys:List Int} (hx:xs.length<=65536) (hy:ys.length<=65536) (ha:a.length<=LIM) (hb:b.length<=LIM)
  (hG:Grid xs ys fun x y=>Q0w (inR a x y) (inR b x y) how):Q5F F a b how xs ys=some (cn fun x y=>Q0w (inR a x y) (inR b x y) how):=by
 have h:=hF;unfold BIG at hF
 unfold Q5F;have d:=hG.step
 have e:=hG.rows;refine Y9 (fun z:Int×List Rect×List Rect=>∃ (i:Nat),z.1=(i:Int)/\((ys.length=0/\i=0/\z.2.1=[]/\z.2.2=[])\/(i+1<=ys.length/\RowSt (fun y=>spn fun x=>Q0w (inR a x y) (inR b x y) how) (gl ys i) i z.2.1 z.2.2)))
  (fun z=>ys.length-z.1.toNat) (fun g z J B=>?_) ⟨0,rfl,?_⟩ (by simp;omega)
 ·obtain ⟨O,L,G⟩:=z
  obtain ⟨i,p,f⟩:=J;simp only at p f B ⊢
  subst p;unfold Z2E
  refine Z7 (k:=?_);rcases f with ⟨j,rfl,rfl,rfl⟩|⟨p,D⟩
  ·refine Q9 (by simp [j]) ?_
   unfold Q4M;refine Z7 (k:=?_)
   have:=Step.cn e d .nil (fun t=>(d.empty j t).symm) (fun b hb=>by cases hb)
   rw [this.1];rfl
  ·refine Q8 (fun c=>?_) (fun c=>?_)
   ·have c:i+1<ys.length:=by simp at c;omega
    refine W0d h c hx hy ha hb (hG.x _) fun l H I s=>?_
    have w:spn (fun x=>Q0w (inR a x (gl ys i)) (inR b x (gl ys i)) how)=l:=Z8A H I;have:=W0b h c hy d D (ag:=g) (y:=some (cn fun x y=>Q0w (inR a x y) (inR b x y) how)) (by rw [w];exact s) fun v o n=>B _ ⟨i+1,rfl,.inr ⟨by omega,n⟩⟩ (by simp only;omega)
    rw [w] at this;exact this
   ·have c:¬ i+1<ys.length:=by simp at c;omega
    unfold Q4M;obtain ⟨⟨M,A,q,K⟩,C⟩:=D
    have E:i*65536<=65536*65536:=Nat.mul_le_mul_right _ (by omega);refine Z7 (k:=?_)
    have:=Step.cn e d A.runs (fun t=>d.done (by omega) A t) q
    rw [this.1];rcases K with ⟨rfl,rfl,_⟩|⟨u,N,rfl,_,rfl,rfl,_⟩
    ·simp
    ·rw [Y4f,Y4e]
 ·by_cases j:ys.length=0
  ·exact .inl ⟨j,rfl,rfl,rfl⟩
  ·exact .inr ⟨by omega,⟨⟨[],d.start (by omega),fun r m=>(by cases m),.inl ⟨rfl,rfl,fun r m=>(by cases m)⟩⟩,by simp⟩⟩
theorem Y4k (a b:List Rect) (how:Int):Grid (Q8p b (Q8p a [])) (Z0p b (Z0p a [])) fun x y=>Q0w (inR a x y) (inR b x y) how:=
 Grid.of (Q8o b (Q8o a .nil)) (Q8o b (Q8o a .nil))
  (fun r c=>⟨(Q0A b _ _).2 (.inl ((Q0A a _ _).2 (.inr ⟨r,c,.inl rfl⟩))),(Q0A b _ _).2 (.inl ((Q0A a _ _).2 (.inr ⟨r,c,.inr rfl⟩)))⟩)
  (fun r c=>⟨(Q0A b _ _).2 (.inr ⟨r,c,.inl rfl⟩),(Q0A b _ _).2 (.inr ⟨r,c,.inr rfl⟩)⟩)
  (fun r c=>⟨(Q0A b _ _).2 (.inl ((Q0A a _ _).2 (.inr ⟨r,c,.inl rfl⟩))),(Q0A b _ _).2 (.inl ((Q0A a _ _).2 (.inr ⟨r,c,.inr rfl⟩)))⟩)
  (fun r c=>⟨(Q0A b _ _).2 (.inr ⟨r,c,.inl rfl⟩),(Q0A b _ _).2 (.inr ⟨r,c,.inr rfl⟩)⟩)
  (k:=fun p q=>Q0w p q how) (by show Q0w false false how=false;unfold Q0w;split;rfl;split <;> rfl)
theorem Z2D (hF:BIG<=F) {a b:List Rect} {how:Int} (ha:a.length<=200000) (hb:b.length<=200000) (hx:(Q8p b (Q8p a [])).length<=65536) (hy:(Z0p b (Z0p a [])).length<=65536) :
  U3 F a b how=some (cn fun x y=>Q0w (inR a x y) (inR b x y) how):=by
 have d:=hF;unfold BIG at hF
 have h:=Y4k a b how;have j:=W0c d hx hy (by unfold LIM;omega) (by unfold LIM;omega) h
 have i:=Z5K (f:=Rect.L_) (g:=Rect.R_) a [];have o:=Z5K (f:=Rect.w_) (g:=Rect.H_) a []
 have n:∀ c:(List Int×List Int×Int)->Option (List Rect),Q3m F a b how c (Q8p b (Q8p a [])) (Z0p b (Z0p a [])) 2=some (cn fun x y=>Q0w (inR a x y) (inR b x y) how):=fun c=>by
  unfold Q3m;exact Q9 rfl j
 have p:(Q8p a []).length<=2*a.length:=by have:=i;simpa [Q8p] using this
 have q:(Z0p a []).length<=2*a.length:=by have:=o;simpa [Z0p] using this
 unfold U3;refine Y9 (fun z:List Int×List Int×Int=>z=([],[],0)\/z=(Q8p a [],Z0p a [],1)\/z=(Q8p b (Q8p a []),Z0p b (Z0p a []),2)) (fun z=>2-z.2.2.toNat) (fun c z m e=>?_) (.inl rfl) (by simp;omega)
 rcases m with rfl|rfl|rfl
 ·simp only
  unfold Q3m;refine Y2 rfl ?_
  refine Z7 (k:=?_);refine Y6n d (l:=a) (by omega) rfl (by simp;omega) (by simp;omega) ?_
  exact e _ (.inr (.inl rfl)) (by simp)
 ·simp only
  unfold Q3m;refine Y2 rfl ?_
  refine Z7 (k:=?_);refine Y6n d (l:=b) (by omega) rfl (xs:=Q8p a []) (ys:=Z0p a []) (by omega) (by omega) ?_
  exact e _ (.inr (.inr rfl)) (by simp)
 ·exact n c
end
end
section
theorem Y8i {xs ys:List Int} {S:Int->Int->Bool} (h:Grid xs ys S):Fin S:=by
 have d:=h.step
 by_cases h0:ys.length=0
 ·exact (Step.cn h.rows d .nil (fun t=>(d.empty h0 t).symm) (fun b w=>by cases w)).2
 ·have n:∀ i,i+1<=ys.length->∃ g,Bst [] (fun y=>spn fun x=>S x y) g (gl ys i)/\∀ r ∈ g,r.v≠[]:=by
   intro i
   induction i with
   | zero=>intro _;exact ⟨[],d.start (by omega),fun r c=>by cases c⟩
   | succ i ih=>
    intro z;obtain ⟨g,l,f⟩:=ih (by omega)
    have k:=d.asc.at_lt (show i<i+1 by omega) (by omega);have e:=d.gap i (by omega)
    by_cases hv:spn (fun x=>S x (gl ys i))=[]
    ·exact ⟨g,l.skip (by omega) fun t q p=>(e t q p).trans hv,f⟩
    ·rcases List.eq_nil_or_concat g with rfl|⟨s,b,j⟩
     ·refine ⟨_,l.add k e (fun a m=>by simp at m),fun r c=>?_⟩
      simp at c;rw [c];exact hv
     ·rw [List.concat_eq_append] at j
      subst j
      by_cases hm:b.hi=gl ys i/\b.v=spn fun x=>S x (gl ys i)
      ·refine ⟨_,l.grow hm.1 k fun t q p=>(e t q p).trans hm.2.symm,fun r c=>?_⟩
       rcases List.mem_append.1 c with c|c
       ·exact f r (by simp [c])
       ·rw [List.mem_singleton.1 c];exact f b (by simp)
      ·refine ⟨_,l.add k e (fun a m u o=>?_),fun r c=>?_⟩
       ·simp at m;subst m;exact hm ⟨u,o⟩
       ·rcases List.mem_append.1 c with c|c
        ·exact f r c
        ·rw [List.mem_singleton.1 c];exact hv
  obtain ⟨g,l,f⟩:=n (ys.length-1) (by omega);exact (Step.cn h.rows d l.runs (fun t=>d.done (by omega) l t) f).2
theorem Q6u (a b:List Rect) (how:Int):Fin fun x y=>Q0w (inR a x y) (inR b x y) how:=Y8i (Y4k a b how)
theorem Y7M (l:List Rect):(fun x y=>Q0w (inR l x y) (inR [] x y) 1)=inR l:=by
 funext x y;simp [Q0w,inR]
theorem G6 (l:List Rect):Fin (inR l):=by have:=Q6u l [] 1;rwa [Y7M] at this
theorem Z0Q (l:List Rect):Q2R l↔cn (inR l)=l:=⟨fun h=>h.eq_cn.symm,fun h=>by rw [<-h];exact Q2R.cn (G6 l)⟩
theorem Z3B {l:List Rect}:(Q8p l []).length<=2*l.length:=by have:=Z5K (f:=Rect.L_) (g:=Rect.R_) l [];simpa [Q8p] using this
theorem Y5s {l:List Rect}:(Z0p l []).length<=2*l.length:=by have:=Z5K (f:=Rect.w_) (g:=Rect.H_) l [];simpa [Z0p] using this
theorem Z9A {a b:List Rect}:(Q8p b (Q8p a [])).length<=2*a.length+2*b.length:=by
 have c:=Z5K (f:=Rect.L_) (g:=Rect.R_) b (Q8p a []);have d:=Z3B (l:=a)
 have c:(Q8p b (Q8p a [])).length<=(Q8p a []).length+2*b.length:=c;omega
theorem Y4l {a b:List Rect}:(Z0p b (Z0p a [])).length<=2*a.length+2*b.length:=by
 have c:=Z5K (f:=Rect.w_) (g:=Rect.H_) b (Z0p a []);have d:=Y5s (l:=a)
 have c:(Z0p b (Z0p a [])).length<=(Z0p a []).length+2*b.length:=c;omega
theorem Q5W {F:Nat} (hF:BIG<=F) {a b:List Rect} {how:Int} (h:a.length+b.length<=32768):U3 F a b how=some (cn fun x y=>Q0w (inR a x y) (inR b x y) how):=
 Z2D hF (by omega) (by omega) (by have:=Z9A (a:=a) (b:=b);omega) (by have:=Y4l (a:=a) (b:=b);omega)
theorem Z1L {F:Nat} (hF:BIG<=F) {l:List Rect} (h:l.length<=32768):U3 F l [] 1=some (cn (inR l)):=by
 rw [Q5W hF (by simpa using h),Y7M]
theorem Z3q {α:Type} [Emb α] [DecidableEq α] (l m:List α) (h:l.length=m.length) (i:Nat) (hi:i<l.length):decide (l.drop i=m.drop i)=(decide (gl l i=gl m i)&&decide (l.drop (i+1)=m.drop (i+1))):=by
 rw [Q1J hi,Q1J (l:=m) (by omega)];rw [Bool.eq_iff_iff,Bool.and_eq_true,decide_eq_true_iff,decide_eq_true_iff,decide_eq_true_iff,List.cons.injEq]
theorem Y5Q (r s:Rect):((r.L_==s.L_)&&((r.w_==s.w_)&&((r.R_==s.R_)&&((r.H_==s.H_)&&true))))=decide (r=s):=by
 cases r;cases s
 rw [Bool.eq_iff_iff,decide_eq_true_iff];simp
theorem Y0R {F:Nat} (hF:BIG<=F) {l m:List Rect} (hm:m.length<=LIM):Q9D F l m=some (decide (l=m)):=by
 unfold BIG at hF;unfold LIM at hm
 unfold Q9D;refine Q8 (fun h=>?_) (fun h=>?_)
 ·have h:l.length≠m.length:=by simp at h;omega
  rw [decide_eq_false fun e=>h (by rw [e])]
 ·have h:l.length=m.length:=by simp at h;omega
  refine Y9 (fun z:Int=>∃ i:Nat,z=i/\i<=l.length/\decide (l=m)=decide (l.drop i=m.drop i)) (fun z=>l.length-z.toNat) (fun d z g f=>?_) ⟨0,rfl,by omega,by simp⟩ (by simp;omega);obtain ⟨i,rfl,j,c⟩:=g
  unfold Z4V;refine Q8 (fun b=>?_) (fun b=>?_)
  ·have b:i<l.length:=by simpa using b
   rw [Z3q l m h i b] at c;refine Z7 (k:=?_)
   refine Z7 (k:=?_);rw [Y5Q]
   refine Q8 (fun a=>?_) (fun a=>?_)
   ·have a:decide (gl l i=gl m i)=false:=by simpa using a
    rw [c,a];rfl
   ·have a:decide (gl l i=gl m i)=true:=by simpa using a
    rw [a,Bool.true_and] at c;refine Z7 (k:=?_)
    exact f _ ⟨i+1,by omega,b,c⟩ (by omega)
  ·have b:¬ i<l.length:=by simpa using b
   have:i=l.length:=by omega
   rw [c,List.drop_of_length_le (by omega),List.drop_of_length_le (by omega),decide_eq_true rfl];rfl
def Val (l:List Rect):Prop:=l.length<=120/\(∀ r ∈ l,Q3a r=true)/\Q2R l
open Classical in
noncomputable def Q3D (l:List Rect):Bool:=decide (Val l)
theorem Q0P (l:List Rect):Q3D l=true↔Val l:=by unfold Q3D;exact @decide_eq_true_iff (Val l) (Classical.propDecidable _)
theorem Q8F {l:List Rect} (h:¬ Val l):Q3D l=false:=by rw [<-Bool.not_eq_true,Q0P];exact h
theorem Q3f {l:List Rect} (h:Val l):Q3D l=true:=(Q0P l).2 h
theorem Y8Q {α:Type} [Emb α] {l:List α} {p:α->Prop} {i:Nat} (h:i<l.length):(∀ x ∈ l.drop i,p x)↔p (gl l i)/\∀ x ∈ l.drop (i+1),p x:=by rw [Q1J h];simp
theorem Q1l {F:Nat} (hF:BIG<=F) (a:Re_):Q0N F a=some (Q3D a.t_):=by
 have d:=hF;unfold BIG at hF
 obtain ⟨l⟩:=a;simp only
 unfold Q0N;refine Q8 (fun h=>?_) (fun h=>?_)
 ·have h:120<l.length:=by simp at h;omega
  rw [Q8F fun f=>by have:=f.1;omega]
 ·have h:l.length<=120:=by simp at h;omega
  refine Y9 (fun z:Int=>∃ i:Nat,z=i/\i<=l.length/\((∀ r ∈ l,Q3a r=true)↔∀ r ∈ l.drop i,Q3a r=true)) (fun z=>l.length-z.toNat) (fun g z m j=>?_) ⟨0,rfl,by omega,by simp⟩ (by simp;omega);obtain ⟨i,rfl,n,e⟩:=m
  unfold Z4T;simp only
  refine Q8 (fun c=>?_) (fun c=>?_)
  ·have c:i<l.length:=by simpa using c
   rw [Y8Q (p:=fun r=>Q3a r=true) c] at e;refine Z7 (k:=?_)
   refine Q4 (Z3R _ _) ?_;refine Q8 (fun b=>?_) (fun b=>?_)
   ·have b:Q3a (gl l i)=false:=by simpa using b
    rw [Q8F fun f=>by have:=(e.1 f.2.1).1;rw [b] at this;cases this]
   ·have b:Q3a (gl l i)=true:=by simpa using b
    refine Z7 (k:=?_);exact j _ ⟨i+1,by omega,c,e.trans ⟨fun h=>h.2,fun h=>⟨b,h⟩⟩⟩ (by omega)
  ·have c:¬ i<l.length:=by simpa using c
   rw [List.drop_of_length_le (by omega)] at e;unfold Z1k
   refine Q4 (Z1L d (by simp only;omega)) ?_;refine Q4 (Y0R d (by unfold LIM;simp only;omega)) ?_
   simp only
   by_cases hc:cn (inR l)=l
   ·rw [decide_eq_true hc,Q3f ⟨h,e.2 (by simp),(Z0Q l).2 hc⟩]
   ·rw [decide_eq_false hc,Q8F fun f=>hc ((Z0Q l).1 f.2.2)]
theorem Y0T {F:Nat} (l:List Rect):Q9G F l=some (if 120<l.length then (⟨[]⟩,1) else (⟨l⟩,0)):=by
 unfold Q9G;refine Q8 (fun h=>?_) (fun h=>?_)
 ·have h:120<l.length:=by simp at h;omega
  rw [if_pos h]
 ·have h:¬ 120<l.length:=by simp at h;omega
  rw [if_neg h]
theorem Y3L {F:Nat} (hF:BIG<=F) {l:List Rect} (hl:l.length<=120) (hp:∀ r ∈ l,Q3a r=true):Z4X F l=some (if 120<(cn (inR l)).length then (⟨[]⟩,1) else (⟨cn (inR l)⟩,0)):=by
 have b:=hF;unfold BIG at hF
 unfold Z4X;refine Q9 (by simp;omega) ?_
 refine Y9 (fun z:Int=>∃ i:Nat,z=i/\i<=l.length) (fun z=>l.length-z.toNat) (fun c z e d=>?_) ⟨0,rfl,by omega⟩ (by simp;omega);obtain ⟨i,rfl,f⟩:=e
 unfold Z9t;refine Q8 (fun a=>?_) (fun a=>?_)
 ·have a:i<l.length:=by simpa using a
  refine Z7 (k:=?_);refine Q4 (Z3R _ _) ?_
  refine Q9 (by rw [Int.toNat_natCast,hp _ (V7 a)];rfl) ?_;refine Z7 (k:=?_)
  exact d _ ⟨i+1,by omega,a⟩ (by omega)
 ·unfold Z4W
  refine Q4 (Z1L b (by omega)) ?_;refine Q4 (Y0T _) ?_
  rfl
end
section
open Go.Sort
def Srt (l:List Int):Prop:=l.Pairwise (· <= ·)
theorem Y7x {l:List Int} (hl:l.length<=LIM):∃ r,Z6j l=some r/\Srt r/\(∀ v,v ∈ r↔v ∈ l)/\r.length=l.length:=by
 refine ⟨l.mergeSort fun x y=>decide (x<=y),by unfold Z6j;rw [if_pos hl],?_,fun v=>List.mem_mergeSort,List.length_mergeSort l⟩;have:=List.pairwise_mergeSort (le:=fun x y:Int=>decide (x<=y)) (fun a b c d e=>by simp at *;omega) (fun a b=>by simp;omega) l
 exact this.imp fun h=>by simpa using h
def dd:List Int->List Int
 | []=>[]
 | [a]=>[a]
 | a::b::l=>if a=b then dd (b::l) else a::dd (b::l)
theorem Y0g (l:List Int) (x:Int):dd (l++[x])=if l.getLast?=some x then dd l else dd l++[x]:=by
 match l with
 | []=>simp [dd]
 | [a]=>by_cases h:a=x <;> simp [dd,h]
 | a::b::l=>
  have c:=Y0g (b::l) x;have e:(a::b::l).getLast?=(b::l).getLast?:=by simp [List.getLast?_cons]
  rw [e]
  by_cases h:a=b
  ·simp only [List.cons_append,dd,h,if_true] at c ⊢
   exact c
  ·simp only [List.cons_append,dd,h,if_false] at c ⊢
   rw [c];split <;> rfl
theorem Y3d (l:List Int) (v:Int):v ∈ dd l↔v ∈ l:=by
 match l with
 | []=>simp [dd]
 | [a]=>simp [dd]
 | a::b::l=>
  have c:=Y3d (b::l) v;unfold dd
  split
  ·rename_i h;subst h;rw [c];simp
  ·rw [List.mem_cons,c,List.mem_cons (a:=v) (b:=a)]
theorem Y5r (l:List Int) (h:Srt l):Asc (dd l):=by
 match l with
 | []=>exact .nil
 | [a]=>exact List.pairwise_singleton _ _
 | a::b::l=>
  obtain ⟨g,e⟩:=List.pairwise_cons.1 h;have d:=Y5r (b::l) e
  unfold dd;split
  ·exact d
  ·rename_i f
   refine List.pairwise_cons.2 ⟨fun v c=>?_,d⟩;rw [Y3d] at c
   have:=g b (by simp)
   rcases List.mem_cons.1 c with rfl|c
   ·omega
   ·have:=(List.pairwise_cons.1 e).1 v c;omega
theorem Y5q (l:List Int):(dd l).length<=l.length:=by
 match l with
 | []=>simp [dd]
 | [a]=>simp [dd]
 | a::b::l=>
  have c:=Y5q (b::l);unfold dd
  split
  ·simp at c ⊢;omega
  ·simp at c ⊢;omega
theorem Y2r {l:List Int} {i:Nat} (h:i<l.length):(l.take (i+1)).getLast?=some (gl l i):=by rw [y4 h];simp
theorem Z9a {α:Type} [Emb α] (l:List α) (i j:Nat) (x:α) (h:i<l.length):gl (l.set i x) j=if i=j then x else gl l j:=by
 simp only [gl,List.getD_eq_getElem?_getD,List.getElem?_set]
 by_cases hij:i=j
 ·subst hij;simp [h]
 ·simp [hij]
theorem Z4t {α:Type} (l:List α) (i n:Nat) (x:α) (h:n<=i):(l.set i x).take n=l.take n:=by
 apply List.ext_getElem?;intro j
 simp only [List.getElem?_take,List.getElem?_set];split
 ·rw [if_neg (by omega)]
 ·rfl
theorem Y0v {α:Type} [Emb α] (l:List α) (k n:Nat) (h:k<=l.length):(clr l (0+k) n).take k=l.take k:=by
 apply List.ext_getElem?;intro j
 simp only [List.getElem?_take,clr];split
 ·rename_i a
  have:j<l.length:=by omega
  simp only [List.getElem?_map,List.getElem?_range this,Option.map_some];rw [if_neg (by omega),z8 this,List.getElem?_eq_getElem this]
 ·rfl
theorem Y3l {α:Type} [Emb α] (l:List α) (lo n:Nat):(clr l lo n).length=l.length:=by simp [clr]
theorem Q8x {F:Nat} (hF:BIG<=F) {l:List Int} (hl:l.length<=LIM):Q0X F l=some (dd l):=by
 have E:=hF;unfold BIG at hF;unfold LIM at hl
 unfold Q0X;refine Q8 (fun h=>?_) (fun h=>?_)
 ·have h:l.length<2:=by simp at h;omega
  match l,h with
  | [],_=>rfl
  | [a],_=>rfl
 ·have h:2<=l.length:=by simp at h;omega
  refine Y9 (fun z:Int=>∃ k:Nat,z=k/\1<=k/\k<=l.length/\dd (l.take k)=l.take k) (fun z=>l.length-z.toNat) (fun x z y G=>?_) ⟨1,rfl,by omega,by omega,?_⟩ (by simp;omega)
  ·obtain ⟨k,rfl,I,M,v⟩:=y
   unfold Q8z;refine Q8 (fun m=>?_) (fun m=>?_)
   ·have m:k<l.length:=by simpa using m
    refine Z7 (k:=?_);refine Z7 (k:=?_)
    refine Z7 (k:=?_);have C:((k:Int)-1).toNat=k-1:=by omega
    rw [C];simp only [Int.toNat_natCast]
    have f:(l.take k).getLast?=some (gl l (k-1)):=by
     have:=Y2r (l:=l) (i:=k-1) (by omega)
     rwa [show k-1+1=k from by omega] at this
    refine Q8 (fun o=>?_) (fun o=>?_)
    ·have o:gl l k=gl l (k-1):=by simpa using o
     refine Z7 (k:=?_);have B:dd (l.take (k+1))=l.take k:=by rw [y4 m,Y0g,f,if_pos (by rw [o]),v]
     refine Y9 (fun z:Int×Int×List Int=>∃ (q r:Nat) (d:List Int),z=((q:Int),(r:Int),d)/\1<=r/\k+r<=l.length/\q+1<=k+r/\1<=q/\d.length=l.length/\(∀ j,q<=j->gl d j=gl l j)/\d.take q=dd (l.take (k+r)))
      (fun z=>l.length-z.2.1.toNat) (fun w z y p=>?_) ⟨k,1,l,rfl,by omega,by omega,by omega,by omega,rfl,fun _ _=>rfl,B.symm⟩ (by simp only;omega)
     obtain ⟨q,r,d,rfl,L,K,D,J,t,g,n⟩:=y;simp only at p ⊢
     unfold Q8y;simp only [Int.toNat_natCast,Nat.zero_add]
     refine Q8 (fun s=>?_) (fun s=>?_)
     ·have s:r<l.length-k:=by simp at s;omega
      refine Z7 (k:=?_);refine Z7 (k:=?_)
      refine Z7 (k:=?_);refine Z7 (k:=?_)
      have H:((r:Int)-1).toNat=r-1:=by omega
      rw [H];refine Z7 (k:=?_)
      rw [g (k+r) (by omega),g (k+(r-1)) (by omega)];have A:(l.take (k+r)).getLast?=some (gl l (k+(r-1))):=by
       have:=Y2r (l:=l) (i:=k+(r-1)) (by omega)
       rwa [show k+(r-1)+1=k+r from by omega] at this
      have u:dd (l.take (k+r+1))=if gl l (k+(r-1))=gl l (k+r) then dd (l.take (k+r)) else dd (l.take (k+r))++[gl l (k+r)]:=by
       rw [y4 (by omega),Y0g,A];simp
      refine Q8 (fun c=>?_) (fun c=>?_)
      ·have c:gl l (k+r)≠gl l (k+(r-1)):=by simpa using c
       repeat (refine Z7 (k:=?_))
       refine p _ ⟨q+1,r+1,d.set q (gl l (k+r)),rfl,by omega,by omega,by omega,by omega,by simp [t],fun j N=>?_,?_⟩ (by simp only;omega)
       ·rw [Z9a _ _ _ _ (by omega),if_neg (by omega)];exact g j (by omega)
       ·rw [show k+(r+1)=k+r+1 from rfl,u,if_neg (fun e=>c e.symm), <-n,y4 (by simp;omega),Z4t _ _ _ _ (Nat.le_refl _),Z9a _ _ _ _ (by omega),if_pos rfl]
      ·have c:gl l (k+r)=gl l (k+(r-1)):=by simpa using c
       unfold Q2o;refine Z7 (k:=?_)
       refine p _ ⟨q,r+1,d,rfl,by omega,by omega,by omega,by omega,t,g,?_⟩ (by simp only;omega);rw [show k+(r+1)=k+r+1 from rfl,u,if_pos c.symm,n]
     ·have s:¬ r<l.length-k:=by simp at s;omega
      unfold Q4E;simp only [Int.toNat_natCast,Y3l]
      refine Z7 (k:=?_);refine Z7 (k:=?_)
      rw [Y0v _ _ _ (by omega),n,List.take_of_length_le (by omega)]
    ·have o:gl l k≠gl l (k-1):=by simpa using o
     unfold Q4D;refine Z7 (k:=?_)
     refine G _ ⟨k+1,by omega,by omega,m,?_⟩ (by omega);rw [y4 m,Y0g,f,if_neg (fun e=>o (by simpa using e.symm)),v]
   ·have m:¬ k<l.length:=by simpa using m
    have:k=l.length:=by omega
    subst this;rw [List.take_length] at v
    unfold Q4C;rw [v]
  ·match l,h with
   | a::b::l,_=>rfl
end
section
open Go.Sort
def Y1R (l:List Rect):List Int:=l.flatMap fun r=>[r.w_,r.H_]
def Z5d (ls:List (List Rect)):List Int:=ls.flatMap Y1R
def Y1X (ls:List (List Rect)):List Int:=dd ((Z5d ls).mergeSort fun x y=>decide (x<=y))
theorem Y7w (l:List Int):Srt (l.mergeSort fun x y=>decide (x<=y)):=by
 have:=List.pairwise_mergeSort (le:=fun x y:Int=>decide (x<=y)) (fun a b c e d=>by simp at *;omega) (fun a b=>by simp;omega) l
 exact this.imp fun h=>by simpa using h
theorem Y4j (ls:List (List Rect)):Asc (Y1X ls):=Y5r _ (Y7w _)
theorem Y3Q (ls:List (List Rect)) (v:Int):v ∈ Y1X ls↔∃ l ∈ ls,∃ r ∈ l,v=r.w_\/v=r.H_:=by
 unfold Y1X;rw [Y3d,List.mem_mergeSort]
 simp [Z5d,Y1R]
theorem Y7W (l:List Rect):(Y1R l).length=2*l.length:=by
 induction l with
 | nil=>rfl
 | cons r l ih=>
  have:(Y1R (r::l)).length=2+(Y1R l).length:=by simp [Y1R];omega
  rw [this,ih,List.length_cons];omega
def tot (ls:List (List Rect)):Nat:=(ls.map List.length).sum
theorem Y6T (ls:List (List Rect)):(Z5d ls).length=2*tot ls:=by
 induction ls with
 | nil=>rfl
 | cons l ls ih=>
  have:(Z5d (l::ls)).length=(Y1R l).length+(Z5d ls).length:=by simp [Z5d]
  rw [this,ih,Y7W];simp [tot];omega
theorem Y4i (ls:List (List Rect)):(Y1X ls).length<=2*tot ls:=by
 unfold Y1X;have:=Y5q ((Z5d ls).mergeSort fun x y=>decide (x<=y))
 rw [List.length_mergeSort,Y6T] at this;exact this
theorem Z4H {F:Nat} (hF:BIG<=F) {ls:List (List Rect)} (h:tot ls<=1000000000) (hn:ls.length<=1000000):Q7h F ls=some (Y1X ls):=by
 have f:=hF;unfold BIG at hF
 unfold Q7h;refine (Z1o (l:=ls) (σ:=List Int) (fun b a=>a.length+2*tot b<=2000000000) (fun b a=>some (dd ((a++Z5d b).mergeSort fun x y=>decide (x<=y))))
  (fun e i a o d n=>?_) (fun e a d=>?_) (by omega) (by simp;omega)).trans rfl
 ·unfold Z1c
  refine Y2 (Z0m o) ?_;refine Z7 (k:=?_)
  simp only [Int.toNat_natCast];generalize hl:gl ls i=l at *
  have p:tot (l::ls.drop (i+1))=l.length+tot (ls.drop (i+1)):=by simp [tot]
  rw [p] at d;refine (Z1o (l:=l) (σ:=List Int) (fun b a=>a.length+2*b.length+2*tot (ls.drop (i+1))<=2000000000) (fun b a=>some (dd ((a++Y1R b++Z5d (ls.drop (i+1))).mergeSort fun x y=>decide (x<=y))))
   (fun c j a q d g=>?_) (fun c a d=>?_) (by omega) (by omega)).trans ?_
  ·simp only
   unfold Z1b;simp only [Int.toNat_natCast,hl]
   refine Y2 (Z0m q) ?_;simp only [List.length_cons] at d
   refine Z7 (k:=?_);refine Z7 (k:=?_)
   refine Z7 (k:=?_);rw [g _ (by simp only [List.length_append,List.length_cons,List.length_nil];omega)]
   simp [Y1R]
  ·simp only
   unfold Z1b;simp only [Int.toNat_natCast,hl]
   refine Q9 (Q2V _) ?_;unfold Z1a
   refine Z7 (k:=?_);rw [n _ (by simp only [List.length_nil] at d;omega)]
   simp [Y1R]
  ·simp [Z5d]
 ·simp only
  unfold Z1c;refine Q9 (Q2V _) ?_
  unfold Z0Z;have d:a.length<=2000000000:=by simp [tot] at d;omega
  have m:Z6j a=some (a.mergeSort fun x y=>decide (x<=y)):=by unfold Z6j;rw [if_pos (by unfold LIM;omega)]
  refine Q4 m ?_;refine Q4 (Q8x f (by rw [List.length_mergeSort];unfold LIM;omega)) ?_
  simp [Z5d]
theorem Q6Y (F:Nat) (a b:Int):Q1A F a b=some (if a<b then -1 else if b<a then 1 else 0):=by
 unfold Q1A Q6x;refine Q4 rfl (Q4 rfl ?_)
 refine Q9 (by simp) (Q9 (by simp) ?_);refine Q8 (fun h=>?_) (fun h=>?_)
 ·have h:a<b:=by simpa using h
  rw [if_pos h]
 ·have h:¬ a<b:=by simpa using h
  rw [if_neg h];refine Q8 (fun h=>?_) (fun h=>?_)
  ·have h:b<a:=by simpa using h
   rw [if_pos h]
  ·have h:¬ b<a:=by simpa using h
   rw [if_neg h]
def cfL (a b:Span):Int:=if a.L_<b.L_ then -1 else if b.L_<a.L_ then 1 else 0
theorem Y0b (a b:Span):ltC cfL a b=decide (a.L_<b.L_):=by
 unfold ltC cfL
 by_cases h:a.L_<b.L_
 ·simp [h]
 ·by_cases h2:b.L_<a.L_ <;> simp [h,h2]
theorem W1b:SWO (ltC cfL) where
 irrefl x:=by rw [Y0b];simp
 trans x y z h1 h2:=by rw [Y0b] at *;simp at *;omega
 ntrans x y z h1 h2:=by rw [Y0b] at *;simp at *;omega
theorem Y6N {α:Type} [Emb α] (cf:α->α->Int) (hO:SWO (ltC cf)) (l:List α):(Q8S cf l).Perm l/\(Q8S cf l).Pairwise fun a b=>ltC cf b a=false:=by
 letI inst:Inhabited α:=⟨Emb.d⟩
 have h:=pdq_sorts (ltC cf) hO l.toArray 0 l.length (Lib.bitLen l.length) true true (Nat.zero_le _) (by simp) (.inl rfl);have c:(pdq (ltC cf) l.toArray 0 l.length (Lib.bitLen l.length) true true).size=l.length:=by simpa using h.1.1
 constructor
 ·have:=h.1.2.2
  simp only [List.extract_toArray,List.extract_eq_take_drop,Nat.sub_zero,List.drop_zero,List.take_length] at this;have e:((pdq (ltC cf) l.toArray 0 l.length (Lib.bitLen l.length) true true).extract 0 l.length).toList=Q8S cf l:=by
   unfold Q8S;generalize pdq (ltC cf) l.toArray 0 l.length (Lib.bitLen l.length) true true=d at c
   rw [<-c];simp
  rw [e] at this;exact this
 ·rw [List.pairwise_iff_getElem]
  intro i j m n g;have k : i<(pdq (ltC cf) l.toArray 0 l.length (Lib.bitLen l.length) true true).size:=by simpa [Q8S] using m
  have f : j<(pdq (ltC cf) l.toArray 0 l.length (Lib.bitLen l.length) true true).size:=by simpa [Q8S] using n
  have:=h.2 i j (Nat.zero_le _) g (by omega)
  rw [getElem!_pos _ j f,getElem!_pos _ i k] at this;simpa [Q8S] using this
def flt (l:List Rect) (y:Int):List Span:=(l.filter fun r=>decide (r.w_<=y)&&decide (y<r.H_)).map fun r=>⟨r.L_,r.R_⟩
theorem Y4d (r:Rect) (l:List Rect) (y:Int):flt (r::l) y=if (decide (r.w_<=y)&&decide (y<r.H_))=true then ⟨r.L_,r.R_⟩::flt l y else flt l y:=by
 unfold flt;rw [List.filter_cons]
 split <;> rfl
theorem Y9H (l:List Rect) (x y:Int):inS (flt l y) x=inR l x y:=by
 induction l with
 | nil=>rfl
 | cons r l ih=>
  have e:inR (r::l) x y=(r.has x y||inR l x y):=rfl;rw [Y4d,e, <-ih]
  split
  ·rename_i h
   simp only [Bool.and_eq_true,decide_eq_true_eq] at h;simp [inS,Span.has,Rect.has,h.1,h.2]
  ·rename_i h
   have:r.has x y=false:=Y1f (by simp at h;omega)
   rw [this,Bool.false_or]
theorem Y9O (l:List Rect) (y:Int):(flt l y).length<=l.length:=by
 unfold flt;rw [List.length_map];exact List.length_filter_le _ _
theorem Y9N {l:List Rect} (h:∀ r ∈ l,r.L_<r.R_) (y:Int):∀ s ∈ flt l y,s.L_<s.R_:=by
 intro s b;obtain ⟨r,a,rfl⟩:=List.mem_map.1 b
 exact h r (List.mem_filter.1 a).1
theorem Y0c (l m:List Span) (x:Int):inS (l++m) x=(inS l x||inS m x):=by simp [inS]
theorem Y8f {l m:List Span} (h:l.Perm m) (x:Int):inS l x=inS m x:=by
 rw [Bool.eq_iff_iff];simp only [inS,List.any_eq_true]
 constructor
 ·rintro ⟨s,a,b⟩;exact ⟨s,h.mem_iff.1 a,b⟩
 ·rintro ⟨s,a,b⟩;exact ⟨s,h.mem_iff.2 a,b⟩
theorem Y9K (a b:Int):Q0B a b=if a<b then b else a:=rfl
theorem Y6H {F:Nat} (hF:BIG<=F) {S:List Span} (hl:S.length<=1000000000) (hpos:∀ s ∈ S,s.L_<s.R_) (hs:S.Pairwise fun a b=>a.L_<=b.L_) :
  Z8 (fun again (z:Int×List Span)=>Z1Y F S again z.1 z.2) F (0,[])=some (spn fun x=>inS S x):=by
 unfold BIG at hF;refine Y9 (fun z:Int×List Span=>∃ (i:Nat) (d:List Span),z=((i:Int),d)/\i<=S.length/\d.length<=i/\SpOk d/\(∀ x,inS d x=inS (S.take i) x)/\∀ o ∈ d,∀ j,i<=j->j<S.length->o.L_<=(gl S j).L_)
  (fun z=>S.length-z.1.toNat) (fun again z I A=>?_) ⟨0,[],rfl,by omega,Nat.le_refl _,.nil,fun x=>by simp,fun o c=>by cases c⟩ (by simp only;omega)
 obtain ⟨i,d,rfl,Q,C,g,u,l⟩:=I;simp only at A ⊢
 unfold Z1Y;refine Q8 (fun h=>?_) (fun h=>?_)
 ·have h:i<S.length:=by simpa using h
  refine Z7 (k:=?_);simp only [Int.toNat_natCast]
  have M:=hpos _ (V7 h);have r:∀ j,i+1<=j->j<S.length->(gl S i).L_<=(gl S j).L_:=by
   intro j D f;rw [z8 h,z8 f]
   exact List.pairwise_iff_getElem.1 hs i j h f (by omega)
  have p : ∀ x,inS (S.take (i+1)) x=(inS d x||(gl S i).has x):=by
   intro x;rw [y4 h,Y0c,u];simp [inS]
  have m:(∀ o,d.getLast?=some o->o.R_<(gl S i).L_)->Q4n F S i d again false=some (spn fun x=>inS S x):=by
   intro q;unfold Q4n
   refine Q9 rfl ?_;refine Z7 (k:=?_)
   unfold Q6j;refine Z7 (k:=?_)
   simp only [Int.toNat_natCast];refine A _ ⟨i+1,d++[gl S i],rfl,h,by simp;omega,⟨fun s hs=>?_,?_⟩,fun x=>?_,fun o c j D f=>?_⟩ (by simp only;omega)
   ·rcases List.mem_append.1 hs with hs|hs
    ·exact g.pos s hs
    ·rw [List.mem_singleton.1 hs];exact M
   ·refine List.pairwise_append.2 ⟨g.ch,List.pairwise_singleton _ _,fun o c b y=>?_⟩
    rw [List.mem_singleton.1 y];rcases List.eq_nil_or_concat d with w|⟨t,e,v⟩
    ·rw [w] at c;cases c
    ·rw [List.concat_eq_append] at v
     subst v;have L:=q e (by simp)
     rcases List.mem_append.1 c with c|c
     ·have R:=(List.pairwise_append.1 g.ch).2.2 o c e (by simp)
      have P:=g.pos e (by simp);omega
     ·rw [List.mem_singleton.1 c];exact L
   ·rw [p,Y0c];simp [inS]
   ·rcases List.mem_append.1 c with c|c
    ·exact l o c j (by omega) f
    ·rw [List.mem_singleton.1 c];exact r j D f
  rcases List.eq_nil_or_concat d with w|⟨t,e,v⟩
  ·subst w
   refine Q9 rfl ?_;exact m fun o c=>by simp at c
  ·rw [List.concat_eq_append] at v
   subst v;have n:(t ++ [e]).length=t.length+1:=by simp
   have E:(((t.length+1:Nat):Int)-1).toNat=t.length:=by omega
   rw [n] at C ⊢;refine Y2 (by simp) ?_
   refine Z7 (k:=?_);refine Z7 (k:=?_)
   rw [E,Z3u _ _ rfl]
   by_cases hc:(gl S i).L_<=e.R_
   ·have B:decide ((gl S i).L_<=e.R_)=true:=by simpa using hc
    rw [B];unfold Q4n
    refine Y2 rfl ?_;simp only [n]
    refine Z7 (k:=?_);refine Z7 (k:=?_)
    refine Z7 (k:=?_);refine Z7 (k:=?_)
    rw [E,Z3u _ _ rfl,Z7w _ _ _ rfl];unfold Q6j
    refine Z7 (k:=?_);simp only [Int.toNat_natCast]
    have K:e.L_<=(gl S i).L_:=l e (by simp) i (Nat.le_refl _) h;have J:=g.pos e (by simp)
    have H:e.R_<=Q0B e.R_ (gl S i).R_/\(gl S i).R_<=Q0B e.R_ (gl S i).R_/\(Q0B e.R_ (gl S i).R_=e.R_\/Q0B e.R_ (gl S i).R_=(gl S i).R_):=by
     rw [Y9K];split <;> omega
    refine A _ ⟨i+1,t ++ [⟨e.L_,Q0B e.R_ (gl S i).R_⟩],rfl,h,by simp;omega,⟨fun s hs=>?_,?_⟩,fun x=>?_,fun o c j D f=>?_⟩ (by simp only;omega)
    ·rcases List.mem_append.1 hs with hs|hs
     ·exact g.pos s (by simp [hs])
     ·rw [List.mem_singleton.1 hs];simp only;omega
    ·obtain ⟨O,_,N⟩:=List.pairwise_append.1 g.ch
     refine List.pairwise_append.2 ⟨O,List.pairwise_singleton _ _,fun o c b y=>?_⟩;rw [List.mem_singleton.1 y]
     exact N o c e (by simp)
    ·rw [p,Y0c,Y0c,Bool.or_assoc]
     congr 1
     have G:∀ (s:Span) x,inS [s] x=s.has x:=fun s x=>by simp [inS]
     rw [G,G,Bool.eq_iff_iff];simp only [Span.has,Bool.or_eq_true,Bool.and_eq_true,decide_eq_true_eq]
     omega
    ·rcases List.mem_append.1 c with c|c
     ·exact l o (by simp [c]) j (by omega) f
     ·rw [List.mem_singleton.1 c];exact l e (by simp) j (by omega) f
   ·have B:decide ((gl S i).L_<=e.R_)=false:=by simpa using hc
    rw [B];exact m fun o c=>by simp at c;subst c;omega
 ·have h:¬ i<S.length:=by simpa using h
  have:i=S.length:=by omega
  subst this;unfold Z1X
  rw [Z8A g fun x=>by rw [u,List.take_length]]
theorem Z1W {F:Nat} (hF:BIG<=F) {l:List Rect} (hl:l.length<=1000000000) (hpos:∀ r ∈ l,r.L_<r.R_) (y:Int):Q6S F l y=some (spn fun x=>inR l x y):=by
 have m:=hF;unfold BIG at hF
 unfold Q6S;have o:∀ c:List Span,c=flt l y->Q9j F c=some (spn fun x=>inR l x y):=by
  rintro c rfl;unfold Q9j
  have u:=Y9O l y;have p:Z9p (flt l y) (fun w v=>Q7I F w v)=some (Q8S cfL (flt l y)):=
   Y7y cfL (by unfold LIM;omega) W1b fun a b=>by unfold Q7I;rw [Q6Y];rfl
  refine Q4 p ?_;obtain ⟨j,n⟩:=Y6N cfL W1b (flt l y)
  have e:(fun x=>inR l x y)=fun x=>inS (Q8S cfL (flt l y)) x:=by funext x;rw [Y8f j,Y9H]
  rw [e];refine Y6H m (by rw [j.length_eq];omega) (fun s n=>Y9N hpos y s (j.mem_iff.1 n)) (n.imp fun {a b} h=>?_)
  rw [Y0b] at h;simp at h;exact h
 refine (Z1o (l:=l) (σ:=List Span) (fun f c=>c.length+f.length<=1000000000/\c++flt f y=flt l y) (fun f c=>some (spn fun x=>inR l x y))
  (fun d i c t g q=>?_) (fun d c g=>?_) (by omega) ⟨by simp;omega,rfl⟩)
 ·simp only
  unfold Z1Z;refine Y2 (Z0m t) ?_
  refine Z7 (k:=?_);rw [Q3S (Q6l F l i c d)]
  simp only [Int.toNat_natCast];rw [Y4d] at g
  simp only [List.length_cons] at g;unfold Q6l
  refine Q8 (fun h=>?_) (fun h=>?_)
  ·rw [if_pos h] at g
   refine Z7 (k:=?_);unfold Q6k
   refine Z7 (k:=?_);simp only [Int.toNat_natCast]
   exact q _ ⟨by simp only [List.length_append,List.length_cons,List.length_nil];omega,by rw [<-g.2];simp⟩
  ·rw [h] at g
   unfold Q6k;refine Z7 (k:=?_)
   exact q _ ⟨by omega,by simpa using g.2⟩
 ·simp only
  unfold Z1Z;refine Q9 (Q2V _) ?_
  exact o c (by have:=g.2;simpa [flt] using this)
end
theorem Y9p (r s:Span):((r.L_==s.L_)&&((r.R_==s.R_)&&true))=decide (r=s):=by
 cases r;cases s
 rw [Bool.eq_iff_iff,decide_eq_true_iff];simp
theorem Z4v {F:Nat} (hF:BIG<=F) {l m:List Span} (hm:m.length<=LIM):Q2B F l m=some (decide (l=m)):=by
 unfold BIG at hF;unfold LIM at hm
 unfold Q2B;refine Q8 (fun h=>?_) (fun h=>?_)
 ·have h:l.length≠m.length:=by simp at h;omega
  rw [decide_eq_false fun e=>h (by rw [e])]
 ·have h:l.length=m.length:=by simp at h;omega
  refine Y9 (fun z:Int=>∃ i:Nat,z=i/\i<=l.length/\decide (l=m)=decide (l.drop i=m.drop i)) (fun z=>l.length-z.toNat) (fun d z g f=>?_) ⟨0,rfl,by omega,by simp⟩ (by simp;omega);obtain ⟨i,rfl,j,c⟩:=g
  unfold Q9q;refine Q8 (fun b=>?_) (fun b=>?_)
  ·have b:i<l.length:=by simpa using b
   rw [Z3q l m h i b] at c;refine Z7 (k:=?_)
   refine Z7 (k:=?_);rw [Y9p]
   refine Q8 (fun a=>?_) (fun a=>?_)
   ·have a:decide (gl l i=gl m i)=false:=by simpa using a
    rw [c,a];rfl
   ·have a:decide (gl l i=gl m i)=true:=by simpa using a
    rw [a,Bool.true_and] at c;refine Z7 (k:=?_)
    exact f _ ⟨i+1,by omega,b,c⟩ (by omega)
  ·have b:¬ i<l.length:=by simpa using b
   have:i=l.length:=by omega
   rw [c,List.drop_of_length_le (by omega),List.drop_of_length_le (by omega),decide_eq_true rfl];rfl
theorem Z4w {F:Nat} (hF:BIG<=F) {l m:List Rect} (hm:m.length<=LIM):Q2C F l m=some (decide (l=m)):=by
 unfold BIG at hF;unfold LIM at hm
 unfold Q2C;refine Q8 (fun h=>?_) (fun h=>?_)
 ·have h:l.length≠m.length:=by simp at h;omega
  rw [decide_eq_false fun e=>h (by rw [e])]
 ·have h:l.length=m.length:=by simp at h;omega
  refine Y9 (fun z:Int=>∃ i:Nat,z=i/\i<=l.length/\decide (l=m)=decide (l.drop i=m.drop i)) (fun z=>l.length-z.toNat) (fun d z g f=>?_) ⟨0,rfl,by omega,by simp⟩ (by simp;omega);obtain ⟨i,rfl,j,c⟩:=g
  unfold Q9s;refine Q8 (fun b=>?_) (fun b=>?_)
  ·have b:i<l.length:=by simpa using b
   rw [Z3q l m h i b] at c;refine Z7 (k:=?_)
   refine Z7 (k:=?_);rw [Y5Q]
   refine Q8 (fun a=>?_) (fun a=>?_)
   ·have a:decide (gl l i=gl m i)=false:=by simpa using a
    rw [c,a];rfl
   ·have a:decide (gl l i=gl m i)=true:=by simpa using a
    rw [a,Bool.true_and] at c;refine Z7 (k:=?_)
    exact f _ ⟨i+1,by omega,b,c⟩ (by omega)
  ·have b:¬ i<l.length:=by simpa using b
   have:i=l.length:=by omega
   rw [c,List.drop_of_length_le (by omega),List.drop_of_length_le (by omega),decide_eq_true rfl];rfl
def Band.rn (b:Band):Rn (List Span):=⟨b.w_,b.H_,b.spans_⟩
def fl (l:List Band):List Rect:=flat (l.map Band.rn)
theorem Y3i (b:Band) (l:List Band):fl (b::l)=G5 b.rn++fl l:=rfl
theorem W0O (l:List Band) (N:Nat) (h:∀ b ∈ l,b.spans_.length<=N):(fl l).length<=l.length*N:=by
 induction l with
 | nil=>simp [fl,flat]
 | cons b l ih=>
  have e:=ih fun c a=>h c (by simp [a])
  have d:=h b (by simp);rw [Y3i,List.length_append,Q0x,List.length_cons,Nat.add_mul]
  simp only [Band.rn];omega
theorem Z9K {F:Nat} (hF:BIG<=F) {l:List Band} (hl:l.length<=1000000000) (hn:(fl l).length<=LIM) (hs:∀ b ∈ l,b.spans_.length<=1000000000):Q7F F l=some (fl l):=by
 unfold BIG at hF;unfold LIM at hn
 unfold Q7F;refine (Z1o (l:=l) (σ:=List Rect) (fun c a=>a.length+(fl c).length<=4294967296) (fun c a=>some (a++fl c)) (fun f i a m d n=>?_) (fun f a d=>?_) (by omega) (by simp;omega)).trans (by simp)
 ·unfold Z0g
  refine Y2 (Z0m m) ?_;refine Z7 (k:=?_)
  simp only [Int.toNat_natCast];have h:=hs _ (V7 m)
  rw [Y3i,List.length_append,Q0x] at d;rw [Y3i]
  generalize hb:gl l i=b at d h ⊢;have d:a.length+(b.spans_.length+(fl (l.drop (i+1))).length)<=4294967296:=d
  refine (Z1o (l:=b.spans_) (σ:=List Rect) (fun c a=>a.length+c.length+(fl (l.drop (i+1))).length<=4294967296) (fun c a=>some (a++(c.map (fun s=>(⟨s.L_,b.w_,s.R_,b.H_⟩:Rect))++fl (l.drop (i+1)))))
   (fun e j a o d g=>?_) (fun e a d=>?_) (by omega) (by omega)).trans rfl
  ·unfold Z0f
   simp only [Int.toNat_natCast,hb];refine Y2 (Z0m o) ?_
   simp only [List.length_cons] at d;refine Z7 (k:=?_)
   refine Z7 (k:=?_);refine Z7 (k:=?_)
   rw [g _ (by simp only [List.length_append,List.length_cons,List.length_nil];omega)];simp
  ·unfold Z0f
   simp only [Int.toNat_natCast,hb];refine Q9 (Q2V _) ?_
   unfold Z0e;refine Z7 (k:=?_)
   rw [n _ (by simpa using d)];simp
 ·unfold Z0g
  refine Q9 (Q2V _) ?_;simp [Z0d,fl,flat]
theorem Z3L {F:Nat} (hF:BIG<=F) {cs:List Int} {row:Int->Option (List Span)} {S:Int->Int->Bool} (hS:Y1E S) (hst:Step [] cs fun y=>spn fun x=>S x y) (hc:cs.length<=65536)
  (hrow:∀ y,row y=some (spn fun x=>S x y)) (hlen:∀ y,(spn fun x=>S x y).length<=65536):Q5A F cs row=some (cn S):=by
 have G:=hF;unfold BIG at hF
 unfold Q5A;have H:∀ c:List Band,Runs (c.map Band.rn)->(∀ t,atR [] (c.map Band.rn) t=spn fun x=>S x t)->c.length<=cs.length->(∀ b ∈ c,b.spans_.length<=65536)->Q6F F c=some (cn S):=by
  intro c T p J f;unfold Q6F
  have K:=W0O c 65536 f;have L:c.length*65536<=65536*65536:=Nat.mul_le_mul_right _ (by omega)
  refine Q4 (Z9K G (by omega) (by unfold LIM;omega) (fun b d=>by have:=f b d;omega)) ?_;have Q:=(Step.cn hS hst (acc:=(c.map Band.rn).filter fun r=> !r.v.isEmpty) (T.filter _) (fun t=>by
   rw [T.atR_filter _ (fun r _ V=>by simpa using V)];exact p t) (fun b d=>by
   have:=(List.mem_filter.1 d).2
   intro B;rw [B] at this;simp at this)).1
  rw [Q];congr 1
  have:∀ l:List (Rn (List Span)),flat l=flat (l.filter fun r=> !r.v.isEmpty):=by
   intro l
   induction l with
   | nil=>rfl
   | cons a l C=>
    rw [List.filter_cons];have e:flat (a::l)=G5 a++flat l:=rfl
    cases p:a.v with
    | nil=>
     have:G5 a=[]:=by simp [G5,p]
     rw [e,this,List.nil_append,C];simp
    | cons s v=>
     simp only [List.isEmpty_cons,Bool.not_false,if_true];have M:flat (a::l.filter fun r=> !r.v.isEmpty)=G5 a++flat (l.filter fun r=> !r.v.isEmpty):=rfl
     rw [e,M, <-C]
  exact this _
 refine Y9 (fun z:Int×List Band=>∃ (i:Nat) (c:List Band),z=((i:Int)+1,c)/\c.length<=i/\(∀ b ∈ c,b.spans_.length<=65536)/\((cs.length=0/\i=0)\/(i+1<=cs.length/\Bst [] (fun y=>spn fun x=>S x y) (c.map Band.rn) (gl cs i))))
  (fun z=>cs.length+1-z.1.toNat) (fun u z W C=>?_) ⟨0,[],rfl,Nat.le_refl _,fun b d=>(List.not_mem_nil d).elim,?_⟩ (by simp;omega)
 ·obtain ⟨i,c,rfl,J,f,A⟩:=W
  simp only at C ⊢;unfold Z3M
  rcases A with ⟨D,rfl⟩|⟨Y,E⟩
  ·have P:c=[]:=List.eq_nil_of_length_eq_zero (by omega)
   subst P;refine Q9 (by simp;omega) ?_
   exact H [] .nil (fun t=>(hst.empty D t).symm) (by simp) (fun b d=>by cases d)
  ·refine Q8 (fun g=>?_) (fun g=>?_)
   ·have g:i+1<cs.length:=by simp at g;omega
    have I:=hst.asc.at_lt (show i<i+1 by omega) g;have o:=hst.gap i g
    have R:((i:Int)+1-1).toNat=i:=by omega
    have M:((i:Int)+1).toNat=i+1:=by omega
    rw [R];refine Z7 (k:=?_)
    refine Z7 (k:=?_);refine Z7 (k:=?_)
    refine Z7 (k:=?_);refine Z7 (k:=?_)
    refine Q4 (hrow _) ?_;generalize p:(spn fun x=>S x (gl cs i))=v at *
    have N:v.length<=65536:=by rw [<-p];exact hlen _
    have j:(∀ q,(c.map Band.rn).getLast?=some q->q.hi=gl cs i->q.v≠v)->Q1y F cs ((i:Int)+1) c v u false=some (cn S):=by
     intro h;unfold Q1y
     refine Q9 rfl ?_;rw [R,M]
     refine Z7 (k:=?_);unfold Q4d
     refine Z7 (k:=?_);refine C _ ⟨i+1,c++[⟨gl cs i,gl cs (i+1),v⟩],by simp,by simp;omega,fun b d=>?_,.inr ⟨by omega,?_⟩⟩ (by simp only;omega)
     ·rcases List.mem_append.1 d with d|d
      ·exact f b d
      ·rw [List.mem_singleton.1 d];exact N
     ·rw [List.map_append]
      have:=E.add I (fun t K L=>(o t K L).trans p.symm) (fun a X B=>by rw [p];exact h a X B)
      rw [p] at this;exact this
    rcases List.eq_nil_or_concat c with D|⟨w,e,B⟩
    ·subst D
     refine Q9 rfl ?_;exact j fun q h=>by simp at h
    ·rw [List.concat_eq_append] at B
     subst B;have m:(w ++ [e]).length=w.length+1:=by simp
     have U:(((w.length+1:Nat):Int)-1).toNat=w.length:=by omega
     rw [m] at J ⊢;have n:gl (w ++ [e]) w.length=e:=Z3u _ _ rfl
     refine Y2 (by simp) ?_;refine Z7 (k:=?_)
     refine Z7 (k:=?_);rw [U,n]
     by_cases hh:e.H_=gl cs i
     ·refine Y2 (by simpa using hh) ?_
      refine Z7 (k:=?_);refine Z7 (k:=?_)
      refine Q4 (Z4v G (by unfold LIM;omega)) ?_
      by_cases hvv:e.spans_=v
      ·rw [decide_eq_true hvv]
       unfold Q1y;refine Y2 rfl ?_
       simp only [m];refine Z7 (k:=?_)
       refine Z7 (k:=?_);rw [U,n,Z7w _ _ _ rfl,M]
       unfold Q4d;refine Z7 (k:=?_)
       refine C _ ⟨i+1,w ++ [⟨e.w_,gl cs (i+1),e.spans_⟩],by simp,by simp;omega,fun b d=>?_,.inr ⟨by omega,?_⟩⟩ (by simp only;omega)
       ·rcases List.mem_append.1 d with d|d
        ·exact f b (by simp [d])
        ·rw [List.mem_singleton.1 d];exact f e (by simp)
       ·rw [List.map_append] at E ⊢
        exact E.grow (a:=e.rn) hh I fun t K L=>(o t K L).trans hvv.symm
      ·rw [decide_eq_false hvv]
       exact j fun q h _=>by rw [List.map_append] at h;simp at h;subst h;exact hvv
     ·refine Q9 (by simpa using hh) ?_
      exact j fun q h O=>by rw [List.map_append] at h;simp at h;subst h;exact absurd O hh
   ·have g:¬ i+1<cs.length:=by simp at g;omega
    exact H c E.runs (fun t=>hst.done (by omega) E t) (by omega) f
 ·by_cases D:cs.length=0
  ·exact .inl ⟨D,rfl⟩
  ·exact .inr ⟨by omega,hst.start (by omega)⟩
theorem Z9i (ls:List (List Rect)) {l:List Rect} (h:l ∈ ls):Y3q (Y1X ls) l:=fun r a=>⟨(Y3Q ls _).2 ⟨l,h,r,a,.inl rfl⟩,(Y3Q ls _).2 ⟨l,h,r,a,.inr rfl⟩⟩
theorem Y1b (l:List Rect) {ls:List (List Rect)} (h:l ∈ ls):Grid (Q8p l []) (Y1X ls) (inR l):=by
 have:=Grid.of (xs:=Q8p l []) (ys:=Y1X ls) (a:=l) (b:=[]) (Q8o l .nil) (Y4j ls)
  (fun r c=>⟨(Q0A l _ _).2 (.inr ⟨r,c,.inl rfl⟩),(Q0A l _ _).2 (.inr ⟨r,c,.inr rfl⟩)⟩) (fun r c=>by cases c) (Z9i ls h) (fun r c=>by cases c) (k:=fun p q=>p||q) rfl
 have e:(fun x y=>inR l x y||inR [] x y)=inR l:=by funext x y;simp [inR]
 rwa [e] at this
theorem Z0t {F:Nat} (hF:BIG<=F) {l:List Rect} (hl:l.length<=32768) (hpos:∀ r ∈ l,r.L_<r.R_):Q1Q F l=some (cn (inR l)):=by
 unfold Q1Q;have a:=Y1b l (ls:=[l]) (by simp)
 have c:tot [l]=l.length:=by simp [tot]
 have b:=Y4i [l];refine Q4 (Z4H hF (by omega) (by simp)) ?_
 refine Q4 (Z3L hF a.rows a.step (by omega) (fun y=>?_) (fun y=>?_)) rfl
 ·unfold Q3I
  exact Q4 (Z1W hF (by omega) hpos y) rfl
 ·have:=(a.x y).spn_len
  have d:=Z3B (l:=l);omega
theorem Z1U {F:Nat} (hF:BIG<=F) {l:List Rect} {q:Rect->Option Bool} (p:Rect->Bool) (hl:l.length<=1000000000) (hq:∀ r ∈ l,q r=some (p r)):∃ i:Int,Q2l F l q=some i/\(0<=i↔l.any p=true):=by
 unfold BIG at hF;have b:∀ (n i:Nat),i<=l.length->l.length-i<n->∃ r:Int,Z8 (fun again (z:Int)=>U2 F l q again z) n (i:Int)=some r/\(0<=r↔(l.drop i).any p=true):=by
  intro n
  induction n with
  | zero=>intro i _ h;omega
  | succ n ih=>
   intro i j m;have d:Z8 (fun again (z:Int)=>U2 F l q again z) (n+1) (i:Int)=U2 F l q (Z8 (fun again (z:Int)=>U2 F l q again z) n) (i:Int):=rfl
   rw [d]
   by_cases h:i<l.length
   ·rw [Y1A h]
    by_cases a:p (gl l i)=true
    ·refine ⟨i,?_,by rw [a];simp⟩
     unfold U2;refine Y2 (Z0m h) ?_
     refine Z7 (k:=?_);exact Q4 (hq _ (V7 h)) (Y2 a rfl)
    ·have a:p (gl l i)=false:=by simpa using a
     obtain ⟨r,e,c⟩:=ih (i+1) h (by omega);refine ⟨r,?_,by rw [c,a];simp⟩
     unfold U2;refine Y2 (Z0m h) ?_
     refine Z7 (k:=?_);refine Q4 (hq _ (V7 h)) (Q9 a ?_)
     refine Z7 (k:=?_);exact e
   ·have:i=l.length:=by omega
    subst this;refine ⟨-1,?_,by simp⟩
    unfold U2;exact Q9 (Q2V _) rfl
 obtain ⟨r,f,g⟩:=b F 0 (Nat.zero_le _) (by omega);exact ⟨r,f,by simpa using g⟩
theorem Q1H {F:Nat} (hF:BIG<=F) {l:List Rect} {q:Rect->Option Bool} (p:Rect->Bool) (hl:l.length<=1000000000) (hq:∀ r ∈ l,q r=some (p r)):J0 F l q=some (l.any p):=by
 obtain ⟨i,b,a⟩:=Z1U hF p hl hq;unfold J0
 refine Q4 b ?_;congr 1
 rw [Bool.eq_iff_iff, <-a,decide_eq_true_iff]
theorem Z8C (F:Nat) (r:Rect):Q6h F r=some (Q3a r):=by
 unfold Q6h;rw [Q3S (U7 F),Q3S (U7 F),Q3S (U7 F),Q3S (U7 F),Q3S (U7 F)]
 rfl
theorem Q0n {F:Nat} (hF:BIG<=F) (a:Re_):y5 F a=some (Q3D a.t_):=by
 obtain ⟨l⟩:=a;simp only
 unfold y5;have b:=hF
 unfold BIG at hF;refine Q8 (fun h=>?_) (fun h=>?_)
 ·have h:120<l.length:=by simp at h;omega
  rw [Q8F fun d=>by have:=d.1;omega];rfl
 ·have h:l.length<=120:=by simp at h;omega
  refine Q4 (Q1H b (fun r=> !Q3a r) (by simp only;omega) (fun r _=>by unfold Q7H;rw [Z8C];rfl)) ?_;unfold Q6C
  refine Q8 (fun e=>?_) (fun e=>?_)
  ·rw [Q8F fun d=>?_]
   simp only [List.any_eq_true] at e;obtain ⟨r,c,g⟩:=e
   rw [d.2.1 r c] at g;cases g
  ·have f:∀ r ∈ l,Q3a r=true:=by
    intro r c;have:=List.any_eq_false.1 e r c
    simpa using this
   refine Q4 (Z0t b (by simp only;omega) (fun r c=>((Q0v r).1 (f r c)).2.1)) ?_;refine Q4 (Z4w b (by unfold LIM;simp only;omega)) ?_
   simp only
   by_cases hc:cn (inR l)=l
   ·rw [decide_eq_true hc,Q3f ⟨h,f,(Z0Q l).2 hc⟩]
   ·rw [decide_eq_false hc,Q8F fun d=>hc ((Z0Q l).1 d.2.2)]
def Z0L {α:Type} (p:α->Bool) (l:List α):Int:=if l.any p then (l.findIdx p:Int) else -1
theorem Z3x {α:Type} [Emb α] {l:List α} {p:α->Bool} {i:Nat} (h:i<l.length) (hb:∀ j,j<i->p (gl l j)=false) (hi:p (gl l i)=true):l.findIdx p=i:=by
 induction l generalizing i with
 | nil=>simp at h
 | cons a l ih=>
  rw [List.findIdx_cons]
  cases i with
  | zero=>
   have:p a=true:=hi
   rw [this];rfl
  | succ i=>
   have b:p a=false:=hb 0 (by omega);rw [b]
   have:=ih (i:=i) (by simpa using h) (fun j c=>hb (j+1) (by omega)) hi
   simp [this]
theorem Q6y {α:Type} [Emb α] {l:List α} {p:α->Bool} (h:∀ j,j<l.length->p (gl l j)=false):l.any p=false:=by
 rw [List.any_eq_false];intro x b
 obtain ⟨j,a,rfl⟩:=List.getElem_of_mem b;have:=h j a
 rw [z8 a] at this;simpa using this
theorem Z0D {F:Nat} (hF:BIG<=F) {l:List A2_} {q:A2_->Option Bool} (p:A2_->Bool) (hl:l.length<=1000000000) (hq:∀ r ∈ l,q r=some (p r)):Q0i F l q=some (Z0L p l):=by
 unfold BIG at hF;unfold Q0i
 refine Y9 (fun z:Int=>∃ i:Nat,z=i/\i<=l.length/\∀ j,j<i->p (gl l j)=false) (fun z=>l.length-z.toNat) (fun b z g f=>?_) ⟨0,rfl,by omega,fun j m=>by omega⟩ (by simp;omega);obtain ⟨i,rfl,n,d⟩:=g
 unfold Q4J;refine Q8 (fun h=>?_) (fun h=>?_)
 ·have h:i<l.length:=by simpa using h
  refine Z7 (k:=?_);refine Q4 (hq _ (V7 h)) ?_
  simp only [Int.toNat_natCast];refine Q8 (fun a=>?_) (fun a=>?_)
  ·have c:l.any p=true:=List.any_eq_true.2 ⟨_,V7 h,a⟩
   rw [Z0L,if_pos c,Z3x h d a]
  ·refine Z7 (k:=?_)
   refine f _ ⟨i+1,by omega,h,fun j m=>?_⟩ (by omega);rcases Nat.lt_or_ge j i with e|e
   ·exact d j e
   ·have:j=i:=by omega
    subst this;exact a
 ·have h:¬ i<l.length:=by simpa using h
  have:i=l.length:=by omega
  subst this;have c:=Q6y d
  rw [Z0L,c];rfl
theorem Q9Y {F:Nat} (hF:BIG<=F) {l:List A2_} {q:A2_->Option Bool} (p:A2_->Bool) (hl:l.length<=1000000000) (hq:∀ r ∈ l,q r=some (p r)):Q0a F l q=some (l.filter fun r=> !p r):=by
 have t:=hF;unfold BIG at hF
 unfold Q0a;refine Q4 (Z0D t p hl hq) ?_
 by_cases g:l.any p=true
 ·obtain ⟨x,n,A⟩:=List.any_eq_true.1 g
  have f:l.findIdx p<l.length:=List.findIdx_lt_length_of_exists ⟨x,n,A⟩;have B:p (gl l (l.findIdx p))=true:=by rw [z8 f];exact List.findIdx_getElem (w:=f)
  have y:∀ j,j<l.findIdx p->p (gl l j)=false:=by
   intro j s;rw [z8 (by omega)]
   simpa using List.not_of_lt_findIdx s
  rw [Z0L,if_pos g];refine Q9 (by simp) ?_
  refine Z7 (k:=?_);generalize l.findIdx p=i0 at *
  have E:(l.take (i0+1)).filter (fun r=> !p r)=l.take i0:=by
   rw [y4 f,List.filter_append];have G:(l.take i0).filter (fun r=> !p r)=l.take i0:=by
    rw [List.filter_eq_self];intro x n
    obtain ⟨j,s,rfl⟩:=List.getElem_of_mem n;have C : j<i0:=by simp at s;omega
    have:=y j C
    rw [z8 (by omega)] at this;simp [this]
   rw [G];simp [B]
  refine Y9 (fun z:Int×Int×List A2_=>∃ (i j:Nat) (a:List A2_),z=((i:Int),(j:Int),a)/\i<j/\j<=l.length/\a.length=l.length/\(∀ m,j<=m->gl a m=gl l m)/\a.take i=(l.take j).filter fun r=> !p r)
   (fun z=>l.length-z.2.1.toNat) (fun u z D v=>?_) ⟨i0,i0+1,l,rfl,by omega,by omega,rfl,fun _ _=>rfl,E.symm⟩ (by simp only;omega)
  obtain ⟨i,j,a,rfl,I,s,c,d,e⟩:=D;simp only at v ⊢
  unfold Q3W;rw [c]
  refine Q8 (fun h=>?_) (fun h=>?_)
  ·have h:j<l.length:=by simpa using h
   refine Z7 (k:=?_);simp only [Int.toNat_natCast]
   rw [d j (Nat.le_refl _)];refine Q4 (hq _ (V7 h)) ?_
   have o:(l.take (j+1)).filter (fun r=> !p r)=(l.take j).filter (fun r=> !p r)++(if p (gl l j)=true then [] else [gl l j]):=by
    rw [y4 h,List.filter_append]
    by_cases b:p (gl l j)=true
    ·rw [if_pos b];simp [b]
    ·rw [if_neg b];simp [b]
   refine Q8 (fun b=>?_) (fun b=>?_)
   ·have b:p (gl l j)=false:=by simpa using b
    refine Z7 (k:=?_);refine Z7 (k:=?_)
    unfold J8;refine Z7 (k:=?_)
    refine v _ ⟨i+1,j+1,a.set i (gl l j),rfl,by omega,by omega,by simp [c],fun m H=>?_,?_⟩ (by simp only;omega)
    ·rw [Z9a _ _ _ _ (by omega),if_neg (by omega)];exact d m (by omega)
    ·rw [o,if_neg (by rw [b];simp), <-e,y4 (by simp;omega),Z4t _ _ _ _ (Nat.le_refl _),Z9a _ _ _ _ (by omega),if_pos rfl]
   ·have b:p (gl l j)=true:=by simpa using b
    unfold J8;refine Z7 (k:=?_)
    refine v _ ⟨i,j+1,a,rfl,by omega,by omega,c,fun m H=>d m (by omega),?_⟩ (by simp only;omega);rw [o,if_pos b,List.append_nil,e]
  ·have h:¬ j<l.length:=by simpa using h
   unfold Q1v;simp only [Int.toNat_natCast,Y3l,c]
   refine Z7 (k:=?_);refine Z7 (k:=?_)
   rw [Y0v _ _ _ (by omega),e,List.take_of_length_le (by omega)]
 ·have g:l.any p=false:=by simpa using g
  rw [Z0L,g];refine Y2 rfl ?_
  congr 1
  symm
  rw [List.filter_eq_self];intro x n
  have:=List.any_eq_false.1 g x n
  simpa using this
theorem Q9x {F:Nat} {l:List Rect} (hl:l.length<=LIM):Q1s F l=some l:=by
 unfold Q1s
 cases h:l with
 | nil=>
  show gdc _ _=_;unfold gdc
  exact @Z3 _ _ (Classical.propDecidable _) _ _ rfl rfl
 | cons a l' =>
  have:(a::l').length=l'.length+1:=rfl
  show (gd _ _)=_;rw [<-h]
  refine Z7 (k:=?_);simp
noncomputable def Z2F (f:A2_):Int:=
 if f.N_<1\/1073741824<f.N_ then 2 else if f.k_<0\/15<f.k_ then 14 else if f.F_<0\/f.u_<=f.F_\/36865<f.u_ then 9
 else if f.g_.t_.length=0\/Q3D f.g_.t_=false then 7 else 0
theorem Z7J {F:Nat} (hF:BIG<=F) (f:A2_):Z0O F f=some (Z2F f):=by
 have e:∀ b:Bool,(b=true↔f.g_.t_.length=0\/Q3D f.g_.t_=false)->Q5C F b=some (if f.g_.t_.length=0\/Q3D f.g_.t_=false then 7 else 0):=by
  intro b a;unfold Q5C
  refine Q8 (fun h=>by rw [if_pos (a.1 h)]) (fun h=>by rw [if_neg fun c=>by rw [a.2 c] at h;cases h])
 have g:∀ b:Bool,(b=true↔f.F_<0\/f.u_<=f.F_\/36865<f.u_)->Q2F F f b=some (if f.F_<0\/f.u_<=f.F_\/36865<f.u_ then 9 else if f.g_.t_.length=0\/Q3D f.g_.t_=false then 7 else 0):=by
  intro b a;unfold Q2F
  refine Q8 (fun h=>by rw [if_pos (a.1 h)]) (fun h=>?_);rw [if_neg fun c=>by rw [a.2 c] at h;cases h]
  refine Q4 (Q1l hF _) ?_;rw [Q7j (Q5C F)]
  exact e _ (by simp [or_comm])
 have d:∀ b:Bool,(b=true↔f.k_<0\/15<f.k_)->Q2G F f b=some (if f.k_<0\/15<f.k_ then 14 else if f.F_<0\/f.u_<=f.F_\/36865<f.u_ then 9 else if f.g_.t_.length=0\/Q3D f.g_.t_=false then 7 else 0):=by
  intro b a;unfold Q2G
  refine Q8 (fun h=>by rw [if_pos (a.1 h)]) (fun h=>?_);rw [if_neg fun c=>by rw [a.2 c] at h;cases h]
  rw [Q7j (Q2F F f),Q7j (Q2F F f)];exact g _ (by simp)
 unfold Z0O Z0H Z2F;rw [Q7j (fun b=>br b (some (2:Int)) (br (decide (f.k_<(0:Int))) (Q2G F f true) (Q2G F f (decide ((15:Int)<f.k_)))))]
 refine Q8 (fun h=>by rw [if_pos (by simpa using h)]) (fun h=>?_);rw [if_neg (by simpa using h),Q7j (Q2G F f)]
 exact d _ (by simp)
theorem Z8c {F:Nat} (hF:BIG<=F) (f:A2_):Q5s F f=some (Z2F f):=by
 have e:∀ b:Bool,(b=true↔f.g_.t_.length=0\/Q3D f.g_.t_=false)->Q2O F b=some (if f.g_.t_.length=0\/Q3D f.g_.t_=false then 7 else 0):=by
  intro b c;unfold Q2O
  refine Q8 (fun h=>by rw [if_pos (c.1 h)]) (fun h=>by rw [if_neg fun d=>by rw [c.2 d] at h;cases h])
 have i:∀ b:Bool,(b=true↔f.F_<0\/f.u_<=f.F_\/36865<f.u_)->Q0f F f b=some (if f.F_<0\/f.u_<=f.F_\/36865<f.u_ then 9 else if f.g_.t_.length=0\/Q3D f.g_.t_=false then 7 else 0):=by
  intro b c;unfold Q0f
  refine Q8 (fun h=>by rw [if_pos (c.1 h)]) (fun h=>?_);rw [if_neg fun d=>by rw [c.2 d] at h;cases h]
  refine Q8 (fun a=>?_) (fun a=>?_)
  ·have a:f.g_.t_.length=0:=by simp at a;simp [a]
   exact e _ (by simp [a])
  ·have a:f.g_.t_.length≠0:=by simp at a;simpa using a
   exact Q4 (Q0n hF _) (e _ (by simp [a]))
 have g:∀ b:Bool,(b=true↔f.k_<0\/15<f.k_)->Q0g F f b=some (if f.k_<0\/15<f.k_ then 14 else if f.F_<0\/f.u_<=f.F_\/36865<f.u_ then 9 else if f.g_.t_.length=0\/Q3D f.g_.t_=false then 7 else 0):=by
  intro b c;unfold Q0g
  refine Q8 (fun h=>by rw [if_pos (c.1 h)]) (fun h=>?_);rw [if_neg fun d=>by rw [c.2 d] at h;cases h]
  rw [Q7j (Q0f F f),Q7j (Q0f F f)];exact i _ (by simp)
 unfold Q5s Q4V Z2F;rw [Q7j (fun b=>br b (some (2:Int)) (br (decide (f.k_<(0:Int))) (Q0g F f true) (Q0g F f (decide ((15:Int)<f.k_)))))]
 refine Q8 (fun h=>by rw [if_pos (by simpa using h)]) (fun h=>?_);rw [if_neg (by simpa using h),Q7j (Q0g F f)]
 exact g _ (by simp)
noncomputable def Z2W:Option Int->List A2_->Int
 | _,[]=>0
 | p,f::l=>if Z2F f≠0 then Z2F f else if p.any (fun n=>decide (f.N_<=n)) then 3 else Z2W (some f.N_) l
noncomputable def Q9Q (l:List A2_):Int:=if 60<l.length then 1 else Z2W none l
def Z6y (l:List A2_) (i:Nat):Option Int:=if i=0 then none else some (gl l (i-1)).N_
theorem Y0Y (l:List A2_) (i:Nat):Z6y l (i+1)=some (gl l i).N_:=by simp [Z6y]
theorem Y0P {F:Nat} (hF:BIG<=F) (l:List A2_):Q9C F l=some (Q9Q l):=by
 have j:=hF;unfold BIG at hF
 unfold Q9C Q9Q;refine Q8 (fun h=>?_) (fun h=>?_)
 ·have h:60<l.length:=by simp at h;omega
  rw [if_pos h]
 ·have h:¬ 60<l.length:=by simp at h;omega
  rw [if_neg h];refine Y9 (fun z:Int=>∃ i:Nat,z=i/\i<=l.length/\Z2W none l=Z2W (Z6y l i) (l.drop i)) (fun z=>l.length-z.toNat) (fun c z q p=>?_) ⟨0,rfl,by omega,rfl⟩ (by simp;omega)
  obtain ⟨i,rfl,s,a⟩:=q;unfold Z4S
  refine Q8 (fun d=>?_) (fun d=>?_)
  ·have d:i<l.length:=by simpa using d
   rw [Q1J d,Z2W] at a;refine Z7 (k:=?_)
   simp only [Int.toNat_natCast];refine Q4 (Z7J j _) ?_
   refine Q8 (fun e=>?_) (fun e=>?_)
   ·have e:Z2F (gl l i)≠0:=by simpa using e
    rw [a,if_pos e]
   ·have e:Z2F (gl l i)=0:=by simpa using e
    rw [if_neg (by simp [e])] at a;have o:∀ b:Bool,b=(Z6y l i).any (fun n=>decide ((gl l i).N_<=n))->Q5m F i c b=some (Z2W none l):=by
     intro b g;unfold Q5m
     refine Q8 (fun m=>?_) (fun m=>?_)
     ·rw [a,if_pos (g ▸ m)]
     ·rw [if_neg (by rw [<-g,m];simp)] at a
      refine Z7 (k:=?_);refine p _ ⟨i+1,by omega,d,?_⟩ (by omega)
      rw [a,Y0Y]
    refine Q8 (fun f=>?_) (fun f=>?_)
    ·have f:0<i:=by simpa using f
     refine Z7 (k:=?_);refine Z7 (k:=?_)
     have r:((i:Int)-1).toNat=i-1:=by omega
     rw [r];exact o _ (by simp [Z6y,show i≠0 from by omega])
    ·have f:i=0:=by simp at f;omega
     exact o _ (by simp [Z6y,f])
  ·have d:¬ i<l.length:=by simpa using d
   rw [List.drop_of_length_le (by omega)] at a;rw [a];rfl
theorem Z9f {F:Nat} (hF:BIG<=F) (l:List A2_):Q6w F l=some (Q9Q l):=by
 have j:=hF;unfold BIG at hF
 unfold Q6w Q9Q;refine Q8 (fun h=>?_) (fun h=>?_)
 ·have h:60<l.length:=by simp at h;omega
  rw [if_pos h]
 ·have h:¬ 60<l.length:=by simp at h;omega
  rw [if_neg h];refine Y9 (fun z:Int=>∃ i:Nat,z=i/\i<=l.length/\Z2W none l=Z2W (Z6y l i) (l.drop i)) (fun z=>l.length-z.toNat) (fun c z q p=>?_) ⟨0,rfl,by omega,rfl⟩ (by simp;omega)
  obtain ⟨i,rfl,s,a⟩:=q;unfold Z2R
  refine Q8 (fun d=>?_) (fun d=>?_)
  ·have d:i<l.length:=by simpa using d
   rw [Q1J d,Z2W] at a;refine Z7 (k:=?_)
   simp only [Int.toNat_natCast];refine Q4 (Z8c j _) ?_
   refine Q8 (fun e=>?_) (fun e=>?_)
   ·have e:Z2F (gl l i)≠0:=by simpa using e
    rw [a,if_pos e]
   ·have e:Z2F (gl l i)=0:=by simpa using e
    rw [if_neg (by simp [e])] at a;have o:∀ b:Bool,b=(Z6y l i).any (fun n=>decide ((gl l i).N_<=n))->Q3x F i c b=some (Z2W none l):=by
     intro b g;unfold Q3x
     refine Q8 (fun m=>?_) (fun m=>?_)
     ·rw [a,if_pos (g ▸ m)]
     ·rw [if_neg (by rw [<-g,m];simp)] at a
      refine Z7 (k:=?_);refine p _ ⟨i+1,by omega,d,?_⟩ (by omega)
      rw [a,Y0Y]
    refine Q8 (fun f=>?_) (fun f=>?_)
    ·have f:0<i:=by simpa using f
     refine Z7 (k:=?_);refine Z7 (k:=?_)
     have r:((i:Int)-1).toNat=i-1:=by omega
     rw [r];exact o _ (by simp [Z6y,show i≠0 from by omega])
    ·have f:i=0:=by simp at f;omega
     exact o _ (by simp [Z6y,f])
  ·have d:¬ i<l.length:=by simpa using d
   rw [List.drop_of_length_le (by omega)] at a;rw [a];rfl
structure VL (l:List A2_):Prop where
 len:l.length<=60
 one:∀ f ∈ l,Z2F f=0
 asc:l.Pairwise fun f g=>f.N_<g.N_
theorem Y1v:∀ (l:List A2_) (p:Option Int),Z2W p l=0↔(∀ f ∈ l,Z2F f=0)/\l.Pairwise (fun f g=>f.N_<g.N_)/\∀ n,p=some n->∀ f ∈ l,n<f.N_
 | [],p=>by simp [Z2W]
 | f::l,p=>by
  have k:=Y1v l (some f.N_);unfold Z2W
  by_cases h1:Z2F f=0
  ·rw [if_neg (by simp [h1])]
   by_cases e:p.any (fun n=>decide (f.N_<=n))=true
   ·rw [if_pos e]
    constructor
    ·intro h;cases h
    ·rintro ⟨_,_,h⟩
     cases p with
     | none=>simp at e
     | some n=>
      have e:f.N_<=n:=by simpa using e
      have:=h n rfl f (by simp)
      omega
   ·rw [if_neg e,k]
    constructor
    ·rintro ⟨a,b,c⟩
     refine ⟨fun g d=>?_,List.pairwise_cons.2 ⟨fun g d=>c _ rfl g d,b⟩,fun n i g d=>?_⟩
     ·rcases List.mem_cons.1 d with rfl|d
      ·exact h1
      ·exact a g d
     ·subst i
      have e:n<f.N_:=by simpa using e
      rcases List.mem_cons.1 d with rfl|d
      ·exact e
      ·have:=c _ rfl g d;omega
    ·rintro ⟨a,b,c⟩
     obtain ⟨m,j⟩:=List.pairwise_cons.1 b;exact ⟨fun g d=>a g (by simp [d]),j,fun n i g d=>by cases i;exact m g d⟩
  ·rw [if_pos h1]
   constructor
   ·intro h;exact absurd h h1
   ·rintro ⟨a,_,_⟩;exact absurd (a f (by simp)) h1
theorem Z0P (l:List A2_):Q9Q l=0↔VL l:=by
 unfold Q9Q
 by_cases h:60<l.length
 ·rw [if_pos h]
  exact ⟨fun h=>(by cases h),fun c=>by have:=c.len;omega⟩
 ·rw [if_neg h,Y1v]
  exact ⟨fun ⟨a,b,_⟩=>⟨by omega,a,b⟩,fun c=>⟨c.one,c.asc,fun n d=>by cases d⟩⟩
theorem Z5B (f:A2_):Z2F f=0↔1<=f.N_/\f.N_<=1073741824/\0<=f.k_/\f.k_<=15/\0<=f.F_/\f.F_<f.u_/\f.u_<=36865/\f.g_.t_.length≠0/\Val f.g_.t_:=by
 unfold Z2F;rw [<-Q0P]
 by_cases h1:f.N_<1\/1073741824<f.N_
 ·rw [if_pos h1];simp;omega
 ·rw [if_neg h1]
  by_cases h2:f.k_<0\/15<f.k_
  ·rw [if_pos h2];simp;omega
  ·rw [if_neg h2]
   by_cases h3:f.F_<0\/f.u_<=f.F_\/36865<f.u_
   ·rw [if_pos h3];simp;omega
   ·rw [if_neg h3]
    by_cases a:f.g_.t_.length=0\/Q3D f.g_.t_=false
    ·rw [if_pos a]
     constructor
     ·intro h;cases h
     ·rintro ⟨_,_,_,_,_,_,_,c,b⟩
      rcases a with a|a
      ·exact absurd a c
      ·rw [b] at a;cases a
    ·rw [if_neg a]
     refine ⟨fun _=>?_,fun _=>rfl⟩;have c:f.g_.t_.length≠0:=fun h=>a (.inl h)
     have b:Q3D f.g_.t_=true:=by
      cases hv:Q3D f.g_.t_ with
      | true=>rfl
      | false=>exact absurd (.inr hv) a
     refine ⟨by omega,by omega,by omega,by omega,by omega,by omega,by omega,c,b⟩
theorem Z8d {F:Nat} {f:A2_} (h:f.g_.t_.length<=LIM):Q5t F f=some f:=by
 unfold Q5t;exact Q4 (Q9x h) rfl
theorem VL.rlen {l:List A2_} (h:VL l) {f:A2_} (hf:f ∈ l):f.g_.t_.length<=120:=((Z5B f).1 (h.one f hf)).2.2.2.2.2.2.2.2.1
theorem Y1m {F:Nat} (hF:BIG<=F) {l:List A2_} (h:VL l):Q9O F l=some l:=by
 unfold BIG at hF;have d:=h.len
 unfold Q9O;refine Y9 (fun z:Int×List A2_=>∃ i:Nat,z=((i:Int),l.take i)/\i<=l.length) (fun z=>l.length-z.1.toNat) (fun b z e c=>?_) ⟨0,rfl,by omega⟩ (by simp only;omega)
 obtain ⟨i,rfl,f⟩:=e;simp only at c ⊢
 unfold Z5o;refine Q8 (fun a=>?_) (fun a=>?_)
 ·have a:i<l.length:=by simpa using a
  refine Z7 (k:=?_);simp only [Int.toNat_natCast]
  refine Q4 (Z8d (by have:=h.rlen (V7 a);unfold LIM;omega)) ?_;refine Z7 (k:=?_)
  refine Z7 (k:=?_);exact c _ ⟨i+1,by rw [y4 a];rfl,a⟩ (by simp only;omega)
 ·have a:¬ i<l.length:=by simpa using a
  unfold Z1w;rw [List.take_of_length_le (by omega)]
def Z8t (f:A2_) (d:Int):Bool:=decide (f.F_<=d)&&decide (d<f.u_)
theorem Z2O (F:Nat) (f:A2_) (d:Int):Q4v F f d=some (Z8t f d):=by
 unfold Q4v;rw [Q3S (Q5Q F)];rfl
theorem Z9d {F:Nat} (hF:BIG<=F) (l:List A2_) (d:Int):Q6v F l d=some (if Q9Q l≠0 then Q9Q l else if d<0\/36864<d then 9 else 0):=by
 unfold Q6v;refine Q4 (Z9f hF l) ?_
 refine Q8 (fun h=>?_) (fun h=>?_)
 ·have h:Q9Q l≠0:=by simpa using h
  rw [if_pos h]
 ·have h:Q9Q l=0:=by simpa using h
  rw [if_neg (by simp [h]),Q7j (Q3u F)];unfold Q3u
  refine Q8 (fun h=>?_) (fun h=>?_)
  ·rw [if_pos (by simpa using h)]
  ·rw [if_neg (by simpa using h)]
theorem Z6C {F:Nat} (hF:BIG<=F) (l:List A2_) (d:Int):Q9d F l d=some (if Q9Q l≠0 then ([],Q9Q l) else if d<0\/36864<d then ([],9) else (l.filter fun f=>Z8t f d,0)):=by
 unfold Q9d;refine Q4 (Z9d hF l d) ?_
 by_cases h:Q9Q l=0
 ·simp only [h,ne_eq,not_true_eq_false,if_false]
  by_cases h2:d<0\/36864<d
  ·simp only [h2,if_true]
   exact Y2 rfl rfl
  ·simp only [h2,if_false]
   refine Q9 rfl ?_;have b:=(Z0P l).1 h
   refine Q4 (Y1m hF b) ?_;have a:=b.len
   refine Q4 (Q9Y hF (fun f=> !Z8t f d) (by omega) (fun f _=>by unfold Z0N;rw [Z2O];rfl)) ?_;simp
 ·have e:(if Q9Q l≠0 then Q9Q l else if d<0\/36864<d then 9 else 0)=Q9Q l:=if_pos h
  rw [e,if_pos h];refine Y2 (by simpa using h) rfl
def Q4P (l:List A2_) (n:Int):Nat:=l.countP fun f=>decide (f.N_<n)
theorem Z6U {l:List A2_} (h:l.Pairwise fun f g=>f.N_<g.N_) (n:Int):Q4P l n<=l.length/\(∀ j,j<Q4P l n->(gl l j).N_<n)/\∀ j,Q4P l n<=j->j<l.length->n<=(gl l j).N_:=by
 induction l with
 | nil=>exact ⟨Nat.le_refl _,fun j i=>by simp [Q4P] at i,fun j _ i=>by simp at i⟩
 | cons f l ih=>
  obtain ⟨k,p⟩:=List.pairwise_cons.1 h;obtain ⟨a,b,c⟩:=ih p
  by_cases hf:f.N_<n
  ·have e:Q4P (f::l) n=Q4P l n+1:=by simp [Q4P,hf]
   rw [e];refine ⟨by simp;exact a,fun j i=>?_,fun j i d=>?_⟩
   ·cases j with
    | zero=>exact hf
    | succ j=>exact b j (by omega)
   ·cases j with
    | zero=>omega
    | succ j=>exact c j (by omega) (by simpa using d)
  ·have o:Q4P l n=0:=by
    unfold Q4P;rw [List.countP_eq_zero]
    intro g m;have:=k g m
    simp;omega
   have e:Q4P (f::l) n=0:=by
    have:Q4P (f::l) n=Q4P l n:=by simp [Q4P,hf]
    rw [this,o]
   rw [e];refine ⟨Nat.zero_le _,fun j i=>by omega,fun j _ d=>?_⟩
   cases j with
   | zero=>show n<=f.N_;omega
   | succ j=>exact c j (by omega) (by simpa using d)
structure TOk (t:Tape):Prop where
 at_:0<=t.at_
 len:t.l_.length<=400
theorem Y3V {F:Nat} (a:Int) {n:Int} (h1:1<=n) (h2:n<=1099511627776):∃ k,Q9M F a n=some k/\0<=k/\k<n:=by
 have c:=Int.tmod_lt_of_pos a (show 0<n by omega);have b:=Int.lt_tmod_of_pos a (show 0<n by omega)
 unfold Q9M;generalize a.tmod n=m at *
 by_cases h:m<0
 ·refine ⟨m+n,?_,by omega,by omega⟩
  refine Q9 (by simp;omega) ?_;refine Z7 (k:=?_)
  refine Y2 (by simpa using h) ?_;refine Z7 (k:=?_)
  rfl
 ·refine ⟨m,?_,by omega,by omega⟩
  refine Q9 (by simp;omega) ?_;refine Z7 (k:=?_)
  exact Q9 (by simpa using h) rfl
theorem Z9 {F:Nat} {t:Tape} (ht:TOk t) {n:Int} (h1:1<=n) (h2:n<=1099511627776):∃ t' k,Y3 F t n=some (t',k)/\TOk t' /\ 0<=k/\k<n:=by
 obtain ⟨a,b⟩:=ht;unfold Y3
 by_cases h:(t.l_.length:Int)<=t.at_
 ·exact ⟨t,0,Y2 (by simpa using h) rfl,⟨a,b⟩,by omega,by omega⟩
 ·obtain ⟨k,c,k1,k2⟩:=Y3V (F:=F) (gl t.l_ ((t.at_+1)-1).toNat) h1 h2
  refine ⟨⟨t.l_,t.at_+1⟩,k,?_,⟨by simp only;omega,b⟩,k1,k2⟩;refine Q9 (by simpa using h) ?_
  refine Z7 (k:=?_);refine Z7 (k:=?_)
  refine Z7 (k:=?_);exact Q4 c rfl
theorem V5 {F:Nat} {t:Tape} (ht:TOk t) {lo hi:Int} (h1:lo<=hi) (h0 : -1099511627<=lo) (h2:hi<=1099511627):∃ t' k,W8 F t lo hi=some (t',k)/\TOk t' /\ lo<=k/\k<=hi:=by
 obtain ⟨t',k,d,a,b,c⟩:=Z9 (F:=F) ht (n:=(hi-lo)+1) (by omega) (by omega);refine ⟨t',lo+k,?_,a,by omega,by omega⟩
 unfold W8;refine Z7 (k:=?_)
 refine Z7 (k:=?_);refine Q4 d ?_
 refine Z7 (k:=?_);rfl
def Box (n:Int) (l:List Rect):Prop:=∀ r ∈ l,0<=r.L_/\r.L_<r.R_/\r.R_<=n/\0<=r.w_/\r.w_<r.H_/\r.H_<=n
theorem Box.prop {n:Int} {l:List Rect} (h:Box n l) (hn:n<=16384):∀ r ∈ l,Q3a r=true:=fun r a=>(Q0v r).2 (by have:=h r a;omega)
theorem Box.in {n:Int} {l:List Rect} (h:Box n l) {x y:Int} (hx:inR l x y=true):0<=x/\x<n/\0<=y/\y<n:=by
 obtain ⟨r,a,b⟩:=List.any_eq_true.1 hx;rw [y6] at b
 have:=h r a
 omega
theorem Y8o {l:List (Rn (List Span))} {r:Rect} (h:r ∈ flat l):∃ b ∈ l,∃ s ∈ b.v,r=⟨s.L_,b.lo,s.R_,b.hi⟩:=by
 obtain ⟨b,a,d⟩:=List.mem_flatMap.1 h;obtain ⟨s,c,rfl⟩:=List.mem_map.1 d
 exact ⟨b,a,s,c,rfl⟩
theorem Q2R.pos {l:List Rect} (h:Q2R l) {r:Rect} (hr:r ∈ l):r.L_<r.R_/\r.w_<r.H_:=by
 obtain ⟨b,d,rfl⟩:=h;obtain ⟨c,a,s,e,rfl⟩:=Y8o hr
 exact ⟨(d.sp c a).pos s e,d.runs.pos c a⟩
theorem Z7X {l:List Rect} {r:Rect} (hr:r ∈ l) {x y:Int} (h:r.has x y=true):inR l x y=true:=List.any_eq_true.2 ⟨r,hr,h⟩
theorem Q2R.box {l:List Rect} (h:Q2R l) {n:Int} (hn:∀ x y,inR l x y=true->0<=x/\x<n/\0<=y/\y<n):Box n l:=by
 intro r c;obtain ⟨e,d⟩:=h.pos c
 have a:=hn r.L_ r.w_ (Z7X c ((y6 _ _ _).2 (by omega)));have b:=hn (r.R_-1) (r.H_-1) (Z7X c ((y6 _ _ _).2 (by omega)))
 omega
theorem Y8H {S:Int->Int->Bool} (hf:Fin S) {n:Int} (hn:∀ x y,S x y=true->0<=x/\x<n/\0<=y/\y<n):Box n (cn S):=
 (Q2R.cn hf).box fun x y h=>hn x y (by rwa [Q1I hf] at h)
theorem Y2D:Q2R []:=⟨[],⟨.nil,fun b a=>(List.not_mem_nil a).elim,fun b a=>(List.not_mem_nil a).elim⟩,rfl⟩
theorem Z9k {r:Rect} (h1:r.L_<r.R_) (h2:r.w_<r.H_):Q2R [r]:=
 ⟨[⟨r.w_,r.H_,[⟨r.L_,r.R_⟩]⟩],⟨⟨fun b a=>by rw [List.mem_singleton.1 a];exact h2,List.pairwise_singleton _ _⟩,fun b a=>by
  rw [List.mem_singleton.1 a];exact ⟨fun s c=>by rw [List.mem_singleton.1 c];exact h1,List.pairwise_singleton _ _⟩,fun b a=>by rw [List.mem_singleton.1 a];simp⟩,rfl⟩
theorem Y6p (n:Int):Box n []:=fun r a=>(List.not_mem_nil a).elim
theorem Val.nil:Val []:=⟨by simp,fun r a=>(List.not_mem_nil a).elim,Y2D⟩
theorem Q8j {F:Nat} {t:Tape} (ht:TOk t) {n:Int} (h1:1<=n) (h2:n<=16384):∃ t' r,Q1m F t n=some (t',r)/\TOk t' /\ Box n [r]:=by
 obtain ⟨p,x,g,f,q,s⟩:=Z9 (F:=F) ht (n:=n) (by omega) (by omega);obtain ⟨C,y,h,j,z,w⟩:=Z9 (F:=F) f (n:=n) (by omega) (by omega)
 obtain ⟨m,u,i,e,A,o⟩:=Z9 (F:=F) j (n:=n-x) (by omega) (by omega);obtain ⟨d,v,c,a,B,l⟩:=Z9 (F:=F) e (n:=n-y) (by omega) (by omega)
 refine ⟨d,⟨x,y,(x+1)+u,(y+1)+v⟩,?_,a,fun r b=>?_⟩
 ·unfold Q1m
  refine Q4 g ?_;refine Q4 h ?_
  simp only
  refine Z7 (k:=?_);refine Z7 (k:=?_)
  refine Q4 i ?_;simp only
  refine Z7 (k:=?_);refine Z7 (k:=?_)
  refine Z7 (k:=?_);refine Q4 c ?_
  simp only
  refine Z7 (k:=?_);rfl
 ·rw [List.mem_singleton.1 b]
  simp only
  omega
structure RegT (n:Int) (a:Re_):Prop where
 box:Box n a.t_
 val:Val a.t_
theorem Q9K {F:Nat} (hF:BIG<=F) {t:Tape} (ht:TOk t) {n most:Int} (h1:1<=n) (h2:n<=16384) (m1:0<=most) (m2:most<=100):∃ t' a R,Q0Z F t n most=some (t',a)/\TOk t' /\ RegT n a/\(List.length (α:=Rect) R:Int)<=most/\inR a.t_=inR R:=by
 have i:=hF;unfold BIG at hF
 obtain ⟨A,c,v,D,I,H⟩:=Z9 (F:=F) ht (n:=most+1) (by omega) (by omega);have j:∀ (k f:Nat) (t:Tape) (l:List Rect),k<f->TOk t->Box n l->l.length+k<=100->(l.length:Int)+k<=most->∃ t' a R,Z8 (fun again (z:Int×List Int×Int×List Rect)=>Q0M F n again z.1 z.2.1 z.2.2.1 z.2.2.2) f ((k:Int),t.l_,t.at_,l)=some (t',a)/\TOk t' /\ RegT n a/\(List.length (α:=Rect) R:Int)<=most/\inR a.t_=inR R:=by
  intro k
  induction k with
  | zero=>
   intro f t l u ht e B E
   cases f with
   | zero=>omega
   | succ f=>
    have o:=Y3L i (l:=l) (by omega) (e.prop h2);refine ⟨⟨t.l_,t.at_⟩,(if 120<(cn (inR l)).length then ((⟨[]⟩:Re_),(1:Int)) else (⟨cn (inR l)⟩,0)).1,(if 120<(cn (inR l)).length then [] else l),?_,ht,?_⟩
    ·show Q0M F n _ 0 t.l_ t.at_ l=_
     unfold Q0M;refine Q9 rfl ?_
     unfold Q5Y;exact Q4 o rfl
    ·split
     ·exact ⟨⟨Y6p _,Val.nil⟩,by simp;omega,rfl⟩
     ·rename_i p
      have b:Box n (cn (inR l)):=Y8H (G6 l) fun x y h=>e.in h
      exact ⟨⟨b,by simp only;omega,b.prop h2,Q2R.cn (G6 l)⟩,by omega,by funext x y;exact Q1I (G6 l) x y⟩
  | succ k ih=>
   intro f t l u ht e B E
   cases f with
   | zero=>omega
   | succ f=>
    obtain ⟨t',r,C,w,s⟩:=Q8j (F:=F) ht h1 h2;obtain ⟨G,a,Q,g,m,b⟩:=ih f t' (l++[r]) (by omega) w (fun q d=>by
     rcases List.mem_append.1 d with d|d
     ·exact e q d
     ·exact s q d) (by simp;omega) (by simp;omega)
    refine ⟨G,a,Q,?_,m,b⟩;show Q0M F n _ ((k+1:Nat):Int) t.l_ t.at_ l=_
    unfold Q0M;refine Y2 (by simp) ?_
    refine Q4 C ?_;refine Z7 (k:=?_)
    refine Z7 (k:=?_);have:((k+1:Nat):Int)-1=(k:Int):=by omega
    rw [this];exact g
 obtain ⟨t',a,Q,g,m,b⟩:=j c.toNat F A [] (by omega) D (Y6p _) (by simp;omega) (by simp;omega);refine ⟨t',a,Q,?_,m,b⟩
 unfold Q0Z;refine Z7 (k:=?_)
 refine Q4 v ?_;have:(c.toNat:Int)=c:=by omega
 rw [this] at g;exact g
theorem Z0x {F:Nat} (hF:BIG<=F) {t:Tape} (ht:TOk t) {n most:Int} (h1:1<=n) (h2:n<=16384) (m1:0<=most) (m2:most<=100):∃ t' a,Q0Z F t n most=some (t',a)/\TOk t' /\ RegT n a:=by
 obtain ⟨t',a,_,e,o,h,_⟩:=Q9K hF ht h1 h2 m1 m2;exact ⟨t',a,e,o,h⟩
theorem Z6Z {F:Nat} (hF:BIG<=F) {t:Tape} (ht:TOk t) {n most:Int} (h1:1<=n) (h2:n<=16384) (m1:1<=most) (m2:most<=100):∃ t' a R,Q1n F t n most=some (t',a)/\TOk t' /\ RegT n a/\a.t_.length≠0/\(List.length (α:=Rect) R:Int)<=most/\inR a.t_=inR R:=by
 obtain ⟨f,a,Q,d,c,k,j⟩:=Q9K hF ht h1 h2 (by omega) m2;unfold Q1n
 by_cases h:a.t_.length=0
 ·obtain ⟨e,r,i,l,b⟩:=Q8j (F:=F) c h1 h2
  have g:=b r (by simp);refine ⟨⟨e.l_,e.at_⟩,⟨[r]⟩,[r],?_,l,⟨b,by simp,b.prop h2,Z9k (by omega) (by omega)⟩,by simp,by simp;omega,rfl⟩
  refine Q4 d ?_;refine Y2 (by simp only [h];rfl) ?_
  exact Q4 i rfl
 ·refine ⟨⟨f.l_,f.at_⟩,⟨a.t_⟩,Q,?_,c,k,h,j⟩
  refine Q4 d ?_;exact Q9 (by simpa using h) rfl
theorem Z7U {F:Nat} (hF:BIG<=F) {t:Tape} (ht:TOk t) {n most:Int} (h1:1<=n) (h2:n<=16384) (m1:0<=most) (m2:most<=100):∃ t' a,Q1n F t n most=some (t',a)/\TOk t' /\ RegT n a/\a.t_.length≠0:=by
 obtain ⟨f,a,d,c,j⟩:=Z0x hF ht h1 h2 m1 m2;unfold Q1n
 by_cases h:a.t_.length=0
 ·obtain ⟨e,r,i,k,b⟩:=Q8j (F:=F) c h1 h2
  have g:=b r (by simp);refine ⟨⟨e.l_,e.at_⟩,⟨[r]⟩,?_,k,⟨b,by simp,b.prop h2,Z9k (by omega) (by omega)⟩,by simp⟩
  refine Q4 d ?_;refine Y2 (by simp only [h];rfl) ?_
  exact Q4 i rfl
 ·refine ⟨⟨f.l_,f.at_⟩,⟨a.t_⟩,?_,c,j,h⟩
  refine Q4 d ?_;exact Q9 (by simpa using h) rfl
structure FeaT (f:A2_):Prop where
 kind:0<=f.k_/\f.k_<=15
 F_:0<=f.F_/\f.F_<20
 u_:f.F_<f.u_/\f.u_<=f.F_+30
 reg:RegT 9 f.g_
 ne:f.g_.t_.length≠0
theorem Z5h {F:Nat} (hF:BIG<=F) {t:Tape} (ht:TOk t) (n:Int):∃ t' f,Q2L F t n=some (t',f)/\TOk t' /\ FeaT f/\f.N_=n:=by
 obtain ⟨v,a,m,l,w,s⟩:=Z9 (F:=F) ht (n:=20) (by omega) (by omega);obtain ⟨z,b,p,q,y,x⟩:=Z9 (F:=F) l (n:=16) (by omega) (by omega)
 obtain ⟨u,c,o,j,A,B⟩:=V5 (F:=F) q (lo:=1) (hi:=30) (by omega) (by omega) (by omega);obtain ⟨i,r,h,e,g,d⟩:=Z7U hF j (n:=9) (most:=2) (by omega) (by omega) (by omega) (by omega)
 refine ⟨i,⟨n,b,a,a+c,r⟩,?_,e,⟨by simp only;omega,by simp only;omega,by simp only;omega,g,d⟩,rfl⟩;unfold Q2L
 refine Q4 m ?_;refine Q4 p ?_
 refine Q4 o ?_;simp only
 refine Z7 (k:=?_);exact Q4 h rfl
theorem FeaT.one {f:A2_} (h:FeaT f) (h1:1<=f.N_) (h2:f.N_<=1073741824):Z2F f=0:=
 (Z5B f).2 ⟨h1,h2,h.kind.1,h.kind.2,h.F_.1,h.u_.1,by have:=h.F_;have:=h.u_;omega,h.ne,h.reg.val⟩
def Y3X (l:List A2_) (f:A2_):List A2_:=l.take (Q4P l f.N_)++[f]++l.drop (Q4P l f.N_)
noncomputable def Y5E (l:List A2_) (f:A2_):List A2_×Int:=
 if Q9Q l≠0 then ([],Q9Q l) else if Z2F f≠0 then ([],Z2F f) else if Q4P l f.N_<l.length/\(gl l (Q4P l f.N_)).N_=f.N_ then ([],6)
 else if l.length=60 then ([],1) else (Y3X l f,0)
theorem Z7K {F:Nat} (hF:BIG<=F) (l:List A2_) (f:A2_):Z2C F l f=some (Y5E l f):=by
 have j:=hF;unfold BIG at hF
 unfold Z2C Y5E;refine Q4 (Y0P j l) ?_
 by_cases h:Q9Q l=0
 ·refine Q9 (by simp [h]) ?_
  rw [if_neg (by simp [h])];refine Q4 (Z7J j f) ?_
  by_cases h1:Z2F f=0
  ·refine Q9 (by simp [h1]) ?_
   rw [if_neg (by simp [h1])];have r:=(Z0P l).1 h
   have p:=r.len;obtain ⟨a,b,c⟩:=Z6U r.asc f.N_
   unfold Y3X;generalize Q4P l f.N_=k at *
   refine Y9 (fun z:Int=>∃ i:Nat,z=i/\i<=k) (fun z=>l.length-z.toNat) (fun o z t s=>?_) ⟨0,rfl,by omega⟩ (by simp;omega);obtain ⟨i,rfl,v⟩:=t
   have n:i=k->Z0I F l f (i:Int)=some (if k<l.length/\(gl l k).N_=f.N_ then ([],6) else if l.length=60 then ([],1) else (l.take k++[f]++l.drop k,0)):=by
    rintro rfl;unfold Z0I
    have m:∀ b:Bool,(b=true↔i<l.length/\(gl l i).N_=f.N_)->Q7X F l f (i:Int) b=some (if i<l.length/\(gl l i).N_=f.N_ then ([],6) else if l.length=60 then ([],1) else (l.take i++[f]++l.drop i,0)):=by
     intro b q;unfold Q7X
     refine Q8 (fun h=>by rw [if_pos (q.1 h)]) (fun h=>?_);rw [if_neg fun u=>by rw [q.2 u] at h;cases h]
     refine Q8 (fun h=>?_) (fun h=>?_)
     ·have h:l.length=60:=by simp at h;omega
      rw [if_pos h]
     ·have h:l.length≠60:=by simp at h;omega
      rw [if_neg h];simp only [Int.toNat_natCast]
      refine Z7 (k:=?_);refine Z7 (k:=?_)
      refine Z7 (k:=?_);refine Z7 (k:=?_)
      refine Z7 (k:=?_);simp
    refine Q8 (fun d=>?_) (fun d=>?_)
    ·have d:i<l.length:=by simpa using d
     refine Z7 (k:=?_);exact m _ (by simp [d])
    ·have d:¬ i<l.length:=by simpa using d
     exact m _ (by simp [d])
   unfold Z7L;refine Q8 (fun d=>?_) (fun d=>?_)
   ·have d:i<l.length:=by simpa using d
    refine Z7 (k:=?_);unfold Q7Y
    simp only [Int.toNat_natCast];refine Q8 (fun e=>?_) (fun e=>?_)
    ·have e:(gl l i).N_<f.N_:=by simpa using e
     refine Z7 (k:=?_);refine s _ ⟨i+1,by omega,?_⟩ (by omega)
     rcases Nat.lt_or_ge i k with g|g
     ·exact g
     ·have:=c i g d;omega
    ·have e:¬ (gl l i).N_<f.N_:=by simpa using e
     refine n ?_;rcases Nat.lt_or_ge i k with g|g
     ·exact absurd (b i g) e
     ·omega
   ·have d:¬ i<l.length:=by simpa using d
    unfold Q7Y;exact Q9 rfl (n (by omega))
  ·refine Y2 (by simpa using h1) ?_
   rw [if_pos h1]
 ·refine Y2 (by simpa using h) ?_
  rw [if_pos h]
theorem Y3W {l:List A2_} {f g:A2_}:g ∈ Y3X l f↔g=f\/g ∈ l:=by
 unfold Y3X;constructor
 ·intro h
  rcases List.mem_append.1 h with h|h
  ·rcases List.mem_append.1 h with h|h
   ·exact .inr (List.mem_of_mem_take h)
   ·exact .inl (List.mem_singleton.1 h)
  ·exact .inr (List.mem_of_mem_drop h)
 ·rintro (rfl|h)
  ·simp
  ·rw [<-List.take_append_drop (Q4P l f.N_) l] at h
   rcases List.mem_append.1 h with h|h
   ·simp [h]
   ·simp [h]
theorem Y9F {l:List A2_} {f:A2_} (hl:VL l) (hf:Z2F f=0) (hn:¬ (Q4P l f.N_<l.length/\(gl l (Q4P l f.N_)).N_=f.N_)) (h60:l.length≠60):VL (Y3X l f):=by
 obtain ⟨a,b,c⟩:=Z6U hl.asc f.N_;have p:=hl.len
 refine ⟨by simp [Y3X];omega,fun g h=>?_,?_⟩
 ·rcases Y3W.1 h with rfl|h
  ·exact hf
  ·exact hl.one g h
 ·unfold Y3X
  generalize Q4P l f.N_=k at *;have t:∀ g ∈ l.take k,g.N_<f.N_:=by
   intro g h;obtain ⟨j,n,rfl⟩:=List.getElem_of_mem h
   have d : j<k:=by simp at n;omega
   have:=b j d
   rw [z8 (by omega)] at this;simpa using this
  have r:∀ g ∈ l.drop k,f.N_<g.N_:=by
   intro g h;obtain ⟨j,n,rfl⟩:=List.getElem_of_mem h
   have d : k+j<l.length:=by simp at n;omega
   have v:=c (k+j) (by omega) d;rw [z8 d] at v
   have A:(l[k+j]).N_≠f.N_:=by
    intro e;rcases Nat.eq_zero_or_pos j with rfl|m
    ·exact hn ⟨by omega,by rw [z8 (by omega)];exact e⟩
    ·have u:=c k (Nat.le_refl _) (by omega)
     rw [z8 (by omega)] at u;have z:=List.pairwise_iff_getElem.1 hl.asc k (k+j) (by omega) d (by omega)
     omega
   simp only [List.getElem_drop];omega
  have m:=hl.asc;rw [<-List.take_append_drop k l,List.pairwise_append] at m
  obtain ⟨s,q,w⟩:=m;rw [List.append_assoc,List.pairwise_append]
  refine ⟨s,List.pairwise_cons.2 ⟨r,q⟩,fun x o y i=>?_⟩;rcases List.mem_append.1 i with i|i
  ·rw [List.mem_singleton.1 i];exact t x o
  ·exact w x o y i
structure LayT (l:List A2_):Prop where
 vl:VL l
 fea:∀ f ∈ l,FeaT f/\1<=f.N_/\f.N_<=12
theorem Z6X {F:Nat} (hF:BIG<=F) {t:Tape} (ht:TOk t) {most:Int} (m1:0<=most) (m2:most<=50):∃ t' l,Q4g F t most=some (t',l)/\TOk t' /\ LayT l/\(l.length:Int)<=most:=by
 have e:=hF;unfold BIG at hF
 obtain ⟨G,c,E,I,O,N⟩:=Z9 (F:=F) ht (n:=most+1) (by omega) (by omega);have r:∀ (k f:Nat) (t:Tape) (l:List A2_),k<f->TOk t->LayT l->(l.length:Int)+k<=most->∃ t' l',Z8 (fun again (z:List A2_×Int×List Int×Int)=>Q1c F again z.1 z.2.1 z.2.2.1 z.2.2.2) f (l,(k:Int),t.l_,t.at_)=some (t',l')/\TOk t' /\ LayT l' /\ (l'.length:Int)<=most:=by
  intro k
  induction k with
  | zero=>
   intro f t l h ht d H
   cases f with
   | zero=>omega
   | succ f=>exact ⟨⟨t.l_,t.at_⟩,l,rfl,ht,d,by omega⟩
  | succ k ih=>
   intro f t l h ht d H
   cases f with
   | zero=>omega
   | succ f=>
    obtain ⟨K,n,v,C,M,L⟩:=V5 (F:=F) ht (lo:=1) (hi:=12) (by omega) (by omega) (by omega);obtain ⟨y,g,B,w,u,J⟩:=Z5h e C n
    have i:=u.one (by omega) (by omega);have D:=(Z0P l).2 d.vl
    have A:((k+1:Nat):Int)-1=(k:Int):=by omega
    by_cases hadd:(Y5E l g).2=0
    ·have o:LayT (Y5E l g).1/\(Y5E l g).1.length=l.length+1:=by
      unfold Y5E at hadd ⊢;rw [if_neg (by simp [D]),if_neg (by simp [i])] at hadd ⊢
      by_cases a:Q4P l g.N_<l.length/\(gl l (Q4P l g.N_)).N_=g.N_
      ·rw [if_pos a] at hadd;cases hadd
      ·rw [if_neg a] at hadd ⊢
       by_cases b:l.length=60
       ·rw [if_pos b] at hadd;cases hadd
       ·rw [if_neg b]
        refine ⟨⟨Y9F d.vl i a b,fun x q=>?_⟩,?_⟩
        ·rcases Y3W.1 q with rfl|q
         ·exact ⟨u,by omega,by omega⟩
         ·exact d.fea x q
        ·have:=(Z6U d.vl.asc g.N_).1
         simp [Y3X];omega
     obtain ⟨s,p,a,b,m,j⟩:=ih f y (Y5E l g).1 (by omega) w o.1 (by omega);refine ⟨s,p,?_,b,m,j⟩
     show Q1c F _ l ((k+1:Nat):Int) t.l_ t.at_=_;unfold Q1c
     refine Y2 (by simp) ?_;refine Q4 v (Q4 B (Q4 (Z7K e l g) ?_))
     refine Y2 (by simpa using hadd) ?_;unfold Q2f
     refine Z7 (k:=?_);rw [A];exact a
    ·obtain ⟨s,p,a,b,m,j⟩:=ih f y l (by omega) w d (by omega)
     refine ⟨s,p,?_,b,m,j⟩;show Q1c F _ l ((k+1:Nat):Int) t.l_ t.at_=_
     unfold Q1c;refine Y2 (by simp) ?_
     refine Q4 v (Q4 B (Q4 (Z7K e l g) ?_));refine Q9 (by simpa using hadd) ?_
     unfold Q2f;refine Z7 (k:=?_)
     rw [A];exact a
 obtain ⟨t',l,a,b,m,j⟩:=r c.toNat F G [] (by omega) I ⟨⟨by simp,fun f h=>(List.not_mem_nil h).elim,.nil⟩,fun f h=>(List.not_mem_nil h).elim⟩ (by simp;omega);refine ⟨t',l,?_,b,m,j⟩
 unfold Q4g;refine Z7 (k:=?_)
 refine Q4 E ?_;have:(c.toNat:Int)=c:=by omega
 rw [this] at a;exact a
theorem Y3U (F:Nat) (l:List Int):∃ t,Z2J F l=some t/\TOk t:=by
 unfold Z2J;have h:Q5P ((l.length:Nat):Int) 400=((min l.length 400:Nat):Int):=by unfold Q5P;split <;> omega
 rw [h];refine ⟨⟨l.take (min l.length 400),0⟩,?_,by simp only;omega,by simp;omega⟩
 refine Z7 (k:=?_);simp
theorem Y5n {R:Type} {body:(Int->Option R)->Int->Option R} {y:Option R} (N:Nat)
  (step:∀ again (i:Nat),i<N->again ((i:Int)+1)=y->body again (i:Int)=y) (stop:∀ again,body again (N:Int)=y) {F:Nat} (hF:N<F):Z8 body F 0=y:=by
 refine Y9 (fun z:Int=>∃ i:Nat,z=i/\i<=N) (fun z=>N-z.toNat) (fun again z b a=>?_) ⟨0,rfl,Nat.zero_le _⟩ (by simp;omega);obtain ⟨i,rfl,c⟩:=b
 rcases Nat.lt_or_ge i N with h|h
 ·exact step again i h (a _ ⟨i+1,by omega,h⟩ (by omega))
 ·have:i=N:=by omega
  subst this;exact stop again
theorem Runs.len {α:Type} {l:List (Rn α)} (h:Runs l) {n:Int}:∀ {a:Int},a<=n->(∀ r ∈ l,a<=r.lo/\r.hi<=n)->(l.length:Int)<=n-a:=by
 induction l with
 | nil=>intro a d _;simp;omega
 | cons r l ih=>
  intro a d c;have e:=c r (by simp)
  have f:=h.pos r (by simp);have:=ih h.tail (a:=r.hi) (by omega) fun q b=>⟨(h.head q b).1,(c q (by simp [b])).2⟩
  rw [List.length_cons];omega
theorem Y1u {S:Int->Int->Bool} (h:Fin S):cn S=[]↔∀ x y,S x y=false:=by
 constructor
 ·intro e x y
  rw [<-Q1I h,e];rfl
 ·intro e
  exact Y4o (l:=[]) ⟨.nil,fun b a=>(List.not_mem_nil a).elim,fun b a=>(List.not_mem_nil a).elim⟩ fun x y=>(e x y).symm
def ovB (r s:Rect):Bool:=decide (r.L_<s.R_)&&(decide (s.L_<r.R_)&&(decide (r.w_<s.H_)&&decide (s.w_<r.H_)))
theorem Z7B (F:Nat) (r s:Rect):Q5e F r s=some (ovB r s):=by
 unfold Q5e;rw [Q3S (Q0d F),Q3S (Q0d F),Q3S (Q0d F)]
 rfl
def ovL (a b:List Rect):Bool:=a.any fun r=>b.any fun s=>ovB r s
theorem Y5T {r s:Rect} (hr:Q3a r=true) (hs:Q3a s=true):ovB r s=true↔∃ x y,r.has x y=true/\s.has x y=true:=by
 rw [Q0v] at hr hs;simp only [y6]
 constructor
 ·intro h
  simp only [ovB,Bool.and_eq_true,decide_eq_true_eq] at h;refine ⟨max r.L_ s.L_,max r.w_ s.w_,?_⟩
  omega
 ·rintro ⟨x,y,h⟩
  simp only [ovB,Bool.and_eq_true,decide_eq_true_eq];omega
theorem Q4T (l:List Rect) (x y:Int):inR l x y=true↔∃ r ∈ l,r.has x y=true:=by unfold inR;rw [List.any_eq_true]
theorem Y3a {a b:List Rect} (ha:∀ r ∈ a,Q3a r=true) (hb:∀ r ∈ b,Q3a r=true):ovL a b=true↔∃ x y,inR a x y=true/\inR b x y=true:=by
 simp only [ovL,List.any_eq_true,Q4T];constructor
 ·rintro ⟨r,c,s,d,h⟩
  obtain ⟨x,y,e,f⟩:=(Y5T (ha r c) (hb s d)).1 h;exact ⟨x,y,⟨r,c,e⟩,⟨s,d,f⟩⟩
 ·rintro ⟨x,y,⟨r,c,e⟩,⟨s,d,f⟩⟩
  exact ⟨r,c,s,d,(Y5T (ha r c) (hb s d)).2 ⟨x,y,e,f⟩⟩
theorem Y7L {a b:List Rect}:ovL a b=ovL b a:=by
 rw [Bool.eq_iff_iff];simp only [ovL,List.any_eq_true,ovB,Bool.and_eq_true,decide_eq_true_eq]
 constructor <;> (rintro ⟨r,d,s,e,f,h,g,c⟩;exact ⟨s,e,r,d,h,f,c,g⟩)
noncomputable def Q4f (a b:Re_):Bool:=Q3D a.t_&&(Q3D b.t_&&ovL a.t_ b.t_)
theorem Y5g (a b:Re_):Q4f a b=Q4f b a:=by
 unfold Q4f;rw [Y7L]
 cases Q3D a.t_ <;> cases Q3D b.t_ <;> rfl
theorem Z9M {F:Nat} (hF:BIG<=F) (a b:Re_):Q7K F a b=some (Q4f a b):=by
 unfold Q7K Q4f;refine Q4 (Q0n hF a) ?_
 refine Q8 (fun h=>?_) (fun h=>by rw [h];rfl);refine Q4 (Q0n hF b) ?_
 refine Q8 (fun c=>?_) (fun c=>by rw [h,c];rfl);have e:=((Q0P _).1 h).1
 have d:=((Q0P _).1 c).1;refine Q4 (Q1H hF (fun r=>b.t_.any fun s=>ovB r s) (by omega) fun r _=>?_) ?_
 ·unfold Q7J
  refine Q4 (Q1H hF (fun s=>ovB r s) (by omega) fun s _=>?_) rfl;unfold Q5z
  rw [Z7B];rfl
 ·rw [h,c];rfl
theorem Y0S {F:Nat} (hF:BIG<=F) (a b:Re_):Q9E F a b=some (Q4f a b):=by
 unfold Q9E Q4f;refine Q4 (Q1l hF a) ?_
 refine Q8 (fun h=>?_) (fun h=>by rw [h];rfl);refine Q4 (Q1l hF b) ?_
 refine Q8 (fun f=>?_) (fun f=>by rw [h,f];rfl);have j:=(Q0P _).1 h
 have d:=(Q0P _).1 f;have l:=j.1
 have m:=d.1;refine Q4 (Q5W hF (by omega)) ?_
 unfold Q5n;rw [h,f]
 show some _=some (ovL a.t_ b.t_);congr 1
 rw [Bool.eq_iff_iff,decide_eq_true_iff,Y3a j.2.1 d.2.1];have i:=Y1u (Q6u a.t_ b.t_ 2)
 have e:∀ x y,Q0w (inR a.t_ x y) (inR b.t_ x y) 2=true↔inR a.t_ x y=true/\inR b.t_ x y=true:=fun x y=>by simp [Q0w]
 constructor
 ·intro c
  refine Classical.byContradiction fun k=>?_
  have:cn (fun x y=>Q0w (inR a.t_ x y) (inR b.t_ x y) 2)=[]:=i.2 fun x y=>by
   rw [<-Bool.not_eq_true,e];exact fun g=>k ⟨x,y,g⟩
  rw [this] at c;simp at c
 ·rintro ⟨x,y,g⟩
  rcases Nat.eq_zero_or_pos (cn fun x y=>Q0w (inR a.t_ x y) (inR b.t_ x y) 2).length with c|c
  ·have:=i.1 (List.eq_nil_of_length_eq_zero c) x y
   rw [(e x y).2 g] at this;cases this
  ·omega
theorem Z1H (F:Nat) (l:List Rect):Q1X F l=some (if 120<l.length then (⟨[]⟩,1) else (⟨l⟩,0)):=by
 unfold Q1X;refine Q8 (fun h=>?_) (fun h=>?_)
 ·have h:120<l.length:=by simp at h;omega
  rw [if_pos h]
 ·have h:¬ 120<l.length:=by simp at h;omega
  rw [if_neg h]
theorem Q8K {F:Nat} (hF:BIG<=F) {l:List Rect} (hl:l.length<=32768) (hpos:∀ r ∈ l,r.L_<r.R_):Q0D F l=some (if 120<(cn (inR l)).length then (⟨[]⟩,1) else (⟨cn (inR l)⟩,0)):=by
 unfold Q0D;refine Q4 (Z0t hF hl hpos) ?_
 exact Q4 (Z1H F _) rfl
def Q0F (L:List A2_) (d:Int) (p:Int->Bool):List Rect:=(L.filter fun f=>Z8t f d&&p f.k_).flatMap fun f=>f.g_.t_
theorem Z4Z (f:A2_) (L:List A2_) (d:Int) (p:Int->Bool):Q0F (f::L) d p=(if (Z8t f d&&p f.k_)=true then f.g_.t_ else [])++Q0F L d p:=by
 unfold Q0F;rw [List.filter_cons]
 split
 ·rw [List.flatMap_cons]
 ·rfl
theorem Y5d {L:List A2_} {d:Int} {p:Int->Bool} {r:Rect} (h:r ∈ Q0F L d p):∃ f ∈ L,r ∈ f.g_.t_:=by
 obtain ⟨f,b,a⟩:=List.mem_flatMap.1 h;exact ⟨f,(List.mem_filter.1 b).1,a⟩
theorem Y4V {L:List A2_} (h:∀ f ∈ L,f.g_.t_.length<=120) (d:Int) (p:Int->Bool):(Q0F L d p).length<=120*L.length:=by
 induction L with
 | nil=>simp [Q0F]
 | cons f L ih=>
  have c:=ih fun g a=>h g (by simp [a])
  have b:=h f (by simp);rw [Z4Z,List.length_append,List.length_cons]
  split
  ·omega
  ·simp;omega
theorem Z2P {F:Nat} (hF:BIG<=F) {L:List A2_} (hl:L.length<=10000) (hr:∀ f ∈ L,f.g_.t_.length<=120) (d:Int) {q:Int->Option Bool} (p:Int->Bool) (hq:∀ f ∈ L,q f.k_=some (p f.k_)) :
  Q4w F L d q=some (Q0F L d p):=by
 unfold BIG at hF;unfold Q4w
 refine Z1o (l:=L) (I:=fun l s=>s.length+120*l.length<=2000000/\∀ f ∈ l,f.g_.t_.length<=120) (fun l s=>some (s++Q0F l d p)) (fun a i s m g n=>?_) (fun a s _=>?_) (by omega) ⟨by simp;omega,hr⟩
 ·obtain ⟨g,c⟩:=g
  have r:=c _ (List.mem_cons_self ..);rw [List.length_cons] at g
  have j:∀ b:Bool,b=(Z8t (gl L i) d&&p (gl L i).k_)->Q3w F L i s a b=some (s++Q0F (gl L i::L.drop (i+1)) d p):=by
   intro b o;unfold Q3w
   rw [Z4Z];refine Q8 (fun h=>?_) (fun h=>?_)
   ·rw [<-o,if_pos h]
    simp only [Int.toNat_natCast];refine Z3 (by unfold LIM;omega) ?_
    unfold Q3v;refine Z7 (k:=?_)
    rw [n _ ⟨by rw [List.length_append];omega,fun f e=>c f (List.mem_cons_of_mem _ e)⟩,List.append_assoc]
   ·rw [<-o,if_neg (by simp [h])]
    unfold Q3v;refine Z7 (k:=?_)
    rw [n _ ⟨by omega,fun f e=>c f (List.mem_cons_of_mem _ e)⟩];rfl
  unfold Q5R;refine Y2 (Z0m m) ?_
  refine Z7 (k:=?_);simp only [Int.toNat_natCast]
  refine Q4 (Z2O F _ d) ?_;refine Q8 (fun h=>?_) (fun h=>?_)
  ·refine Q4 (hq _ (V7 m)) ?_
   exact j _ (by rw [h];rfl)
  ·exact j _ (by rw [h];rfl)
 ·show Q5R F L d q a (L.length:Int) s=_
  unfold Q5R Q9c;refine Q9 (Q2V _) ?_
  simp [Q0F]
theorem Z3m {F:Nat} (hF:BIG<=F) {a b:List Span} (ha:a.length<=1000000) (hb:b.length<=1000000):Q3F F [a,b]=some (a++b):=by
 unfold BIG at hF;obtain ⟨m,rfl⟩:∃ m,F=m+3:=⟨F-3,by omega⟩
 have c:gl [a,b] (0:Int).toNat=a:=rfl;have d:gl [a,b] (1:Int).toNat=b:=rfl
 have k1:Q2m (m+3) [a,b] (((a.length:Nat):Int)+((b.length:Nat):Int))=some (a++b):=by
  unfold Q2m;refine Q4 (a:=[]) (by unfold Z9y;rw [if_pos (by unfold LIM;omega)]) ?_
  show K3 (m+3) [a,b] _ 0 []=_;unfold K3
  refine Y2 rfl ?_;rw [c]
  refine Z7 (k:=?_);refine Z3 (by simp [LIM];omega) ?_
  refine Z7 (k:=?_);show K3 (m+3) [a,b] _ 1 ([]++a)=_
  unfold K3;refine Y2 rfl ?_
  rw [d];refine Z7 (k:=?_)
  refine Z3 (by simp [LIM];omega) ?_;refine Z7 (k:=?_)
  show K3 (m+3) [a,b] _ 2 (([]++a)++b)=_;unfold K3
  refine Q9 rfl ?_;unfold Q4A
  simp
 show K4 (m+3) [a,b] _ 0 0=_;unfold K4
 refine Y2 rfl ?_;rw [c]
 refine Z7 (k:=?_);refine Z7 (k:=?_)
 refine Q9 (by simp <;> omega) ?_;refine Z7 (k:=?_)
 show K4 (m+3) [a,b] _ (0+((a.length:Nat):Int)) 1=_;unfold K4
 refine Y2 rfl ?_;rw [d]
 refine Z7 (k:=?_);refine Z7 (k:=?_)
 refine Q9 (by simp <;> omega) ?_;refine Z7 (k:=?_)
 show K4 (m+3) [a,b] _ (0+((a.length:Nat):Int)+((b.length:Nat):Int)) 2=_;unfold K4
 refine Q9 rfl ?_;rw [Int.zero_add]
 exact k1
theorem Z2v {F:Nat} (hF:BIG<=F) {l:List Span} (hl:l.length<=1000000) (x:Int):Q4m F l x=some (inS l x):=by
 unfold BIG at hF;have c:∃ i:Int,Q2k F l (fun a=>Q0m F a x)=some i/\(0<=i↔inS l x=true):=by
  have m:∀ s:Span,Q0m F s x=some (s.has x):=fun s=>by
   unfold Q0m;rw [Q3S (Q3H F)];rfl
  have d:∀ (n i:Nat),i<=l.length->l.length-i<n->∃ r:Int,Z8 (fun again (z:Int)=>U9 F l (fun a=>Q0m F a x) again z) n (i:Int)=some r/\(0<=r↔inS (l.drop i) x=true):=by
   intro n
   induction n with
   | zero=>intro i _ h;omega
   | succ n ih=>
    intro i p q;show ∃ r:Int,U9 F l (fun a=>Q0m F a x) (Z8 (fun again (z:Int)=>U9 F l (fun a=>Q0m F a x) again z) n) (i:Int)=some r/\_
    by_cases h:i<l.length
    ·have e:inS (l.drop i) x=((gl l i).has x||inS (l.drop (i+1)) x):=Y1A h fun s=>s.has x
     rw [e]
     by_cases b:(gl l i).has x=true
     ·refine ⟨i,?_,by rw [b];simp⟩
      unfold U9;refine Y2 (Z0m h) ?_
      refine Z7 (k:=?_);exact Q4 (m _) (Y2 b rfl)
     ·have b:(gl l i).has x=false:=by simpa using b
      obtain ⟨r,o,g⟩:=ih (i+1) h (by omega);refine ⟨r,?_,by rw [g,b];simp⟩
      unfold U9;refine Y2 (Z0m h) ?_
      refine Z7 (k:=?_);refine Q4 (m _) (Q9 b ?_)
      refine Z7 (k:=?_);exact o
    ·have:i=l.length:=by omega
     subst this;refine ⟨-1,?_,by simp [inS]⟩
     unfold U9;exact Q9 (Q2V _) rfl
  obtain ⟨r,j,f⟩:=d F 0 (Nat.zero_le _) (by omega);exact ⟨r,j,by simpa using f⟩
 obtain ⟨i,j,f⟩:=c;unfold Q4m Q1g
 refine Q4 (Q4 j rfl) ?_;congr 1
 rw [Bool.eq_iff_iff, <-f,decide_eq_true_iff]
theorem Y7T {F:Nat} (hF:BIG<=F) {a b:List Span} (ha:a.length<=1000000) (hb:b.length<=1000000) {es:List Int} {f:Int->Bool} {k:Bool->Bool->Bool} {q:Bool->Bool->Option Bool} (hq:∀ u v,q u v=some (k u v))
  (hst:Step false es f) (hf:∀ x,f x=k (inS a x) (inS b x)) (hes:es.length<=8000000):Z8 (fun again (z:Int×List Span)=>Q4b F a b q es again z.1 z.2) F ((1:Int),([]:List Span))=some (spn f):=by
 have o:=hF;unfold BIG at hF
 by_cases h0:es.length=0
 ·obtain ⟨m,rfl⟩:∃ m,F=m+1:=⟨F-1,by omega⟩
  show Q4b (m+1) a b q es _ 1 []=_;unfold Q4b Q6A
  refine Q9 (by simp [h0]) ?_;rw [Z8z (hst.empty h0)]
 ·refine Y9 (fun z:Int×List Span=>∃ (i:Nat) (e:List Span),z=(((i+1:Nat):Int),e)/\i+1<=es.length/\Bst false f (e.map Span.rn) (gl es i)/\e.length<=i) (fun z=>es.length-z.1.toNat) (fun again z E D=>?_) ⟨0,[],rfl,by omega,hst.start (by omega),by simp⟩ (by simp;omega)
  obtain ⟨i,e,rfl,H,g,n⟩:=E;simp only
  unfold Q4b;refine Q8 (fun h=>?_) (fun h=>?_)
  ·have h:i+1<es.length:=by simp at h;omega
   have A:(((i+1:Nat):Int)-1).toNat=i:=by omega
   have B:((i+1:Nat):Int).toNat=i+1:=by omega
   have l:=hst.asc.at_lt (show i<i+1 by omega) h;refine Z7 (k:=?_)
   refine Z7 (k:=?_);rw [A]
   refine Q4 (Z2v o ha _) ?_;refine Q4 (Z2v o hb _) ?_
   refine Q4 (hq _ _) ?_;rw [<-hf]
   have d:∀ c : List Span,Bst false f (c.map Span.rn) (gl es (i+1))->c.length<=i+1->Q2s F ((i+1:Nat):Int) again c=some (spn f):=by
    intro c y r;unfold Q2s
    refine Z7 (k:=?_);exact D _ ⟨i+1,c,by simp,h,y,r⟩ (by simp;omega)
   cases hfe:f (gl es i) with
   | false=>
    refine Y2 rfl ?_;exact d e (g.skip (by omega) fun t y r=>(hst.gap i h t y r).trans hfe) (by omega)
   | true=>
    refine Q9 rfl ?_;rcases List.eq_nil_or_concat e with rfl|⟨j,s,p⟩
    ·refine Q9 rfl ?_
     unfold Q4a;refine Q9 rfl ?_
     rw [A,B];refine Z7 (k:=?_)
     refine Z3 (by simp [LIM]) ?_;refine d _ ?_ (by simp)
     have:=g.add l (hst.gap i h) (fun a ha=>by simp at ha)
     rw [hfe] at this;exact this
    ·rw [List.concat_eq_append] at p
     subst p;have C:(((j ++ [s]).length:Nat):Int)-1=((j.length:Nat):Int):=by simp
     have w:(((j.length:Nat):Int)).toNat=j.length:=by omega
     refine Y2 (by simp <;> omega) ?_;rw [C,w]
     refine Z7 (k:=?_);refine Z3 (by simp <;> omega) ?_
     rw [Z3u j s rfl];unfold Q4a
     by_cases hs:s.R_=gl es i
     ·refine Y2 (by simp [hs]) ?_
      rw [C,w,B];refine Z7 (k:=?_)
      refine Z7 (k:=?_);refine Z3 (by simp <;> omega) ?_
      rw [Z3u j s rfl,Z7w j s _ rfl];refine d _ ?_ (by simp at n ⊢;omega)
      rw [List.map_append] at g;have:=g.grow (a:=s.rn) hs l fun t y r=>(hst.gap i h t y r).trans hfe
      rw [List.map_append];exact this
     ·refine Q9 (by simpa using hs) ?_
      rw [A,B];refine Z7 (k:=?_)
      refine Z3 (by simp [LIM] at n ⊢;omega) ?_;refine d _ ?_ (by simp at n ⊢;omega)
      have:=g.add l (hst.gap i h) (fun a ha G=>by
       rw [List.map_append] at ha;simp at ha
       subst ha;exact absurd G hs)
      rw [hfe] at this;rw [List.map_append];exact this
  ·have h:i+1=es.length:=by simp at h;omega
   unfold Q6A;congr 1
   refine (Z8A (.of_runs g.runs) fun x=>?_).symm;rw [Z7W];exact hst.done h g x
def Y1r (l:List Span):List Int:=l.flatMap fun s=>[s.L_,s.R_]
theorem Z9h (l:List Span):(Y1r l).length=2*l.length:=by
 induction l with
 | nil=>rfl
 | cons s l ih=>unfold Y1r at ih ⊢;rw [List.flatMap_cons,List.length_append,ih];simp;omega
theorem Y5X {l:List Span} {c:List Int} (hc:Asc c) (hm:∀ s ∈ l,s.L_ ∈ c/\s.R_ ∈ c) {i:Nat} (hi:i+1<c.length) {t:Int} (h1:gl c i<=t) (h2:t<gl c (i+1)):inS l t=inS l (gl c i):=by
 unfold inS
 induction l with
 | nil=>rfl
 | cons s l ih=>
  rw [List.any_cons,List.any_cons,ih fun q g=>hm q (by simp [g])];congr 1
  obtain ⟨a,d⟩:=hm s (by simp);have e:=hc.gap hi h1 h2 a
  have h:=hc.gap hi h1 h2 d;unfold Span.has
  have b:decide (s.L_<=t)=decide (s.L_<=gl c i):=by simp only [e]
  have f:decide (t<s.R_)=decide (gl c i<s.R_):=by rw [decide_eq_decide];omega
  rw [b,f]
theorem Y8g {l:List Span} {t:Int} (h:∀ s ∈ l,¬ (s.L_<=t/\t<s.R_)):inS l t=false:=by
 unfold inS;rw [List.any_eq_false]
 intro s a;have:=h s a
 simp only [Span.has,Bool.and_eq_true,decide_eq_true_eq];exact this
theorem Z9L {F:Nat} (hF:BIG<=F) {a b:List Span} (ha:a.length<=1000000) (hb:b.length<=1000000) {k:Bool->Bool->Bool} (hk:k false false=false) {q:Bool->Bool->Option Bool} (hq:∀ u v,q u v=some (k u v)) :
  Q7G F a b q=some (spn fun x=>k (inS a x) (inS b x)):=by
 have h:=hF;unfold BIG at hF
 unfold Q7G;refine Q4 (Z3m h ha hb) ?_
 have K:(a++b).length<=2000000:=by rw [List.length_append];omega
 refine Z1o (l:=a++b) (I:=fun l s=>s++Y1r l=Y1r (a++b)) (fun _ _=>some (spn fun x=>k (inS a x) (inS b x))) (fun d i s n o G=>?_) (fun d s o=>?_) (by omega) rfl
 ·have A:=Z9h (a++b)
  have L:s.length+2<=(Y1r (a++b)).length:=by
   rw [<-o,List.length_append,Z9h];simp;omega
  unfold Q6B;refine Y2 (Z0m n) ?_
  refine Z7 (k:=?_);simp only [Int.toNat_natCast]
  refine Z3 (by simp [LIM];omega) ?_;refine Z7 (k:=?_)
  refine G _ ?_;rw [<-o,List.append_assoc];rfl
 ·have w:s=Y1r (a++b):=by rw [<-o];simp [Y1r]
  show Q6B F a b q (a++b) d (((a++b).length:Nat):Int) s=_;unfold Q6B
  refine Q9 (Q2V _) ?_;unfold Z0h
  have A:=Z9h (a++b);obtain ⟨r,H,B,z,C⟩:=Y7x (l:=s) (by rw [w];unfold LIM;omega)
  refine Q4 H ?_;have E:r.length<=4000000:=by rw [C,w];omega
  refine Q4 (Q8x h (by unfold LIM;omega)) ?_;have J:=Y5q r
  have g:=Y5r r B;have c:∀ l,l=a\/l=b->∀ s ∈ l,s.L_ ∈ dd r/\s.R_ ∈ dd r:=by
   intro l j q p;have:q ∈ a++b:=by rcases j with rfl|rfl <;> simp [p]
   have m:∀ v,v ∈ [q.L_,q.R_]->v ∈ dd r:=fun v M=>(Y3d r v).2 ((z v).2 (by rw [w];exact List.mem_flatMap.2 ⟨q,this,M⟩))
   exact ⟨m _ (by simp),m _ (by simp)⟩
  refine Y7T h ha hb hq (f:=fun x=>k (inS a x) (inS b x)) ⟨g,fun i n t D m=>?_,fun t y=>?_,fun t y=>?_⟩ (fun _=>rfl) (by omega)
  ·simp only [Y5X g (c a (.inl rfl)) n D m,Y5X g (c b (.inr rfl)) n D m]
  ·have e:∀ l,l=a\/l=b->inS l t=false:=fun l j=>Y8g fun q hq=>by have:=y _ (c l j q hq).1;omega
   simp only [e a (.inl rfl),e b (.inr rfl),hk]
  ·have e:∀ l,l=a\/l=b->inS l t=false:=fun l j=>Y8g fun q hq=>by have:=y _ (c l j q hq).2;omega
   simp only [e a (.inl rfl),e b (.inr rfl),hk]
theorem Q8L {F:Nat} (hF:BIG<=F) {a b:List Rect} (hl:a.length+b.length<=16000) (ha:∀ r ∈ a,r.L_<r.R_) (hb:∀ r ∈ b,r.L_<r.R_) {k:Bool->Bool->Bool} (hk:k false false=false) {q:Bool->Bool->Option Bool} (hq:∀ u v,q u v=some (k u v)) :
  V4 F a b q=some (cn fun x y=>k (inR a x y) (inR b x y)):=by
 unfold V4;have d:Grid (Q8p b (Q8p a [])) (Y1X [a,b]) fun x y=>k (inR a x y) (inR b x y):=
  Grid.of (Q8o b (Q8o a .nil)) (Y4j _) (fun r c=>⟨(Q0A b _ _).2 (.inl ((Q0A a _ _).2 (.inr ⟨r,c,.inl rfl⟩))),(Q0A b _ _).2 (.inl ((Q0A a _ _).2 (.inr ⟨r,c,.inr rfl⟩)))⟩)
   (fun r c=>⟨(Q0A b _ _).2 (.inr ⟨r,c,.inl rfl⟩),(Q0A b _ _).2 (.inr ⟨r,c,.inr rfl⟩)⟩) (Z9i _ (by simp)) (Z9i _ (by simp)) hk
 have e:=Y1b a (ls:=[a,b]) (by simp);have f:=Y1b b (ls:=[a,b]) (by simp)
 have m:tot [a,b]=a.length+b.length:=by simp [tot]
 have g:=Y4i [a,b];have h:=Z9A (a:=a) (b:=b)
 refine Q4 (Z4H hF (by omega) (by simp)) ?_;refine Q4 (Z3L hF d.rows d.step (by omega) (fun y=>?_) (fun y=>?_)) rfl
 ·unfold Q6E
  have j:=(e.x y).spn_len;have o:=(f.x y).spn_len
  have n:=Z3B (l:=a);have i:=Z3B (l:=b)
  refine Q4 (Z1W hF (by omega) ha y) ?_;refine Q4 (Z1W hF (by omega) hb y) ?_
  refine Q4 (Z9L hF (by omega) (by omega) hk hq) ?_;congr 2
  funext x
  rw [(e.rows.sp y).2 x,(f.rows.sp y).2 x]
 ·have:=(d.x y).spn_len
  omega
def Sm (r:Rect):Prop:= -1000000<=r.L_/\r.L_<=1000000 /\ -1000000<=r.w_/\r.w_<=1000000 /\ -1000000<=r.R_/\r.R_<=1000000 /\ -1000000<=r.H_/\r.H_<=1000000
theorem Y9t {r:Rect} (h:Q3a r=true):Sm r:=by
 rw [Q0v] at h;unfold Sm;omega
def Y5h (a b:Rect):Int:=Q0B 0 (Q5P a.H_ b.H_-Q0B a.w_ b.w_)
def Y3T (a b:Rect):Int:=Q0B 0 (Q5P a.R_ b.R_-Q0B a.L_ b.L_)
def W0o (a b:Rect):Bool:=a.R_==b.L_||b.R_==a.L_
def Y5N (a b:Rect):Bool:=a.H_==b.w_||b.H_==a.w_
def com (a b:Rect):Int:=(if W0o a b=true then Y5h a b else 0)+(if Y5N a b=true then Y3T a b else 0)
theorem Y9D {a b:Rect} (ha:Sm a) (hb:Sm b):0<=Y5h a b/\Y5h a b<=2000000 /\ -2000000<=Q5P a.H_ b.H_-Q0B a.w_ b.w_/\Q5P a.H_ b.H_-Q0B a.w_ b.w_<=2000000:=by
 unfold Sm at ha hb;unfold Y5h Q0B Q5P
 repeat' split
 all_goals omega
theorem Y9E {a b:Rect} (ha:Sm a) (hb:Sm b):0<=Y3T a b/\Y3T a b<=2000000 /\ -2000000<=Q5P a.R_ b.R_-Q0B a.L_ b.L_/\Q5P a.R_ b.R_-Q0B a.L_ b.L_<=2000000:=by
 unfold Sm at ha hb;unfold Y3T Q0B Q5P
 repeat' split
 all_goals omega
theorem Y2y {F:Nat} {a b:Rect} (ha:Sm a) (hb:Sm b) {v:Int} (h1:0<=v) (h2:v<=2000000) (c:Bool):Q3X F a b v c=some (v+if c=true then Y3T a b else 0):=by
 obtain ⟨d,e,g,f⟩:=Y9E ha hb;unfold Q3X
 cases c with
 | true=>
  refine Y2 rfl ?_;refine Z3 (Y5 (by omega) (by omega)) ?_
  show gd (I64 (v+Y3T a b)) _=_;refine Z3 (Y5 (by omega) (by omega)) ?_
  rfl
 | false=>
  refine Q9 rfl ?_;show some v=some (v+0)
  rw [Int.add_zero]
theorem Y2z {F:Nat} {a b:Rect} (ha:Sm a) (hb:Sm b) {v:Int} (h1:0<=v) (h2:v<=2000000):Q2r F a b v=some (v+if Y5N a b=true then Y3T a b else 0):=by
 unfold Q2r;rw [Y2y ha hb h1 h2,Y2y ha hb h1 h2]
 unfold Y5N
 cases a.H_==b.w_ <;> rfl
theorem Y2A {F:Nat} {a b:Rect} (ha:Sm a) (hb:Sm b) (c:Bool):Q3Y F a b c=some ((if c=true then Y5h a b else 0)+if Y5N a b=true then Y3T a b else 0):=by
 obtain ⟨d,e,g,f⟩:=Y9D ha hb;unfold Q3Y
 cases c with
 | true=>
  refine Y2 rfl ?_;refine Z3 (Y5 (by omega) (by omega)) ?_
  show gd (I64 (0+Y5h a b)) _=_;refine Z3 (Y5 (by omega) (by omega)) ?_
  show Q2r F a b (0+Y5h a b)=_;rw [Y2z ha hb (by omega) (by omega)]
  simp
 | false=>
  refine Q9 rfl ?_;rw [Y2z ha hb (by omega) (by omega)]
  rfl
theorem Z9F (F:Nat) {a b:Rect} (ha:Sm a) (hb:Sm b):Q7B F a b=some (com a b):=by
 unfold Q7B;rw [Y2A ha hb,Y2A ha hb]
 unfold com W0o
 cases a.R_==b.L_ <;> rfl
def Q3o (a b:Rect):Bool:=decide (0<com a b)
theorem Z1G {F:Nat} {q:List Rect} {r:Rect} {i:Nat} (hi:i<q.length) (hl:q.length<=1000000) (hq:∀ s ∈ q,Sm s) (hr:Sm r) :
  Q3h F r q i=some (if Q3o (gl q i) r=true then q++[r] else q,Q3o (gl q i) r):=by
 unfold Q3h;refine Z3 (by omega) ?_
 simp only [Int.toNat_natCast];refine Q4 (Z9F F (hq _ (V7 hi)) hr) ?_
 show Q4L F r q (Q3o (gl q i) r)=_;unfold Q4L
 cases Q3o (gl q i) r with
 | true=>
  refine Y2 rfl ?_;refine Z3 (by simp [LIM];omega) rfl
 | false=>exact Q9 rfl rfl
theorem Y9G {F:Nat} (hF:BIG<=F) {l q:List Rect} {k:Nat} (hk:k<q.length) (hl:l.length<=900000) (hql:q.length<=900000) (hq:∀ s ∈ q,Sm s) (hr:∀ r ∈ l,Sm r) :
  Q0s F l q k=some (l,if l.any (Q3o (gl q k))=true then q++[gl l (l.findIdx (Q3o (gl q k)))] else q,Z0L (Q3o (gl q k)) l):=by
 unfold BIG at hF;unfold Q0s
 refine Y9 (fun z:Int×List Rect=>∃ i:Nat,z=((i:Int),q)/\i<=l.length/\∀ j,j<i->Q3o (gl q k) (gl l j)=false) (fun z=>l.length-z.1.toNat) (fun c z g e=>?_) ⟨0,rfl,by omega,fun j m=>by omega⟩ (by simp;omega);obtain ⟨i,rfl,n,d⟩:=g
 simp only at e ⊢;unfold Q5b
 refine Q8 (fun h=>?_) (fun h=>?_)
 ·have h:i<l.length:=by simpa using h
  refine Z7 (k:=?_);simp only [Int.toNat_natCast]
  refine Q4 (Z1G hk (by omega) hq (hr _ (V7 h))) ?_;simp only
  refine Q8 (fun a=>?_) (fun a=>?_)
  ·have b:l.any (Q3o (gl q k))=true:=List.any_eq_true.2 ⟨_,V7 h,a⟩
   rw [if_pos a,Z0L,if_pos b,if_pos b,Z3x h d a]
  ·rw [a,if_neg (by simp)]
   refine Z7 (k:=?_);refine e _ ⟨i+1,rfl,h,fun j m=>?_⟩ (by simp only;omega)
   rcases Nat.lt_or_ge j i with f|f
   ·exact d j f
   ·have:j=i:=by omega
    subst this;exact a
 ·have h:¬ i<l.length:=by simpa using h
  have:i=l.length:=by omega
  subst this;have b:=Q6y d
  rw [Z0L,b];rfl
theorem Y8t {F:Nat} (hF:BIG<=F) {l q:List Rect} {k:Nat} (hk:k<q.length) (hl:l.length+q.length<=900000) (hq:∀ s ∈ q,Sm s) (hr:∀ r ∈ l,Sm r) :
  Q0j F l q k=some (q++l.filter (Q3o (gl q k)),l.filter fun r=> !Q3o (gl q k) r):=by
 have H:=hF;unfold BIG at hF
 unfold Q0j;refine Q4 (Y9G H hk (by omega) (by omega) hq hr) ?_
 generalize a:Q3o (gl q k)=p;simp only
 by_cases f:l.any p=true
 ·obtain ⟨x,c,J⟩:=List.any_eq_true.1 f
  have e:l.findIdx p<l.length:=List.findIdx_lt_length_of_exists ⟨x,c,J⟩;have A:p (gl l (l.findIdx p))=true:=by rw [z8 e];exact List.findIdx_getElem (w:=e)
  have y:∀ j,j<l.findIdx p->p (gl l j)=false:=by
   intro j t;rw [z8 (by omega)]
   simpa using List.not_of_lt_findIdx t
  rw [Z0L,if_pos f,if_pos f];refine Q9 (by simp) ?_
  refine Z7 (k:=?_);generalize l.findIdx p=i0 at *
  have G:(l.take i0).filter (fun r=> !p r)=l.take i0:=by
   rw [List.filter_eq_self];intro x c
   obtain ⟨j,t,rfl⟩:=List.getElem_of_mem c;have g : j<i0:=by simp at t;omega
   have:=y j g
   rw [z8 (by omega)] at this;simp [this]
  have K:(l.take i0).filter p=[]:=by
   rw [List.filter_eq_nil_iff];intro x c
   obtain ⟨j,t,rfl⟩:=List.getElem_of_mem c;have g : j<i0:=by simp at t;omega
   have:=y j g
   rw [z8 (by omega)] at this;simp [this]
  have M:(l.take (i0+1)).filter (fun r=> !p r)=l.take i0:=by
   rw [y4 e,List.filter_append,G];simp [A]
  have D:(l.take (i0+1)).filter p=[gl l i0]:=by
   rw [y4 e,List.filter_append,K];simp [A]
  refine Y9 (fun z:Int×Int×List Rect×List Rect=>∃ (i j:Nat) (b:List Rect),z=((i:Int),(j:Int),b,q++(l.take j).filter p)/\i<j/\j<=l.length/\b.length=l.length/\(∀ m,j<=m->gl b m=gl l m)/\b.take i=(l.take j).filter fun r=> !p r)
   (fun z=>l.length-z.2.1.toNat) (fun C z L I=>?_) ⟨i0,i0+1,l,by rw [D];rfl,by omega,by omega,rfl,fun _ _=>rfl,M.symm⟩ (by simp only;omega)
  obtain ⟨i,j,b,rfl,Q,t,d,o,n⟩:=L;simp only at I ⊢
  unfold Q4K;rw [d]
  have O:((l.take j).filter p).length<=j:=by
   have:=List.length_filter_le p (l.take j)
   simp at this;omega
  have E:gl (q++(l.take j).filter p) k=gl q k:=by simp [gl,List.getD_eq_getElem?_getD,List.getElem?_append,hk]
  refine Q8 (fun h=>?_) (fun h=>?_)
  ·have h:j<l.length:=by simpa using h
   refine Z7 (k:=?_);simp only [Int.toNat_natCast]
   rw [o j (Nat.le_refl _)];refine Q4 (Z1G (by simp;omega) (by simp;omega) (fun s v=>?_) (hr _ (V7 h))) ?_
   ·rcases List.mem_append.1 v with v|v
    ·exact hq s v
    ·exact hr s (List.mem_of_mem_take (List.mem_filter.1 v).1)
   rw [E,a];have u:(l.take (j+1)).filter (fun r=> !p r)=(l.take j).filter (fun r=> !p r)++(if p (gl l j)=true then [] else [gl l j]):=by
    rw [y4 h,List.filter_append]
    by_cases a:p (gl l j)=true
    ·rw [if_pos a];simp [a]
    ·rw [if_neg a];simp [a]
   have B:(l.take (j+1)).filter p=(l.take j).filter p++(if p (gl l j)=true then [gl l j] else []):=by
    rw [y4 h,List.filter_append]
    by_cases a:p (gl l j)=true
    ·rw [if_pos a];simp [a]
    ·rw [if_neg a];simp [a]
   simp only
   refine Q8 (fun a=>?_) (fun a=>?_)
   ·have a:p (gl l j)=false:=by simpa using a
    refine Z7 (k:=?_);refine Z7 (k:=?_)
    unfold G4;refine Z7 (k:=?_)
    rw [a,if_neg (by simp)];refine I _ ⟨i+1,j+1,b.set i (gl l j),?_,by omega,by omega,by simp [d],fun m P=>?_,?_⟩ (by simp only;omega)
    ·rw [B,a,if_neg (by simp),List.append_nil];rfl
    ·rw [Z9a _ _ _ _ (by omega),if_neg (by omega)];exact o m (by omega)
    ·rw [u,if_neg (by rw [a];simp), <-n,y4 (by simp;omega),Z4t _ _ _ _ (Nat.le_refl _),Z9a _ _ _ _ (by omega),if_pos rfl]
   ·have a:p (gl l j)=true:=by simpa using a
    unfold G4;refine Z7 (k:=?_)
    rw [a,if_pos rfl];refine I _ ⟨i,j+1,b,?_,by omega,by omega,d,fun m P=>o m (by omega),?_⟩ (by simp only;omega)
    ·rw [B,a,if_pos rfl, <-List.append_assoc];rfl
    ·rw [u,if_pos a,List.append_nil,n]
  ·have h:¬ j<l.length:=by simpa using h
   have N:j=l.length:=by omega
   unfold Q1G;simp only [Int.toNat_natCast,Y3l,d]
   refine Z7 (k:=?_);refine Z7 (k:=?_)
   rw [Y0v _ _ _ (by omega),n,List.take_of_length_le (by omega)]
 ·have f:l.any p=false:=by simpa using f
  rw [Z0L,f];refine Y2 rfl ?_
  have G:l.filter p=[]:=by
   rw [List.filter_eq_nil_iff];intro x c
   have:=List.any_eq_false.1 f x c
   simpa using this
  have K:l.filter (fun r=> !p r)=l:=by
   rw [List.filter_eq_self];intro x c
   have:=List.any_eq_false.1 f x c
   simpa using this
  rw [G,K];simp
def jn:Nat->List Rect->Nat->List Rect->List Rect×List Rect
 | 0,q,_,rest=>(q,rest)
 | n+1,q,k,rest=>if k<q.length then jn n (q++rest.filter (Q3o (gl q k))) (k+1) (rest.filter fun r=> !Q3o (gl q k) r) else (q,rest)
def Z1v:List Rect->List Rect×List Rect
 | []=>([],[])
 | a::l=>jn (l.length+2) [a] 0 l
theorem Z9z {α:Type} (p:α->Bool) (l:List α):(l.filter p).length+(l.filter fun r=> !p r).length=l.length:=by
 induction l with
 | nil=>rfl
 | cons a l ih=>by_cases h:p a=true <;> simp [h] <;> omega
theorem Y5I {F:Nat} {l:List Rect} (h:l.length<=LIM):Q1D F l=some l:=by
 unfold Q1D
 cases h:l with
 | nil=>
  show gdc _ _=_;unfold gdc
  exact @Z3 _ _ (Classical.propDecidable _) _ _ rfl rfl
 | cons a l' =>
  have:(a::l').length=l'.length+1:=rfl
  show (gd _ _)=_;rw [<-h]
  refine Z7 (k:=?_);simp
theorem Z9G {F:Nat} (hF:BIG<=F) {l:List Rect} (hne:l≠[]) (hl:l.length<=400000) (hs:∀ r ∈ l,Sm r):Q7D F l=some (Z1v l):=by
 have f:=hF;unfold BIG at hF
 cases l with
 | nil=>exact absurd rfl hne
 | cons a l=>
  simp only [List.length_cons] at hl;unfold Q7D
  refine Z3 (by simp only [List.length_cons];omega) ?_;refine Z3 (by simp only [List.length_cons];omega) ?_
  have o:(1:Int).toNat=1:=rfl;rw [o]
  refine Q4 (Y5I (by simp [LIM];omega)) ?_;simp only [List.drop_succ_cons,List.drop_zero,List.take_succ_cons,List.take_zero]
  refine Y9 (fun z:List Rect×Int×List Rect=>∃ (n k:Nat) (q b:List Rect),z=(b,(k:Int),q)/\k<=q.length/\q.length+b.length=l.length+1/\(∀ r ∈ q++b,Sm r)/\l.length+2<=n+k/\jn n q k b=Z1v (a::l))
   (fun z=>l.length+2-z.2.1.toNat) (fun g z m i=>?_) ⟨l.length+2,0,[a],l,rfl,by simp,by simp;omega,fun r c=>hs r (by simpa using c),by omega,rfl⟩ (by simp;omega)
  obtain ⟨n,k,q,b,rfl,p,j,d,t,e⟩:=m;simp only at i ⊢
  unfold Z3J Z0b
  cases n with
  | zero=>omega
  | succ n=>
  rw [jn] at e;refine Q8 (fun h=>?_) (fun h=>?_)
  ·have h:k<q.length:=by simpa using h
   rw [if_pos h] at e;refine Q4 (Y8t f h (by omega) (fun s hs=>d s (by simp [hs])) (fun s hs=>d s (by simp [hs]))) ?_
   refine Z7 (k:=?_);have u:=Z9z (Q3o (gl q k)) b
   refine i _ ⟨n,k+1,_,_,rfl,by simp;omega,by simp;omega,fun r c=>d r ?_,by omega,e⟩ (by simp only;omega);simp only [List.mem_append,List.mem_filter] at c ⊢
   rcases c with (c|c) | c
   ·exact .inl c
   ·exact .inr c.1
   ·exact .inr c.1
  ·have h:¬ k<q.length:=by simpa using h
   rw [if_neg h] at e;unfold Z0a
   rw [e]
def Apt (r s:Rect):Prop:=∀ x y,r.has x y=true->s.has x y=true->False
def W0x (q:List Rect):Prop:=∀ i,0<i->i<q.length->∃ j,j<i/\Q3o (gl q j) (gl q i)=true
structure JnOk (q rest q' rest' : List Rect):Prop where
 perm:(q' ++ rest').Perm (q++rest)
 chain:W0x q'
 pre:q <+: q'
 apart:∀ r ∈ q',∀ s ∈ rest',Q3o r s=false
theorem Y2Z {α:Type} (p:α->Bool) (l:List α):(l.filter p++l.filter fun r=> !p r).Perm l:=List.filter_append_perm p l
theorem W1h:∀ (n:Nat) (q:List Rect) (k:Nat) (rest:List Rect),q.length+rest.length<n+k->k<=q.length->W0x q->(∀ i,i<k->∀ s ∈ rest,Q3o (gl q i) s=false)->JnOk q rest (jn n q k rest).1 (jn n q k rest).2:=by
 intro n
 induction n with
 | zero=>intro q k rest u t;omega
 | succ n ih=>
  intro q k rest u t l g;rw [jn]
  by_cases hk:k<q.length
  ·rw [if_pos hk]
   have x:=Z9z (Q3o (gl q k)) rest;have b:∀ i,i<q.length->gl (q++rest.filter (Q3o (gl q k))) i=gl q i:=fun i a=>by simp [gl,List.getD_eq_getElem?_getD,List.getElem?_append,a]
   have h:=ih (q++rest.filter (Q3o (gl q k))) (k+1) (rest.filter fun r=> !Q3o (gl q k) r) (by simp;omega) (by simp;omega) (fun i a f=>?_) (fun i a s e=>?_)
   ·refine ⟨h.perm.trans ?_,h.chain,?_,h.apart⟩
    ·rw [List.append_assoc]
     exact (Y2Z _ rest).append_left q
    ·exact (List.prefix_append _ _).trans h.pre
   ·by_cases hiq:i<q.length
    ·obtain ⟨j,w,p⟩:=l i a hiq
     exact ⟨j,w,by rw [b i hiq,b j (by omega)];exact p⟩
    ·refine ⟨k,by omega,?_⟩
     rw [b k hk];have v:gl (q++rest.filter (Q3o (gl q k))) i ∈ rest.filter (Q3o (gl q k)):=by
      have d : i-q.length<(rest.filter (Q3o (gl q k))).length:=by simp at f;omega
      have:gl (q++rest.filter (Q3o (gl q k))) i=gl (rest.filter (Q3o (gl q k))) (i-q.length):=by
       simp [gl,List.getD_eq_getElem?_getD,List.getElem?_append,hiq]
      rw [this];exact V7 d
     exact (List.mem_filter.1 v).2
   ·have c:=List.mem_filter.1 e
    rcases Nat.lt_or_ge i k with m|m
    ·rw [b i (by omega)];exact g i m s c.1
    ·have:i=k:=by omega
     subst this;rw [b i hk];simpa using c.2
  ·rw [if_neg hk]
   refine ⟨List.Perm.refl _,l,List.prefix_refl _,fun r o s e=>?_⟩;obtain ⟨i,a,rfl⟩:=List.getElem_of_mem o
   have:=g i (by simp only at a;omega) s e
   rwa [z8 a] at this
theorem Y2s (a:Rect) (l:List Rect):JnOk [a] l (Z1v (a::l)).1 (Z1v (a::l)).2:=
 W1h (l.length+2) [a] 0 l (by simp;omega) (by simp) (fun i c b=>by simp at b;omega) (fun i c=>by omega)
def Z6T:Nat->List Rect->List (List Rect)
 | 0,_=>[]
 | _+1,[]=>[]
 | n+1,a::l=>(Z1v (a::l)).1::Z6T n (Z1v (a::l)).2
def Z9v (l:List Rect):List (List Rect):=Z6T l.length l
theorem JnOk.lens {a:Rect} {l q r:List Rect} (h:JnOk [a] l q r):q≠[]/\r.length<=l.length:=by
 have c:=h.perm.length_eq;simp at c
 obtain ⟨t,b⟩:=h.pre;have:1<=q.length:=by rw [<-b];simp
 exact ⟨fun d=>by rw [d] at this;simp at this,by omega⟩
theorem Y3O:∀ (n:Nat) (l:List Rect),l.length<=n->(Z6T n l).flatten.Perm l:=by
 intro n
 induction n with
 | zero=>intro l b;have:l=[]:=List.eq_nil_of_length_eq_zero (by omega);subst this;exact List.Perm.refl _
 | succ n ih=>
  intro l b
  cases l with
  | nil=>exact List.Perm.refl _
  | cons a l=>
   have h:=Y2s a l;have:=h.lens.2
   simp only [Z6T,List.flatten_cons];simp only [List.length_cons] at b
   exact ((ih _ (by omega)).append_left _).trans h.perm
theorem Y0Z (l:List Rect):(Z9v l).flatten.Perm l:=Y3O _ l (Nat.le_refl _)
def lt2 (a b:Int×Int):Prop:=a.1<b.1\/(a.1=b.1/\a.2<b.2)
theorem Y9B {a b:Int×Int} (h:a≠b):lt2 a b\/lt2 b a:=by
 unfold lt2;have:a.1≠b.1\/a.2≠b.2:=by
  rcases Int.decEq a.1 b.1 with c|c
  ·exact .inl c
  ·right;intro d;exact h (Prod.ext c d)
 omega
theorem Q2R.apt {l:List Rect} (h:Q2R l):l.Pairwise Apt:=by
 obtain ⟨b,e,rfl⟩:=h;unfold flat
 rw [List.pairwise_flatMap];refine ⟨fun c i=>?_,?_⟩
 ·unfold G5
  rw [List.pairwise_map];refine (e.sp c i).ch.imp fun h x y d a=>?_
  rw [y6] at d a;simp only at d a
  omega
 ·refine e.runs.ch.imp fun h r f s g x y d a=>?_
  obtain ⟨u,_,rfl⟩:=List.mem_map.1 f;obtain ⟨v,_,rfl⟩:=List.mem_map.1 g
  rw [y6] at d a;simp only at d a
  have:=h.1
  omega
theorem Y6O {l p:List Rect} (hp:p ∈ Z9v l) {r:Rect} (hr:r ∈ p):r ∈ l:=(Y0Z l).mem_iff.1 (List.mem_flatten.2 ⟨p,hp,hr⟩)
theorem Y5v (F:Nat) (hF:BIG<=F) (u v:Int):Z1B F [u,v]=some (if u≠0 then u else v):=by
 unfold BIG at hF;obtain ⟨F,rfl⟩:∃ G,F=G+3:=⟨F-3,by omega⟩
 unfold Z1B;show Q2Z _ [u,v] _ 0=_
 unfold Q2Z;refine Y2 (by simp) ?_
 refine Z3 (by simp) ?_;have b:gl [u,v] (0:Int).toNat=u:=rfl
 rw [b]
 by_cases hu:u=0
 ·subst hu
  refine Q9 (by simp) ?_;refine Z3 (Y5 (by omega) (by omega)) ?_
  rw [if_neg (by simp)];show Q2Z _ [0,v] _ (0+1)=_
  unfold Q2Z;refine Y2 (by simp) ?_
  refine Z3 (by simp) ?_;have a:gl [0,v] ((0:Int)+1).toNat=v:=rfl
  rw [a]
  by_cases hv:v=0
  ·subst hv
   refine Q9 (by simp) ?_;refine Z3 (Y5 (by omega) (by omega)) ?_
   show Q2Z _ [0,0] _ (0+1+1)=_;unfold Q2Z
   exact Q9 (by simp) rfl
  ·exact Y2 (by simpa using hv) rfl
 ·rw [if_pos hu]
  exact Y2 (by simpa using hu) rfl
theorem Z8b (a b:List Rect):Fin fun x y=>inR a x y && !inR b x y:=Q6u a b 3
section
theorem val_one {r:Rect} (h:Q3a r=true):Val [r]:=by
 have b:=(Q0v r).1 h;exact ⟨by simp,fun s a=>by rw [List.mem_singleton.1 a];exact h,Z9k (by omega) (by omega)⟩
section
variable {F:Nat} {a:Re_} {z1:Tape×Re_} {x1 k:Int} {x y:Int}
end
end
theorem Y6b {B:List (Rn (List Span))} {N:Nat} (h:∀ b ∈ B,b.v.length<=N):(flat B).length<=B.length*N:=by
 induction B with
 | nil=>simp [flat]
 | cons c B ih=>
  have e:flat (c::B)=G5 c++flat B:=rfl;have:=ih fun d f=>h d (by simp [f])
  have g:=h c (by simp);rw [e,List.length_append,Q0x,List.length_cons,Nat.add_mul]
  omega
noncomputable def Z6e (a b:Re_):Bool:=Q3D a.t_&&(Q3D b.t_&&decide (cn (fun x y=>Q0w (inR a.t_ x y) (inR b.t_ x y) 3)=[]))
theorem Z3U {F:Nat} (hF:BIG<=F) (a b:Re_):Q5E F a b=some (Z6e a b):=by
 unfold Q5E Z6e;refine Q4 (Q1l hF a) ?_
 refine Q8 (fun h=>?_) (fun h=>by rw [h];rfl);rw [h]
 refine Q4 (Q1l hF b) ?_;refine Q8 (fun c=>?_) (fun c=>by rw [c];rfl)
 rw [c];have d:=((Q0P _).1 h).1
 have e:=((Q0P _).1 c).1;refine Q4 (Q5W hF (by omega)) ?_
 show some _=some _;congr 1
 simp only [Bool.true_and];generalize cn _=q
 cases q with
 | nil=>rfl
 | cons r q=>simp;omega
theorem Z8r {a b:Re_} (ha:Val a.t_) (hb:Val b.t_):Z6e a b=true↔∀ x y,inR a.t_ x y=true->inR b.t_ x y=true:=by
 unfold Z6e;rw [Q3f ha,Q3f hb,Bool.true_and,Bool.true_and,decide_eq_true_eq,Y1u (Q6u _ _ _)]
 constructor
 ·intro h x y c
  have:=h x y
  simp only [Q0w] at this;rw [c] at this
  simpa using this
 ·intro h x y
  simp only [Q0w]
  cases c:inR a.t_ x y with
  | false=>rfl
  | true=>rw [h x y c];rfl
theorem Y2f {l:List Int} {M:Int} (h:∀ x ∈ l,0<=x/\x<=M):0<=l.sum/\l.sum<=M*l.length:=by
 induction l with
 | nil=>simp
 | cons x l ih=>
  have d:=h x (by simp);have c:=ih fun y b=>h y (by simp [b])
  simp only [List.sum_cons,List.length_cons];have e:M*((l.length+1:Nat):Int)=M*l.length+M:=by rw [Int.natCast_add,Int.mul_add];simp
  omega
theorem Z7t {f:Rect->Int} {l:List Rect} {j:Nat} (h:j<l.length):((l.take (j+1)).map f).sum=((l.take j).map f).sum+f (gl l j):=by
 rw [y4 h,List.map_append,List.sum_append];simp
def ar1 (r:Rect):Int:=(r.R_-r.L_)*(r.H_-r.w_)
def area (l:List Rect):Int:=(l.map ar1).sum
theorem Y3o {r:Rect} (h:Q3a r=true):0<=ar1 r/\ar1 r<=268435456:=by
 rw [Q0v] at h;unfold ar1
 have c:0<=r.R_-r.L_/\r.R_-r.L_<=16384:=by omega
 have b:0<=r.H_-r.w_/\r.H_-r.w_<=16384:=by omega
 refine ⟨Int.mul_nonneg c.1 b.1,?_⟩;have:=Int.mul_le_mul c.2 b.2 b.1 (by omega)
 omega
theorem Y1N {F:Nat} (hF:BIG<=F) {l:List Rect} (hl:l.length<=1000000) (hp:∀ r ∈ l,Q3a r=true):Z1l F l=some (area l):=by
 unfold BIG at hF;have b:∀ j,0<=((l.take j).map ar1).sum/\((l.take j).map ar1).sum<=268435456*1000000:=fun j=>by
  have:=Y2f (l:=(l.take j).map ar1) (M:=268435456) (fun x f=>by
   obtain ⟨s,e,rfl⟩:=List.mem_map.1 f;exact Y3o (hp s (List.mem_of_mem_take e)))
  simp only [List.length_map,List.length_take] at this;omega
 unfold Z1l;refine Y9 (fun z:Int×Int=>∃ j:Nat,z=(((l.take j).map ar1).sum,(j:Int))/\j<=l.length) (fun z=>l.length-z.2.toNat) (fun c z i d=>?_) ⟨0,by simp,by omega⟩ (by simp;omega)
 obtain ⟨j,rfl,p⟩:=i;simp only at d ⊢
 have o:=b j;have m:=b (j+1)
 unfold Z6u;refine Q8 (fun h=>?_) (fun h=>?_)
 ·have h:j<l.length:=by simpa using h
  refine Z7 (k:=?_);simp only [Int.toNat_natCast]
  have g:=(Q0v _).1 (hp _ (V7 h));have n:=Y3o (hp _ (V7 h))
  rw [Z7t h] at m;refine Z3 (Y5 (by omega) (by omega)) ?_
  refine Z3 (Y5 (by omega) (by omega)) ?_;show gd (I64 (ar1 (gl l j))) _=_
  refine Z3 (Y5 (by omega) (by omega)) ?_;show gd (I64 (((l.take j).map ar1).sum+ar1 (gl l j))) _=_
  refine Z3 (Y5 (by omega) (by omega)) ?_;refine Z7 (k:=?_)
  refine d _ ⟨j+1,?_,h⟩ (by simp only;omega);rw [Z7t h];rfl
 ·have h:¬ j<l.length:=by simpa using h
  have:j=l.length:=by omega
  subst this;rw [List.take_length]
  rfl
theorem Z6w {F:Nat} (hF:BIG<=F) {a:Re_} (hv:Val a.t_):Q8Q F a=some (area a.t_):=by
 have:=hv.1
 unfold Q8Q;refine Q4 (Q1l hF a) ?_
 rw [Q3f hv];refine Q9 rfl ?_
 exact Q4 (Y1N hF (by omega) hv.2.1) rfl
theorem SpOk.half {n:Int}:∀ {l:List Span},SpOk l->∀ {a:Int},a<=n+1->(∀ s ∈ l,a<=s.L_/\s.R_<=n)->2*(l.length:Int)<=n+1-a
 | [],_,a,ha,_=>by simp;omega
 | s::l,h,a,ha,hb=>by
  have e:=hb s (by simp);have d:=h.pos s (by simp)
  have c:SpOk l:=⟨fun q b=>h.pos q (by simp [b]),(List.pairwise_cons.1 h.ch).2⟩;have:=SpOk.half (n:=n) c (a:=s.R_+1) (by omega) fun q b=>⟨by have:=(List.pairwise_cons.1 h.ch).1 q b;omega,(hb q (by simp [b])).2⟩
  rw [List.length_cons];omega
theorem Q2R.half {l:List Rect} (hc:Q2R l) {n:Nat} (hb:Box n l):l.length<=n*((n+1) / 2):=by
 obtain ⟨b,f,rfl⟩:=hc;have g:∀ c ∈ b,∃ s,s ∈ c.v:=fun c hc=>List.exists_mem_of_ne_nil _ (f.ne c hc)
 have d:∀ c ∈ b,∀ s ∈ c.v,(⟨s.L_,c.lo,s.R_,c.hi⟩:Rect) ∈ flat b:=fun c hc s e=>List.mem_flatMap.2 ⟨c,hc,List.mem_map.2 ⟨s,e,rfl⟩⟩
 have j:(b.length:Int)<=n-0:=f.runs.len (by omega) fun c hc=>by
  obtain ⟨s,e⟩:=g c hc;have:=hb _ (d c hc s e)
  simp only at this;omega
 have h:∀ c ∈ b,c.v.length<=(n+1) / 2:=fun c hc=>by
  have:=(f.sp c hc).half (n:=n) (a:=0) (by omega) fun s e=>by
   have:=hb _ (d c hc s e)
   simp only at this ⊢;omega
  omega
 have i:=Y6b h;have m:b.length*((n+1) / 2)<=n*((n+1) / 2):=Nat.mul_le_mul_right _ (by omega)
 omega
def Z3i (f:Nat->Int):Nat->Int
 | 0=>0
 | n+1=>Z3i f n+f n
theorem Q6Q {f g:Nat->Int} {n:Nat} (h:∀ i,i<n->f i=g i):Z3i f n=Z3i g n:=by
 induction n with
 | zero=>rfl
 | succ n ih=>rw [Z3i,Z3i,ih fun i b=>h i (by omega),h n (by omega)]
theorem Y3w (f g:Nat->Int) (n:Nat):Z3i (fun i=>f i+g i) n=Z3i f n+Z3i g n:=by
 induction n with
 | zero=>rfl
 | succ n ih=>rw [Z3i,Z3i,Z3i,ih];omega
theorem Z8v (n:Nat):Z3i (fun _=>0) n=0:=by
 induction n with
 | zero=>rfl
 | succ n ih=>rw [Z3i,ih];rfl
theorem Y2g (c lo hi:Int) (h0:0<=lo) (h1:lo<=hi) (n:Nat):Z3i (fun i=>if lo<=(i:Int)/\(i:Int)<hi then c else 0) n=(if (n:Int)<=lo then 0 else if (n:Int)<=hi then n-lo else hi-lo)*c:=by
 induction n with
 | zero=>rw [Z3i,if_pos (by omega),Int.zero_mul]
 | succ n ih=>
  rw [Z3i,ih];simp only [Int.natCast_succ]
  by_cases a:(n:Int)<lo
  ·rw [if_pos (by omega),if_neg (by omega),if_pos (by omega)];omega
  ·by_cases b:(n:Int)<hi
   ·rw [if_pos (show lo<=(n:Int)/\(n:Int)<hi by omega),if_neg (show ¬ (n:Int)+1<=lo by omega),if_pos (show (n:Int)+1<=hi by omega)]
    by_cases e:(n:Int)<=lo
    ·have:(n:Int)=lo:=by omega
     rw [if_pos e,show (n:Int)+1-lo=1 by omega,Int.zero_mul,Int.one_mul];omega
    ·rw [if_neg e,if_pos (by omega),show (n:Int)+1-lo=(n-lo)+1 by omega,Int.add_mul,Int.one_mul]
   ·rw [if_neg (show ¬ (lo<=(n:Int)/\(n:Int)<hi) by omega),if_neg (show ¬ (n:Int)+1<=lo by omega)]
    by_cases e:(n:Int)<=lo
    ·have d:lo=hi:=by omega
     have f:(n:Int)=lo:=by omega
     rw [if_pos e]
     by_cases e3:(n:Int)+1<=hi
     ·omega
     ·rw [if_neg e3,d,Int.sub_self];omega
    ·rw [if_neg e]
     by_cases e4:(n:Int)<=hi
     ·rw [if_pos e4,if_neg (by omega),show (n:Int)=hi by omega];omega
     ·rw [if_neg e4,if_neg (by omega)];omega
def cnt (N:Nat) (S:Int->Int->Bool):Int:=Z3i (fun x=>Z3i (fun y=>if S x y=true then 1 else 0) N) N
theorem Y5t {N:Nat} {S T:Int->Int->Bool} (h:∀ x y,S x y=true->T x y=true->False):cnt N (fun x y=>S x y||T x y)=cnt N S+cnt N T:=by
 unfold cnt;rw [<-Y3w]
 refine Q6Q fun x _=>?_
 rw [<-Y3w];refine Q6Q fun y _=>?_
 have:=h x y
 cases e:S x y <;> cases e2:T x y <;> simp_all
theorem Y8A {N:Nat} {S:Int->Int->Bool} (h:∀ x y,S x y=false):cnt N S=0:=by
 unfold cnt;rw [Q6Q (g:=fun _=>0) fun x _=>by rw [Q6Q (g:=fun _=>0) fun y _=>by rw [h];rfl,Z8v],Z8v]
theorem W0e {N:Nat} {r:Rect} (h1:0<=r.L_) (h2:r.L_<=r.R_) (h3:r.R_<=N) (h4:0<=r.w_) (h5:r.w_<=r.H_) (h6:r.H_<=N):cnt N r.has=ar1 r:=by
 have e:∀ x:Nat,Z3i (fun y=>if r.has x y=true then 1 else 0) N=if r.L_<=(x:Int)/\(x:Int)<r.R_ then r.H_-r.w_ else 0:=fun x=>by
  by_cases hx:r.L_<=(x:Int)/\(x:Int)<r.R_
  ·rw [if_pos hx,Q6Q (g:=fun i=>if r.w_<=(i:Int)/\(i:Int)<r.H_ then 1 else 0) fun y _=>by
    by_cases hy:r.w_<=(y:Int)/\(y:Int)<r.H_
    ·rw [if_pos ((y6 r x y).2 ⟨hx.1,hx.2,hy.1,hy.2⟩),if_pos hy]
    ·rw [if_neg (fun h=>hy (by have:=(y6 r x y).1 h;omega)),if_neg hy],Y2g 1 _ _ h4 h5]
   by_cases a:(N:Int)<=r.w_
   ·rw [if_pos a];omega
   ·rw [if_neg a];split <;> omega
  ·rw [if_neg hx,Q6Q (g:=fun _=>0) fun y _=>by rw [if_neg (fun h=>hx (by have:=(y6 r x y).1 h;omega))],Z8v]
 unfold cnt;rw [Q6Q fun x _=>e x,Y2g _ _ _ h1 h2]
 unfold ar1
 by_cases a:(N:Int)<=r.L_
 ·rw [if_pos a,show r.R_-r.L_=0 by omega]
 ·rw [if_neg a]
  by_cases b:(N:Int)<=r.R_
  ·rw [if_pos b,show (N:Int)=r.R_ by omega]
  ·rw [if_neg b]
@[irreducible] def sq (S:Int->Int->Bool):Int:=cnt 16384 S
theorem Z4u (S:Int->Int->Bool):sq S=cnt 16384 S:=by unfold sq;rfl
theorem Y6u:∀ {l:List Rect},l.Pairwise Apt->(∀ r ∈ l,Q3a r=true)->area l=sq (inR l)
 | [],_,_=>by
  rw [Z4u,Y8A (S:=inR []) (fun x y=>rfl)];rfl
 | r::l,ha,hp=>by
  have c:=(Q0v r).1 (hp r (by simp));have b:=Y6u (l:=l) (List.pairwise_cons.1 ha).2 fun q c=>hp q (by simp [c])
  have e:inR (r::l)=fun x y=>r.has x y||inR l x y:=by
   funext x y;simp [inR]
  rw [Z4u] at b ⊢;rw [e,Y5t (fun x y f h=>by
   obtain ⟨s,d,g⟩:=(Q4T l x y).1 h;exact (List.pairwise_cons.1 ha).1 s d x y f g),W0e (by omega) (by omega) (by omega) (by omega) (by omega) (by omega), <-b]
  simp [area]
theorem Val.area {l:List Rect} (h:Val l):area l=sq (inR l):=Y6u h.2.2.apt h.2.1
section
def Ok {R:Type} (x:Option R) (G:R->Prop):Prop:=∃ r,x=some r/\G r
theorem Z5C {R:Type} {r:R} {G:R->Prop} (h:G r):Ok (some r) G:=⟨r,rfl,h⟩
theorem Q1N {R:Type} {p:Prop} [Decidable p] {x:Option R} {G:R->Prop} (h:p) (k:Ok x G):Ok (gd p x) G:=by unfold gd;rw [if_pos h];exact k
theorem Q4O {α R:Type} {x:Option α} {f:α->Option R} {a:α} {G:R->Prop} (h:x=some a) (k:Ok (f a) G):Ok (x.bind f) G:=by rw [h];exact k
theorem Q6q {R:Type} {b:Bool} {x y:Option R} {G:R->Prop} (ht:b=true->Ok x G) (hf:b=false->Ok y G):Ok (br b x y) G:=by cases b;exact hf rfl;exact ht rfl
theorem Z7P {σ R:Type} {body:(σ->Option R)->σ->Option R} {G:R->Prop} (I:σ->Prop) (μ:σ->Nat)
  (round:∀ again z,I z->(∀ z',I z' -> μ z' < μ z->Ok (again z') G)->Ok (body again z) G):∀ {n:Nat} {z:σ},I z->μ z<n->Ok (Z8 body n z) G:=by
 intro n
 induction n with
 | zero=>intro z _ h;omega
 | succ n ih=>
  intro z c h;exact round _ z c fun z' b d=>ih b (by omega)
section
variable (R:List Rect)
end
variable {F:Nat} {a:Re_}
end
theorem Y0H {F:Nat} (hF:BIG<=F) {l:List Rect} (hl:l.length<=1000000) (hp:∀ r ∈ l,Q3a r=true):Q9y F l=some (area l):=by
 unfold BIG at hF;have b:∀ j,0<=((l.take j).map ar1).sum/\((l.take j).map ar1).sum<=268435456*1000000:=fun j=>by
  have:=Y2f (l:=(l.take j).map ar1) (M:=268435456) (fun x f=>by
   obtain ⟨s,e,rfl⟩:=List.mem_map.1 f;exact Y3o (hp s (List.mem_of_mem_take e)))
  simp only [List.length_map,List.length_take] at this;omega
 unfold Q9y;refine Y9 (fun z:Int×Int=>∃ j:Nat,z=(((l.take j).map ar1).sum,(j:Int))/\j<=l.length) (fun z=>l.length-z.2.toNat) (fun c z i d=>?_) ⟨0,by simp,by omega⟩ (by simp;omega)
 obtain ⟨j,rfl,p⟩:=i;simp only at d ⊢
 have o:=b j;have m:=b (j+1)
 unfold Z4G;refine Q8 (fun h=>?_) (fun h=>?_)
 ·have h:j<l.length:=by simpa using h
  refine Z7 (k:=?_);simp only [Int.toNat_natCast]
  have g:=(Q0v _).1 (hp _ (V7 h));have n:=Y3o (hp _ (V7 h))
  rw [Z7t h] at m;refine Z3 (Y5 (by omega) (by omega)) ?_
  refine Z3 (Y5 (by omega) (by omega)) ?_;show gd (I64 (ar1 (gl l j))) _=_
  refine Z3 (Y5 (by omega) (by omega)) ?_;show gd (I64 (((l.take j).map ar1).sum+ar1 (gl l j))) _=_
  refine Z3 (Y5 (by omega) (by omega)) ?_;refine Z7 (k:=?_)
  refine d _ ⟨j+1,?_,h⟩ (by simp only;omega);rw [Z7t h];rfl
 ·have h:¬ j<l.length:=by simpa using h
  have:j=l.length:=by omega
  subst this;rw [List.take_length]
  rfl
theorem Q8T {F:Nat} {t:Tape} (ht:TOk t) {n:Int} (h1:1<=n) (h2:n<=1099511627776):∃ t' b,Q1O F t n=some (t',b)/\TOk t':=by
 obtain ⟨e,k,d,c,_,_⟩:=Z9 (F:=F) ht h1 h2;refine ⟨e,k==n-1,?_,c⟩
 unfold Q1O;refine Q4 d ?_
 refine Z3 (Y5 (by omega) (by omega)) rfl
section
theorem Q7z {F:Nat} (hF:BIG<=F) {a b:List Rect} (ha:a.length<=1000000) (hb:b.length<=1000000):Q1V F [a,b]=some (a++b):=by
 unfold BIG at hF;obtain ⟨m,rfl⟩:∃ m,F=m+3:=⟨F-3,by omega⟩
 have c:gl [a,b] (0:Int).toNat=a:=rfl;have d:gl [a,b] (1:Int).toNat=b:=rfl
 have k1:Q2n (m+3) [a,b] (((a.length:Nat):Int)+((b.length:Nat):Int))=some (a++b):=by
  unfold Q2n;refine Q4 (a:=[]) (by unfold Z9y;rw [if_pos (by unfold LIM;omega)]) ?_
  show K5 (m+3) [a,b] _ 0 []=_;unfold K5
  refine Y2 rfl ?_;rw [c]
  refine Z7 (k:=?_);refine Z3 (by simp [LIM];omega) ?_
  refine Z7 (k:=?_);show K5 (m+3) [a,b] _ 1 ([]++a)=_
  unfold K5;refine Y2 rfl ?_
  rw [d];refine Z7 (k:=?_)
  refine Z3 (by simp [LIM];omega) ?_;refine Z7 (k:=?_)
  show K5 (m+3) [a,b] _ 2 (([]++a)++b)=_;unfold K5
  refine Q9 rfl ?_;unfold Q4B
  simp
 show K6 (m+3) [a,b] _ 0 0=_;unfold K6
 refine Y2 rfl ?_;rw [c]
 refine Z7 (k:=?_);refine Z7 (k:=?_)
 refine Q9 (by simp <;> omega) ?_;refine Z7 (k:=?_)
 show K6 (m+3) [a,b] _ (0+((a.length:Nat):Int)) 1=_;unfold K6
 refine Y2 rfl ?_;rw [d]
 refine Z7 (k:=?_);refine Z7 (k:=?_)
 refine Q9 (by simp <;> omega) ?_;refine Z7 (k:=?_)
 show K6 (m+3) [a,b] _ (0+((a.length:Nat):Int)+((b.length:Nat):Int)) 2=_;unfold K6
 refine Q9 rfl ?_;rw [Int.zero_add]
 exact k1
def zs (k:Int):Int:=if 0<=k/\k<=7 then 0 else if 8<=k/\k<=11 then 1 else 2
theorem Y2H (F:Nat) (k:Int):Z2l F k=some (zs k):=by
 have j:Q0l F k true=some 0:=rfl;have l:Q2w F true=some 1:=rfl
 have r:Q2w F false=some 2:=rfl;have e:∀ n:Int,(k==n)=decide (k=n):=fun n=>by rw [Bool.eq_iff_iff];simp
 unfold Z2l;simp only [e]
 by_cases h:0<=k/\k<=7
 ·have f:zs k=0:=by unfold zs;rw [if_pos h]
  rw [f];have b:∀ {n:Int} {x:Option Int},(k≠n->x=some 0)->br (decide (k=n)) (Q0l F k (decide (k=n))) x=some 0:=fun {n x} hx=>by
   refine Q8 (fun d=>by rw [d];exact j) (fun d=>hx (by simpa using d))
  refine b fun o=>b fun p=>b fun m=>b fun t=>b fun u=>b fun v=>b fun s=>?_
  rw [show decide (k=7)=true by rw [decide_eq_true_eq];omega];exact j
 ·have c:∀ n:Int,0<=n->n<=7->decide (k=n)=false:=fun n q g=>by rw [decide_eq_false_iff_not];omega
  rw [c 0 (by omega) (by omega),c 1 (by omega) (by omega),c 2 (by omega) (by omega),c 3 (by omega) (by omega),c 4 (by omega) (by omega),c 5 (by omega) (by omega),c 6 (by omega) (by omega),c 7 (by omega) (by omega)];simp only [br]
  unfold Q0l;simp only [br,e]
  by_cases g:8<=k/\k<=11
  ·have f:zs k=1:=by unfold zs;rw [if_neg h,if_pos g]
   rw [f];have b:∀ {n:Int} {x:Option Int},(k≠n->x=some 1)->br (decide (k=n)) (Q2w F (decide (k=n))) x=some 1:=fun {n x} hx=>by
    refine Q8 (fun d=>by rw [d];exact l) (fun d=>hx (by simpa using d))
   refine b fun o=>b fun p=>b fun m=>?_
   rw [show decide (k=11)=true by rw [decide_eq_true_eq];omega];exact l
  ·have f:zs k=2:=by unfold zs;rw [if_neg h,if_neg g]
   rw [f];have i:∀ n:Int,8<=n->n<=11->decide (k=n)=false:=fun n q g=>by rw [decide_eq_false_iff_not];omega
   rw [i 8 (by omega) (by omega),i 9 (by omega) (by omega),i 10 (by omega) (by omega),i 11 (by omega) (by omega)];exact r
def zp (w:Int) (k:Int):Bool:=zs k==w
theorem Y2I (F:Nat) (k w:Int):Z2m F k w=some (zp w k):=by
 unfold Z2m;exact Q4 (Y2H F k) rfl
structure LB (n:Nat) (L:List A2_):Prop where
 vl:VL L
 box:∀ f ∈ L,Box n f.g_.t_
 n15:n<=15
theorem W0L {l:List Rect} (hc:Q2R l) {n:Nat} (hb:Box n l) (hn:n<=15):l.length<=120:=by
 have c:=hc.half hb;have b:n*((n+1) / 2)<=15*8:=Nat.mul_le_mul hn (by omega)
 omega
theorem Y2M {S:Int->Int->Bool} (hf:Fin S) {n:Nat} (hn:n<=15) (hb:∀ x y,S x y=true->0<=x/\x<n/\0<=y/\y<n):Val (cn S)/\Box n (cn S):=by
 have h:=Y8H (n:=(n:Int)) hf hb;exact ⟨⟨W0L (Q2R.cn hf) h hn,h.prop (by omega),Q2R.cn hf⟩,h⟩
variable {F n:Nat} {L:List A2_} {d:Int}
theorem LB.rbox (hL:LB n L) (d:Int) (p:Int->Bool):Box n (Q0F L d p):=fun r b=>by
 obtain ⟨f,c,b⟩:=Y5d b;exact hL.box f c r b
theorem LB.rval (hL:LB n L) (d:Int) (p:Int->Bool):Val (cn (inR (Q0F L d p)))/\Box n (cn (inR (Q0F L d p))):=Y2M (G6 _) hL.n15 fun x y h=>(hL.rbox d p).in h
theorem Y0l (hF:BIG<=F) (hL:LB n L) (d w:Int):Z5w F L d w=some (⟨cn (inR (Q0F L d (zp w)))⟩,0):=by
 have c:=hL.vl.len;unfold Z5w
 refine Q4 (Z2P hF (by omega) (fun f b=>hL.vl.rlen b) d (zp w) (fun f _=>Y2I F f.k_ w)) ?_;have g:=Y4V (L:=L) (fun f b=>hL.vl.rlen b) d (zp w)
 refine Q4 (Q8K hF (by omega) fun r e=>?_) ?_
 ·have:=hL.rbox d (zp w) r e
  omega
 ·have:=(hL.rval d (zp w)).1.1
  rw [if_neg (by omega)]
theorem Z1O (hF:BIG<=F) (hv:VL L) (d1:0<=d) (d2:d<=36864) {a:Re_} (ha:Val a.t_) {m:Int} (m1:0<=m) (m2:m<=268435456):Q6M F L d m a=some 0:=by
 unfold Q6M;refine Q4 (Z6C hF L d) ?_
 rw [if_neg (by simp [(Z0P L).2 hv]),if_neg (by omega)];refine Q9 rfl ?_
 refine Q4 (Q0n hF a) ?_;rw [Q3f ha]
 refine Q9 rfl ?_;refine Q9 (by rw [decide_eq_false_iff_not];omega) ?_
 rw [show decide ((268435456:Int)<m)=false by rw [decide_eq_false_iff_not];omega];rfl
theorem Y2K (hF:BIG<=F) (hL:LB n L) (d1:0<=d) (d2:d<=36864):Z2o F L d=some (⟨cn (inR (Q0F L d (zp 0)))⟩,0):=by
 unfold Z2o;refine Q4 (Z1O hF hL.vl d1 d2 Val.nil (by omega) (by omega)) ?_
 refine Q9 rfl ?_;exact Q4 (Y0l hF hL d 0) rfl
noncomputable def Z3I (L:List A2_) (d:Int) (a:List Rect):List Rect:=cn fun x y=>inR (Q0F L d (zp 1)) x y&&inR a x y
noncomputable def Z0T (L:List A2_) (d m:Int) (a:List Rect):List Rect:=((Z9v (Z3I L d a)).filter fun p=>decide (m<area p)).flatten
theorem Y9P (a b:List Rect):Fin fun x y=>inR a x y&&inR b x y:=Q6u a b 2
theorem Y3B (hL:LB n L) (d:Int) (a:List Rect):Val (Z3I L d a)/\Box n (Z3I L d a):=Y2M (Y9P _ _) hL.n15 fun x y h=>(hL.rbox d (zp 1)).in (Bool.and_eq_true _ _ ▸ h).1
theorem Y6C {m:Int} {a:List Rect} {r:Rect} (h:r ∈ Z0T L d m a):r ∈ Z3I L d a:=by
 obtain ⟨p,b,c⟩:=List.mem_flatten.1 h;exact Y6O (List.mem_filter.1 b).1 c
theorem Y2i (hL:LB n L) (d m:Int) (a:List Rect):Box n (Z0T L d m a):=fun r b=>(Y3B hL d a).2 r (Y6C b)
theorem Y2h (hL:LB n L) (d m:Int) (a:List Rect):Val (cn (inR (Z0T L d m a)))/\Box n (cn (inR (Z0T L d m a))):=Y2M (G6 _) hL.n15 fun x y h=>(Y2i hL d m a).in h
theorem Z3W {p:List Rect->Bool}:∀ Q:List (List Rect),(Q.filter p).flatten.length<=Q.flatten.length
 | []=>Nat.le_refl _
 | q::Q=>by
  have:=Z3W (p:=p) Q
  rw [List.filter_cons,List.flatten_cons,List.length_append];split
  ·rw [List.flatten_cons,List.length_append];omega
  ·omega
theorem Y2J (hF:BIG<=F) (hL:LB n L) (d1:0<=d) (d2:d<=36864) {a:Re_} (ha:Val a.t_) {m:Int} (m1:0<=m) (m2:m<=268435456):Z2n F L d m a=some (⟨cn (inR (Z0T L d m a.t_))⟩,0):=by
 have f:=hF;unfold BIG at hF
 have D:=Y3B hL d a.t_;have s:=D.1.1
 have M:=ha.1;have G:=hL.rval d (zp 1)
 have N:=G.1.1;unfold Z2n
 refine Q4 (Z1O f hL.vl d1 d2 ha m1 m2) ?_;refine Q9 rfl ?_
 refine Q4 (Y0l f hL d 1) ?_;refine Q9 rfl ?_
 refine Q4 (Q8L f (by omega) (fun r c=>(G.1.2.2.pos c).1) (fun r c=>(ha.2.2.pos c).1) (k:=fun u v=>u&&v) rfl (fun u v=>by cases u <;> cases v <;> rfl)) ?_;have e:(cn fun x y=>inR (cn (inR (Q0F L d (zp 1)))) x y&&inR a.t_ x y)=Z3I L d a.t_:=by
  unfold Z3I;congr 1
  funext x y
  rw [Q1I (G6 _)]
 rw [e];refine Q9 (by rw [decide_eq_false_iff_not];omega) ?_
 have V:=(Y0Z (Z3I L d a.t_)).length_eq;refine Y9 (fun z:List Rect×List Rect=>∃ (k:Nat) (Q:List (List Rect)),Q++Z6T k z.1=Z9v (Z3I L d a.t_)/\z.1.length<=k/\z.1.length<=120/\z.2=(Q.filter fun p=>decide (m<area p)).flatten/\∀ r ∈ z.1,r ∈ Z3I L d a.t_) (fun z=>z.1.length) (fun i z J H=>?_) ⟨_,[],rfl,Nat.le_refl _,s,rfl,fun _ h=>h⟩ (by simp only;omega)
 obtain ⟨l,O⟩:=z;obtain ⟨k,Q,j,C,E,rfl,t⟩:=J
 simp only at j C E t H ⊢;have P:Q.flatten.length<=120:=by
  have:=congrArg (fun q=>(List.flatten q).length) j
  simp only [List.flatten_append,List.length_append] at this;omega
 have S:=Z3W (p:=fun p=>decide (m<area p)) Q;unfold Z7o
 cases l with
 | nil=>
  refine Q9 (by simp) ?_;unfold Z3a
  have U:Z6T k []=[]:=by cases k <;> rfl
  rw [U,List.append_nil] at j;subst j
  refine Q4 (Q8K f (by omega) fun r c=>?_) ?_
  ·have:=Y2i hL d m a.t_ r c
   omega
  ·have:=(Y2h hL d m a.t_).1.1
   unfold Z0T at this;rw [if_neg (by omega)];rfl
 | cons b l=>
  refine Y2 (by simp) ?_;refine Q4 (Z9G f (by simp) (by omega) (fun r c=>Y9t (D.1.2.1 r (t r c)))) ?_
  cases k with
  | zero=>simp at C
  | succ k=>
  simp only [Z6T] at j;have w:=Y2s b l
  have B:=w.perm.length_eq;simp only [List.length_append,List.length_cons,List.length_nil] at B C E
  have I:∀ r ∈ (Z1v (b::l)).1,r ∈ Z3I L d a.t_:=fun r c=>t r (w.perm.mem_iff.1 (List.mem_append.2 (.inl c)))
  have T:1<=(Z1v (b::l)).1.length:=by
   have:=w.lens.1
   exact List.length_pos_iff.2 this
  refine Q4 (Y0H f (by omega) fun r c=>D.1.2.1 r (I r c)) ?_;have g:∀ o,o=(((Q++[(Z1v (b::l)).1])).filter fun p=>decide (m<area p)).flatten->i ((Z1v (b::l)).2,o)=some (⟨cn (inR (Z0T L d m a.t_))⟩,0):=fun o K=>by
   refine H _ ⟨k,Q++[(Z1v (b::l)).1],by rw [<-j,List.append_assoc];rfl,by simp only;omega,by simp only;omega,K,fun r c=>t r (w.perm.mem_iff.1 (List.mem_append.2 (.inr c)))⟩ (by simp only [List.length_cons];omega)
  refine Q8 (fun A=>?_) (fun A=>?_)
  ·refine Z3 (by simp only [LIM];omega) ?_
   refine g _ ?_;rw [List.filter_append,List.filter_cons,A];simp
  ·refine g _ ?_
   rw [List.filter_append,List.filter_cons,A];simp
noncomputable def elS (L:List A2_) (d m:Int) (a:List Rect) (x y:Int):Bool:=inR a x y && !(inR (Q0F L d (zp 0)) x y||inR (Z0T L d m a) x y)
theorem Y5p (L:List A2_) (d m:Int) (a:List Rect):Fin (elS L d m a):=by
 have:=Z8b a (Q0F L d (zp 0)++Z0T L d m a)
 simp only [Z3t] at this;exact this
end
section
theorem Y7U {a b:Re_} (ha:Val a.t_) (hb:Val b.t_) (h:∀ x y,inR a.t_ x y=true->inR b.t_ x y=true->False):Q4f a b=false:=by
 rw [<-Bool.not_eq_true];intro c
 unfold Q4f at c;rw [Q3f ha,Q3f hb,Bool.true_and,Bool.true_and,Y3a ha.2.1 hb.2.1] at c
 obtain ⟨x,y,e,f⟩:=c;exact h x y e f
theorem LayT.lb {L:List A2_} (h:LayT L):LB 9 L:=⟨h.vl,fun f b=>(h.fea f b).1.reg.box,by omega⟩
variable {F n:Nat} {L:List A2_} {d:Int}
theorem Y4H {m m' : Int} (h:m<=m') {a:List Rect} {x y:Int} (hx:inR (Z0T L d m' a) x y=true):inR (Z0T L d m a) x y=true:=by
 obtain ⟨r,b,e⟩:=(Q4T _ _ _).1 hx;obtain ⟨p,c,b⟩:=List.mem_flatten.1 b
 rw [List.mem_filter,decide_eq_true_eq] at c;exact Z7X (List.mem_flatten.2 ⟨p,List.mem_filter.2 ⟨c.1,by rw [decide_eq_true_eq];omega⟩,b⟩) e
end
section
variable {F n:Nat} {L:List A2_} {d:Int}
end
section
variable {F:Nat}
end
section
variable {F n:Nat} {L:List A2_} {d:Int}
end
section
variable {F:Nat} {L:List A2_} {d:Int}
theorem Y3n:∀ {l:List Int},Asc l->∀ {lo hi:Int},(∀ v ∈ l,lo<=v/\v<=hi)->lo<=hi+1->(l.length:Int)<=hi+1-lo
 | [],_,lo,hi,_,h=>by simp;omega
 | a::l,h,lo,hi,hb,h2=>by
  have c:=List.pairwise_cons.1 h;have e:=hb a (by simp)
  have:=Y3n (l:=l) c.2 (lo:=a+1) (hi:=hi) (fun v b=>by have:=c.1 v b;have:=hb v (by simp [b]);omega) (by omega)
  rw [List.length_cons];omega
theorem Q3P (hF:BIG<=F) {a b:List Rect} {how:Int} (ha:a.length<=200000) (hb:b.length<=200000) (pa:∀ r ∈ a,Q3a r=true) (pb:∀ r ∈ b,Q3a r=true):U3 F a b how=some (cn fun x y=>Q0w (inR a x y) (inR b x y) how):=by
 refine Z2D hF ha hb ?_ ?_
 ·have:=Y3n (Q8o b (Q8o a (f:=Rect.L_) (g:=Rect.R_) .nil)) (lo:=0) (hi:=16384) (fun v e=>by
   rcases (Q0A b _ _).1 e with h|⟨r,c,h⟩
   ·rcases (Q0A a _ _).1 h with h|⟨r,c,h⟩
    ·cases h
    ·have h:v=r.L_\/v=r.R_:=h
     have:=(Q0v r).1 (pa r c);omega
   ·have h:v=r.L_\/v=r.R_:=h
    have:=(Q0v r).1 (pb r c);omega) (by omega)
  unfold Q8p;omega
 ·have:=Y3n (Q8o b (Q8o a (f:=Rect.w_) (g:=Rect.H_) .nil)) (lo:=0) (hi:=16384) (fun v e=>by
   rcases (Q0A b _ _).1 e with h|⟨r,c,h⟩
   ·rcases (Q0A a _ _).1 h with h|⟨r,c,h⟩
    ·cases h
    ·have h:v=r.w_\/v=r.H_:=h
     have:=(Q0v r).1 (pa r c);omega
   ·have h:v=r.w_\/v=r.H_:=h
    have:=(Q0v r).1 (pb r c);omega) (by omega)
  unfold Z0p;omega
end
section
def Z4b (r:Rg_):Int:=
 if r.y_<0\/100<r.y_ then 18 else if r.c_<0\/40<=r.c_ then 13 else if r.g_.t_.length=0\/Q3D r.g_.t_=false then 7 else 0
theorem Q8R (r:Rg_):Z4b r=0↔0<=r.y_/\r.y_<=100/\0<=r.c_/\r.c_<40/\r.g_.t_.length≠0/\Val r.g_.t_:=by
 unfold Z4b;rw [<-Q0P]
 by_cases h1:r.y_<0\/100<r.y_
 ·rw [if_pos h1];simp;omega
 ·rw [if_neg h1]
  by_cases h2:r.c_<0\/40<=r.c_
  ·rw [if_pos h2];simp;omega
  ·rw [if_neg h2]
   by_cases b:r.g_.t_.length=0\/Q3D r.g_.t_=false
   ·rw [if_pos b]
    constructor
    ·intro h;cases h
    ·rintro ⟨_,_,_,_,e,c⟩
     rcases b with b|b
     ·exact absurd b e
     ·rw [c] at b;cases b
   ·rw [if_neg b]
    refine ⟨fun _=>?_,fun _=>rfl⟩;have e:r.g_.t_.length≠0:=fun h=>b (.inl h)
    have c:Q3D r.g_.t_=true:=by
     cases hv:Q3D r.g_.t_ with
     | true=>rfl
     | false=>exact absurd (.inr hv) b
    exact ⟨by omega,by omega,by omega,by omega,e,c⟩
theorem Z7Y {F:Nat} (hF:BIG<=F) (r:Rg_):Q5q F r=some (Z4b r):=by
 unfold Q5q Z4b;rw [Q7j (Q2N F r)]
 unfold Q2N;refine Q8 (fun h=>by rw [if_pos (by simpa using h)]) (fun h=>?_)
 rw [if_neg (by simpa using h),Q7j (Q2M F r)];unfold Q2M
 refine Q8 (fun h=>by rw [if_pos (by simpa using h)]) (fun h=>?_);rw [if_neg (by simpa using h)]
 refine Q8 (fun h=>?_) (fun h=>?_)
 ·have h:r.g_.t_.length=0:=by simpa using h
  rw [if_pos (.inl h)];rfl
 ·have h:r.g_.t_.length≠0:=by simpa using h
  refine Q4 (Q0n hF _) ?_;unfold Q4U
  refine Q8 (fun b=>?_) (fun b=>?_)
  ·rw [if_pos (.inr (by simpa using b))]
  ·rw [if_neg (by rintro (h3|h3);exact h h3;rw [h3] at b;cases b)]
def ltR (f g:Rg_):Bool:=decide (f.y_<g.y_)||(decide (f.y_=g.y_)&&decide (f.c_<g.c_))
theorem Q8g (f g:Rg_):ltR f g=true↔f.y_<g.y_\/(f.y_=g.y_/\f.c_<g.c_):=by unfold ltR;simp
theorem Z8O {f g h:Rg_} (h1:ltR f g=true) (h2:ltR g h=true):ltR f h=true:=by
 rw [Q8g] at *;omega
theorem Z7d {F:Nat} (hF:BIG<=F) (f g:Rg_):∃ c,Q4h F f g=some c/\(c<0↔ltR f g=true)/\(0<c↔ltR g f=true):=by
 refine ⟨if (if f.y_<g.y_ then (-1:Int) else if g.y_<f.y_ then 1 else 0)≠0 then (if f.y_<g.y_ then (-1:Int) else if g.y_<f.y_ then 1 else 0) else (if f.c_<g.c_ then (-1:Int) else if g.c_<f.c_ then 1 else 0),?_,?_⟩
 ·unfold Q4h
  exact Q4 (Q6Y _ _ _) (Q4 (Q6Y _ _ _) (Q4 (Y5v F hF _ _) rfl))
 ·rw [Q8g,Q8g]
  by_cases h1:f.y_<g.y_
  ·simp [h1];omega
  ·by_cases h2:g.y_<f.y_
   ·simp [h1,h2];omega
   ·by_cases h3:f.c_<g.c_
    ·simp [h1,h2,h3];omega
    ·by_cases h4:g.c_<f.c_
     ·simp [h1,h2,h3,h4];omega
     ·simp [h1,h2,h3,h4]
def hGo:Option Rg_->List Rg_->Int
 | _,[]=>0
 | p,f::l=>if Z4b f≠0 then Z4b f else if p.any (fun g=> !ltR g f) then 3 else hGo (some f) l
def NX (l:List Rg_):Prop:=l.Pairwise fun f g=>f.y_=g.y_->Q4f f.g_ g.g_=false
open Classical in
def Q9e (l:List Rg_):Int:=if 200<l.length then 1 else if hGo none l≠0 then hGo none l else if NX l then 0 else 11
def Z3V (l:List Rg_) (i:Nat):Option Rg_:=if i=0 then none else some (gl l (i-1))
theorem Y0X (l:List Rg_) (i:Nat):Z3V l (i+1)=some (gl l i):=by simp [Z3V]
theorem W0w {l:List Rg_}:NX l↔∀ j,j<l.length->∀ i,i<j->(gl l i).y_=(gl l j).y_->Q4f (gl l i).g_ (gl l j).g_=false:=by
 unfold NX;rw [List.pairwise_iff_getElem]
 constructor
 ·intro h j b i f c
  rw [z8 b,z8 (by omega)] at *;exact h i j (by omega) b f c
 ·intro h i j f b e c
  have:=h j b i e
  rw [z8 b,z8 (by omega)] at this;exact this c
theorem Y3K {F:Nat} (hF:BIG<=F) {l:List Rg_} (hl:l.length<=200) {y:Int} (h0:NX l->y=0) (h1:¬ NX l->y=11):Q5i F l=some y:=by
 have s:=hF;unfold BIG at hF
 unfold Q5i;refine Y9 (fun z:Int=>∃ i:Nat,z=i/\i<=l.length/\∀ j,j<i->∀ a,a<j->(gl l a).y_=(gl l j).y_->Q4f (gl l a).g_ (gl l j).g_=false) (fun z=>l.length-z.toNat) (fun t z v D=>?_) ⟨0,rfl,by omega,fun j r=>absurd r (Nat.not_lt_zero j)⟩ (by simp;omega)
 obtain ⟨i,rfl,G,A⟩:=v;unfold Z4O
 refine Q8 (fun h=>?_) (fun h=>?_)
 ·have h:i<l.length:=by simpa using h
  refine Z7 (k:=?_);refine Z7 (k:=?_)
  refine Y9 (fun z:Int=>∃ j:Nat,z=j/\j<=i/\∀ a,a<j->(gl l a).y_=(gl l i).y_->Q4f (gl l a).g_ (gl l i).g_=false) (fun z=>i-z.toNat) (fun g z v w=>?_) ⟨0,rfl,by omega,fun j r=>absurd r (Nat.not_lt_zero j)⟩ (by simp;omega);obtain ⟨j,rfl,r,C⟩:=v
  unfold Z4N;simp only [Int.toNat_natCast]
  have o:(l.take i).length=i:=by rw [List.length_take];omega
  simp only [o];refine Q8 (fun f=>?_) (fun f=>?_)
  ·have f:j<i:=by simpa using f
   have e:gl (l.take i) j=gl l j:=by simp [gl,List.getD_eq_getElem?_getD,f]
   rw [e];refine Z7 (k:=?_)
   have B:∀ b:Bool,b=(decide ((gl l j).y_=(gl l i).y_)&&Q4f (gl l j).g_ (gl l i).g_)->Q5h F j g b=some y:=by
    intro b m;unfold Q5h
    refine Q8 (fun c=>?_) (fun c=>?_)
    ·rw [c,eq_comm,Bool.and_eq_true,decide_eq_true_eq] at m
     rw [h1 fun E=>by rw [W0w.1 E i h j f m.1] at m;cases m.2]
    ·rw [c] at m
     refine Z7 (k:=?_);refine w _ ⟨j+1,by omega,f,fun a u q=>?_⟩ (by omega)
     rcases Nat.lt_or_ge a j with p|p
     ·exact C a p q
     ·have:a=j:=by omega
      subst this;rw [decide_eq_true q,Bool.true_and] at m
      exact m.symm
   refine Q8 (fun c=>?_) (fun c=>?_)
   ·refine Q4 (Y0S s _ _) (B _ ?_)
    have c:(gl l j).y_=(gl l i).y_:=by simpa using c
    rw [decide_eq_true c,Bool.true_and]
   ·refine B _ ?_
    have c:¬ (gl l j).y_=(gl l i).y_:=by simpa using c
    rw [decide_eq_false c,Bool.false_and]
  ·have f:j=i:=by
    have:¬ j<i:=by simpa using f
    omega
   subst f;unfold Z1h
   refine Z7 (k:=?_);refine D _ ⟨j+1,by omega,h,fun b m a u q=>?_⟩ (by omega)
   rcases Nat.lt_or_ge b j with p|p
   ·exact A b p a u q
   ·have:b=j:=by omega
    subst this;exact C a u q
 ·have h:i=l.length:=by
   have:¬ i<l.length:=by simpa using h
   omega
  subst h;rw [h0 (W0w.2 A)];rfl
theorem Y0M {F:Nat} (hF:BIG<=F) (l:List Rg_):Q9B F l=some (Q9e l):=by
 have u:=hF;unfold BIG at hF
 unfold Q9B;refine Q8 (fun h=>?_) (fun h=>?_)
 ·have h:200<l.length:=by simp at h;omega
  rw [Q9e,if_pos h]
 ·have h:¬ 200<l.length:=by simp at h;omega
  have C:hGo none l=0->Q5i F l=some (Q9e l):=fun q=>by
   refine Y3K u (by omega) (fun D=>?_) (fun D=>?_)
   ·rw [Q9e,if_neg h,if_neg (by simp [q]),if_pos D]
   ·rw [Q9e,if_neg h,if_neg (by simp [q]),if_neg D]
  have v:hGo none l≠0->Q9e l=hGo none l:=fun q=>by rw [Q9e,if_neg h,if_pos q]
  refine Y9 (fun z:Int=>∃ i:Nat,z=i/\i<=l.length/\hGo none l=hGo (Z3V l i) (l.drop i)) (fun z=>l.length-z.toNat) (fun e z H G=>?_) ⟨0,rfl,by omega,rfl⟩ (by simp;omega);obtain ⟨i,rfl,J,m⟩:=H
  unfold Z4P;refine Q8 (fun s=>?_) (fun s=>?_)
  ·have s:i<l.length:=by simpa using s
   rw [Q1J s,hGo] at m;refine Z7 (k:=?_)
   simp only [Int.toNat_natCast];have t:∀ c:Int,Z4b (gl l i)=c->c≠0->Q9e l=c:=fun c r p=>by
    rw [if_pos (by rw [r];exact p),r] at m;rw [v (by rw [m];exact p),m]
   have f:Z4b (gl l i)=0->∀ b:Bool,b=(Z3V l i).any (fun g=> !ltR g (gl l i))->Q2b F i e b=some (Q9e l):=by
    intro r b A;rw [if_neg (by simp [r])] at m
    unfold Q2b;refine Q8 (fun p=>?_) (fun p=>?_)
    ·rw [if_pos (A ▸ p)] at m
     rw [v (by rw [m];decide),m]
    ·rw [if_neg (by rw [<-A,p];simp)] at m
     refine Z7 (k:=?_);refine G _ ⟨i+1,by omega,s,?_⟩ (by omega)
     rw [m,Y0X]
   rw [Q7j (Q5l F l i e)];unfold Q5l
   refine Q8 (fun r=>?_) (fun r=>?_)
   ·rw [t 18 (by unfold Z4b;rw [if_pos (by simpa using r)]) (by decide)]
   ·rw [Q7j (Q5k F l i e)]
    unfold Q5k;refine Q8 (fun p=>?_) (fun p=>?_)
    ·rw [t 13 (by unfold Z4b;rw [if_neg (by simpa using r),if_pos (by simpa using p)]) (by decide)]
    ·refine Q4 (Q1l u _) ?_
     rw [Q7j (Q5j F l i e)];unfold Q5j
     refine Q8 (fun j=>?_) (fun j=>?_)
     ·have j:(gl l i).g_.t_.length=0\/Q3D (gl l i).g_.t_=false:=by
       rw [Bool.or_eq_true] at j;rcases j with o|o
       ·exact .inr (by simpa using o)
       ·exact .inl (by simpa using o)
      rw [t 7 (by unfold Z4b;rw [if_neg (by simpa using r),if_neg (by simpa using p),if_pos j]) (by decide)]
     ·have j:¬ ((gl l i).g_.t_.length=0\/Q3D (gl l i).g_.t_=false):=by
       rw [Bool.or_eq_false_iff] at j;simp only [Int.toNat_natCast] at j
       rintro (o|o)
       ·rw [o] at j;simp at j
       ·rw [o] at j;simp at j
      have o:Z4b (gl l i)=0:=by unfold Z4b;rw [if_neg (by simpa using r),if_neg (by simpa using p),if_neg j]
      refine Q8 (fun q=>?_) (fun q=>?_)
      ·have q:0<i:=by simpa using q
       refine Z7 (k:=?_);refine Z7 (k:=?_)
       have I:((i:Int)-1).toNat=i-1:=by omega
       rw [I];have E:(Z3V l i).any (fun g=> !ltR g (gl l i))=!ltR (gl l (i-1)) (gl l i):=by simp [Z3V,show i≠0 from by omega]
       refine Q8 (fun w=>?_) (fun w=>?_)
       ·refine f o _ ?_
        have w:(gl l i).y_<(gl l (i-1)).y_:=by simpa using w
        rw [E,eq_comm,Bool.not_eq_true', <-Bool.not_eq_true,Q8g];omega
       ·have w:¬ (gl l i).y_<(gl l (i-1)).y_:=by simpa using w
        refine Z7 (k:=?_);refine Z7 (k:=?_)
        refine Q8 (fun B=>?_) (fun B=>?_)
        ·have B:(gl l i).y_=(gl l (i-1)).y_:=by simpa using B
         refine Z7 (k:=?_);refine Z7 (k:=?_)
         refine f o _ ?_;rw [E,Bool.eq_iff_iff,Bool.not_eq_true', <-Bool.not_eq_true,Q8g,decide_eq_true_eq]
         simp only [Int.toNat_natCast];omega
        ·have B:¬ (gl l i).y_=(gl l (i-1)).y_:=by simpa using B
         refine f o _ ?_;rw [E,eq_comm,Bool.not_eq_false',Q8g];omega
      ·have q:i=0:=by simp at q;omega
       exact f o _ (by simp [Z3V,q])
  ·have s:¬ i<l.length:=by simpa using s
   rw [List.drop_of_length_le (by omega)] at m;exact C m
end
theorem Z0X {F:Nat} (hF:BIG<=F) {l:List Rg_} {q:Rg_->Option Bool} (p:Rg_->Bool) (hl:l.length<=1000000000) (hq:∀ r ∈ l,q r=some (p r)):Q0t F l q=some (Z0L p l):=by
 unfold BIG at hF;unfold Q0t
 refine Y9 (fun z:Int=>∃ i:Nat,z=i/\i<=l.length/\∀ j,j<i->p (gl l j)=false) (fun z=>l.length-z.toNat) (fun c z o m=>?_) ⟨0,rfl,by omega,fun j s=>by omega⟩ (by simp;omega);obtain ⟨i,rfl,t,f⟩:=o
 unfold Q5d;refine Q8 (fun h=>?_) (fun h=>?_)
 ·have h:i<l.length:=by simpa using h
  refine Z7 (k:=?_);refine Q4 (hq _ (V7 h)) ?_
  simp only [Int.toNat_natCast];refine Q8 (fun b=>?_) (fun b=>?_)
  ·have e:l.any p=true:=List.any_eq_true.2 ⟨_,V7 h,b⟩
   rw [Z0L,if_pos e,Z3x h f b]
  ·refine Z7 (k:=?_)
   refine m _ ⟨i+1,by omega,h,fun j s=>?_⟩ (by omega);rcases Nat.lt_or_ge j i with g|g
   ·exact f j g
   ·have:j=i:=by omega
    subst this;exact b
 ·have h:¬ i<l.length:=by simpa using h
  have:i=l.length:=by omega
  subst this;have e:=Q6y f
  rw [Z0L,e];rfl
theorem Y3Y {α:Type} (p:α->Bool) (l:List α):0<=Z0L p l↔l.any p=true:=by
 unfold Z0L;split
 ·rename_i h;simp [h]
 ·rename_i h;simp [h]
theorem Q9w {F:Nat} (hF:BIG<=F) {l:List Rg_} {q:Rg_->Option Bool} (p:Rg_->Bool) (hl:l.length<=1000000000) (hq:∀ r ∈ l,q r=some (p r)):G7 F l q=some (l.any p):=by
 unfold G7;refine Q4 (Z0X hF p hl hq) ?_
 congr 1
 rw [Bool.eq_iff_iff, <-Y3Y,decide_eq_true_iff]
structure GrpOf (gs:List (Int×List Rg_)) (l:List Rg_):Prop where
 nd:(gs.map (·.1)).Nodup
 row:∀ e ∈ gs,e.2=l.filter fun f=>decide (f.y_=e.1)
 key:∀ f ∈ l,∃ e ∈ gs,e.1=f.y_
theorem GrpOf.nil:GrpOf [] []:=⟨by simp,fun e b=>by simp at b,fun f c=>by simp at c⟩
theorem GrpOf.gRow {gs:List (Int×List Rg_)} {l:List Rg_} (h:GrpOf gs l) (y:Int):gRow y gs=l.filter fun f=>decide (f.y_=y):=by
 unfold Go.Ab.gRow;rcases Q7k y gs with ⟨r,q,i,o⟩|⟨j,b⟩
 ·rw [i]
  simp only
  rw [h.row q (List.mem_of_getElem? i),o]
 ·rw [j,List.getElem?_eq_none (Nat.le_refl _)]
  simp only
  symm
  rw [List.filter_eq_nil_iff];intro f p g
  obtain ⟨e,m,c⟩:=h.key f p;exact b e m (by rw [c];exact of_decide_eq_true g)
theorem GrpOf.app {gs:List (Int×List Rg_)} {l:List Rg_} (h:GrpOf gs l) (f:Rg_):GrpOf (gApp f.y_ [f] gs) (l++[f]):=by
 obtain ⟨q,z,E,B,D⟩:=Z8a (y:=f.y_) (m:=[f]) (gs:=gs);have o:=Y2x (y:=f.y_) (m:=[f]) h.nd
 have w:(gApp f.y_ [f] gs)[Q0J f.y_ gs]?=some q:=by rw [B,Z7N D,if_pos rfl]
 have u:∀ e ∈ gApp f.y_ [f] gs,e=q\/(e ∈ gs/\e.1≠f.y_):=by
  intro e t;obtain ⟨j,c⟩:=List.getElem?_of_mem t
  by_cases b:j=Q0J f.y_ gs
  ·rw [b,w] at c;cases c;exact .inl rfl
  ·right
   have r:=c;rw [B,Z7N D,if_neg b] at r
   refine ⟨List.mem_of_getElem? r,fun A=>b ?_⟩;exact Z8N o c w (by rw [A,z])
 refine ⟨o,fun e t=>?_,fun g p=>?_⟩
 ·rcases u e t with rfl|⟨I,H⟩
  ·rw [E,h.gRow,List.filter_append,z];simp
  ·rw [h.row e I,List.filter_append]
   have:([f].filter fun g=>decide (g.y_=e.1))=[]:=by simp;exact fun J=>H J.symm
   rw [this,List.append_nil]
 ·rcases List.mem_append.1 p with p|p
  ·obtain ⟨e,t,s⟩:=h.key g p
   by_cases A:e.1=f.y_
   ·exact ⟨q,List.mem_of_getElem? w,by rw [z, <-s,A]⟩
   ·obtain ⟨j,c⟩:=List.getElem?_of_mem t
    have b:j≠Q0J f.y_ gs:=by
     rintro rfl;rcases Q7k f.y_ gs with ⟨_,K,v,C⟩|⟨G,_⟩
     ·rw [c] at v;cases v;exact A C
     ·rw [G,List.getElem?_eq_none (Nat.le_refl _)] at c;cases c
    refine ⟨e,List.mem_of_getElem? (i:=j) ?_,s⟩;rw [B,Z7N D,if_neg b];exact c
  ·have:g=f:=by simpa using p
   subst this;exact ⟨q,List.mem_of_getElem? w,z⟩
theorem Y8m (y:Int) (m:List Rg_) (gs:List (Int×List Rg_)):(gApp y m gs).length<=gs.length+1:=by
 obtain ⟨q,_,_,h,b⟩:=Z8a (y:=y) (m:=m) (gs:=gs);rw [h,Z5a b]
 split <;> omega
theorem Z8V {F:Nat} (hF:BIG<=F) {l:List Rg_} (hl:l.length<=200):∃ gs,Q9l F l=some gs/\GrpOf gs l/\gs.length<=l.length:=by
 unfold BIG at hF;have c:∀ (n i:Nat) (gs:List (Int×List Rg_)),i<=l.length->l.length-i<n->GrpOf gs (l.take i)->gs.length<=i->∃ r,Z8 (fun again (z:Int×(List (Int×(List Rg_))))=>Q1S F l again z.1 z.2) n ((i:Int),gs)=some r/\GrpOf r l/\r.length<=l.length:=by
  intro n
  induction n with
  | zero=>intro i gs _ h;omega
  | succ n ih=>
   intro i gs m o b e
   by_cases h:i<l.length
   ·obtain ⟨r,j,g⟩:=ih (i+1) (gApp (gl l i).y_ [gl l i] gs) h (by omega) (by rw [y4 h];exact b.app _) (by have:=Y8m (gl l i).y_ [gl l i] gs;omega)
    refine ⟨r,?_,g⟩;show Q1S F l _ (i:Int) gs=_
    unfold Q1S;simp only [Int.toNat_natCast]
    refine Y2 (by simpa using h) ?_;refine Z7 (k:=?_)
    refine Z3 ?_ ?_
    ·rw [b.gRow]
     have:=List.length_filter_le (fun f:Rg_=>decide (f.y_=(gl l i).y_)) (l.take i)
     have p:(l.take i).length<=200:=by rw [List.length_take];omega
     simp only [LIM,List.length_cons,List.length_nil];omega
    ·refine Z7 (k:=?_)
     exact j
   ·have:i=l.length:=by omega
    subst this;refine ⟨gs,?_,by rw [List.take_length] at b;exact b,e⟩
    show Q1S F l _ _ gs=_;unfold Q1S
    exact Q9 (by simp) rfl
 exact c F 0 [] (Nat.zero_le _) (by omega) (by rw [List.take_zero];exact GrpOf.nil) (Nat.zero_le _)
def Y2a (e:Int×List Rg_):Prop:=¬ e.2.Pairwise fun f g=>Q4f f.g_ g.g_=false
theorem Y6r {gs:List (Int×List Rg_)} {l:List Rg_} (h:GrpOf gs l):NX l↔∀ e ∈ gs,¬ Y2a e:=by
 unfold NX Y2a;constructor
 ·intro o e c r
  refine r ?_;rw [h.row e c,List.pairwise_filter]
  exact o.imp fun {f g} hh h1 h2=>hh (by simp at h1 h2;omega)
 ·intro o
  rw [List.pairwise_iff_getElem];intro i j q s m p
  obtain ⟨e,c,b⟩:=h.key l[i] (List.getElem_mem _);have:=Classical.not_not.1 (o e c)
  rw [h.row e c,List.pairwise_filter,List.pairwise_iff_getElem] at this;exact this i j q s m (by simp [b]) (by simp [b,p])
theorem Y6s {e:Int×List Rg_}:¬ Y2a e↔∀ j,j<e.2.length->∀ i,i<j->Q4f (gl e.2 i).g_ (gl e.2 j).g_=false:=by
 unfold Y2a;rw [Classical.not_not,List.pairwise_iff_getElem]
 constructor
 ·intro h j b i f
  rw [z8 b,z8 (by omega)];exact h i j (by omega) b f
 ·intro h i j f b c
  have:=h j b i c
  rw [z8 b,z8 (by omega)] at this;exact this
theorem Z5V {F:Nat} (hF:BIG<=F) {e:Int×List Rg_} (hl:e.2.length<=200) {rest:List (Int×List Rg_)} {ag:List (Int×List Rg_)->Option Int} {y:Int} (hb:Y2a e->y=11) (hg:¬ Y2a e->ag rest=some y) :
  Z8 (fun again (z:Int)=>Q9b F e rest ag again z) F (0:Int)=some y:=by
 have b:=hF;unfold BIG at hF
 refine Y9 (fun z:Int=>∃ i:Nat,z=i/\i<=e.2.length/\∀ j,j<i->∀ a,a<j->Q4f (gl e.2 a).g_ (gl e.2 j).g_=false) (fun z=>e.2.length-z.toNat) (fun again z u s=>?_) ⟨0,rfl,by omega,fun j p=>absurd p (Nat.not_lt_zero j)⟩ (by simp;omega);obtain ⟨i,rfl,A,o⟩:=u
 unfold Q9b;simp only [Int.toNat_natCast]
 refine Q8 (fun h=>?_) (fun h=>?_)
 ·have h:i<e.2.length:=by simpa using h
  refine Z7 (k:=?_);refine Z7 (k:=?_)
  refine Q4 (Q9w b (fun f=>Q4f f.g_ (gl e.2 i).g_) (by rw [List.length_take];omega) (fun r _=>by unfold Q6J;exact Q4 (Z9M b _ _) rfl)) ?_;refine Q8 (fun g=>?_) (fun g=>?_)
  ·rw [hb fun v=>?_]
   ·obtain ⟨f,t,l⟩:=List.any_eq_true.1 g
    obtain ⟨a,c,rfl⟩:=List.getElem_of_mem t;have m:a<i:=by rw [List.length_take] at c;omega
    have:=Y6s.1 (Classical.not_not.2 v) i h a m
    rw [List.getElem_take] at l;rw [z8 (show a<e.2.length by omega)] at this
    rw [this] at l;cases l
  ·refine Z7 (k:=?_)
   refine s _ ⟨i+1,by omega,h,fun j p a c=>?_⟩ (by omega);rcases Nat.lt_or_ge j i with q|q
   ·exact o j q a c
   ·have:j=i:=by omega
    subst this;have w:=List.any_eq_false.1 g (gl e.2 a) (by
     rw [z8 (show a<e.2.length by omega)];have:e.2[a]=(e.2.take j)[a]'(by rw [List.length_take];omega):=by rw [List.getElem_take]
     rw [this];exact List.getElem_mem _)
    simpa using w
 ·have h:i=e.2.length:=by
   have:¬ i<e.2.length:=by simpa using h
   omega
  subst h;exact hg (Y6s.2 o)
theorem Z7R {α:Type} {l:List α} {i:Nat} (hi:i<l.length) (p:α->Prop):(∀ e ∈ l,p e)↔p l[i]/\∀ e ∈ l.eraseIdx i,p e:=by
 constructor
 ·exact fun h=>⟨h _ (List.getElem_mem _),fun e b=>h e (List.mem_of_mem_eraseIdx b)⟩
 ·rintro ⟨c,f⟩ e b
  obtain ⟨j,g,rfl⟩:=List.getElem_of_mem b
  by_cases hij:j=i
  ·subst hij;exact c
  ·exact f _ (List.mem_eraseIdx_iff_getElem.2 ⟨j,g,hij,rfl⟩)
theorem Z5W {F:Nat} (hF:BIG<=F):∀ (n:Nat) (gs:List (Int×List Rg_)) (y:Int),gs.length<n->(∀ e ∈ gs,e.2.length<=200)->((∀ e ∈ gs,¬ Y2a e)->y=0)->((¬ ∀ e ∈ gs,¬ Y2a e)->y=11) ->
  Z8 (fun again (z:(List (Int×(List Rg_))))=>Q5O F again z) n gs=some y:=by
 intro n
 induction n with
 | zero=>intro gs y h;omega
 | succ n ih=>
  intro gs y r c p q;show Q5O F _ gs=_
  unfold Q5O
  cases gs with
  | nil=>
   rw [Y6P,p (fun e j=>by simp at j)];rfl
  | cons g l=>
   refine Y5c (by simp) fun i m=>?_
   refine Z5V hF (c _ (List.getElem_mem _)) (fun o=>q fun b=>b _ (List.getElem_mem _) o) (fun o=>?_);refine ih _ y (by rw [List.length_eraseIdx];rw [if_pos m];simp at r ⊢;omega) (fun e j=>c e (List.mem_of_mem_eraseIdx j)) (fun b=>p ?_) (fun f=>q fun b=>f ?_)
   ·exact (Z7R m (fun e=>¬ Y2a e)).2 ⟨o,b⟩
   ·exact ((Z7R m (fun e=>¬ Y2a e)).1 b).2
theorem Z8X {F:Nat} (hF:BIG<=F) (l:List Rg_):Q6s F l=some (Q9e l):=by
 have o:=hF;unfold BIG at hF
 unfold Q6s;refine Q8 (fun h=>?_) (fun h=>?_)
 ·have h:200<l.length:=by simp at h;omega
  rw [Q9e,if_pos h]
 ·have h:¬ 200<l.length:=by simp at h;omega
  have w:hGo none l=0->Q5N F l=some (Q9e l):=fun m=>by
   unfold Q5N;obtain ⟨E,D,B,I⟩:=Z8V o (l:=l) (by omega)
   refine Q4 D ?_;have p:E.length<F:=by omega
   refine Z5W o F E _ p (fun e j=>?_) (fun C=>?_) (fun C=>?_)
   ·rw [B.row e j]
    have:=List.length_filter_le (fun f:Rg_=>decide (f.y_=e.1)) l
    omega
   ·rw [Q9e,if_neg h,if_neg (by simp [m]),if_pos ((Y6r B).2 C)]
   ·rw [Q9e,if_neg h,if_neg (by simp [m]),if_neg fun H=>C ((Y6r B).1 H)]
  have u:hGo none l≠0->Q9e l=hGo none l:=fun m=>by rw [Q9e,if_neg h,if_pos m]
  refine Y9 (fun z:Int=>∃ i:Nat,z=i/\i<=l.length/\hGo none l=hGo (Z3V l i) (l.drop i)) (fun z=>l.length-z.toNat) (fun s z J G=>?_) ⟨0,rfl,by omega,rfl⟩ (by simp;omega);obtain ⟨i,rfl,P,j⟩:=J
  unfold Z2N;refine Q8 (fun t=>?_) (fun t=>?_)
  ·have t:i<l.length:=by simpa using t
   rw [Q1J t,hGo] at j;refine Z7 (k:=?_)
   simp only [Int.toNat_natCast];refine Q4 (Z7Y o _) ?_
   refine Q8 (fun q=>?_) (fun q=>?_)
   ·have q:Z4b (gl l i)≠0:=by simpa using q
    rw [if_pos q] at j;rw [u (by rw [j];exact q),j]
   ·have q:Z4b (gl l i)=0:=by simpa using q
    rw [if_neg (by simp [q])] at j;have r:∀ b:Bool,b=(Z3V l i).any (fun g=> !ltR g (gl l i))->Q3t F i s b=some (Q9e l):=by
     intro b v;unfold Q3t
     refine Q8 (fun A=>?_) (fun A=>?_)
     ·rw [if_pos (v ▸ A)] at j
      rw [u (by rw [j];decide),j]
     ·rw [if_neg (by rw [<-v,A];simp)] at j
      refine Z7 (k:=?_);refine G _ ⟨i+1,by omega,t,?_⟩ (by omega)
      rw [j,Y0X]
    refine Q8 (fun m=>?_) (fun m=>?_)
    ·have m:0<i:=by simpa using m
     refine Z7 (k:=?_);refine Z7 (k:=?_)
     have D:((i:Int)-1).toNat=i-1:=by omega
     rw [D];obtain ⟨c,M,N,O⟩:=Z7d o (gl l (i-1)) (gl l i)
     refine Q4 M (r _ ?_);have K:(Z3V l i).any (fun g=> !ltR g (gl l i))=!ltR (gl l (i-1)) (gl l i):=by simp [Z3V,show i≠0 from by omega]
     rw [K,Bool.eq_iff_iff,Bool.not_eq_true', <-Bool.not_eq_true, <-N,decide_eq_true_eq];omega
    ·have m:i=0:=by simp at m;omega
     exact r _ (by simp [Z3V,m])
  ·have t:¬ i<l.length:=by simpa using t
   rw [List.drop_of_length_le (by omega)] at j;exact w j
structure HL (l:List Rg_):Prop where
 len:l.length<=200
 one:∀ f ∈ l,Z4b f=0
 asc:l.Pairwise fun f g=>ltR f g=true
 nx:NX l
theorem Y1h:∀ (l:List Rg_) (p:Option Rg_),hGo p l=0↔(∀ f ∈ l,Z4b f=0)/\l.Pairwise (fun f g=>ltR f g=true)/\∀ n,p=some n->∀ f ∈ l,ltR n f=true
 | [],p=>by simp [hGo]
 | f::l,p=>by
  have o:=Y1h l (some f);unfold hGo
  by_cases h1:Z4b f=0
  ·rw [if_neg (by simp [h1])]
   by_cases i:p.any (fun g=> !ltR g f)=true
   ·rw [if_pos i]
    constructor
    ·intro h;cases h
    ·rintro ⟨_,_,h⟩
     cases p with
     | none=>simp at i
     | some n=>
      have i:ltR n f=false:=by simpa using i
      rw [h n rfl f (by simp)] at i;cases i
   ·rw [if_neg i,o]
    constructor
    ·rintro ⟨a,b,c⟩
     refine ⟨fun g e=>?_,List.pairwise_cons.2 ⟨fun g e=>c _ rfl g e,b⟩,fun n j g e=>?_⟩
     ·rcases List.mem_cons.1 e with rfl|e
      ·exact h1
      ·exact a g e
     ·subst j
      have i:ltR n f=true:=by simpa using i
      rcases List.mem_cons.1 e with rfl|e
      ·exact i
      ·exact Z8O i (c _ rfl g e)
    ·rintro ⟨a,b,c⟩
     obtain ⟨q,m⟩:=List.pairwise_cons.1 b;exact ⟨fun g e=>a g (by simp [e]),m,fun n j g e=>by cases j;exact q g e⟩
  ·rw [if_pos h1]
   constructor
   ·intro h;exact absurd h h1
   ·rintro ⟨a,_,_⟩;exact absurd (a f (by simp)) h1
theorem Z2V (l:List Rg_):Q9e l=0↔HL l:=by
 unfold Q9e
 by_cases h:200<l.length
 ·rw [if_pos h]
  exact ⟨fun h=>(by cases h),fun c=>by have:=c.len;omega⟩
 ·rw [if_neg h]
  by_cases h2:hGo none l=0
  ·rw [if_neg (by simp [h2])]
   obtain ⟨a,b,_⟩:=(Y1h l none).1 h2
   by_cases h3:NX l
   ·rw [if_pos h3];exact ⟨fun _=>⟨by omega,a,b,h3⟩,fun _=>rfl⟩
   ·rw [if_neg h3];exact ⟨fun h=>(by cases h),fun c=>absurd c.nx h3⟩
  ·rw [if_pos h2]
   exact ⟨fun h=>absurd h h2,fun c=>absurd ((Y1h l none).2 ⟨c.one,c.asc,fun n e=>by cases e⟩) h2⟩
section
variable {F:Nat} {L:List A2_} {d:Int}
end
section
variable {F n:Nat} {L:List A2_} {d:Int}
end
section
variable {F:Nat} {L:List A2_} {d:Int}
theorem Y3Z {l:List Rect} (hc:Q2R l) (hl:l.length<=120) {a:List Rect} (ha:∀ r ∈ a,Q3a r=true) (hs:∀ x y,inR l x y=true->inR a x y=true):Val l:=by
 have b:Box (16384:Int) l:=hc.box fun x y h=>by
  obtain ⟨r,c,e⟩:=(Q4T _ _ _).1 (hs x y h);have:=(Q0v r).1 (ha r c)
  rw [y6] at e;omega
 exact ⟨hl,b.prop (by omega),hc⟩
end
section
variable {F:Nat} {L:List A2_} {d:Int}
end
def Q3A (y c:Int) (f:Rg_):Bool:=decide (f.y_=y)&&decide (f.c_=c)
def Z5q (y:Int) (a:List Rect) (f:Rg_):Rg_:=if f.y_=y then ⟨f.y_,f.c_,⟨cn fun u v=>inR f.g_.t_ u v && !inR a u v⟩⟩ else f
def Q1W (l:List Rg_) (y c:Int) (a:List Rect):List Rg_:=(l.filter fun f=> !Q3A y c f).map (Z5q y a)
def vA (l:List Rg_) (y c:Int) (a:List Rect):List Rect:=match l.find? (Q3A y c) with|some f=>cn fun u v=>inR f.g_.t_ u v||inR a u v|none=>a
def neR (f:Rg_):Bool:= !decide (f.g_.t_.length=0)
def Z8s (l:List Rg_):Bool:=decide (200<l.length)||l.any fun f=>decide (120<f.g_.t_.length)
def Z5t (l:List Rg_) (r:Rg_):Nat:=l.countP fun f=>ltR f r
def Y6Y (l:List Rg_) (r:Rg_):List Rg_:=l.take (Z5t l r)++[r]++l.drop (Z5t l r)
def Z5u (l:List Rg_) (y c:Int) (a:List Rect):List Rg_:=
 if (vA l y c a).length=0 then (Q1W l y c a).filter neR else Y6Y ((Q1W l y c a).filter neR) ⟨y,c,⟨vA l y c a⟩⟩
def addH (l:List Rg_) (y c:Int) (a:Re_):List Rg_×Int:=
 if Q9e l≠0 then ([],Q9e l) else if y<0\/100<y then ([],18) else if c<0\/40<=c then ([],13) else if Q3D a.t_=false then ([],7)
 else if Z8s (Z5u l y c a.t_)=true then ([],1) else (Z5u l y c a.t_,0)
theorem Y4U (l:List Rg_) (x:Rg_) (y c:Int) (a:List Rect):Q1W (l++[x]) y c a=Q1W l y c a++(if Q3A y c x=true then [] else [Z5q y a x]):=by
 unfold Q1W;rw [List.filter_append,List.map_append]
 congr 1
 cases h:Q3A y c x with
 | true=>simp [h]
 | false=>simp [h]
theorem Y9j (l:List Rg_) (x:Rg_) (y c:Int) (a:List Rect) (h:Q3A y c x=true->∀ f ∈ l,Q3A y c f=false):vA (l++[x]) y c a=if Q3A y c x=true then cn (fun u v=>inR x.g_.t_ u v||inR a u v) else vA l y c a:=by
 unfold vA;rw [List.find?_append]
 cases hx:Q3A y c x with
 | true=>
  have:l.find? (Q3A y c)=none:=List.find?_eq_none.2 fun f b=>by rw [h hx f b];simp
  rw [this];simp [hx]
 | false=>simp [hx]
theorem Y7q (l:List Rg_) (y c:Int) (a:List Rect) (h:∀ f ∈ l,Q3A y c f=false):vA l y c a=a:=by
 unfold vA;have:l.find? (Q3A y c)=none:=List.find?_eq_none.2 fun f b=>by rw [h f b];simp
 rw [this]
theorem Z9q {l:List Rg_} (h:l.Pairwise fun f g=>ltR f g=true) {i:Nat} (hi:i<l.length) {y c:Int} (hs:Q3A y c (gl l i)=true):∀ f ∈ l.take i,Q3A y c f=false:=by
 intro f e;obtain ⟨j,m,rfl⟩:=List.getElem_of_mem e
 have b:j<i:=by rw [List.length_take] at m;omega
 rw [List.getElem_take];have:=List.pairwise_iff_getElem.1 h j i (by omega) hi b
 rw [Q8g] at this;rw [z8 hi] at hs
 unfold Q3A at hs ⊢;rw [Bool.and_eq_true,decide_eq_true_eq,decide_eq_true_eq] at hs
 rw [<-Bool.not_eq_true,Bool.and_eq_true,decide_eq_true_eq,decide_eq_true_eq];omega
theorem HL.val {l:List Rg_} (h:HL l) {f:Rg_} (hf:f ∈ l):Val f.g_.t_:=((Q8R f).1 (h.one f hf)).2.2.2.2.2
theorem Y0O {F:Nat} (hF:BIG<=F) {l:List Rg_} (h:HL l) {y c:Int} {a:Re_} (ha:Val a.t_) {r:List Rg_×Int} (hk:Q7S F y c (vA l y c a.t_) ((Q1W l y c a.t_).filter neR)=some r) :
  Z8 (fun again (z:(List Rect)×Int×(List Rg_))=>Z3o F l y c a again z.1 z.2.1 z.2.2) F (a.t_,(0:Int),([]:List Rg_))=some r:=by
 have s:=hF;unfold BIG at hF
 have G:=h.len;refine Y9 (fun z:(List Rect)×Int×(List Rg_)=>∃ i:Nat,z=(vA (l.take i) y c a.t_,(i:Int),(Q1W (l.take i) y c a.t_).filter neR)/\i<=l.length) (fun z=>l.length-z.2.1.toNat) (fun again z O C=>?_) ⟨0,by rw [List.take_zero];rfl,by omega⟩ (by simp only;omega)
 obtain ⟨i,rfl,P⟩:=O;simp only at C ⊢
 unfold Z3o;simp only [Int.toNat_natCast]
 refine Q8 (fun j=>?_) (fun j=>?_)
 ·have j:i<l.length:=by simpa using j
  have t:=h.val (V7 j);have M:((Q1W (l.take i) y c a.t_).filter neR).length<=200:=by
   have H:=List.length_filter_le neR (Q1W (l.take i) y c a.t_);unfold Q1W at H ⊢
   rw [List.length_map] at H;have:=List.length_filter_le (fun f=> !Q3A y c f) (l.take i)
   have e:(l.take i).length<=l.length:=by rw [List.length_take];omega
   omega
  have g:∀ (v:List Rect) (p:List Rg_),v=vA (l.take (i+1)) y c a.t_->p=(Q1W (l.take (i+1)) y c a.t_).filter neR->Q5B F i again v p=some r:=by
   rintro v p rfl rfl;unfold Q5B
   refine Z7 (k:=?_);exact C _ ⟨i+1,rfl,j⟩ (by simp only;omega)
  have A:=Y9j (l.take i) (gl l i) y c a.t_ (Z9q h.asc j);have B:=Y4U (l.take i) (gl l i) y c a.t_
  rw [<-y4 j] at A B;have E:∀ w:List Rect,Q3A y c (gl l i)=false->(⟨(gl l i).y_,(gl l i).c_,⟨w⟩⟩:Rg_)=Z5q y a.t_ (gl l i)->Q7T F l (vA (l.take i) y c a.t_) i ((Q1W (l.take i) y c a.t_).filter neR) again w=some r:=by
   intro w m N;unfold Q7T
   simp only [Int.toNat_natCast];have I:(Q1W (l.take (i+1)) y c a.t_).filter neR=(Q1W (l.take i) y c a.t_).filter neR++[(⟨(gl l i).y_,(gl l i).c_,⟨w⟩⟩:Rg_)].filter neR:=by
    rw [B,if_neg (by rw [m];simp),List.filter_append,N]
   have D:vA (l.take i) y c a.t_=vA (l.take (i+1)) y c a.t_:=by rw [A,if_neg (by rw [m];simp)]
   refine Q8 (fun o=>?_) (fun o=>?_)
   ·have o:w.length≠0:=by simp at o;omega
    refine Z7 (k:=?_);refine g _ _ D ?_
    rw [I];congr 1
    simp [neR,o]
   ·have o:w.length=0:=by simp at o;simp [o]
    refine g _ _ D ?_;rw [I]
    simp [neR,o]
  refine Z7 (k:=?_);have J:∀ b:Bool,b=Q3A y c (gl l i)->Q7U F l y a (vA (l.take i) y c a.t_) i ((Q1W (l.take i) y c a.t_).filter neR) again b=some r:=by
   intro b K;unfold Q7U
   simp only [Int.toNat_natCast];refine Q8 (fun e=>?_) (fun e=>?_)
   ·have m:Q3A y c (gl l i)=true:=by rw [<-K,e]
    rw [Y7q _ y c a.t_ (Z9q h.asc j m)];refine Q4 (Q3P s (by have:=ha.1;omega) (by have:=t.1;omega) ha.2.1 t.2.1) (g _ _ ?_ ?_)
    ·rw [A,if_pos m]
     congr 1
     funext u v
     simp [Q0w,Bool.or_comm]
    ·rw [B,if_pos m,List.append_nil]
   ·have m:Q3A y c (gl l i)=false:=by rw [<-K,e]
    refine Q8 (fun q=>?_) (fun q=>?_)
    ·have q:(gl l i).y_=y:=by simpa using q
     refine Q4 (Q3P s (by have:=t.1;omega) (by have:=ha.1;omega) t.2.1 ha.2.1) (E _ m ?_);unfold Z5q;rw [if_pos q]
     simp [Q0w]
    ·have q:¬ (gl l i).y_=y:=by simpa using q
     refine E _ m ?_;unfold Z5q;rw [if_neg q]
  refine Q8 (fun e=>?_) (fun e=>?_)
  ·have e:(gl l i).y_=y:=by simpa using e
   refine J _ ?_;unfold Q3A
   rw [decide_eq_true e,Bool.true_and];rfl
  ·have e:¬ (gl l i).y_=y:=by simpa using e
   refine J _ ?_;unfold Q3A
   rw [decide_eq_false e,Bool.false_and]
 ·have j:i=l.length:=by
   have:¬ i<l.length:=by simpa using j
   omega
  subst j;rw [List.take_length]
  exact hk
def Y1S (f:Rg_):Int×Int:=(f.y_,f.c_)
theorem Z7S {f g:Rg_}:lt2 (Y1S f) (Y1S g)↔ltR f g=true:=by rw [Q8g];unfold lt2 Y1S;exact Iff.rfl
theorem Y2B {l:List Rg_} (h:l.Pairwise fun f g=>ltR f g=true) (r:Rg_):Z5t l r<=l.length/\(∀ j,j<Z5t l r->ltR (gl l j) r=true)/\∀ j,Z5t l r<=j->j<l.length->ltR (gl l j) r=false:=by
 induction l with
 | nil=>exact ⟨Nat.le_refl _,fun j i=>by simp [Z5t] at i,fun j _ i=>by simp at i⟩
 | cons f l ih=>
  obtain ⟨q,t⟩:=List.pairwise_cons.1 h;obtain ⟨a,b,c⟩:=ih t
  cases hf:ltR f r with
  | true=>
   have e:Z5t (f::l) r=Z5t l r+1:=by simp [Z5t,hf]
   rw [e];refine ⟨by simp;exact a,fun j i=>?_,fun j i o=>?_⟩
   ·cases j with
    | zero=>exact hf
    | succ j=>exact b j (by omega)
   ·cases j with
    | zero=>omega
    | succ j=>exact c j (by omega) (by simpa using o)
  | false=>
   have m:∀ g ∈ l,ltR g r=false:=fun g p=>by
    rw [<-Bool.not_eq_true];intro s
    rw [Z8O (q g p) s] at hf;cases hf
   have e:Z5t (f::l) r=0:=by
    unfold Z5t;rw [List.countP_eq_zero]
    intro g p;rcases List.mem_cons.1 p with rfl|p
    ·rw [hf];simp
    ·rw [m g p];simp
   rw [e];refine ⟨Nat.zero_le _,fun j i=>absurd i (Nat.not_lt_zero j),fun j _ o=>?_⟩
   cases j with
   | zero=>exact hf
   | succ j=>
    have i:j<l.length:=by simpa using o
    exact m _ (V7 i)
theorem Y6X (l:List Rg_) (r:Rg_):(Y6Y l r).Perm (l++[r]):=by
 unfold Y6Y;have b:(l.take (Z5t l r)++[r]++l.drop (Z5t l r)).Perm (l.take (Z5t l r)++(l.drop (Z5t l r)++[r])):=by
  rw [List.append_assoc];exact List.Perm.append_left _ List.perm_append_comm
 rw [<-List.append_assoc,List.take_append_drop] at b;exact b
theorem Y8e {l:List Rg_} (h:l.Pairwise fun f g=>ltR f g=true) {r:Rg_} (hr:∀ f ∈ l,Y1S f≠Y1S r):(Y6Y l r).Pairwise fun f g=>ltR f g=true:=by
 obtain ⟨a,b,c⟩:=Y2B h r;unfold Y6Y
 generalize Z5t l r=k at *;have t:∀ f ∈ l.take k,ltR f r=true:=fun f e=>by
  obtain ⟨j,q,rfl⟩:=List.getElem_of_mem e;have i:j<k:=by rw [List.length_take] at q;omega
  have:=b j i
  rw [z8 (show j<l.length by omega)] at this;rw [List.getElem_take];exact this
 have s:∀ f ∈ l.drop k,ltR r f=true:=fun f e=>by
  obtain ⟨j,q,rfl⟩:=List.getElem_of_mem e;have i:k+j<l.length:=by rw [List.length_drop] at q;omega
  have o:=c (k+j) (by omega) i;rw [z8 i] at o
  rw [List.getElem_drop];have u:=hr _ (List.getElem_mem i)
  rcases Y9B u with p|p
  ·rw [Z7S.1 p] at o;cases o
  ·exact Z7S.1 p
 rw [List.pairwise_append,List.pairwise_append];refine ⟨⟨h.sublist (List.take_sublist _ _),List.pairwise_singleton _ _,fun f e g m=>?_⟩,h.sublist (List.drop_sublist _ _),fun f e g m=>?_⟩
 ·rw [List.mem_singleton] at m;subst m;exact t f e
 ·rcases List.mem_append.1 e with e|e
  ·exact Z8O (t f e) (s g m)
  ·rw [List.mem_singleton] at e;subst e;exact s g m
theorem Z2U (y:Int) (a:List Rect) (f:Rg_):Y1S (Z5q y a f)=Y1S f:=by unfold Z5q;split <;> rfl
theorem Y7V (y:Int) (a:List Rect) (f g:Rg_):ltR (Z5q y a f) (Z5q y a g)=ltR f g:=by
 rw [Bool.eq_iff_iff, <-Z7S, <-Z7S,Z2U,Z2U]
theorem Y0E {l:List Rg_} (h:l.Pairwise fun f g=>ltR f g=true) (y c:Int) (a:List Rect):((Q1W l y c a).filter neR).Pairwise fun f g=>ltR f g=true:=by
 refine List.Pairwise.filter _ ?_;unfold Q1W
 rw [List.pairwise_map];refine List.Pairwise.imp (fun {f g} hh=>?_) (List.Pairwise.filter _ h)
 rw [Y7V];exact hh
theorem Y7F {l:List Rg_} {y c:Int} {a v:List Rect}:∀ f ∈ (Q1W l y c a).filter neR,Y1S f≠Y1S ⟨y,c,⟨v⟩⟩:=by
 intro f h e;have h:=(List.mem_filter.1 h).1
 unfold Q1W at h;obtain ⟨g,j,rfl⟩:=List.mem_map.1 h
 have b:=(List.mem_filter.1 j).2;rw [Z2U] at e
 unfold Y1S at e;have i:g.y_=y:=congrArg Prod.fst e
 have m:g.c_=c:=congrArg Prod.snd e;unfold Q3A at b
 simp [i,m] at b
theorem Y8U {l:List Rg_} (h:l.Pairwise fun f g=>ltR f g=true) (y c:Int) (a:List Rect):(Z5u l y c a).Pairwise fun f g=>ltR f g=true:=by
 unfold Z5u;split
 ·exact Y0E h y c a
 ·exact Y8e (Y0E h y c a) Y7F
theorem Z9o (l:List Rg_) (y c:Int) (a:List Rect):((Q1W l y c a++[(⟨y,c,⟨vA l y c a⟩⟩:Rg_)]).filter neR).Perm (Z5u l y c a):=by
 rw [List.filter_append];unfold Z5u
 split
 ·rename_i h
  have:[(⟨y,c,⟨vA l y c a⟩⟩:Rg_)].filter neR=[]:=by simp [neR,h]
  rw [this,List.append_nil]
 ·rename_i h
  have:[(⟨y,c,⟨vA l y c a⟩⟩:Rg_)].filter neR=[⟨y,c,⟨vA l y c a⟩⟩]:=by simp [neR,h]
  rw [this];exact (Y6X _ _).symm
theorem Y2n (l:List Rg_) (y c:Int) (a:List Rect):(Q1W l y c a).length<=l.length:=by
 unfold Q1W;rw [List.length_map]
 exact List.length_filter_le _ _
theorem Z2A {F:Nat} (hF:BIG<=F) {L:List Rg_} (hl:L.length<=201):Q6o F L=some (if Z8s L=true then ([],1) else (L,0)):=by
 unfold BIG at hF;unfold Q6o
 refine Q8 (fun h=>?_) (fun h=>?_)
 ·have h:200<L.length:=by have:=of_decide_eq_true h;omega
  rw [if_pos (by unfold Z8s;rw [decide_eq_true h,Bool.true_or])]
 ·have h:¬ 200<L.length:=by have:=of_decide_eq_false h;omega
  refine Y9 (fun z:Int=>∃ i:Nat,z=i/\i<=L.length/\∀ j,j<i->¬ 120<(gl L j).g_.t_.length) (fun z=>L.length-z.toNat) (fun g z q o=>?_) ⟨0,rfl,by omega,fun j e=>absurd e (Nat.not_lt_zero j)⟩ (by simp;omega);obtain ⟨i,rfl,r,l⟩:=q
  unfold Z6q;simp only [Int.toNat_natCast]
  refine Q8 (fun b=>?_) (fun b=>?_)
  ·have b:i<L.length:=by simpa using b
   refine Z7 (k:=?_);refine Q8 (fun c=>?_) (fun c=>?_)
   ·have c:120<(gl L i).g_.t_.length:=by have:=of_decide_eq_true c;omega
    rw [if_pos];unfold Z8s
    rw [Bool.or_eq_true];exact .inr (List.any_eq_true.2 ⟨_,V7 b,decide_eq_true c⟩)
   ·have c:¬ 120<(gl L i).g_.t_.length:=by have:=of_decide_eq_false c;omega
    refine Z7 (k:=?_);refine o _ ⟨i+1,by omega,b,fun j e=>?_⟩ (by omega)
    rcases Nat.lt_or_ge j i with m|m
    ·exact l j m
    ·have:j=i:=by omega
     subst this;exact c
  ·have b:i=L.length:=by
    have:¬ i<L.length:=by simpa using b
    omega
   subst b;rw [if_neg]
   ·rfl
   ·unfold Z8s
    rw [decide_eq_false h,Bool.false_or,Q6y (p:=fun f:Rg_=>decide (120<f.g_.t_.length)) fun j e=>decide_eq_false (l j e)];simp
theorem Z9O {F:Nat} (hF:BIG<=F) {l:List Rg_} (h:HL l) {y c:Int} {a:List Rect} :
  Q7S F y c (vA l y c a) ((Q1W l y c a).filter neR)=some (if Z8s (Z5u l y c a)=true then ([],1) else (Z5u l y c a,0)):=by
 have r:=hF;unfold BIG at hF
 have u:=h.len;have A:((Q1W l y c a).filter neR).length<=200:=by
  have j:=Y2n l y c a;have f:=List.length_filter_le neR (Q1W l y c a)
  omega
 have s:=Y0E h.asc y c a;unfold Q7S Z5u
 generalize (Q1W l y c a).filter neR=R at *;generalize vA l y c a=v at *
 refine Q8 (fun j=>?_) (fun j=>?_)
 ·have j:v.length≠0:=by have:=of_decide_eq_true j;omega
  rw [if_neg j];obtain ⟨k1,k2,D⟩:=Y2B s ⟨y,c,⟨v⟩⟩
  unfold Y6Y;generalize Z5t R ⟨y,c,⟨v⟩⟩=k at *
  refine Y9 (fun z:Int=>∃ i:Nat,z=i/\i<=k) (fun z=>R.length-z.toNat) (fun p z C B=>?_) ⟨0,rfl,by omega⟩ (by simp;omega);obtain ⟨i,rfl,E⟩:=C
  have t:i=k->Z0G F y c v R (i:Int)=some (if Z8s (R.take k++[(⟨y,c,⟨v⟩⟩:Rg_)]++R.drop k)=true then ([],1) else (R.take k++[⟨y,c,⟨v⟩⟩]++R.drop k,0)):=by
   rintro rfl;unfold Z0G
   simp only [Int.toNat_natCast];refine Z3 (by omega) (Z3 (by omega) (Z3 (by simp only [LIM];omega) (Z3 (by simp only [LIM,List.length_cons,List.length_nil];omega) (Z3 (by omega) (Z3 (by omega) (Z3 (by simp only [LIM,List.length_cons,List.length_nil];omega) ?_))))))
   have e:((([]:List Rg_)++((R.drop 0).take i))++([(⟨y,c,(⟨v⟩:Re_)⟩:Rg_)]:List Rg_))++((R.drop (0+i)).take (R.length-i))=R.take i++[⟨y,c,⟨v⟩⟩]++R.drop i:=by
    rw [List.nil_append,List.drop_zero,Nat.zero_add,List.take_of_length_le (l:=R.drop i) (by rw [List.length_drop];omega)]
   rw [e];refine Z2A r ?_
   simp only [List.length_append,List.length_take,List.length_drop,List.length_cons,List.length_nil];omega
  have g:∀ b:Bool,(b=true↔i<R.length/\ltR (gl R i) ⟨y,c,⟨v⟩⟩=true)->Q3N F y c v R i p b=some (if Z8s (R.take k++[(⟨y,c,⟨v⟩⟩:Rg_)]++R.drop k)=true then ([],1) else (R.take k++[⟨y,c,⟨v⟩⟩]++R.drop k,0)):=by
   intro b w;unfold Q3N
   refine Q8 (fun f=>?_) (fun f=>?_)
   ·obtain ⟨q,o⟩:=w.1 f
    have m:i<k:=by
     rcases Nat.lt_or_ge i k with m|m
     ·exact m
     ·rw [D i m q] at o;cases o
    refine Z7 (k:=?_);exact B _ ⟨i+1,by omega,m⟩ (by omega)
   ·refine t ?_
    rcases Nat.lt_or_ge i k with m|m
    ·have:=w.2 ⟨by omega,k2 i m⟩
     rw [f] at this;cases this
    ·omega
  unfold Z7I;simp only [Int.toNat_natCast]
  refine Q8 (fun f=>?_) (fun f=>?_)
  ·have f:i<R.length:=by simpa using f
   refine Z7 (k:=?_);refine Q8 (fun q=>?_) (fun q=>?_)
   ·refine g _ ?_
    have q:=of_decide_eq_true q;rw [Q8g];simp;omega
   ·have q:=of_decide_eq_false q
    refine Z7 (k:=?_);refine Q8 (fun o=>?_) (fun o=>?_)
    ·have o:(gl R i).y_=y:=by simpa using o
     refine Z7 (k:=?_);refine g _ ?_
     rw [Q8g,decide_eq_true_eq];simp only;omega
    ·have o:¬ (gl R i).y_=y:=by simpa using o
     refine g _ ?_;rw [Q8g];simp;omega
  ·have f:¬ i<R.length:=by simpa using f
   refine g _ ?_;simp;omega
 ·have j:v.length=0:=by have:=of_decide_eq_false j;omega
  rw [if_pos j];exact Z2A r (by omega)
theorem Y2U {F:Nat} (hF:BIG<=F) (l:List Rg_) (y c:Int) (a:Re_):Z2B F l y c a=some (addH l y c a):=by
 unfold Z2B addH;refine Q4 (Y0M hF l) ?_
 refine Q8 (fun h=>?_) (fun h=>?_)
 ·rw [if_pos (by simpa using h)]
 ·have h:Q9e l=0:=by simpa using h
  rw [if_neg (by simp [h]),Q7j (Q7W F l y c a)];unfold Q7W
  refine Q8 (fun f=>by rw [if_pos (by simpa using f)]) (fun f=>?_);rw [if_neg (by simpa using f),Q7j (Q7V F l y c a)]
  unfold Q7V;refine Q8 (fun e=>by rw [if_pos (by simpa using e)]) (fun e=>?_)
  rw [if_neg (by simpa using e)];refine Q4 (Q1l hF _) ?_
  refine Q8 (fun b=>by rw [if_pos (by simpa using b)]) (fun b=>?_);have b:Q3D a.t_=true:=by simpa using b
  rw [if_neg (by rw [b];simp)];exact Y0O hF ((Z2V l).1 h) ((Q0P _).1 b) (Z9O hF ((Z2V l).1 h))
theorem Y2q {a b:Re_} (h:∀ x y,inR a.t_ x y=true->inR b.t_ x y=true->False):Q4f a b=false:=by
 by_cases ha:Val a.t_
 ·by_cases hb:Val b.t_
  ·exact Y7U ha hb h
  ·unfold Q4f
   have:Q3D b.t_=false:=by rw [<-Bool.not_eq_true,Q0P];exact hb
   rw [this];simp
 ·unfold Q4f
  have:Q3D a.t_=false:=by rw [<-Bool.not_eq_true,Q0P];exact ha
  rw [this];rfl
theorem Z5c {a b:Re_} (ha:Val a.t_) (hb:Val b.t_) (h:Q4f a b=false):∀ x y,inR a.t_ x y=true->inR b.t_ x y=true->False:=by
 intro x y e c;unfold Q4f at h
 rw [Q3f ha,Q3f hb,Bool.true_and,Bool.true_and] at h;have:=(Y3a ha.2.1 hb.2.1).2 ⟨x,y,e,c⟩
 rw [this] at h;cases h
theorem Y9I (a b:List Rect) (x y:Int):inR (a++b) x y=(inR a x y||inR b x y):=by
 rw [Bool.eq_iff_iff,Bool.or_eq_true,Q4T,Q4T,Q4T];constructor
 ·rintro ⟨r,c,h⟩
  rcases List.mem_append.1 c with c|c
  ·exact .inl ⟨r,c,h⟩
  ·exact .inr ⟨r,c,h⟩
 ·rintro (⟨r,c,h⟩|⟨r,c,h⟩)
  ·exact ⟨r,List.mem_append_left _ c,h⟩
  ·exact ⟨r,List.mem_append_right _ c,h⟩
theorem Y1s (f:Rg_) (y:Int) (a:List Rect) {u v:Int} (h:inR (Z5q y a f).g_.t_ u v=true):inR f.g_.t_ u v=true/\(f.y_=y->inR a u v=false):=by
 unfold Z5q at h;split at h
 ·rename_i b
  simp only at h;rw [Q1I (Z8b _ _),Bool.and_eq_true,Bool.not_eq_true'] at h
  exact ⟨h.1,fun _=>h.2⟩
 ·rename_i b
  exact ⟨h,fun c=>absurd c b⟩
theorem W0k {l:List Rg_} {y c:Int} {a:List Rect} {u v:Int}:inR (vA l y c a) u v=true↔inR a u v=true\/∃ f,l.find? (Q3A y c)=some f/\inR f.g_.t_ u v=true:=by
 unfold vA;split
 ·rename_i f b
  have:=Q6u f.g_.t_ a 1
  simp only [Q0w,if_true] at this;rw [Q1I this,Bool.or_eq_true]
  constructor
  ·rintro (h|h)
   ·exact .inr ⟨f,b,h⟩
   ·exact .inl h
  ·rintro (h|⟨g,hg,h⟩)
   ·exact .inr h
   ·rw [b] at hg;cases hg;exact .inl h
 ·rename_i b
  constructor
  ·exact fun h=>.inl h
  ·rintro (h|⟨g,hg,h⟩)
   ·exact h
   ·rw [b] at hg;cases hg
theorem Y1B {l:List Rg_} {y c:Int} {a:List Rect} {f:Rg_}:f ∈ Z5u l y c a↔(f ∈ Q1W l y c a\/f=⟨y,c,⟨vA l y c a⟩⟩)/\f.g_.t_.length≠0:=by
 rw [<-(Z9o l y c a).mem_iff,List.mem_filter,List.mem_append,List.mem_singleton];unfold neR
 simp
theorem Y2m (y c:Int) (f:Rg_):Q3A y c f=true↔f.y_=y/\f.c_=c:=by unfold Q3A;simp
theorem Z7y {l:List Rg_} {y c:Int} {a:List Rect} {f:Rg_}:f ∈ Q1W l y c a↔∃ g ∈ l,Q3A y c g=false/\f=Z5q y a g:=by
 unfold Q1W;rw [List.mem_map]
 constructor
 ·rintro ⟨g,b,rfl⟩
  have:=List.mem_filter.1 b
  exact ⟨g,this.1,by simpa using this.2,rfl⟩
 ·rintro ⟨g,b,e,rfl⟩
  exact ⟨g,List.mem_filter.2 ⟨b,by simpa using e⟩,rfl⟩
theorem Y4B {l:List Rg_} (h:Z8s l=false):l.length<=200/\∀ f ∈ l,f.g_.t_.length<=120:=by
 unfold Z8s at h;rw [Bool.or_eq_false_iff] at h
 refine ⟨by have:=of_decide_eq_false h.1;omega,fun f b=>?_⟩;have:=List.any_eq_false.1 h.2 f b
 simp at this;exact this
theorem HL.apart {l:List Rg_} (h:HL l) {f g:Rg_} (hf:f ∈ l) (hg:g ∈ l) (hy:f.y_=g.y_) (hc:f.c_≠g.c_):∀ x y,inR f.g_.t_ x y=true->inR g.g_.t_ x y=true->False:=by
 obtain ⟨i,c,rfl⟩:=List.getElem_of_mem hf;obtain ⟨j,m,rfl⟩:=List.getElem_of_mem hg
 have e:=List.pairwise_iff_getElem.1 h.nx;rcases Nat.lt_trichotomy i j with b|b|b
 ·exact Z5c (h.val hf) (h.val hg) (e i j c m b hy)
 ·subst b;exact absurd rfl hc
 ·exact fun x y o p=>Z5c (h.val hg) (h.val hf) (e j i m c b hy.symm) x y p o
theorem HL.add {l:List Rg_} (h:HL l) {y c:Int} (hy:0<=y/\y<=100) (hc:0<=c/\c<40) {a:List Rect} (ha:Val a) (ht:Z8s (Z5u l y c a)=false):HL (Z5u l y c a):=by
 obtain ⟨Z,t2⟩:=Y4B ht;have Q:∀ g ∈ l,∀ x J,inR (Z5q y a g).g_.t_ x J=true->inR g.g_.t_ x J=true:=fun g _ x J q=>(Y1s g y a q).1
 refine ⟨Z,fun f s=>?_,Y8U h.asc y c a,?_⟩
 ·have b:=t2 f s
  obtain ⟨s,o⟩:=Y1B.1 s;rcases s with s|rfl
  ·obtain ⟨g,t,H,rfl⟩:=Z7y.1 s
   obtain ⟨U,S,W,Y,g5,T⟩:=(Q8R g).1 (h.one g t);unfold Z5q at o b ⊢
   split at o <;> rename_i z
   ·rw [if_pos z] at b ⊢
    rw [Q8R];simp only at b o ⊢
    exact ⟨U,S,W,Y,o,Y3Z (Q2R.cn (Z8b _ _)) b T.2.1 fun u v q=>by rw [Q1I (Z8b _ _),Bool.and_eq_true] at q;exact q.1⟩
   ·rw [if_neg z];exact h.one g t
  ·rw [Q8R]
   simp only at b o ⊢;refine ⟨hy.1,hy.2,hc.1,hc.2,o,?_⟩
   unfold vA at b o ⊢;split at o <;> rename_i M
   ·rename_i g
    rw [M] at b;simp only at b
    have p:=Q6u g.g_.t_ a 1;simp only [Q0w,if_true] at p
    refine Y3Z (Q2R.cn p) b (a:=g.g_.t_++a) (fun r w=>?_) fun u v q=>?_
    ·rcases List.mem_append.1 w with w|w
     ·exact (h.val (List.mem_of_find?_eq_some M)).2.1 r w
     ·exact ha.2.1 r w
    ·rw [Q1I p] at q
     rw [Y9I];exact q
   ·exact ha
 ·unfold NX
  have A:∀ {f g:Rg_},(f.y_=g.y_->Q4f f.g_ g.g_=false)->(g.y_=f.y_->Q4f g.g_ f.g_=false):=fun {f g} q m=>by rw [Y5g];exact q m.symm
  refine ((Z9o l y c a).pairwise_iff A).1 (List.Pairwise.filter _ ?_);rw [List.pairwise_append]
  refine ⟨?_,List.pairwise_singleton _ _,fun f s g t m=>?_⟩
  ·unfold Q1W
   rw [List.pairwise_map,List.pairwise_filter];have V:=List.pairwise_iff_getElem.1 h.nx
   rw [List.pairwise_iff_getElem];intro i j P N K _ _ m
   have e:∀ f:Rg_,(Z5q y a f).y_=f.y_:=fun f=>congrArg Prod.fst (Z2U y a f)
   rw [e,e] at m;have:=Z5c (h.val (List.getElem_mem P)) (h.val (List.getElem_mem N)) (V i j P N K m)
   exact Y2q fun u v E I=>this u v (Y1s _ y a E).1 (Y1s _ y a I).1
  ·rw [List.mem_singleton] at t
   subst t;obtain ⟨g,t,H,rfl⟩:=Z7y.1 s
   have e:(Z5q y a g).y_=g.y_:=congrArg Prod.fst (Z2U y a g);rw [e] at m
   simp only at m;refine Y2q fun u v E I=>?_
   obtain ⟨X,h4⟩:=Y1s _ y a E;rcases W0k.1 I with C|⟨k,O,C⟩
   ·rw [h4 m] at C;cases C
   ·have G:=List.mem_of_find?_eq_some O
    have B:=(Y2m y c k).1 (List.find?_some O);refine h.apart t G (by rw [m,B.1]) (fun D=>?_) u v X C
    rw [<-Bool.not_eq_true,Y2m] at H;exact H ⟨m,by rw [D,B.2]⟩
theorem HL.nil:HL []:=⟨by simp,fun f b=>by simp at b,.nil,.nil⟩
end
end Go.Ab
