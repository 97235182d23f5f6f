/- What the plain programs compute, up to the law itself. -/
import Derived.Test.YtgfmopdbhjcpfaaGreatPuB
set_option linter.unusedVariables false
set_option linter.unusedSimpArgs false
set_option maxRecDepth 20000
namespace Go.Ab
noncomputable section
def put:List Int->Int->List Int
 | [],n=>[n]
 | a::l,n=>if a<n then a::put l n else if a=n then a::l else n::a::l
theorem W1b (n:Int) (l:List Int) (i:Nat) (h:i<l.length) (hlt:gl l i<n):put (l.drop i) n=gl l i::put (l.drop (i+1)) n:=by
 rw [Q1I h,put,if_pos hlt]
theorem Z0N {F:Nat} (hF:BIG<=F) {l:List Int} (hl:l.length<=1048576) (n:Int):Q7m F l n=some (put l n):=by
 unfold BIG at hF;unfold Q7m
 refine Y7 (fun z:Int=>∃ i:Nat,z=i/\i<=l.length/\put l n=l.take i++put (l.drop i) n) (fun z=>l.length-z.toNat) (fun d z f g=>?_) ⟨0,rfl,by simp,by simp⟩ (by simp;omega);obtain ⟨i,rfl,j,b⟩:=f
 have k2:(∀ h:i<l.length,n<=gl l i)->Z0O F l n (i:Int)=some (put l n):=by
  intro c;unfold Z0O
  refine Q8 (fun h=>?_) (fun h=>?_)
  ·have h:i<l.length:=by simpa using h
   have c:=c h;refine Z5 (k:=?_)
   unfold Q8i;rw [Q1I h,put] at b
   refine Q8 (fun a=>?_) (fun a=>?_)
   ·have a:gl l i=n:=by simpa using a
    rw [b,if_neg (by omega),if_pos a, <-Q1I h,List.take_append_drop]
   ·have a:gl l i≠n:=by simpa using a
    repeat (refine Z5 (k:=?_))
    rw [b,if_neg (by omega),if_neg a, <-Q1I h];simp
  ·have h:¬ i<l.length:=by simpa using h
   unfold Q8i;refine Q9 rfl ?_
   repeat (refine Z5 (k:=?_))
   have:i=l.length:=by omega
   subst this;simp [put] at b
   simp [b]
 unfold Z7W;refine Q8 (fun h=>?_) (fun h=>?_)
 ·have h:i<l.length:=by simpa using h
  refine Z5 (k:=?_);unfold Q8j
  refine Q8 (fun a=>?_) (fun a=>?_)
  ·have a:gl l i<n:=by simpa using a
   refine Z5 (k:=?_);refine g _ ⟨i+1,by omega,h,?_⟩ (by omega)
   rw [b,W1b n l i h a,y3 h,List.append_assoc];rfl
  ·exact k2 fun _=>by simpa using a
 ·unfold Q8j
  exact Q9 rfl (k2 fun e=>absurd e (by simpa using h))
def Q3a (r:Rect):Bool:=decide (0<=r.L_)&&(decide (r.L_<r.R_)&&(decide (r.R_<=16384)&&(decide (0<=r.w_)&&(decide (r.w_<r.H_)&&decide (r.H_<=16384)))))
theorem Q0g (r:Rect):Q3a r=true↔0<=r.L_/\r.L_<r.R_/\r.R_<=16384/\0<=r.w_/\r.w_<r.H_/\r.H_<=16384:=by simp [Q3a]
theorem Z3Y (F:Nat) (r:Rect):Q3O F r=some (Q3a r):=by
 unfold Q3O;rw [Q3V (J1 F),Q3V (J1 F),Q3V (J1 F),Q3V (J1 F),Q3V (J1 F)]
 rfl
def G3 (a b:Bool) (how:Int):Bool:=if how=1 then a||b else if how=2 then a&&b else a && !b
theorem Y1W (F:Nat) (a b:Bool) (how:Int):Z1l F a b how=some (G3 a b how):=by
 unfold Z1l G3;rw [Y8W,Y8W]
 by_cases h1:how=1
 ·subst h1;cases a <;> cases b <;> rfl
 ·by_cases h2:how=2
  ·subst h2;cases a <;> cases b <;> rfl
  ·have c:(how==1)=false:=by simpa using h1
   have d:(how==2)=false:=by simpa using h2
   rw [c,d,if_neg h1,if_neg h2]
   cases a <;> cases b <;> rfl
theorem Z3Z {F:Nat} (hF:BIG<=F) {l:List Rect} (hl:l.length<=LIM) (x y:Int):Q5F F l x y=some (inR l x y):=by
 unfold BIG at hF;unfold LIM at hl
 unfold Q5F;refine Y3Y (l:=l) (fun m=>some (inR m x y)) (fun a i d c=>?_) (fun a=>?_) (by omega)
 ·unfold Z0n
  refine Z8 (Z0q d) ?_;refine Z5 (k:=?_)
  rw [Q3V (Q0p F i a),Q3V (Q0p F i a),Q3V (Q0p F i a)];unfold Q0p
  have e:inR (gl l i::l.drop (i+1)) x y=((gl l i).has x y||inR (l.drop (i+1)) x y):=rfl;rw [e]
  have b:(decide ((gl l i).L_<=x)&&(decide (x<(gl l i).R_)&&(decide ((gl l i).w_<=y)&&decide (y<(gl l i).H_))))=(gl l i).has x y:=by
   simp only [Rect.has,Bool.and_assoc]
  show br (decide ((gl l i).L_<=x)&&(decide (x<(gl l i).R_)&&(decide ((gl l i).w_<=y)&&decide (y<(gl l i).H_)))) _ _=_;rw [b]
  refine Q8 (fun h=>by rw [h];rfl) (fun h=>?_);refine Z5 (k:=?_)
  rw [c,h,Bool.false_or]
 ·unfold Z0n
  exact Q9 (Q2V _) rfl
def Z4G:List Rect->List Rect->Bool
 | [],[]=>true
 | a::l,b::m=>(a.L_==b.L_&&a.R_==b.R_)&&Z4G l m
 | _,_=>false
theorem Y2x:∀ {l m:List Rect},Z4G l m=true->l.length=m.length
 | [],[],_=>rfl
 | [],_::_,h=>by cases h
 | _::_,[],h=>by cases h
 | a::l,b::m,h=>by
  simp only [Z4G,Bool.and_eq_true] at h;simp [Y2x h.2]
theorem Y5c:∀ (l m:List Rect),l.length=m.length->∀ i,i<=l.length->Z4G (l.drop i) (m.drop i)=if h:i<l.length then (((gl l i).L_==(gl m i).L_&&(gl l i).R_==(gl m i).R_)&&Z4G (l.drop (i+1)) (m.drop (i+1))) else true:=by
 intro l m h i b;split
 ·rename_i a
  rw [Q1I a,Q1I (l:=m) (by omega)];rfl
 ·have:i=l.length:=by omega
  rw [List.drop_of_length_le (by omega),List.drop_of_length_le (by omega)];rfl
theorem Y1V {F:Nat} (hF:BIG<=F) {l m:List Rect} (hl:l.length<=LIM):Z1k F l m=some (Z4G l m):=by
 unfold BIG at hF;unfold LIM at hl
 unfold Z1k;refine Q8 (fun h=>?_) (fun h=>?_)
 ·have h:l.length≠m.length:=by simp at h;omega
  cases hs:Z4G l m with
  | false=>rfl
  | true=>exact absurd (Y2x hs) h
 ·have h:l.length=m.length:=by simp at h;omega
  refine Y7 (fun z:Int=>∃ i:Nat,z=i/\i<=l.length/\Z4G l m=Z4G (l.drop i) (m.drop i)) (fun z=>l.length-z.toNat) (fun f z g j=>?_) ⟨0,rfl,by simp,by simp⟩ (by simp;omega);obtain ⟨i,rfl,n,a⟩:=g
  rw [Y5c l m h i n] at a;unfold Z6B
  refine Q8 (fun b=>?_) (fun b=>?_)
  ·have b:i<l.length:=by simpa using b
   rw [dif_pos b] at a;refine Z5 (k:=?_)
   refine Z5 (k:=?_);have o:i<m.length:=by omega
   refine Q8 (fun c=>?_) (fun c=>?_)
   ·unfold Q6s
    refine Z8 rfl ?_;have c:(gl l i).L_≠(gl m i).L_:=by simpa using c
    have e:((gl l i).L_==(gl m i).L_)=false:=by simpa using c
    rw [a,e];rfl
   ·repeat (refine Z5 (k:=?_))
    have c:(gl l i).L_=(gl m i).L_:=by simpa using c
    have e:((gl l i).L_==(gl m i).L_)=true:=by simpa using c
    rw [e,Bool.true_and] at a;unfold Q6s
    refine Q8 (fun d=>?_) (fun d=>?_)
    ·have d:(gl l i).R_≠(gl m i).R_:=by simpa using d
     have e:((gl l i).R_==(gl m i).R_)=false:=by simpa using d
     rw [a,e];rfl
    ·have d:(gl l i).R_=(gl m i).R_:=by simpa using d
     have e:((gl l i).R_==(gl m i).R_)=true:=by simpa using d
     rw [e,Bool.true_and] at a;refine Z5 (k:=?_)
     exact j _ ⟨i+1,by omega,b,a⟩ (by omega)
  ·have b:¬ i<l.length:=by simpa using b
   rw [dif_neg b] at a;rw [a];rfl
section
theorem Y3o (l:List Int) (n v:Int):v ∈ put l n↔v=n\/v ∈ l:=by
 induction l with
 | nil=>simp [put]
 | cons a l ih=>
  unfold put;split
  ·rw [List.mem_cons,ih,List.mem_cons]
   constructor
   ·rintro (h|h|h);exact .inr (.inl h);exact .inl h;exact .inr (.inr h)
   ·rintro (h|h|h);exact .inr (.inl h);exact .inl h;exact .inr (.inr h)
  ·split
   ·rename_i h;subst h
    rw [List.mem_cons];constructor
    ·intro h;exact .inr h
    ·rintro (h|h);exact .inl h;exact h
   ·rw [List.mem_cons]
theorem Y6K {l:List Int} (h:Asc l) (n:Int):Asc (put l n):=by
 induction l with
 | nil=>exact List.pairwise_singleton _ _
 | cons a l ih=>
  obtain ⟨d,e⟩:=List.pairwise_cons.1 h;unfold put
  split
  ·rename_i c
   refine List.pairwise_cons.2 ⟨fun v b=>?_,ih e⟩;rcases (Y3o l n v).1 b with rfl|b
   ·exact c
   ·exact d v b
  ·split
   ·exact h
   ·refine List.pairwise_cons.2 ⟨fun v b=>?_,h⟩
    rcases List.mem_cons.1 b with rfl|b
    ·omega
    ·have:=d v b;omega
theorem Z5L (l:List Int) (n:Int):(put l n).length<=l.length+1:=by
 induction l with
 | nil=>simp [put]
 | cons a l ih=>
  unfold put;split
  ·simp;omega
  ·split <;> simp
def Q8s (l:List Rect) (xs:List Int):List Int:=l.foldl (fun xs r=>put (put xs r.L_) r.R_) xs
def Z0t (l:List Rect) (ys:List Int):List Int:=l.foldl (fun ys r=>put (put ys r.w_) r.H_) ys
theorem Q8r {f g:Rect->Int} (l:List Rect):∀ {xs:List Int},Asc xs->Asc (l.foldl (fun xs r=>put (put xs (f r)) (g r)) xs):=by
 induction l with
 | nil=>intro xs h;exact h
 | cons r l ih=>intro xs h;exact ih (Y6K (Y6K h _) _)
theorem Q0z {f g:Rect->Int} (l:List Rect):∀ (xs:List Int) (v:Int),v ∈ l.foldl (fun xs r=>put (put xs (f r)) (g r)) xs↔v ∈ xs\/∃ r ∈ l,v=f r\/v=g r:=by
 induction l with
 | nil=>intro xs v;simp
 | cons r l ih=>
  intro xs v;rw [List.foldl_cons,ih,Y3o,Y3o]
  constructor
  ·rintro ((h|h|h) | ⟨q,a,h⟩)
   ·exact .inr ⟨r,by simp,.inr h⟩
   ·exact .inr ⟨r,by simp,.inl h⟩
   ·exact .inl h
   ·exact .inr ⟨q,by simp [a],h⟩
  ·rintro (h|⟨q,a,h⟩)
   ·exact .inl (.inr (.inr h))
   ·rcases List.mem_cons.1 a with rfl|a
    ·rcases h with h|h
     ·exact .inl (.inr (.inl h))
     ·exact .inl (.inl h)
    ·exact .inr ⟨q,a,h⟩
theorem Z5S {f g:Rect->Int} (l:List Rect):∀ (xs:List Int),(l.foldl (fun xs r=>put (put xs (f r)) (g r)) xs).length<=xs.length+2*l.length:=by
 induction l with
 | nil=>intro xs;simp
 | cons r l ih=>
  intro xs;have c:=ih (put (put xs (f r)) (g r))
  have b:=Z5L (put xs (f r)) (g r);have a:=Z5L xs (f r)
  simp only [List.foldl_cons,List.length_cons];omega
section
variable {F:Nat}
theorem Y6E (hF:BIG<=F) {a b l:List Rect} {v:Int} (hv:0<=v/\v<=1) (hl:gl [a,b] v.toNat=l) {ag:(List Int×List Int×Int)->Option (List Rect)} {y:Option (List Rect)} {xs ys:List Int} (hx:xs.length+2*l.length<=1000000) (hy:ys.length+2*l.length<=1000000)
  (h:ag (Q8s l xs,Z0t l ys,v+1)=y):Z6 (fun again (z:List Int×List Int×Int)=>Q8T F a b v ag again z.1 z.2.1 z.2.2) F (xs,ys,0)=y:=by
 have d:=hF;unfold BIG at hF
 refine Y7 (fun z:List Int×List Int×Int=>∃ j:Nat,z.2.2=j/\j<=l.length/\Q8s (l.drop j) z.1=Q8s l xs/\Z0t (l.drop j) z.2.1=Z0t l ys/\z.1.length+2*(l.length-j)<=1000000/\z.2.1.length+2*(l.length-j)<=1000000)
  (fun z=>l.length-z.2.2.toNat) (fun again z n r=>?_) ⟨0,rfl,by omega,by simp,by simp,by simpa using hx,by simpa using hy⟩ (by simp;omega)
 obtain ⟨g,i,x⟩:=z;obtain ⟨j,m,p,e,f,o,q⟩:=n
 simp only at m e f o q;subst m
 unfold Q8T;simp only [hl,Int.toNat_natCast]
 refine Q8 (fun c=>?_) (fun c=>?_)
 ·have c:j<l.length:=by simpa using c
  refine Z5 (k:=?_);have u:=Z5L g (gl l j).L_
  have s:=Z5L (put g (gl l j).L_) (gl l j).R_;have t:=Z5L i (gl l j).w_
  have w:=Z5L (put i (gl l j).w_) (gl l j).H_;refine Q4 (Z0N d (by omega) _) ?_
  refine Q4 (Z0N d (by omega) _) ?_;refine Q4 (Z0N d (by omega) _) ?_
  refine Q4 (Z0N d (by omega) _) ?_;refine Z5 (k:=?_)
  refine r _ ⟨j+1,rfl,by omega,?_,?_,by simp only;omega,by simp only;omega⟩ (by simp only;omega)
  ·rw [<-e,Q1I c];rfl
  ·rw [<-f,Q1I c];rfl
 ·have c:¬ j<l.length:=by simpa using c
  have:j=l.length:=by omega
  subst this;rw [List.drop_length] at e f
  unfold Q8R;refine Z5 (k:=?_)
  have e:g=Q8s l xs:=e;have f:i=Z0t l ys:=f
  rw [e,f];exact h
theorem Z9j (lo hi:Int):G4 ⟨lo,hi,[]⟩=[]:=rfl
theorem Z5O (lo hi:Int) (l:List Span) (s:Span):G4 ⟨lo,hi,l++[s]⟩=G4 ⟨lo,hi,l⟩++[⟨s.L_,lo,s.R_,hi⟩]:=by simp [G4]
theorem Q0w (b:Rn (List Span)):(G4 b).length=b.v.length:=by simp [G4]
theorem Z3B {α:Type} [Emb α] (l:List α) (x:α) {n:Nat} (h:n=l.length):gl (l++[x]) n=x:=by subst h;simp [gl,List.getD_eq_getElem?_getD]
theorem Z7G {α:Type} (l:List α) (x y:α) {n:Nat} (h:n=l.length):(l++[x]).set n y=l++[y]:=by subst h;simp
theorem Y8O (hF:BIG<=F) {xs ys:List Int} {i k:Nat} {m:List Rect} {r:Rect} {ag:(Int×List Rect)->Option (List Rect)} {y:Option (List Rect)} (hk:k+1<xs.length) (hx:xs.length<=65536) (hm:m.length<=65536)
  (h:ag ((k:Int)+1,m++[⟨r.L_,r.w_,gl xs (k+1),r.H_⟩])=y):Q0v F xs ys i k (m++[r]) ag true=y:=by
 unfold BIG at hF;unfold Q0v
 refine Z8 rfl ?_;have c:(m++[r]).length=m.length+1:=by simp
 simp only [c];have a:(((m.length+1:Nat):Int)-1).toNat=m.length:=by omega
 have b:((k:Int)+1).toNat=k+1:=by omega
 rw [a,Z3B _ _ rfl,Z7G _ _ _ rfl,b]
 repeat (refine Z5 (k:=?_))
 exact h
theorem Y8P (hF:BIG<=F) {xs ys:List Int} {i k:Nat} {m:List Rect} {ag:(Int×List Rect)->Option (List Rect)} {y:Option (List Rect)} (hk:k+1<xs.length) (hi:i+1<ys.length) (hx:xs.length<=65536) (hy:ys.length<=65536) (hm:m.length<=65536)
  (h:ag ((k:Int)+1,m++[⟨gl xs k,gl ys i,gl xs (k+1),gl ys (i+1)⟩])=y):Q0v F xs ys i k m ag false=y:=by
 unfold BIG at hF;unfold Q0v
 refine Q9 rfl ?_;have a:((k:Int)+1).toNat=k+1:=by omega
 have b:((i:Int)+1).toNat=i+1:=by omega
 rw [a,b];simp only [Int.toNat_natCast]
 repeat (refine Z5 (k:=?_))
 exact h
theorem W0u (hF:BIG<=F) {a b:List Rect} {how:Int} {xs ys:List Int} {i:Nat} (hi:i+1<ys.length) (hx:xs.length<=65536) (hy:ys.length<=65536) (ha:a.length<=LIM) (hb:b.length<=LIM)
  (hst:Step false xs fun x=>G3 (inR a x (gl ys i)) (inR b x (gl ys i)) how) {out last:List Rect} {ag:(Int×List Rect×List Rect)->Option (List Rect)} {y:Option (List Rect)}
  (h:∀ l:List Span,SpOk l->(∀ x,inS l x=G3 (inR a x (gl ys i)) (inR b x (gl ys i)) how)->l.length<=65536->Q3j F ys i out last ag (G4 ⟨gl ys i,gl ys (i+1),l⟩)=y) :
  Z6 (fun again (z:Int×List Rect)=>Q8S F a b how xs ys i out last ag again z.1 z.2) F (0,[])=y:=by
 have j:=hF;unfold BIG at hF
 refine Y7 (fun z:Int×List Rect=>∃ (k:Nat) (l:List Span),z=((k:Int),G4 ⟨gl ys i,gl ys (i+1),l⟩)/\l.length<=k/\(k+1<=xs.length\/k=0)/\(0<xs.length->Bst false (fun x=>G3 (inR a x (gl ys i)) (inR b x (gl ys i)) how) (l.map Span.rn) (gl xs k)))
  (fun z=>xs.length-z.1.toNat) (fun again z H v=>?_) ⟨0,[],rfl,Nat.le_refl _,.inr rfl,fun A=>hst.start A⟩ (by simp;omega)
 obtain ⟨k,l,rfl,J,K,f⟩:=H;simp only at v ⊢
 unfold Q8S;refine Z5 (k:=?_)
 refine Q8 (fun c=>?_) (fun c=>?_)
 ·have c:k+1<xs.length:=by simp at c;omega
  have f:=f (by omega);have r:=hst.asc.at_lt (show k<k+1 by omega) c
  simp only [Int.toNat_natCast]
  repeat (refine Z5 (k:=?_))
  refine Q4 (Z3Z j ha _ _) ?_
  repeat (refine Z5 (k:=?_))
  refine Q4 (Z3Z j hb _ _) ?_;refine Q4 (Y1W _ _ _ _) ?_
  have e:=hst.gap k c;refine Q8 (fun m=>?_) (fun m=>?_)
  ·have m:G3 (inR a (gl xs k) (gl ys i)) (inR b (gl xs k) (gl ys i)) how=false:=by simpa using m
   unfold Q3k;refine Z5 (k:=?_)
   exact v _ ⟨k+1,l,rfl,by omega,.inl (by omega),fun _=>f.skip (by omega) fun t C D=>(e t C D).trans m⟩ (by simp only;omega)
  ·have m:G3 (inR a (gl xs k) (gl ys i)) (inR b (gl xs k) (gl ys i)) how=true:=by simpa using m
   have d:(∀ s,l.getLast?=some s->s.R_≠gl xs k)->Q0v F xs ys i k (G4 ⟨gl ys i,gl ys (i+1),l⟩) again false=y:=by
    intro w;refine Y8P j c hi hx hy (by rw [Q0w];simp only;omega) (v _ ⟨k+1,l++[⟨gl xs k,gl xs (k+1)⟩],by rw [Z5O];rfl,by simp;omega,.inl (by omega),fun _=>?_⟩ (by simp only;omega))
    have:=f.add r e (fun q n I=>by
     rw [List.getLast?_map] at n
     cases g:l.getLast? with
     | none=>rw [g] at n;cases n
     | some s=>rw [g] at n;cases n;exact absurd I (w s g))
    simp only [m] at this;rw [List.map_append];exact this
   rcases List.eq_nil_or_concat l with rfl|⟨o,s,u⟩
   ·refine Q9 (by simp [Z9j]) ?_
    exact d fun s g=>by simp at g
   ·rw [List.concat_eq_append] at u
    subst u;rw [Z5O] at d ⊢
    have p:(G4 ⟨gl ys i,gl ys (i+1),o⟩++[(⟨s.L_,gl ys i,s.R_,gl ys (i+1)⟩:Rect)]).length=o.length+1:=by simp [Q0w]
    have E:o.length+1<=k:=by simpa using J
    simp only [p];have G:(((o.length+1:Nat):Int)-1).toNat=o.length:=by omega
    rw [G,Z3B _ _ (by rw [Q0w])];refine Z8 (by simp) ?_
    repeat (refine Z5 (k:=?_))
    by_cases g:s.R_=gl xs k
    ·have B:(s.R_==gl xs k)=true:=by simpa using g
     simp only [B];refine Y8O j c hx (by rw [Q0w];simp only;omega) (v _ ⟨k+1,o ++ [⟨s.L_,gl xs (k+1)⟩],by rw [Z5O];rfl,by simp only [List.length_append,List.length_cons,List.length_nil];omega,.inl (by omega),fun _=>?_⟩ (by simp only;omega))
     rw [List.map_append] at f;have:=f.grow (a:=s.rn) g r fun t C D=>(e t C D).trans m
     rw [List.map_append];exact this
    ·have B:(s.R_==gl xs k)=false:=by simpa using g
     simp only [B];exact d fun q n=>by simp at n;subst n;exact g
 ·have c:¬ k+1<xs.length:=by simp at c;omega
  by_cases A:xs.length=0
  ·have:k=0:=by omega
   subst this;have:l=[]:=List.eq_nil_of_length_eq_zero (by omega)
   subst this;exact h [] .nil (fun x=>(hst.empty A x).symm) (by simp)
  ·have f:=f (by omega)
   exact h l (.of_runs f.runs) (fun x=>by rw [Z8g];exact hst.done (by omega) f x) (by omega)
theorem W1h {α:Type} [Emb α] (l m:List α) (x:α) {n:Nat} (h:n=l.length):gl (l++x::m) n=x:=by subst h;simp [gl,List.getD_eq_getElem?_getD]
theorem Y9M {α:Type} (l m:List α) (x y:α) {n:Nat} (h:n=l.length):(l++x::m).set n y=l++y::m:=by subst h;simp
theorem Y8Q (hF:BIG<=F) {ys:List Int} {i:Nat} (hi:i+1<ys.length) (hy:ys.length<=65536) {out:List Rect} {lo hi' : Int} {l:List Span} (hl:l.length<=65536) {ag:(Int×List Rect×List Rect)->Option (List Rect)} {y:Option (List Rect)}
  (h:ag ((i:Int)+1,out,G4 ⟨lo,gl ys (i+1),l⟩)=y) :
  Z6 (fun again (z:Int×List Rect)=>Q8g F ys i out (G4 ⟨lo,hi',l⟩) ag again z.1 z.2) F (0,G4 ⟨lo,hi',l⟩)=y:=by
 unfold BIG at hF;refine Y7 (fun z:Int×List Rect=>∃ j:Nat,z=((j:Int),G4 ⟨lo,gl ys (i+1),l.take j⟩++G4 ⟨lo,hi',l.drop j⟩)/\j<=l.length) (fun z=>l.length-z.1.toNat) (fun again z f d=>?_) ⟨0,by simp [G4],by omega⟩ (by simp;omega)
 obtain ⟨j,rfl,n⟩:=f;simp only at d ⊢
 have g:((i:Int)+1).toNat=i+1:=by omega
 unfold Q8g;rw [Q0w]
 simp only
 refine Q8 (fun a=>?_) (fun a=>?_)
 ·have a:j<l.length:=by simpa using a
  refine Z5 (k:=?_);refine Z5 (k:=?_)
  have e:l.drop j=l[j]::l.drop (j+1):=List.drop_eq_getElem_cons a;have b:(G4 ⟨lo,gl ys (i+1),l.take j⟩++G4 ⟨lo,hi',l.drop j⟩).length=l.length:=by
   rw [List.length_append,Q0w,Q0w];simp;omega
  refine Z3 (by rw [b];omega) ?_;refine Z5 (k:=?_)
  rw [g];simp only [Int.toNat_natCast]
  have m:G4 ⟨lo,hi',l.drop j⟩=(⟨(l[j]).L_,lo,(l[j]).R_,hi'⟩:Rect)::G4 ⟨lo,hi',l.drop (j+1)⟩:=by rw [e];rfl
  have c:j=(G4 ⟨lo,gl ys (i+1),l.take j⟩).length:=by rw [Q0w];simp;omega
  rw [m,W1h _ _ _ c,Y9M _ _ _ _ c];refine d _ ⟨j+1,?_,a⟩ (by simp only;omega)
  rw [List.take_succ_eq_append_getElem a,Z5O];simp
 ·have a:¬ j<l.length:=by simpa using a
  have:j=l.length:=by omega
  subst this;unfold Q8f Q2G
  refine Z5 (k:=?_);rw [List.take_length,List.drop_length,Z9j,List.append_nil]
  exact h
structure RowSt (rowf:Int->List Span) (c:Int) (n:Nat) (out last:List Rect):Prop where
 ex:∃ acc,Bst [] rowf acc c/\(∀ r ∈ acc,r.v≠[])/\((last=[]/\out=flat acc/\∀ r ∈ acc,r.hi<c)\/∃ acc' b,acc=acc' ++ [b]/\b.hi=c/\last=G4 b/\out=flat acc' /\ b.v.length<=65536)
 len:out.length+last.length<=n*65536
theorem Y4r (a b:List (Rn (List Span))):flat (a++b)=flat a++flat b:=by simp [flat]
theorem Y4q (b:Rn (List Span)):flat [b]=G4 b:=by simp [flat]
theorem Z9z (lo hi lo' hi' : Int):∀ (l m:List Span),Z4G (G4 ⟨lo,hi,l⟩) (G4 ⟨lo',hi',m⟩)=decide (l=m)
 | [],[]=>rfl
 | [],b::m=>rfl
 | a::l,[]=>rfl
 | a::l,b::m=>by
  have i:=Z9z lo hi lo' hi' l m;have f:G4 ⟨lo,hi,a::l⟩=(⟨a.L_,lo,a.R_,hi⟩:Rect)::G4 ⟨lo,hi,l⟩:=rfl
  have g:G4 ⟨lo',hi',b::m⟩=(⟨b.L_,lo',b.R_,hi'⟩:Rect)::G4 ⟨lo',hi',m⟩:=rfl;rw [f,g,Z4G,i]
  cases a;cases b
  rw [Bool.eq_iff_iff];constructor
  ·intro h
   rw [Bool.and_eq_true,Bool.and_eq_true] at h;obtain ⟨⟨d,c⟩,e⟩:=h
   have d:=eq_of_beq d;have c:=eq_of_beq c
   have e:=of_decide_eq_true e;simp only at d c
   rw [d,c,e];exact decide_eq_true rfl
  ·intro h
   have h:=of_decide_eq_true h
   injection h with d c
   injection d with e h4
   subst c;subst e;subst h4
   rw [Bool.and_eq_true,Bool.and_eq_true];exact ⟨⟨beq_self_eq_true _,beq_self_eq_true _⟩,decide_eq_true rfl⟩
theorem W0s (hF:BIG<=F) {ys:List Int} {i:Nat} (hi:i+1<ys.length) (hy:ys.length<=65536) {rowf:Int->List Span} (hst:Step [] ys rowf) {out last:List Rect} (hR:RowSt rowf (gl ys i) i out last)
  {ag:(Int×List Rect×List Rect)->Option (List Rect)} {y:Option (List Rect)} (hlen:(rowf (gl ys i)).length<=65536)
  (h:∀ out' last',RowSt rowf (gl ys (i+1)) (i+1) out' last' -> ag ((i:Int)+1,out',last')=y) :
  Q3j F ys i out last ag (G4 ⟨gl ys i,gl ys (i+1),rowf (gl ys i)⟩)=y:=by
 have u:=hF;unfold BIG at hF
 obtain ⟨⟨d,C,f,l⟩,q⟩:=hR;have x:=hst.asc.at_lt (show i<i+1 by omega) hi
 have e:=hst.gap i hi;have H:i*65536<=65536*65536:=Nat.mul_le_mul_right _ (by omega)
 generalize hv:rowf (gl ys i)=v at *;have g:(∀ a,d.getLast?=some a->a.hi=gl ys i->a.v≠v)->flat d=out++last->Q4Q F i out last (G4 ⟨gl ys i,gl ys (i+1),v⟩) ag=y:=by
  intro D o;unfold Q4Q Q2G
  refine Z5 (k:=?_);refine Z5 (k:=?_)
  refine h _ _ ⟨?_,?_⟩
  ·by_cases hv0:v=[]
   ·subst hv0
    exact ⟨d,C.skip (by omega) fun t A B=>e t A B,f,.inl ⟨Z9j _ _,o.symm,fun r c=>by have:=C.le r c;omega⟩⟩
   ·refine ⟨d++[⟨gl ys i,gl ys (i+1),v⟩],?_,fun r c=>?_,.inr ⟨d,_,rfl,rfl,rfl,o.symm,hlen⟩⟩
    ·have:=C.add x (fun t A B=>(e t A B).trans hv.symm) (fun a m E=>by rw [hv];exact D a m E)
     rw [hv] at this;exact this
    ·rcases List.mem_append.1 c with c|c
     ·exact f r c
     ·rw [List.mem_singleton.1 c];exact hv0
  ·rw [List.length_append,Q0w,Nat.add_mul];simp only;omega
 unfold Q3j;rcases l with ⟨rfl,rfl,G⟩|⟨j,b,rfl,s,rfl,rfl,w⟩
 ·refine Q9 rfl ?_
  unfold Q0V;refine Q9 rfl ?_
  exact g (fun a m E=>by have:=G a (List.mem_of_getLast? m);omega) (by simp)
 ·have z:b.v≠[]:=f b (by simp)
  have p:0<b.v.length:=by
   cases hh:b.v with
   | nil=>exact absurd hh z
   | cons _ _=>simp
  have I:G4 b=G4 ⟨b.lo,b.hi,b.v⟩:=rfl;refine Z8 (by rw [Q0w];simpa using p) ?_
  refine Q4 (Y1V u (by rw [Q0w];unfold LIM;omega)) ?_;rw [I,Z9z]
  refine Q8 (fun n=>?_) (fun n=>?_)
  ·have n:b.v=v:=of_decide_eq_true n
   refine Z3 (by rw [Q0w];simp only;omega) ?_;refine Z5 (k:=?_)
   have J:((gl (G4 ⟨b.lo,b.hi,b.v⟩) (0:Int).toNat).H_==gl ys (i:Int).toNat)=true:=by
    have:gl (G4 ⟨b.lo,b.hi,b.v⟩) (0:Int).toNat=(⟨(b.v[0]).L_,b.lo,(b.v[0]).R_,b.hi⟩:Rect):=by
     have:0<(G4 ⟨b.lo,b.hi,b.v⟩).length:=by rw [Q0w];exact p
     show gl (G4 ⟨b.lo,b.hi,b.v⟩) 0=_;rw [z7 this];simp [G4]
    rw [this];simpa using s
   rw [J];unfold Q0V
   refine Z8 rfl ?_;refine Y8Q u hi hy w ?_
   have K:=C.grow s x fun t A B=>(e t A B).trans n.symm
   refine h _ _ ⟨⟨j ++ [⟨b.lo,gl ys (i+1),b.v⟩],K,fun r c=>?_,.inr ⟨j,_,rfl,rfl,rfl,rfl,w⟩⟩,?_⟩
   ·rcases List.mem_append.1 c with c|c
    ·exact f r (by simp [c])
    ·rw [List.mem_singleton.1 c];exact z
   ·rw [Q0w] at q ⊢;rw [Nat.add_mul];exact Nat.le_trans q (Nat.le_add_right _ _)
  ·have n:b.v≠v:=of_decide_eq_false n
   unfold Q0V;refine Q9 rfl ?_
   exact g (fun a m E=>by rw [List.getLast?_append] at m;simp at m;subst m;exact n) (by rw [Y4r,Y4q])
theorem W0t (hF:BIG<=F) {a b:List Rect} {how:Int} {xs ys:List Int} (hx:xs.length<=65536) (hy:ys.length<=65536) (ha:a.length<=LIM) (hb:b.length<=LIM)
  (hG:Grid xs ys fun x y=>G3 (inR a x y) (inR b x y) how):Q5H F a b how xs ys=some (cn fun x y=>G3 (inR a x y) (inR b x y) how):=by
 have h:=hF;unfold BIG at hF
 unfold Q5H;have d:=hG.step
 have e:=hG.rows;refine Y7 (fun z:Int×List Rect×List Rect=>∃ (i:Nat),z.1=(i:Int)/\((ys.length=0/\i=0/\z.2.1=[]/\z.2.2=[])\/(i+1<=ys.length/\RowSt (fun y=>spn fun x=>G3 (inR a x y) (inR b x y) how) (gl ys i) i z.2.1 z.2.2)))
  (fun z=>ys.length-z.1.toNat) (fun g z I B=>?_) ⟨0,rfl,?_⟩ (by simp;omega)
 ·obtain ⟨O,L,v⟩:=z
  obtain ⟨i,q,f⟩:=I;simp only at q f B ⊢
  subst q;unfold Z2K
  refine Z5 (k:=?_);rcases f with ⟨j,rfl,rfl,rfl⟩|⟨q,w⟩
  ·refine Q9 (by simp [j]) ?_
   unfold Q4P;refine Z5 (k:=?_)
   have:=Step.cn e d .nil (fun t=>(d.empty j t).symm) (fun b hb=>by cases hb)
   rw [this.1];rfl
  ·refine Q8 (fun c=>?_) (fun c=>?_)
   ·have c:i+1<ys.length:=by simp at c;omega
    refine W0u h c hx hy ha hb (hG.x _) fun l K H m=>?_
    have C:spn (fun x=>G3 (inR a x (gl ys i)) (inR b x (gl ys i)) how)=l:=Z8H K H;have:=W0s h c hy d w (ag:=g) (y:=some (cn fun x y=>G3 (inR a x y) (inR b x y) how)) (by rw [C];exact m) fun G s o=>B _ ⟨i+1,rfl,.inr ⟨by omega,o⟩⟩ (by simp only;omega)
    rw [C] at this;exact this
   ·have c:¬ i+1<ys.length:=by simp at c;omega
    unfold Q4P;obtain ⟨⟨J,u,n,M⟩,E⟩:=w
    have D:i*65536<=65536*65536:=Nat.mul_le_mul_right _ (by omega);refine Z5 (k:=?_)
    have:=Step.cn e d u.runs (fun t=>d.done (by omega) u t) n
    rw [this.1];rcases M with ⟨rfl,rfl,_⟩|⟨A,N,rfl,_,rfl,rfl,_⟩
    ·simp
    ·rw [Y4r,Y4q]
 ·by_cases j:ys.length=0
  ·exact .inl ⟨j,rfl,rfl,rfl⟩
  ·exact .inr ⟨by omega,⟨⟨[],d.start (by omega),fun r p=>(by cases p),.inl ⟨rfl,rfl,fun r p=>(by cases p)⟩⟩,by simp⟩⟩
theorem Y4w (a b:List Rect) (how:Int):Grid (Q8s b (Q8s a [])) (Z0t b (Z0t a [])) fun x y=>G3 (inR a x y) (inR b x y) how:=
 Grid.of (Q8r b (Q8r a .nil)) (Q8r b (Q8r a .nil))
  (fun r c=>⟨(Q0z b _ _).2 (.inl ((Q0z a _ _).2 (.inr ⟨r,c,.inl rfl⟩))),(Q0z b _ _).2 (.inl ((Q0z a _ _).2 (.inr ⟨r,c,.inr rfl⟩)))⟩)
  (fun r c=>⟨(Q0z b _ _).2 (.inr ⟨r,c,.inl rfl⟩),(Q0z b _ _).2 (.inr ⟨r,c,.inr rfl⟩)⟩)
  (fun r c=>⟨(Q0z b _ _).2 (.inl ((Q0z a _ _).2 (.inr ⟨r,c,.inl rfl⟩))),(Q0z b _ _).2 (.inl ((Q0z a _ _).2 (.inr ⟨r,c,.inr rfl⟩)))⟩)
  (fun r c=>⟨(Q0z b _ _).2 (.inr ⟨r,c,.inl rfl⟩),(Q0z b _ _).2 (.inr ⟨r,c,.inr rfl⟩)⟩)
  (k:=fun p q=>G3 p q how) (by show G3 false false how=false;unfold G3;split;rfl;split <;> rfl)
theorem Z2J (hF:BIG<=F) {a b:List Rect} {how:Int} (ha:a.length<=200000) (hb:b.length<=200000) (hx:(Q8s b (Q8s a [])).length<=65536) (hy:(Z0t b (Z0t a [])).length<=65536) :
  U3 F a b how=some (cn fun x y=>G3 (inR a x y) (inR b x y) how):=by
 have d:=hF;unfold BIG at hF
 have h:=Y4w a b how;have n:=W0t d hx hy (by unfold LIM;omega) (by unfold LIM;omega) h
 have o:=Z5S (f:=Rect.L_) (g:=Rect.R_) a [];have m:=Z5S (f:=Rect.w_) (g:=Rect.H_) a []
 have j:∀ c:(List Int×List Int×Int)->Option (List Rect),Q3l F a b how c (Q8s b (Q8s a [])) (Z0t b (Z0t a [])) 2=some (cn fun x y=>G3 (inR a x y) (inR b x y) how):=fun c=>by
  unfold Q3l;exact Q9 rfl n
 have p:(Q8s a []).length<=2*a.length:=by have:=o;simpa [Q8s] using this
 have q:(Z0t a []).length<=2*a.length:=by have:=m;simpa [Z0t] using this
 unfold U3;refine Y7 (fun z:List Int×List Int×Int=>z=([],[],0)\/z=(Q8s a [],Z0t a [],1)\/z=(Q8s b (Q8s a []),Z0t b (Z0t a []),2)) (fun z=>2-z.2.2.toNat) (fun c z i e=>?_) (.inl rfl) (by simp;omega)
 rcases i with rfl|rfl|rfl
 ·simp only
  unfold Q3l;refine Z8 rfl ?_
  refine Z5 (k:=?_);refine Y6E d (l:=a) (by omega) rfl (by simp;omega) (by simp;omega) ?_
  exact e _ (.inr (.inl rfl)) (by simp)
 ·simp only
  unfold Q3l;refine Z8 rfl ?_
  refine Z5 (k:=?_);refine Y6E d (l:=b) (by omega) rfl (xs:=Q8s a []) (ys:=Z0t a []) (by omega) (by omega) ?_
  exact e _ (.inr (.inr rfl)) (by simp)
 ·exact j c
end
end
section
theorem Y8y {xs ys:List Int} {S:Int->Int->Bool} (h:Grid xs ys S):Fin S:=by
 have d:=h.step
 by_cases h0:ys.length=0
 ·exact (Step.cn h.rows d .nil (fun t=>(d.empty h0 t).symm) (fun b u=>by cases u)).2
 ·have o:∀ i,i+1<=ys.length->∃ g,Bst [] (fun y=>spn fun x=>S x y) g (gl ys i)/\∀ r ∈ g,r.v≠[]:=by
   intro i
   induction i with
   | zero=>intro _;exact ⟨[],d.start (by omega),fun r c=>by cases c⟩
   | succ i ih=>
    intro z;obtain ⟨g,l,f⟩:=ih (by omega)
    have k:=d.asc.at_lt (show i<i+1 by omega) (by omega);have e:=d.gap i (by omega)
    by_cases hv:spn (fun x=>S x (gl ys i))=[]
    ·exact ⟨g,l.skip (by omega) fun t p q=>(e t p q).trans hv,f⟩
    ·rcases List.eq_nil_or_concat g with rfl|⟨s,b,j⟩
     ·refine ⟨_,l.add k e (fun a m=>by simp at m),fun r c=>?_⟩
      simp at c;rw [c];exact hv
     ·rw [List.concat_eq_append] at j
      subst j
      by_cases hm:b.hi=gl ys i/\b.v=spn fun x=>S x (gl ys i)
      ·refine ⟨_,l.grow hm.1 k fun t p q=>(e t p q).trans hm.2.symm,fun r c=>?_⟩
       rcases List.mem_append.1 c with c|c
       ·exact f r (by simp [c])
       ·rw [List.mem_singleton.1 c];exact f b (by simp)
      ·refine ⟨_,l.add k e (fun a m w n=>?_),fun r c=>?_⟩
       ·simp at m;subst m;exact hm ⟨w,n⟩
       ·rcases List.mem_append.1 c with c|c
        ·exact f r c
        ·rw [List.mem_singleton.1 c];exact hv
  obtain ⟨g,l,f⟩:=o (ys.length-1) (by omega);exact (Step.cn h.rows d l.runs (fun t=>d.done (by omega) l t) f).2
theorem Q4l (a b:List Rect) (how:Int):Fin fun x y=>G3 (inR a x y) (inR b x y) how:=Y8y (Y4w a b how)
theorem Y8d (l:List Rect):(fun x y=>G3 (inR l x y) (inR [] x y) 1)=inR l:=by
 funext x y;simp [G3,inR]
theorem G5 (l:List Rect):Fin (inR l):=by have:=Q4l l [] 1;rwa [Y8d] at this
theorem Z0T (l:List Rect):Q2Q l↔cn (inR l)=l:=⟨fun h=>h.eq_cn.symm,fun h=>by rw [<-h];exact Q2Q.cn (G5 l)⟩
theorem Z3I {l:List Rect}:(Q8s l []).length<=2*l.length:=by have:=Z5S (f:=Rect.L_) (g:=Rect.R_) l [];simpa [Q8s] using this
theorem Y5E {l:List Rect}:(Z0t l []).length<=2*l.length:=by have:=Z5S (f:=Rect.w_) (g:=Rect.H_) l [];simpa [Z0t] using this
theorem Z9I {a b:List Rect}:(Q8s b (Q8s a [])).length<=2*a.length+2*b.length:=by
 have c:=Z5S (f:=Rect.L_) (g:=Rect.R_) b (Q8s a []);have d:=Z3I (l:=a)
 have c:(Q8s b (Q8s a [])).length<=(Q8s a []).length+2*b.length:=c;omega
theorem Y4x {a b:List Rect}:(Z0t b (Z0t a [])).length<=2*a.length+2*b.length:=by
 have c:=Z5S (f:=Rect.w_) (g:=Rect.H_) b (Z0t a []);have d:=Y5E (l:=a)
 have c:(Z0t b (Z0t a [])).length<=(Z0t a []).length+2*b.length:=c;omega
theorem Q5Z {F:Nat} (hF:BIG<=F) {a b:List Rect} {how:Int} (h:a.length+b.length<=32768):U3 F a b how=some (cn fun x y=>G3 (inR a x y) (inR b x y) how):=
 Z2J hF (by omega) (by omega) (by have:=Z9I (a:=a) (b:=b);omega) (by have:=Y4x (a:=a) (b:=b);omega)
theorem Z1N {F:Nat} (hF:BIG<=F) {l:List Rect} (h:l.length<=32768):U3 F l [] 1=some (cn (inR l)):=by
 rw [Q5Z hF (by simpa using h),Y8d]
theorem Z3w {α:Type} [Emb α] [DecidableEq α] (l m:List α) (h:l.length=m.length) (i:Nat) (hi:i<l.length):decide (l.drop i=m.drop i)=(decide (gl l i=gl m i)&&decide (l.drop (i+1)=m.drop (i+1))):=by
 rw [Q1I hi,Q1I (l:=m) (by omega)];rw [Bool.eq_iff_iff,Bool.and_eq_true,decide_eq_true_iff,decide_eq_true_iff,decide_eq_true_iff,List.cons.injEq]
theorem Y6e (r s:Rect):((r.L_==s.L_)&&((r.w_==s.w_)&&((r.R_==s.R_)&&((r.H_==s.H_)&&true))))=decide (r=s):=by
 cases r;cases s
 rw [Bool.eq_iff_iff,decide_eq_true_iff];simp
theorem Z5a {F:Nat} (hF:BIG<=F) {l m:List Rect} (hm:m.length<=LIM):Q7k F l m=some (decide (l=m)):=by
 unfold BIG at hF;unfold LIM at hm
 unfold Q7k;refine Q8 (fun h=>?_) (fun h=>?_)
 ·have h:l.length≠m.length:=by simp at h;omega
  rw [decide_eq_false fun e=>h (by rw [e])]
 ·have h:l.length=m.length:=by simp at h;omega
  refine Y7 (fun z:Int=>∃ i:Nat,z=i/\i<=l.length/\decide (l=m)=decide (l.drop i=m.drop i)) (fun z=>l.length-z.toNat) (fun d z f g=>?_) ⟨0,rfl,by omega,by simp⟩ (by simp;omega);obtain ⟨i,rfl,j,c⟩:=f
  unfold Z5c;refine Q8 (fun b=>?_) (fun b=>?_)
  ·have b:i<l.length:=by simpa using b
   rw [Z3w l m h i b] at c;refine Z5 (k:=?_)
   refine Z5 (k:=?_);rw [Y6e]
   refine Q8 (fun a=>?_) (fun a=>?_)
   ·have a:decide (gl l i=gl m i)=false:=by simpa using a
    rw [c,a];rfl
   ·have a:decide (gl l i=gl m i)=true:=by simpa using a
    rw [a,Bool.true_and] at c;refine Z5 (k:=?_)
    exact g _ ⟨i+1,by omega,b,c⟩ (by omega)
  ·have b:¬ i<l.length:=by simpa using b
   have:i=l.length:=by omega
   rw [c,List.drop_of_length_le (by omega),List.drop_of_length_le (by omega),decide_eq_true rfl];rfl
def Val (l:List Rect):Prop:=l.length<=120/\(∀ r ∈ l,Q3a r=true)/\Q2Q l
open Classical in
noncomputable def Q3D (l:List Rect):Bool:=decide (Val l)
theorem Q1z (l:List Rect):Q3D l=true↔Val l:=by unfold Q3D;exact @decide_eq_true_iff (Val l) (Classical.propDecidable _)
theorem Q8I {l:List Rect} (h:¬ Val l):Q3D l=false:=by rw [<-Bool.not_eq_true,Q1z];exact h
theorem Q1P {l:List Rect} (h:Val l):Q3D l=true:=(Q1z l).2 h
theorem Y9h {α:Type} [Emb α] {l:List α} {p:α->Prop} {i:Nat} (h:i<l.length):(∀ x ∈ l.drop i,p x)↔p (gl l i)/\∀ x ∈ l.drop (i+1),p x:=by rw [Q1I h];simp
theorem Q1j {F:Nat} (hF:BIG<=F) (a:Re_):Q0N F a=some (Q3D a.t_):=by
 have d:=hF;unfold BIG at hF
 obtain ⟨l⟩:=a;simp only
 unfold Q0N;refine Q8 (fun h=>?_) (fun h=>?_)
 ·have h:120<l.length:=by simp at h;omega
  rw [Q8I fun f=>by have:=f.1;omega]
 ·have h:l.length<=120:=by simp at h;omega
  refine Y7 (fun z:Int=>∃ i:Nat,z=i/\i<=l.length/\((∀ r ∈ l,Q3a r=true)↔∀ r ∈ l.drop i,Q3a r=true)) (fun z=>l.length-z.toNat) (fun g z j m=>?_) ⟨0,rfl,by omega,by simp⟩ (by simp;omega);obtain ⟨i,rfl,n,e⟩:=j
  unfold Z4Y;simp only
  refine Q8 (fun c=>?_) (fun c=>?_)
  ·have c:i<l.length:=by simpa using c
   rw [Y9h (p:=fun r=>Q3a r=true) c] at e;refine Z5 (k:=?_)
   refine Q4 (Z3Y _ _) ?_;refine Q8 (fun b=>?_) (fun b=>?_)
   ·have b:Q3a (gl l i)=false:=by simpa using b
    rw [Q8I fun f=>by have:=(e.1 f.2.1).1;rw [b] at this;cases this]
   ·have b:Q3a (gl l i)=true:=by simpa using b
    refine Z5 (k:=?_);exact m _ ⟨i+1,by omega,c,e.trans ⟨fun h=>h.2,fun h=>⟨b,h⟩⟩⟩ (by omega)
  ·have c:¬ i<l.length:=by simpa using c
   rw [List.drop_of_length_le (by omega)] at e;unfold Z1m
   refine Q4 (Z1N d (by simp only;omega)) ?_;refine Q4 (Z5a d (by unfold LIM;simp only;omega)) ?_
   simp only
   by_cases hc:cn (inR l)=l
   ·rw [decide_eq_true hc,Q1P ⟨h,e.2 (by simp),(Z0T l).2 hc⟩]
   ·rw [decide_eq_false hc,Q8I fun f=>hc ((Z0T l).1 f.2.2)]
theorem Z5f {F:Nat} (l:List Rect):Q7l F l=some (if 120<l.length then (⟨[]⟩,1) else (⟨l⟩,0)):=by
 unfold Q7l;refine Q8 (fun h=>?_) (fun h=>?_)
 ·have h:120<l.length:=by simp at h;omega
  rw [if_pos h]
 ·have h:¬ 120<l.length:=by simp at h;omega
  rw [if_neg h]
theorem Y3X {F:Nat} (hF:BIG<=F) {l:List Rect} (hl:l.length<=120) (hp:∀ r ∈ l,Q3a r=true):Z5e F l=some (if 120<(cn (inR l)).length then (⟨[]⟩,1) else (⟨cn (inR l)⟩,0)):=by
 have b:=hF;unfold BIG at hF
 unfold Z5e;refine Q9 (by simp;omega) ?_
 refine Y7 (fun z:Int=>∃ i:Nat,z=i/\i<=l.length) (fun z=>l.length-z.toNat) (fun c z d e=>?_) ⟨0,rfl,by omega⟩ (by simp;omega);obtain ⟨i,rfl,f⟩:=d
 unfold Z9B;refine Q8 (fun a=>?_) (fun a=>?_)
 ·have a:i<l.length:=by simpa using a
  refine Z5 (k:=?_);refine Q4 (Z3Y _ _) ?_
  refine Q9 (by rw [Int.toNat_natCast,hp _ (V6 a)];rfl) ?_;refine Z5 (k:=?_)
  exact e _ ⟨i+1,by omega,a⟩ (by omega)
 ·unfold Z5d
  refine Q4 (Z1N b (by omega)) ?_;refine Q4 (Z5f _) ?_
  rfl
end
section
open Go.Sort
def Srt (l:List Int):Prop:=l.Pairwise (· <= ·)
theorem Y7O {l:List Int} (hl:l.length<=LIM):∃ r,Z6s l=some r/\Srt r/\(∀ v,v ∈ r↔v ∈ l)/\r.length=l.length:=by
 refine ⟨l.mergeSort fun x y=>decide (x<=y),by unfold Z6s;rw [if_pos hl],?_,fun v=>List.mem_mergeSort,List.length_mergeSort l⟩;have:=List.pairwise_mergeSort (le:=fun x y:Int=>decide (x<=y)) (fun a b c e d=>by simp at *;omega) (fun a b=>by simp;omega) l
 exact this.imp fun h=>by simpa using h
def dd:List Int->List Int
 | []=>[]
 | [a]=>[a]
 | a::b::l=>if a=b then dd (b::l) else a::dd (b::l)
theorem Y0r (l:List Int) (x:Int):dd (l++[x])=if l.getLast?=some x then dd l else dd l++[x]:=by
 match l with
 | []=>simp [dd]
 | [a]=>by_cases h:a=x <;> simp [dd,h]
 | a::b::l=>
  have c:=Y0r (b::l) x;have e:(a::b::l).getLast?=(b::l).getLast?:=by simp [List.getLast?_cons]
  rw [e]
  by_cases h:a=b
  ·simp only [List.cons_append,dd,h,if_true] at c ⊢
   exact c
  ·simp only [List.cons_append,dd,h,if_false] at c ⊢
   rw [c];split <;> rfl
theorem Y3p (l:List Int) (v:Int):v ∈ dd l↔v ∈ l:=by
 match l with
 | []=>simp [dd]
 | [a]=>simp [dd]
 | a::b::l=>
  have c:=Y3p (b::l) v;unfold dd
  split
  ·rename_i h;subst h;rw [c];simp
  ·rw [List.mem_cons,c,List.mem_cons (a:=v) (b:=a)]
theorem Y5D (l:List Int) (h:Srt l):Asc (dd l):=by
 match l with
 | []=>exact .nil
 | [a]=>exact List.pairwise_singleton _ _
 | a::b::l=>
  obtain ⟨g,d⟩:=List.pairwise_cons.1 h;have e:=Y5D (b::l) d
  unfold dd;split
  ·exact e
  ·rename_i f
   refine List.pairwise_cons.2 ⟨fun v c=>?_,e⟩;rw [Y3p] at c
   have:=g b (by simp)
   rcases List.mem_cons.1 c with rfl|c
   ·omega
   ·have:=(List.pairwise_cons.1 d).1 v c;omega
theorem Y5C (l:List Int):(dd l).length<=l.length:=by
 match l with
 | []=>simp [dd]
 | [a]=>simp [dd]
 | a::b::l=>
  have c:=Y5C (b::l);unfold dd
  split
  ·simp at c ⊢;omega
  ·simp at c ⊢;omega
theorem Y2D {l:List Int} {i:Nat} (h:i<l.length):(l.take (i+1)).getLast?=some (gl l i):=by rw [y3 h];simp
theorem Z9h {α:Type} [Emb α] (l:List α) (i j:Nat) (x:α) (h:i<l.length):gl (l.set i x) j=if i=j then x else gl l j:=by
 simp only [gl,List.getD_eq_getElem?_getD,List.getElem?_set]
 by_cases hij:i=j
 ·subst hij;simp [h]
 ·simp [hij]
theorem Z4y {α:Type} (l:List α) (i n:Nat) (x:α) (h:n<=i):(l.set i x).take n=l.take n:=by
 apply List.ext_getElem?;intro j
 simp only [List.getElem?_take,List.getElem?_set];split
 ·rw [if_neg (by omega)]
 ·rfl
theorem Y0G {α:Type} [Emb α] (l:List α) (k n:Nat) (h:k<=l.length):(clr l (0+k) n).take k=l.take k:=by
 apply List.ext_getElem?;intro j
 simp only [List.getElem?_take,clr];split
 ·rename_i a
  have:j<l.length:=by omega
  simp only [List.getElem?_map,List.getElem?_range this,Option.map_some];rw [if_neg (by omega),z7 this,List.getElem?_eq_getElem this]
 ·rfl
theorem Y3x {α:Type} [Emb α] (l:List α) (lo n:Nat):(clr l lo n).length=l.length:=by simp [clr]
theorem Q8A {F:Nat} (hF:BIG<=F) {l:List Int} (hl:l.length<=LIM):Q0U F l=some (dd l):=by
 have J:=hF;unfold BIG at hF;unfold LIM at hl
 unfold Q0U;refine Q8 (fun h=>?_) (fun h=>?_)
 ·have h:l.length<2:=by simp at h;omega
  match l,h with
  | [],_=>rfl
  | [a],_=>rfl
 ·have h:2<=l.length:=by simp at h;omega
  refine Y7 (fun z:Int=>∃ k:Nat,z=k/\1<=k/\k<=l.length/\dd (l.take k)=l.take k) (fun z=>l.length-z.toNat) (fun y z x H=>?_) ⟨1,rfl,by omega,by omega,?_⟩ (by simp;omega)
  ·obtain ⟨k,rfl,D,N,v⟩:=x
   unfold Q8C;refine Q8 (fun m=>?_) (fun m=>?_)
   ·have m:k<l.length:=by simpa using m
    refine Z5 (k:=?_);refine Z5 (k:=?_)
    refine Z5 (k:=?_);have I:((k:Int)-1).toNat=k-1:=by omega
    rw [I];simp only [Int.toNat_natCast]
    have f:(l.take k).getLast?=some (gl l (k-1)):=by
     have:=Y2D (l:=l) (i:=k-1) (by omega)
     rwa [show k-1+1=k from by omega] at this
    refine Q8 (fun n=>?_) (fun n=>?_)
    ·have n:gl l k=gl l (k-1):=by simpa using n
     refine Z5 (k:=?_);have B:dd (l.take (k+1))=l.take k:=by rw [y3 m,Y0r,f,if_pos (by rw [n]),v]
     refine Y7 (fun z:Int×Int×List Int=>∃ (q r:Nat) (d:List Int),z=((q:Int),(r:Int),d)/\1<=r/\k+r<=l.length/\q+1<=k+r/\1<=q/\d.length=l.length/\(∀ j,q<=j->gl d j=gl l j)/\d.take q=dd (l.take (k+r)))
      (fun z=>l.length-z.2.1.toNat) (fun w z x o=>?_) ⟨k,1,l,rfl,by omega,by omega,by omega,by omega,rfl,fun _ _=>rfl,B.symm⟩ (by simp only;omega)
     obtain ⟨q,r,d,rfl,M,C,G,E,t,g,p⟩:=x;simp only at o ⊢
     unfold Q8B;simp only [Int.toNat_natCast,Nat.zero_add]
     refine Q8 (fun s=>?_) (fun s=>?_)
     ·have s:r<l.length-k:=by simp at s;omega
      refine Z5 (k:=?_);refine Z5 (k:=?_)
      refine Z5 (k:=?_);refine Z5 (k:=?_)
      have K:((r:Int)-1).toNat=r-1:=by omega
      rw [K];refine Z5 (k:=?_)
      rw [g (k+r) (by omega),g (k+(r-1)) (by omega)];have A:(l.take (k+r)).getLast?=some (gl l (k+(r-1))):=by
       have:=Y2D (l:=l) (i:=k+(r-1)) (by omega)
       rwa [show k+(r-1)+1=k+r from by omega] at this
      have u:dd (l.take (k+r+1))=if gl l (k+(r-1))=gl l (k+r) then dd (l.take (k+r)) else dd (l.take (k+r))++[gl l (k+r)]:=by
       rw [y3 (by omega),Y0r,A];simp
      refine Q8 (fun c=>?_) (fun c=>?_)
      ·have c:gl l (k+r)≠gl l (k+(r-1)):=by simpa using c
       repeat (refine Z5 (k:=?_))
       refine o _ ⟨q+1,r+1,d.set q (gl l (k+r)),rfl,by omega,by omega,by omega,by omega,by simp [t],fun j L=>?_,?_⟩ (by simp only;omega)
       ·rw [Z9h _ _ _ _ (by omega),if_neg (by omega)];exact g j (by omega)
       ·rw [show k+(r+1)=k+r+1 from rfl,u,if_neg (fun e=>c e.symm), <-p,y3 (by simp;omega),Z4y _ _ _ _ (Nat.le_refl _),Z9h _ _ _ _ (by omega),if_pos rfl]
      ·have c:gl l (k+r)=gl l (k+(r-1)):=by simpa using c
       unfold Q2n;refine Z5 (k:=?_)
       refine o _ ⟨q,r+1,d,rfl,by omega,by omega,by omega,by omega,t,g,?_⟩ (by simp only;omega);rw [show k+(r+1)=k+r+1 from rfl,u,if_pos c.symm,p]
     ·have s:¬ r<l.length-k:=by simp at s;omega
      unfold Q4J;simp only [Int.toNat_natCast,Y3x]
      refine Z5 (k:=?_);refine Z5 (k:=?_)
      rw [Y0G _ _ _ (by omega),p,List.take_of_length_le (by omega)]
    ·have n:gl l k≠gl l (k-1):=by simpa using n
     unfold Q4I;refine Z5 (k:=?_)
     refine H _ ⟨k+1,by omega,by omega,m,?_⟩ (by omega);rw [y3 m,Y0r,f,if_neg (fun e=>n (by simpa using e.symm)),v]
   ·have m:¬ k<l.length:=by simpa using m
    have:k=l.length:=by omega
    subst this;rw [List.take_length] at v
    unfold Q4H;rw [v]
  ·match l,h with
   | a::b::l,_=>rfl
end
section
open Go.Sort
def Y2c (l:List Rect):List Int:=l.flatMap fun r=>[r.w_,r.H_]
def Z5l (ls:List (List Rect)):List Int:=ls.flatMap Y2c
def Y2h (ls:List (List Rect)):List Int:=dd ((Z5l ls).mergeSort fun x y=>decide (x<=y))
theorem Y7N (l:List Int):Srt (l.mergeSort fun x y=>decide (x<=y)):=by
 have:=List.pairwise_mergeSort (le:=fun x y:Int=>decide (x<=y)) (fun a b c e d=>by simp at *;omega) (fun a b=>by simp;omega) l
 exact this.imp fun h=>by simpa using h
theorem Y4v (ls:List (List Rect)):Asc (Y2h ls):=Y5D _ (Y7N _)
theorem Y4c (ls:List (List Rect)) (v:Int):v ∈ Y2h ls↔∃ l ∈ ls,∃ r ∈ l,v=r.w_\/v=r.H_:=by
 unfold Y2h;rw [Y3p,List.mem_mergeSort]
 simp [Z5l,Y2c]
theorem Y8n (l:List Rect):(Y2c l).length=2*l.length:=by
 induction l with
 | nil=>rfl
 | cons r l ih=>
  have:(Y2c (r::l)).length=2+(Y2c l).length:=by simp [Y2c];omega
  rw [this,ih,List.length_cons];omega
def tot (ls:List (List Rect)):Nat:=(ls.map List.length).sum
theorem Y7l (ls:List (List Rect)):(Z5l ls).length=2*tot ls:=by
 induction ls with
 | nil=>rfl
 | cons l ls ih=>
  have:(Z5l (l::ls)).length=(Y2c l).length+(Z5l ls).length:=by simp [Z5l]
  rw [this,ih,Y8n];simp [tot];omega
theorem Y4u (ls:List (List Rect)):(Y2h ls).length<=2*tot ls:=by
 unfold Y2h;have:=Y5C ((Z5l ls).mergeSort fun x y=>decide (x<=y))
 rw [List.length_mergeSort,Y7l] at this;exact this
theorem Z4M {F:Nat} (hF:BIG<=F) {ls:List (List Rect)} (h:tot ls<=1000000000) (hn:ls.length<=1000000):Q7j F ls=some (Y2h ls):=by
 have g:=hF;unfold BIG at hF
 unfold Q7j;refine (Z1q (l:=ls) (σ:=List Int) (fun b a=>a.length+2*tot b<=2000000000) (fun b a=>some (dd ((a++Z5l b).mergeSort fun x y=>decide (x<=y))))
  (fun e i a n d q=>?_) (fun e a d=>?_) (by omega) (by simp;omega)).trans rfl
 ·unfold Z1e
  refine Z8 (Z0q n) ?_;refine Z5 (k:=?_)
  simp only [Int.toNat_natCast];generalize hl:gl ls i=l at *
  have p:tot (l::ls.drop (i+1))=l.length+tot (ls.drop (i+1)):=by simp [tot]
  rw [p] at d;refine (Z1q (l:=l) (σ:=List Int) (fun b a=>a.length+2*b.length+2*tot (ls.drop (i+1))<=2000000000) (fun b a=>some (dd ((a++Y2c b++Z5l (ls.drop (i+1))).mergeSort fun x y=>decide (x<=y))))
   (fun c j a m d f=>?_) (fun c a d=>?_) (by omega) (by omega)).trans ?_
  ·simp only
   unfold Z1d;simp only [Int.toNat_natCast,hl]
   refine Z8 (Z0q m) ?_;simp only [List.length_cons] at d
   refine Z5 (k:=?_);refine Z5 (k:=?_)
   refine Z5 (k:=?_);rw [f _ (by simp only [List.length_append,List.length_cons,List.length_nil];omega)]
   simp [Y2c]
  ·simp only
   unfold Z1d;simp only [Int.toNat_natCast,hl]
   refine Q9 (Q2V _) ?_;unfold Z1c
   refine Z5 (k:=?_);rw [q _ (by simp only [List.length_nil] at d;omega)]
   simp [Y2c]
  ·simp [Z5l]
 ·simp only
  unfold Z1e;refine Q9 (Q2V _) ?_
  unfold Z1b;have d:a.length<=2000000000:=by simp [tot] at d;omega
  have o:Z6s a=some (a.mergeSort fun x y=>decide (x<=y)):=by unfold Z6s;rw [if_pos (by unfold LIM;omega)]
  refine Q4 o ?_;refine Q4 (Q8A g (by rw [List.length_mergeSort];unfold LIM;omega)) ?_
  simp [Z5l]
theorem Q7a (F:Nat) (a b:Int):Q1y F a b=some (if a<b then -1 else if b<a then 1 else 0):=by
 unfold Q1y Q6z;refine Q4 rfl (Q4 rfl ?_)
 refine Q9 (by simp) (Q9 (by simp) ?_);refine Q8 (fun h=>?_) (fun h=>?_)
 ·have h:a<b:=by simpa using h
  rw [if_pos h]
 ·have h:¬ a<b:=by simpa using h
  rw [if_neg h];refine Q8 (fun h=>?_) (fun h=>?_)
  ·have h:b<a:=by simpa using h
   rw [if_pos h]
  ·have h:¬ b<a:=by simpa using h
   rw [if_neg h]
def cfL (a b:Span):Int:=if a.L_<b.L_ then -1 else if b.L_<a.L_ then 1 else 0
theorem Y0k (a b:Span):ltC cfL a b=decide (a.L_<b.L_):=by
 unfold ltC cfL
 by_cases h:a.L_<b.L_
 ·simp [h]
 ·by_cases h2:b.L_<a.L_ <;> simp [h,h2]
theorem W1w:SWO (ltC cfL) where
 irrefl x:=by rw [Y0k];simp
 trans x y z h1 h2:=by rw [Y0k] at *;simp at *;omega
 ntrans x y z h1 h2:=by rw [Y0k] at *;simp at *;omega
theorem Y7f {α:Type} [Emb α] (cf:α->α->Int) (hO:SWO (ltC cf)) (l:List α):(Q8X cf l).Perm l/\(Q8X cf l).Pairwise fun a b=>ltC cf b a=false:=by
 letI inst:Inhabited α:=⟨Emb.d⟩
 have h:=pdq_sorts (ltC cf) hO l.toArray 0 l.length (Lib.bitLen l.length) true true (Nat.zero_le _) (by simp) (.inl rfl);have c:(pdq (ltC cf) l.toArray 0 l.length (Lib.bitLen l.length) true true).size=l.length:=by simpa using h.1.1
 constructor
 ·have:=h.1.2.2
  simp only [List.extract_toArray,List.extract_eq_take_drop,Nat.sub_zero,List.drop_zero,List.take_length] at this;have e:((pdq (ltC cf) l.toArray 0 l.length (Lib.bitLen l.length) true true).extract 0 l.length).toList=Q8X cf l:=by
   unfold Q8X;generalize pdq (ltC cf) l.toArray 0 l.length (Lib.bitLen l.length) true true=d at c
   rw [<-c];simp
  rw [e] at this;exact this
 ·rw [List.pairwise_iff_getElem]
  intro i j n m g;have k : i<(pdq (ltC cf) l.toArray 0 l.length (Lib.bitLen l.length) true true).size:=by simpa [Q8X] using n
  have f : j<(pdq (ltC cf) l.toArray 0 l.length (Lib.bitLen l.length) true true).size:=by simpa [Q8X] using m
  have:=h.2 i j (Nat.zero_le _) g (by omega)
  rw [getElem!_pos _ j f,getElem!_pos _ i k] at this;simpa [Q8X] using this
def flt (l:List Rect) (y:Int):List Span:=(l.filter fun r=>decide (r.w_<=y)&&decide (y<r.H_)).map fun r=>⟨r.L_,r.R_⟩
theorem Y4p (r:Rect) (l:List Rect) (y:Int):flt (r::l) y=if (decide (r.w_<=y)&&decide (y<r.H_))=true then ⟨r.L_,r.R_⟩::flt l y else flt l y:=by
 unfold flt;rw [List.filter_cons]
 split <;> rfl
theorem Y9Z (l:List Rect) (x y:Int):inS (flt l y) x=inR l x y:=by
 induction l with
 | nil=>rfl
 | cons r l ih=>
  have e:inR (r::l) x y=(r.has x y||inR l x y):=rfl;rw [Y4p,e, <-ih]
  split
  ·rename_i h
   simp only [Bool.and_eq_true,decide_eq_true_eq] at h;simp [inS,Span.has,Rect.has,h.1,h.2]
  ·rename_i h
   have:r.has x y=false:=Y1p (by simp at h;omega)
   rw [this,Bool.false_or]
theorem W0g (l:List Rect) (y:Int):(flt l y).length<=l.length:=by
 unfold flt;rw [List.length_map];exact List.length_filter_le _ _
theorem W0f {l:List Rect} (h:∀ r ∈ l,r.L_<r.R_) (y:Int):∀ s ∈ flt l y,s.L_<s.R_:=by
 intro s a;obtain ⟨r,b,rfl⟩:=List.mem_map.1 a
 exact h r (List.mem_filter.1 b).1
theorem Y0m (l m:List Span) (x:Int):inS (l++m) x=(inS l x||inS m x):=by simp [inS]
theorem Y8v {l m:List Span} (h:l.Perm m) (x:Int):inS l x=inS m x:=by
 rw [Bool.eq_iff_iff];simp only [inS,List.any_eq_true]
 constructor
 ·rintro ⟨s,a,b⟩;exact ⟨s,h.mem_iff.1 a,b⟩
 ·rintro ⟨s,a,b⟩;exact ⟨s,h.mem_iff.2 a,b⟩
theorem W0c (a b:Int):Q0A a b=if a<b then b else a:=rfl
theorem Y6Z {F:Nat} (hF:BIG<=F) {S:List Span} (hl:S.length<=1000000000) (hpos:∀ s ∈ S,s.L_<s.R_) (hs:S.Pairwise fun a b=>a.L_<=b.L_) :
  Z6 (fun again (z:Int×List Span)=>Z2a F S again z.1 z.2) F (0,[])=some (spn fun x=>inS S x):=by
 unfold BIG at hF;refine Y7 (fun z:Int×List Span=>∃ (i:Nat) (d:List Span),z=((i:Int),d)/\i<=S.length/\d.length<=i/\SpOk d/\(∀ x,inS d x=inS (S.take i) x)/\∀ o ∈ d,∀ j,i<=j->j<S.length->o.L_<=(gl S j).L_)
  (fun z=>S.length-z.1.toNat) (fun again z I A=>?_) ⟨0,[],rfl,by omega,Nat.le_refl _,.nil,fun x=>by simp,fun o c=>by cases c⟩ (by simp only;omega)
 obtain ⟨i,d,rfl,R,y,f,v,l⟩:=I;simp only at A ⊢
 unfold Z2a;refine Q8 (fun h=>?_) (fun h=>?_)
 ·have h:i<S.length:=by simpa using h
  refine Z5 (k:=?_);simp only [Int.toNat_natCast]
  have H:=hpos _ (V6 h);have r:∀ j,i+1<=j->j<S.length->(gl S i).L_<=(gl S j).L_:=by
   intro j w g;rw [z7 h,z7 g]
   exact List.pairwise_iff_getElem.1 hs i j h g (by omega)
  have n : ∀ x,inS (S.take (i+1)) x=(inS d x||(gl S i).has x):=by
   intro x;rw [y3 h,Y0m,v];simp [inS]
  have m:(∀ o,d.getLast?=some o->o.R_<(gl S i).L_)->Q4r F S i d again false=some (spn fun x=>inS S x):=by
   intro q;unfold Q4r
   refine Q9 rfl ?_;refine Z5 (k:=?_)
   unfold Q6m;refine Z5 (k:=?_)
   simp only [Int.toNat_natCast];refine A _ ⟨i+1,d++[gl S i],rfl,h,by simp;omega,⟨fun s hs=>?_,?_⟩,fun x=>?_,fun o c j w g=>?_⟩ (by simp only;omega)
   ·rcases List.mem_append.1 hs with hs|hs
    ·exact f.pos s hs
    ·rw [List.mem_singleton.1 hs];exact H
   ·refine List.pairwise_append.2 ⟨f.ch,List.pairwise_singleton _ _,fun o c b B=>?_⟩
    rw [List.mem_singleton.1 B];rcases List.eq_nil_or_concat d with C|⟨t,e,u⟩
    ·rw [C] at c;cases c
    ·rw [List.concat_eq_append] at u
     subst u;have L:=q e (by simp)
     rcases List.mem_append.1 c with c|c
     ·have Q:=(List.pairwise_append.1 f.ch).2.2 o c e (by simp)
      have P:=f.pos e (by simp);omega
     ·rw [List.mem_singleton.1 c];exact L
   ·rw [n,Y0m];simp [inS]
   ·rcases List.mem_append.1 c with c|c
    ·exact l o c j (by omega) g
    ·rw [List.mem_singleton.1 c];exact r j w g
  rcases List.eq_nil_or_concat d with C|⟨t,e,u⟩
  ·subst C
   refine Q9 rfl ?_;exact m fun o c=>by simp at c
  ·rw [List.concat_eq_append] at u
   subst u;have p:(t ++ [e]).length=t.length+1:=by simp
   have E:(((t.length+1:Nat):Int)-1).toNat=t.length:=by omega
   rw [p] at y ⊢;refine Z8 (by simp) ?_
   refine Z5 (k:=?_);refine Z5 (k:=?_)
   rw [E,Z3B _ _ rfl]
   by_cases hc:(gl S i).L_<=e.R_
   ·have D:decide ((gl S i).L_<=e.R_)=true:=by simpa using hc
    rw [D];unfold Q4r
    refine Z8 rfl ?_;simp only [p]
    refine Z5 (k:=?_);refine Z5 (k:=?_)
    refine Z5 (k:=?_);refine Z5 (k:=?_)
    rw [E,Z3B _ _ rfl,Z7G _ _ _ rfl];unfold Q6m
    refine Z5 (k:=?_);simp only [Int.toNat_natCast]
    have M:e.L_<=(gl S i).L_:=l e (by simp) i (Nat.le_refl _) h;have J:=f.pos e (by simp)
    have N:e.R_<=Q0A e.R_ (gl S i).R_/\(gl S i).R_<=Q0A e.R_ (gl S i).R_/\(Q0A e.R_ (gl S i).R_=e.R_\/Q0A e.R_ (gl S i).R_=(gl S i).R_):=by
     rw [W0c];split <;> omega
    refine A _ ⟨i+1,t ++ [⟨e.L_,Q0A e.R_ (gl S i).R_⟩],rfl,h,by simp;omega,⟨fun s hs=>?_,?_⟩,fun x=>?_,fun o c j w g=>?_⟩ (by simp only;omega)
    ·rcases List.mem_append.1 hs with hs|hs
     ·exact f.pos s (by simp [hs])
     ·rw [List.mem_singleton.1 hs];simp only;omega
    ·obtain ⟨K,_,O⟩:=List.pairwise_append.1 f.ch
     refine List.pairwise_append.2 ⟨K,List.pairwise_singleton _ _,fun o c b B=>?_⟩;rw [List.mem_singleton.1 B]
     exact O o c e (by simp)
    ·rw [n,Y0m,Y0m,Bool.or_assoc]
     congr 1
     have G:∀ (s:Span) x,inS [s] x=s.has x:=fun s x=>by simp [inS]
     rw [G,G,Bool.eq_iff_iff];simp only [Span.has,Bool.or_eq_true,Bool.and_eq_true,decide_eq_true_eq]
     omega
    ·rcases List.mem_append.1 c with c|c
     ·exact l o (by simp [c]) j (by omega) g
     ·rw [List.mem_singleton.1 c];exact l e (by simp) j (by omega) g
   ·have D:decide ((gl S i).L_<=e.R_)=false:=by simpa using hc
    rw [D];exact m fun o c=>by simp at c;subst c;omega
 ·have h:¬ i<S.length:=by simpa using h
  have:i=S.length:=by omega
  subst this;unfold Z1Z
  rw [Z8H f fun x=>by rw [v,List.take_length]]
theorem Z1Y {F:Nat} (hF:BIG<=F) {l:List Rect} (hl:l.length<=1000000000) (hpos:∀ r ∈ l,r.L_<r.R_) (y:Int):Q6T F l y=some (spn fun x=>inR l x y):=by
 have o:=hF;unfold BIG at hF
 unfold Q6T;have p:∀ c:List Span,c=flt l y->Q9o F c=some (spn fun x=>inR l x y):=by
  rintro c rfl;unfold Q9o
  have t:=W0g l y;have j:Z9x (flt l y) (fun w v=>Q7N F w v)=some (Q8X cfL (flt l y)):=
   Y7P cfL (by unfold LIM;omega) W1w fun a b=>by unfold Q7N;rw [Q7a];rfl
  refine Q4 j ?_;obtain ⟨m,n⟩:=Y7f cfL W1w (flt l y)
  have e:(fun x=>inR l x y)=fun x=>inS (Q8X cfL (flt l y)) x:=by funext x;rw [Y8v m,Y9Z]
  rw [e];refine Y6Z o (by rw [m.length_eq];omega) (fun s n=>W0f hpos y s (m.mem_iff.1 n)) (n.imp fun {a b} h=>?_)
  rw [Y0k] at h;simp at h;exact h
 refine (Z1q (l:=l) (σ:=List Span) (fun d c=>c.length+d.length<=1000000000/\c++flt d y=flt l y) (fun d c=>some (spn fun x=>inR l x y))
  (fun f i c u g q=>?_) (fun f c g=>?_) (by omega) ⟨by simp;omega,rfl⟩)
 ·simp only
  unfold Z2b;refine Z8 (Z0q u) ?_
  refine Z5 (k:=?_);rw [Q3V (Q6o F l i c f)]
  simp only [Int.toNat_natCast];rw [Y4p] at g
  simp only [List.length_cons] at g;unfold Q6o
  refine Q8 (fun h=>?_) (fun h=>?_)
  ·rw [if_pos h] at g
   refine Z5 (k:=?_);unfold Q6n
   refine Z5 (k:=?_);simp only [Int.toNat_natCast]
   exact q _ ⟨by simp only [List.length_append,List.length_cons,List.length_nil];omega,by rw [<-g.2];simp⟩
  ·rw [h] at g
   unfold Q6n;refine Z5 (k:=?_)
   exact q _ ⟨by omega,by simpa using g.2⟩
 ·simp only
  unfold Z2b;refine Q9 (Q2V _) ?_
  exact p c (by have:=g.2;simpa [flt] using this)
end
theorem Y9H (r s:Span):((r.L_==s.L_)&&((r.R_==s.R_)&&true))=decide (r=s):=by
 cases r;cases s
 rw [Bool.eq_iff_iff,decide_eq_true_iff];simp
theorem Z4A {F:Nat} (hF:BIG<=F) {l m:List Span} (hm:m.length<=LIM):Q2A F l m=some (decide (l=m)):=by
 unfold BIG at hF;unfold LIM at hm
 unfold Q2A;refine Q8 (fun h=>?_) (fun h=>?_)
 ·have h:l.length≠m.length:=by simp at h;omega
  rw [decide_eq_false fun e=>h (by rw [e])]
 ·have h:l.length=m.length:=by simp at h;omega
  refine Y7 (fun z:Int=>∃ i:Nat,z=i/\i<=l.length/\decide (l=m)=decide (l.drop i=m.drop i)) (fun z=>l.length-z.toNat) (fun d z f g=>?_) ⟨0,rfl,by omega,by simp⟩ (by simp;omega);obtain ⟨i,rfl,j,c⟩:=f
  unfold Q9v;refine Q8 (fun b=>?_) (fun b=>?_)
  ·have b:i<l.length:=by simpa using b
   rw [Z3w l m h i b] at c;refine Z5 (k:=?_)
   refine Z5 (k:=?_);rw [Y9H]
   refine Q8 (fun a=>?_) (fun a=>?_)
   ·have a:decide (gl l i=gl m i)=false:=by simpa using a
    rw [c,a];rfl
   ·have a:decide (gl l i=gl m i)=true:=by simpa using a
    rw [a,Bool.true_and] at c;refine Z5 (k:=?_)
    exact g _ ⟨i+1,by omega,b,c⟩ (by omega)
  ·have b:¬ i<l.length:=by simpa using b
   have:i=l.length:=by omega
   rw [c,List.drop_of_length_le (by omega),List.drop_of_length_le (by omega),decide_eq_true rfl];rfl
theorem Z4B {F:Nat} (hF:BIG<=F) {l m:List Rect} (hm:m.length<=LIM):Q2B F l m=some (decide (l=m)):=by
 unfold BIG at hF;unfold LIM at hm
 unfold Q2B;refine Q8 (fun h=>?_) (fun h=>?_)
 ·have h:l.length≠m.length:=by simp at h;omega
  rw [decide_eq_false fun e=>h (by rw [e])]
 ·have h:l.length=m.length:=by simp at h;omega
  refine Y7 (fun z:Int=>∃ i:Nat,z=i/\i<=l.length/\decide (l=m)=decide (l.drop i=m.drop i)) (fun z=>l.length-z.toNat) (fun d z f g=>?_) ⟨0,rfl,by omega,by simp⟩ (by simp;omega);obtain ⟨i,rfl,j,c⟩:=f
  unfold Q9x;refine Q8 (fun b=>?_) (fun b=>?_)
  ·have b:i<l.length:=by simpa using b
   rw [Z3w l m h i b] at c;refine Z5 (k:=?_)
   refine Z5 (k:=?_);rw [Y6e]
   refine Q8 (fun a=>?_) (fun a=>?_)
   ·have a:decide (gl l i=gl m i)=false:=by simpa using a
    rw [c,a];rfl
   ·have a:decide (gl l i=gl m i)=true:=by simpa using a
    rw [a,Bool.true_and] at c;refine Z5 (k:=?_)
    exact g _ ⟨i+1,by omega,b,c⟩ (by omega)
  ·have b:¬ i<l.length:=by simpa using b
   have:i=l.length:=by omega
   rw [c,List.drop_of_length_le (by omega),List.drop_of_length_le (by omega),decide_eq_true rfl];rfl
def Band.rn (b:Band):Rn (List Span):=⟨b.w_,b.H_,b.spans_⟩
def fl (l:List Band):List Rect:=flat (l.map Band.rn)
theorem Y3u (b:Band) (l:List Band):fl (b::l)=G4 b.rn++fl l:=rfl
theorem W1j (l:List Band) (N:Nat) (h:∀ b ∈ l,b.spans_.length<=N):(fl l).length<=l.length*N:=by
 induction l with
 | nil=>simp [fl,flat]
 | cons b l ih=>
  have e:=ih fun c a=>h c (by simp [a])
  have d:=h b (by simp);rw [Y3u,List.length_append,Q0w,List.length_cons,Nat.add_mul]
  simp only [Band.rn];omega
theorem Z9S {F:Nat} (hF:BIG<=F) {l:List Band} (hl:l.length<=1000000000) (hn:(fl l).length<=LIM) (hs:∀ b ∈ l,b.spans_.length<=1000000000):Q7K F l=some (fl l):=by
 unfold BIG at hF;unfold LIM at hn
 unfold Q7K;refine (Z1q (l:=l) (σ:=List Rect) (fun c a=>a.length+(fl c).length<=4294967296) (fun c a=>some (a++fl c)) (fun f i a m e o=>?_) (fun f a e=>?_) (by omega) (by simp;omega)).trans (by simp)
 ·unfold Z0j
  refine Z8 (Z0q m) ?_;refine Z5 (k:=?_)
  simp only [Int.toNat_natCast];have h:=hs _ (V6 m)
  rw [Y3u,List.length_append,Q0w] at e;rw [Y3u]
  generalize hb:gl l i=b at e h ⊢;have e:a.length+(b.spans_.length+(fl (l.drop (i+1))).length)<=4294967296:=e
  refine (Z1q (l:=b.spans_) (σ:=List Rect) (fun c a=>a.length+c.length+(fl (l.drop (i+1))).length<=4294967296) (fun c a=>some (a++(c.map (fun s=>(⟨s.L_,b.w_,s.R_,b.H_⟩:Rect))++fl (l.drop (i+1)))))
   (fun d j a n e g=>?_) (fun d a e=>?_) (by omega) (by omega)).trans rfl
  ·unfold Z0i
   simp only [Int.toNat_natCast,hb];refine Z8 (Z0q n) ?_
   simp only [List.length_cons] at e;refine Z5 (k:=?_)
   refine Z5 (k:=?_);refine Z5 (k:=?_)
   rw [g _ (by simp only [List.length_append,List.length_cons,List.length_nil];omega)];simp
  ·unfold Z0i
   simp only [Int.toNat_natCast,hb];refine Q9 (Q2V _) ?_
   unfold Z0h;refine Z5 (k:=?_)
   rw [o _ (by simpa using e)];simp
 ·unfold Z0j
  refine Q9 (Q2V _) ?_;simp [Z0g,fl,flat]
theorem Z3S {F:Nat} (hF:BIG<=F) {cs:List Int} {row:Int->Option (List Span)} {S:Int->Int->Bool} (hS:Y1O S) (hst:Step [] cs fun y=>spn fun x=>S x y) (hc:cs.length<=65536)
  (hrow:∀ y,row y=some (spn fun x=>S x y)) (hlen:∀ y,(spn fun x=>S x y).length<=65536):Q5C F cs row=some (cn S):=by
 have G:=hF;unfold BIG at hF
 unfold Q5C;have J:∀ c:List Band,Runs (c.map Band.rn)->(∀ t,atR [] (c.map Band.rn) t=spn fun x=>S x t)->c.length<=cs.length->(∀ b ∈ c,b.spans_.length<=65536)->Q6H F c=some (cn S):=by
  intro c R n H g;unfold Q6H
  have L:=W1j c 65536 g;have K:c.length*65536<=65536*65536:=Nat.mul_le_mul_right _ (by omega)
  refine Q4 (Z9S G (by omega) (by unfold LIM;omega) (fun b d=>by have:=g b d;omega)) ?_;have N:=(Step.cn hS hst (acc:=(c.map Band.rn).filter fun r=> !r.v.isEmpty) (R.filter _) (fun t=>by
   rw [R.atR_filter _ (fun r _ X=>by simpa using X)];exact n t) (fun b d=>by
   have:=(List.mem_filter.1 d).2
   intro B;rw [B] at this;simp at this)).1
  rw [N];congr 1
  have:∀ l:List (Rn (List Span)),flat l=flat (l.filter fun r=> !r.v.isEmpty):=by
   intro l
   induction l with
   | nil=>rfl
   | cons a l C=>
    rw [List.filter_cons];have e:flat (a::l)=G4 a++flat l:=rfl
    cases n:a.v with
    | nil=>
     have:G4 a=[]:=by simp [G4,n]
     rw [e,this,List.nil_append,C];simp
    | cons s v=>
     simp only [List.isEmpty_cons,Bool.not_false,if_true];have M:flat (a::l.filter fun r=> !r.v.isEmpty)=G4 a++flat (l.filter fun r=> !r.v.isEmpty):=rfl
     rw [e,M, <-C]
  exact this _
 refine Y7 (fun z:Int×List Band=>∃ (i:Nat) (c:List Band),z=((i:Int)+1,c)/\c.length<=i/\(∀ b ∈ c,b.spans_.length<=65536)/\((cs.length=0/\i=0)\/(i+1<=cs.length/\Bst [] (fun y=>spn fun x=>S x y) (c.map Band.rn) (gl cs i))))
  (fun z=>cs.length+1-z.1.toNat) (fun u z V C=>?_) ⟨0,[],rfl,Nat.le_refl _,fun b d=>(List.not_mem_nil d).elim,?_⟩ (by simp;omega)
 ·obtain ⟨i,c,rfl,H,g,w⟩:=V
  simp only at C ⊢;unfold Z3T
  rcases w with ⟨E,rfl⟩|⟨Y,D⟩
  ·have Q:c=[]:=List.eq_nil_of_length_eq_zero (by omega)
   subst Q;refine Q9 (by simp;omega) ?_
   exact J [] .nil (fun t=>(hst.empty E t).symm) (by simp) (fun b d=>by cases d)
  ·refine Q8 (fun f=>?_) (fun f=>?_)
   ·have f:i+1<cs.length:=by simp at f;omega
    have I:=hst.asc.at_lt (show i<i+1 by omega) f;have o:=hst.gap i f
    have T:((i:Int)+1-1).toNat=i:=by omega
    have M:((i:Int)+1).toNat=i+1:=by omega
    rw [T];refine Z5 (k:=?_)
    refine Z5 (k:=?_);refine Z5 (k:=?_)
    refine Z5 (k:=?_);refine Z5 (k:=?_)
    refine Q4 (hrow _) ?_;generalize n:(spn fun x=>S x (gl cs i))=v at *
    have P:v.length<=65536:=by rw [<-n];exact hlen _
    have h:(∀ q,(c.map Band.rn).getLast?=some q->q.hi=gl cs i->q.v≠v)->Q1w F cs ((i:Int)+1) c v u false=some (cn S):=by
     intro m;unfold Q1w
     refine Q9 rfl ?_;rw [T,M]
     refine Z5 (k:=?_);unfold Q4g
     refine Z5 (k:=?_);refine C _ ⟨i+1,c++[⟨gl cs i,gl cs (i+1),v⟩],by simp,by simp;omega,fun b d=>?_,.inr ⟨by omega,?_⟩⟩ (by simp only;omega)
     ·rcases List.mem_append.1 d with d|d
      ·exact g b d
      ·rw [List.mem_singleton.1 d];exact P
     ·rw [List.map_append]
      have:=D.add I (fun t L K=>(o t L K).trans n.symm) (fun a W B=>by rw [n];exact m a W B)
      rw [n] at this;exact this
    rcases List.eq_nil_or_concat c with E|⟨A,e,B⟩
    ·subst E
     refine Q9 rfl ?_;exact h fun q m=>by simp at m
    ·rw [List.concat_eq_append] at B
     subst B;have j:(A ++ [e]).length=A.length+1:=by simp
     have U:(((A.length+1:Nat):Int)-1).toNat=A.length:=by omega
     rw [j] at H ⊢;have p:gl (A ++ [e]) A.length=e:=Z3B _ _ rfl
     refine Z8 (by simp) ?_;refine Z5 (k:=?_)
     refine Z5 (k:=?_);rw [U,p]
     by_cases hh:e.H_=gl cs i
     ·refine Z8 (by simpa using hh) ?_
      refine Z5 (k:=?_);refine Z5 (k:=?_)
      refine Q4 (Z4A G (by unfold LIM;omega)) ?_
      by_cases hvv:e.spans_=v
      ·rw [decide_eq_true hvv]
       unfold Q1w;refine Z8 rfl ?_
       simp only [j];refine Z5 (k:=?_)
       refine Z5 (k:=?_);rw [U,p,Z7G _ _ _ rfl,M]
       unfold Q4g;refine Z5 (k:=?_)
       refine C _ ⟨i+1,A ++ [⟨e.w_,gl cs (i+1),e.spans_⟩],by simp,by simp;omega,fun b d=>?_,.inr ⟨by omega,?_⟩⟩ (by simp only;omega)
       ·rcases List.mem_append.1 d with d|d
        ·exact g b (by simp [d])
        ·rw [List.mem_singleton.1 d];exact g e (by simp)
       ·rw [List.map_append] at D ⊢
        exact D.grow (a:=e.rn) hh I fun t L K=>(o t L K).trans hvv.symm
      ·rw [decide_eq_false hvv]
       exact h fun q m _=>by rw [List.map_append] at m;simp at m;subst m;exact hvv
     ·refine Q9 (by simpa using hh) ?_
      exact h fun q m O=>by rw [List.map_append] at m;simp at m;subst m;exact absurd O hh
   ·have f:¬ i+1<cs.length:=by simp at f;omega
    exact J c D.runs (fun t=>hst.done (by omega) D t) (by omega) g
 ·by_cases E:cs.length=0
  ·exact .inl ⟨E,rfl⟩
  ·exact .inr ⟨by omega,hst.start (by omega)⟩
theorem Z9q (ls:List (List Rect)) {l:List Rect} (h:l ∈ ls):Y3C (Y2h ls) l:=fun r a=>⟨(Y4c ls _).2 ⟨l,h,r,a,.inl rfl⟩,(Y4c ls _).2 ⟨l,h,r,a,.inr rfl⟩⟩
theorem Y1l (l:List Rect) {ls:List (List Rect)} (h:l ∈ ls):Grid (Q8s l []) (Y2h ls) (inR l):=by
 have:=Grid.of (xs:=Q8s l []) (ys:=Y2h ls) (a:=l) (b:=[]) (Q8r l .nil) (Y4v ls)
  (fun r c=>⟨(Q0z l _ _).2 (.inr ⟨r,c,.inl rfl⟩),(Q0z l _ _).2 (.inr ⟨r,c,.inr rfl⟩)⟩) (fun r c=>by cases c) (Z9q ls h) (fun r c=>by cases c) (k:=fun p q=>p||q) rfl
 have e:(fun x y=>inR l x y||inR [] x y)=inR l:=by funext x y;simp [inR]
 rwa [e] at this
theorem Z0x {F:Nat} (hF:BIG<=F) {l:List Rect} (hl:l.length<=32768) (hpos:∀ r ∈ l,r.L_<r.R_):Q1Q F l=some (cn (inR l)):=by
 unfold Q1Q;have a:=Y1l l (ls:=[l]) (by simp)
 have c:tot [l]=l.length:=by simp [tot]
 have b:=Y4u [l];refine Q4 (Z4M hF (by omega) (by simp)) ?_
 refine Q4 (Z3S hF a.rows a.step (by omega) (fun y=>?_) (fun y=>?_)) rfl
 ·unfold Q3I
  exact Q4 (Z1Y hF (by omega) hpos y) rfl
 ·have:=(a.x y).spn_len
  have d:=Z3I (l:=l);omega
theorem Z1W {F:Nat} (hF:BIG<=F) {l:List Rect} {q:Rect->Option Bool} (p:Rect->Bool) (hl:l.length<=1000000000) (hq:∀ r ∈ l,q r=some (p r)):∃ i:Int,Q2k F l q=some i/\(0<=i↔l.any p=true):=by
 unfold BIG at hF;have b:∀ (n i:Nat),i<=l.length->l.length-i<n->∃ r:Int,Z6 (fun again (z:Int)=>U2 F l q again z) n (i:Int)=some r/\(0<=r↔(l.drop i).any p=true):=by
  intro n
  induction n with
  | zero=>intro i _ h;omega
  | succ n ih=>
   intro i m j;have d:Z6 (fun again (z:Int)=>U2 F l q again z) (n+1) (i:Int)=U2 F l q (Z6 (fun again (z:Int)=>U2 F l q again z) n) (i:Int):=rfl
   rw [d]
   by_cases h:i<l.length
   ·rw [Y1K h]
    by_cases a:p (gl l i)=true
    ·refine ⟨i,?_,by rw [a];simp⟩
     unfold U2;refine Z8 (Z0q h) ?_
     refine Z5 (k:=?_);exact Q4 (hq _ (V6 h)) (Z8 a rfl)
    ·have a:p (gl l i)=false:=by simpa using a
     obtain ⟨r,e,c⟩:=ih (i+1) h (by omega);refine ⟨r,?_,by rw [c,a];simp⟩
     unfold U2;refine Z8 (Z0q h) ?_
     refine Z5 (k:=?_);refine Q4 (hq _ (V6 h)) (Q9 a ?_)
     refine Z5 (k:=?_);exact e
   ·have:i=l.length:=by omega
    subst this;refine ⟨-1,?_,by simp⟩
    unfold U2;exact Q9 (Q2V _) rfl
 obtain ⟨r,g,f⟩:=b F 0 (Nat.zero_le _) (by omega);exact ⟨r,g,by simpa using f⟩
theorem Q1H {F:Nat} (hF:BIG<=F) {l:List Rect} {q:Rect->Option Bool} (p:Rect->Bool) (hl:l.length<=1000000000) (hq:∀ r ∈ l,q r=some (p r)):J0 F l q=some (l.any p):=by
 obtain ⟨i,b,a⟩:=Z1W hF p hl hq;unfold J0
 refine Q4 b ?_;congr 1
 rw [Bool.eq_iff_iff, <-a,decide_eq_true_iff]
theorem Z8J (F:Nat) (r:Rect):Q6k F r=some (Q3a r):=by
 unfold Q6k;rw [Q3V (U7 F),Q3V (U7 F),Q3V (U7 F),Q3V (U7 F),Q3V (U7 F)]
 rfl
theorem Q0o {F:Nat} (hF:BIG<=F) (a:Re_):y4 F a=some (Q3D a.t_):=by
 obtain ⟨l⟩:=a;simp only
 unfold y4;have b:=hF
 unfold BIG at hF;refine Q8 (fun h=>?_) (fun h=>?_)
 ·have h:120<l.length:=by simp at h;omega
  rw [Q8I fun d=>by have:=d.1;omega];rfl
 ·have h:l.length<=120:=by simp at h;omega
  refine Q4 (Q1H b (fun r=> !Q3a r) (by simp only;omega) (fun r _=>by unfold Q7M;rw [Z8J];rfl)) ?_;unfold Q6E
  refine Q8 (fun e=>?_) (fun e=>?_)
  ·rw [Q8I fun d=>?_]
   simp only [List.any_eq_true] at e;obtain ⟨r,c,g⟩:=e
   rw [d.2.1 r c] at g;cases g
  ·have f:∀ r ∈ l,Q3a r=true:=by
    intro r c;have:=List.any_eq_false.1 e r c
    simpa using this
   refine Q4 (Z0x b (by simp only;omega) (fun r c=>((Q0g r).1 (f r c)).2.1)) ?_;refine Q4 (Z4B b (by unfold LIM;simp only;omega)) ?_
   simp only
   by_cases hc:cn (inR l)=l
   ·rw [decide_eq_true hc,Q1P ⟨h,f,(Z0T l).2 hc⟩]
   ·rw [decide_eq_false hc,Q8I fun d=>hc ((Z0T l).1 d.2.2)]
def Z0P {α:Type} (p:α->Bool) (l:List α):Int:=if l.any p then (l.findIdx p:Int) else -1
theorem Z3E {α:Type} [Emb α] {l:List α} {p:α->Bool} {i:Nat} (h:i<l.length) (hb:∀ j,j<i->p (gl l j)=false) (hi:p (gl l i)=true):l.findIdx p=i:=by
 induction l generalizing i with
 | nil=>simp at h
 | cons a l ih=>
  rw [List.findIdx_cons]
  cases i with
  | zero=>
   have:p a=true:=hi
   rw [this];rfl
  | succ i=>
   have b:p a=false:=hb 0 (by omega);rw [b]
   have:=ih (i:=i) (by simpa using h) (fun j c=>hb (j+1) (by omega)) hi
   simp [this]
theorem Q6A {α:Type} [Emb α] {l:List α} {p:α->Bool} (h:∀ j,j<l.length->p (gl l j)=false):l.any p=false:=by
 rw [List.any_eq_false];intro x b
 obtain ⟨j,a,rfl⟩:=List.getElem_of_mem b;have:=h j a
 rw [z7 a] at this;simpa using this
theorem Z0H {F:Nat} (hF:BIG<=F) {l:List A2_} {q:A2_->Option Bool} (p:A2_->Bool) (hl:l.length<=1000000000) (hq:∀ r ∈ l,q r=some (p r)):Q0i F l q=some (Z0P p l):=by
 unfold BIG at hF;unfold Q0i
 refine Y7 (fun z:Int=>∃ i:Nat,z=i/\i<=l.length/\∀ j,j<i->p (gl l j)=false) (fun z=>l.length-z.toNat) (fun c z g m=>?_) ⟨0,rfl,by omega,fun j f=>by omega⟩ (by simp;omega);obtain ⟨i,rfl,n,b⟩:=g
 unfold Q4M;refine Q8 (fun h=>?_) (fun h=>?_)
 ·have h:i<l.length:=by simpa using h
  refine Z5 (k:=?_);refine Q4 (hq _ (V6 h)) ?_
  simp only [Int.toNat_natCast];refine Q8 (fun a=>?_) (fun a=>?_)
  ·have d:l.any p=true:=List.any_eq_true.2 ⟨_,V6 h,a⟩
   rw [Z0P,if_pos d,Z3E h b a]
  ·refine Z5 (k:=?_)
   refine m _ ⟨i+1,by omega,h,fun j f=>?_⟩ (by omega);rcases Nat.lt_or_ge j i with e|e
   ·exact b j e
   ·have:j=i:=by omega
    subst this;exact a
 ·have h:¬ i<l.length:=by simpa using h
  have:i=l.length:=by omega
  subst this;have d:=Q6A b
  rw [Z0P,d];rfl
theorem Z0b {F:Nat} (hF:BIG<=F) {l:List A2_} {q:A2_->Option Bool} (p:A2_->Bool) (hl:l.length<=1000000000) (hq:∀ r ∈ l,q r=some (p r)):y9 F l q=some (l.filter fun r=> !p r):=by
 have y:=hF;unfold BIG at hF
 unfold y9;refine Q4 (Z0H y p hl hq) ?_
 by_cases g:l.any p=true
 ·obtain ⟨x,n,v⟩:=List.any_eq_true.1 g
  have d:l.findIdx p<l.length:=List.findIdx_lt_length_of_exists ⟨x,n,v⟩;have A:p (gl l (l.findIdx p))=true:=by rw [z7 d];exact List.findIdx_getElem (w:=d)
  have B:∀ j,j<l.findIdx p->p (gl l j)=false:=by
   intro j s;rw [z7 (by omega)]
   simpa using List.not_of_lt_findIdx s
  rw [Z0P,if_pos g];refine Q9 (by simp) ?_
  refine Z5 (k:=?_);generalize l.findIdx p=i0 at *
  have H:(l.take (i0+1)).filter (fun r=> !p r)=l.take i0:=by
   rw [y3 d,List.filter_append];have D:(l.take i0).filter (fun r=> !p r)=l.take i0:=by
    rw [List.filter_eq_self];intro x n
    obtain ⟨j,s,rfl⟩:=List.getElem_of_mem n;have t : j<i0:=by simp at s;omega
    have:=B j t
    rw [z7 (by omega)] at this;simp [this]
   rw [D];simp [A]
  refine Y7 (fun z:Int×Int×List A2_=>∃ (i j:Nat) (a:List A2_),z=((i:Int),(j:Int),a)/\i<j/\j<=l.length/\a.length=l.length/\(∀ m,j<=m->gl a m=gl l m)/\a.take i=(l.take j).filter fun r=> !p r)
   (fun z=>l.length-z.2.1.toNat) (fun u z E C=>?_) ⟨i0,i0+1,l,rfl,by omega,by omega,rfl,fun _ _=>rfl,H.symm⟩ (by simp only;omega)
  obtain ⟨i,j,a,rfl,I,s,c,e,f⟩:=E;simp only at C ⊢
  unfold Q3Z;rw [c]
  refine Q8 (fun h=>?_) (fun h=>?_)
  ·have h:j<l.length:=by simpa using h
   refine Z5 (k:=?_);simp only [Int.toNat_natCast]
   rw [e j (Nat.le_refl _)];refine Q4 (hq _ (V6 h)) ?_
   have o:(l.take (j+1)).filter (fun r=> !p r)=(l.take j).filter (fun r=> !p r)++(if p (gl l j)=true then [] else [gl l j]):=by
    rw [y3 h,List.filter_append]
    by_cases b:p (gl l j)=true
    ·rw [if_pos b];simp [b]
    ·rw [if_neg b];simp [b]
   refine Q8 (fun b=>?_) (fun b=>?_)
   ·have b:p (gl l j)=false:=by simpa using b
    refine Z5 (k:=?_);refine Z5 (k:=?_)
    unfold J8;refine Z5 (k:=?_)
    refine C _ ⟨i+1,j+1,a.set i (gl l j),rfl,by omega,by omega,by simp [c],fun m G=>?_,?_⟩ (by simp only;omega)
    ·rw [Z9h _ _ _ _ (by omega),if_neg (by omega)];exact e m (by omega)
    ·rw [o,if_neg (by rw [b];simp), <-f,y3 (by simp;omega),Z4y _ _ _ _ (Nat.le_refl _),Z9h _ _ _ _ (by omega),if_pos rfl]
   ·have b:p (gl l j)=true:=by simpa using b
    unfold J8;refine Z5 (k:=?_)
    refine C _ ⟨i,j+1,a,rfl,by omega,by omega,c,fun m G=>e m (by omega),?_⟩ (by simp only;omega);rw [o,if_pos b,List.append_nil,f]
  ·have h:¬ j<l.length:=by simpa using h
   unfold Q1t;simp only [Int.toNat_natCast,Y3x,c]
   refine Z5 (k:=?_);refine Z5 (k:=?_)
   rw [Y0G _ _ _ (by omega),f,List.take_of_length_le (by omega)]
 ·have g:l.any p=false:=by simpa using g
  rw [Z0P,g];refine Z8 rfl ?_
  congr 1
  symm
  rw [List.filter_eq_self];intro x n
  have:=List.any_eq_false.1 g x n
  simpa using this
theorem Q9C {F:Nat} {l:List Rect} (hl:l.length<=LIM):Q1q F l=some l:=by
 unfold Q1q
 cases h:l with
 | nil=>
  show gdc _ _=_;unfold gdc
  exact @Z3 _ _ (Classical.propDecidable _) _ _ rfl rfl
 | cons a l' =>
  have:(a::l').length=l'.length+1:=rfl
  show (gd _ _)=_;rw [<-h]
  refine Z5 (k:=?_);simp
noncomputable def Z2M (f:A2_):Int:=
 if f.N_<1\/1073741824<f.N_ then 2 else if f.k_<0\/15<f.k_ then 14 else if f.F_<0\/f.u_<=f.F_\/36865<f.u_ then 9
 else if f.g_.t_.length=0\/Q3D f.g_.t_=false then 7 else 0
theorem Z7T {F:Nat} (hF:BIG<=F) (f:A2_):Z0R F f=some (Z2M f):=by
 have d:∀ b:Bool,(b=true↔f.g_.t_.length=0\/Q3D f.g_.t_=false)->Q5E F b=some (if f.g_.t_.length=0\/Q3D f.g_.t_=false then 7 else 0):=by
  intro b a;unfold Q5E
  refine Q8 (fun h=>by rw [if_pos (a.1 h)]) (fun h=>by rw [if_neg fun c=>by rw [a.2 c] at h;cases h])
 have e:∀ b:Bool,(b=true↔f.F_<0\/f.u_<=f.F_\/36865<f.u_)->Q2E F f b=some (if f.F_<0\/f.u_<=f.F_\/36865<f.u_ then 9 else if f.g_.t_.length=0\/Q3D f.g_.t_=false then 7 else 0):=by
  intro b a;unfold Q2E
  refine Q8 (fun h=>by rw [if_pos (a.1 h)]) (fun h=>?_);rw [if_neg fun c=>by rw [a.2 c] at h;cases h]
  refine Q4 (Q1j hF _) ?_;rw [Q7n (Q5E F)]
  exact d _ (by simp [or_comm])
 have g:∀ b:Bool,(b=true↔f.k_<0\/15<f.k_)->Q2F F f b=some (if f.k_<0\/15<f.k_ then 14 else if f.F_<0\/f.u_<=f.F_\/36865<f.u_ then 9 else if f.g_.t_.length=0\/Q3D f.g_.t_=false then 7 else 0):=by
  intro b a;unfold Q2F
  refine Q8 (fun h=>by rw [if_pos (a.1 h)]) (fun h=>?_);rw [if_neg fun c=>by rw [a.2 c] at h;cases h]
  rw [Q7n (Q2E F f),Q7n (Q2E F f)];exact e _ (by simp)
 unfold Z0R Z0L Z2M;rw [Q7n (fun b=>br b (some (2:Int)) (br (decide (f.k_<(0:Int))) (Q2F F f true) (Q2F F f (decide ((15:Int)<f.k_)))))]
 refine Q8 (fun h=>by rw [if_pos (by simpa using h)]) (fun h=>?_);rw [if_neg (by simpa using h),Q7n (Q2F F f)]
 exact g _ (by simp)
theorem Z8l {F:Nat} (hF:BIG<=F) (f:A2_):Q5u F f=some (Z2M f):=by
 have e:∀ b:Bool,(b=true↔f.g_.t_.length=0\/Q3D f.g_.t_=false)->Q2N F b=some (if f.g_.t_.length=0\/Q3D f.g_.t_=false then 7 else 0):=by
  intro b c;unfold Q2N
  refine Q8 (fun h=>by rw [if_pos (c.1 h)]) (fun h=>by rw [if_neg fun d=>by rw [c.2 d] at h;cases h])
 have g:∀ b:Bool,(b=true↔f.F_<0\/f.u_<=f.F_\/36865<f.u_)->Q0e F f b=some (if f.F_<0\/f.u_<=f.F_\/36865<f.u_ then 9 else if f.g_.t_.length=0\/Q3D f.g_.t_=false then 7 else 0):=by
  intro b c;unfold Q0e
  refine Q8 (fun h=>by rw [if_pos (c.1 h)]) (fun h=>?_);rw [if_neg fun d=>by rw [c.2 d] at h;cases h]
  refine Q8 (fun a=>?_) (fun a=>?_)
  ·have a:f.g_.t_.length=0:=by simp at a;simp [a]
   exact e _ (by simp [a])
  ·have a:f.g_.t_.length≠0:=by simp at a;simpa using a
   exact Q4 (Q0o hF _) (e _ (by simp [a]))
 have i:∀ b:Bool,(b=true↔f.k_<0\/15<f.k_)->Q0f F f b=some (if f.k_<0\/15<f.k_ then 14 else if f.F_<0\/f.u_<=f.F_\/36865<f.u_ then 9 else if f.g_.t_.length=0\/Q3D f.g_.t_=false then 7 else 0):=by
  intro b c;unfold Q0f
  refine Q8 (fun h=>by rw [if_pos (c.1 h)]) (fun h=>?_);rw [if_neg fun d=>by rw [c.2 d] at h;cases h]
  rw [Q7n (Q0e F f),Q7n (Q0e F f)];exact g _ (by simp)
 unfold Q5u Q4X Z2M;rw [Q7n (fun b=>br b (some (2:Int)) (br (decide (f.k_<(0:Int))) (Q0f F f true) (Q0f F f (decide ((15:Int)<f.k_)))))]
 refine Q8 (fun h=>by rw [if_pos (by simpa using h)]) (fun h=>?_);rw [if_neg (by simpa using h),Q7n (Q0f F f)]
 exact i _ (by simp)
noncomputable def Z3c:Option Int->List A2_->Int
 | _,[]=>0
 | p,f::l=>if Z2M f≠0 then Z2M f else if p.any (fun n=>decide (f.N_<=n)) then 3 else Z3c (some f.N_) l
noncomputable def Q9T (l:List A2_):Int:=if 60<l.length then 1 else Z3c none l
def Z6H (l:List A2_) (i:Nat):Option Int:=if i=0 then none else some (gl l (i-1)).N_
theorem Y1i (l:List A2_) (i:Nat):Z6H l (i+1)=some (gl l i).N_:=by simp [Z6H]
theorem Y1a {F:Nat} (hF:BIG<=F) (l:List A2_):Q9H F l=some (Q9T l):=by
 have j:=hF;unfold BIG at hF
 unfold Q9H Q9T;refine Q8 (fun h=>?_) (fun h=>?_)
 ·have h:60<l.length:=by simp at h;omega
  rw [if_pos h]
 ·have h:¬ 60<l.length:=by simp at h;omega
  rw [if_neg h];refine Y7 (fun z:Int=>∃ i:Nat,z=i/\i<=l.length/\Z3c none l=Z3c (Z6H l i) (l.drop i)) (fun z=>l.length-z.toNat) (fun d z q r=>?_) ⟨0,rfl,by omega,rfl⟩ (by simp;omega)
  obtain ⟨i,rfl,s,a⟩:=q;unfold Z4X
  refine Q8 (fun e=>?_) (fun e=>?_)
  ·have e:i<l.length:=by simpa using e
   rw [Q1I e,Z3c] at a;refine Z5 (k:=?_)
   simp only [Int.toNat_natCast];refine Q4 (Z7T j _) ?_
   refine Q8 (fun c=>?_) (fun c=>?_)
   ·have c:Z2M (gl l i)≠0:=by simpa using c
    rw [a,if_pos c]
   ·have c:Z2M (gl l i)=0:=by simpa using c
    rw [if_neg (by simp [c])] at a;have o:∀ b:Bool,b=(Z6H l i).any (fun n=>decide ((gl l i).N_<=n))->Q5o F i d b=some (Z3c none l):=by
     intro b g;unfold Q5o
     refine Q8 (fun m=>?_) (fun m=>?_)
     ·rw [a,if_pos (g ▸ m)]
     ·rw [if_neg (by rw [<-g,m];simp)] at a
      refine Z5 (k:=?_);refine r _ ⟨i+1,by omega,e,?_⟩ (by omega)
      rw [a,Y1i]
    refine Q8 (fun f=>?_) (fun f=>?_)
    ·have f:0<i:=by simpa using f
     refine Z5 (k:=?_);refine Z5 (k:=?_)
     have p:((i:Int)-1).toNat=i-1:=by omega
     rw [p];exact o _ (by simp [Z6H,show i≠0 from by omega])
    ·have f:i=0:=by simp at f;omega
     exact o _ (by simp [Z6H,f])
  ·have e:¬ i<l.length:=by simpa using e
   rw [List.drop_of_length_le (by omega)] at a;rw [a];rfl
theorem Z9m {F:Nat} (hF:BIG<=F) (l:List A2_):Q6y F l=some (Q9T l):=by
 have j:=hF;unfold BIG at hF
 unfold Q6y Q9T;refine Q8 (fun h=>?_) (fun h=>?_)
 ·have h:60<l.length:=by simp at h;omega
  rw [if_pos h]
 ·have h:¬ 60<l.length:=by simp at h;omega
  rw [if_neg h];refine Y7 (fun z:Int=>∃ i:Nat,z=i/\i<=l.length/\Z3c none l=Z3c (Z6H l i) (l.drop i)) (fun z=>l.length-z.toNat) (fun d z q r=>?_) ⟨0,rfl,by omega,rfl⟩ (by simp;omega)
  obtain ⟨i,rfl,s,a⟩:=q;unfold Z2X
  refine Q8 (fun e=>?_) (fun e=>?_)
  ·have e:i<l.length:=by simpa using e
   rw [Q1I e,Z3c] at a;refine Z5 (k:=?_)
   simp only [Int.toNat_natCast];refine Q4 (Z8l j _) ?_
   refine Q8 (fun c=>?_) (fun c=>?_)
   ·have c:Z2M (gl l i)≠0:=by simpa using c
    rw [a,if_pos c]
   ·have c:Z2M (gl l i)=0:=by simpa using c
    rw [if_neg (by simp [c])] at a;have o:∀ b:Bool,b=(Z6H l i).any (fun n=>decide ((gl l i).N_<=n))->Q3w F i d b=some (Z3c none l):=by
     intro b g;unfold Q3w
     refine Q8 (fun m=>?_) (fun m=>?_)
     ·rw [a,if_pos (g ▸ m)]
     ·rw [if_neg (by rw [<-g,m];simp)] at a
      refine Z5 (k:=?_);refine r _ ⟨i+1,by omega,e,?_⟩ (by omega)
      rw [a,Y1i]
    refine Q8 (fun f=>?_) (fun f=>?_)
    ·have f:0<i:=by simpa using f
     refine Z5 (k:=?_);refine Z5 (k:=?_)
     have p:((i:Int)-1).toNat=i-1:=by omega
     rw [p];exact o _ (by simp [Z6H,show i≠0 from by omega])
    ·have f:i=0:=by simp at f;omega
     exact o _ (by simp [Z6H,f])
  ·have e:¬ i<l.length:=by simpa using e
   rw [List.drop_of_length_le (by omega)] at a;rw [a];rfl
structure VL (l:List A2_):Prop where
 len:l.length<=60
 one:∀ f ∈ l,Z2M f=0
 asc:l.Pairwise fun f g=>f.N_<g.N_
theorem Y1F:∀ (l:List A2_) (p:Option Int),Z3c p l=0↔(∀ f ∈ l,Z2M f=0)/\l.Pairwise (fun f g=>f.N_<g.N_)/\∀ n,p=some n->∀ f ∈ l,n<f.N_
 | [],p=>by simp [Z3c]
 | f::l,p=>by
  have m:=Y1F l (some f.N_);unfold Z3c
  by_cases h1:Z2M f=0
  ·rw [if_neg (by simp [h1])]
   by_cases e:p.any (fun n=>decide (f.N_<=n))=true
   ·rw [if_pos e]
    constructor
    ·intro h;cases h
    ·rintro ⟨_,_,h⟩
     cases p with
     | none=>simp at e
     | some n=>
      have e:f.N_<=n:=by simpa using e
      have:=h n rfl f (by simp)
      omega
   ·rw [if_neg e,m]
    constructor
    ·rintro ⟨a,b,c⟩
     refine ⟨fun g d=>?_,List.pairwise_cons.2 ⟨fun g d=>c _ rfl g d,b⟩,fun n i g d=>?_⟩
     ·rcases List.mem_cons.1 d with rfl|d
      ·exact h1
      ·exact a g d
     ·subst i
      have e:n<f.N_:=by simpa using e
      rcases List.mem_cons.1 d with rfl|d
      ·exact e
      ·have:=c _ rfl g d;omega
    ·rintro ⟨a,b,c⟩
     obtain ⟨j,k⟩:=List.pairwise_cons.1 b;exact ⟨fun g d=>a g (by simp [d]),k,fun n i g d=>by cases i;exact j g d⟩
  ·rw [if_pos h1]
   constructor
   ·intro h;exact absurd h h1
   ·rintro ⟨a,_,_⟩;exact absurd (a f (by simp)) h1
theorem Z0S (l:List A2_):Q9T l=0↔VL l:=by
 unfold Q9T
 by_cases h:60<l.length
 ·rw [if_pos h]
  exact ⟨fun h=>(by cases h),fun c=>by have:=c.len;omega⟩
 ·rw [if_neg h,Y1F]
  exact ⟨fun ⟨a,b,_⟩=>⟨by omega,a,b⟩,fun c=>⟨c.one,c.asc,fun n d=>by cases d⟩⟩
theorem Z5J (f:A2_):Z2M f=0↔1<=f.N_/\f.N_<=1073741824/\0<=f.k_/\f.k_<=15/\0<=f.F_/\f.F_<f.u_/\f.u_<=36865/\f.g_.t_.length≠0/\Val f.g_.t_:=by
 unfold Z2M;rw [<-Q1z]
 by_cases h1:f.N_<1\/1073741824<f.N_
 ·rw [if_pos h1];simp;omega
 ·rw [if_neg h1]
  by_cases h2:f.k_<0\/15<f.k_
  ·rw [if_pos h2];simp;omega
  ·rw [if_neg h2]
   by_cases h3:f.F_<0\/f.u_<=f.F_\/36865<f.u_
   ·rw [if_pos h3];simp;omega
   ·rw [if_neg h3]
    by_cases a:f.g_.t_.length=0\/Q3D f.g_.t_=false
    ·rw [if_pos a]
     constructor
     ·intro h;cases h
     ·rintro ⟨_,_,_,_,_,_,_,b,c⟩
      rcases a with a|a
      ·exact absurd a b
      ·rw [c] at a;cases a
    ·rw [if_neg a]
     refine ⟨fun _=>?_,fun _=>rfl⟩;have b:f.g_.t_.length≠0:=fun h=>a (.inl h)
     have c:Q3D f.g_.t_=true:=by
      cases hv:Q3D f.g_.t_ with
      | true=>rfl
      | false=>exact absurd (.inr hv) a
     refine ⟨by omega,by omega,by omega,by omega,by omega,by omega,by omega,b,c⟩
theorem Z8m {F:Nat} {f:A2_} (h:f.g_.t_.length<=LIM):Q5v F f=some f:=by
 unfold Q5v;exact Q4 (Q9C h) rfl
theorem VL.rlen {l:List A2_} (h:VL l) {f:A2_} (hf:f ∈ l):f.g_.t_.length<=120:=((Z5J f).1 (h.one f hf)).2.2.2.2.2.2.2.2.1
theorem Y1w {F:Nat} (hF:BIG<=F) {l:List A2_} (h:VL l):Q9R F l=some l:=by
 unfold BIG at hF;have d:=h.len
 unfold Q9R;refine Y7 (fun z:Int×List A2_=>∃ i:Nat,z=((i:Int),l.take i)/\i<=l.length) (fun z=>l.length-z.1.toNat) (fun b z e c=>?_) ⟨0,rfl,by omega⟩ (by simp only;omega)
 obtain ⟨i,rfl,f⟩:=e;simp only at c ⊢
 unfold Z5w;refine Q8 (fun a=>?_) (fun a=>?_)
 ·have a:i<l.length:=by simpa using a
  refine Z5 (k:=?_);simp only [Int.toNat_natCast]
  refine Q4 (Z8m (by have:=h.rlen (V6 a);unfold LIM;omega)) ?_;refine Z5 (k:=?_)
  refine Z5 (k:=?_);exact c _ ⟨i+1,by rw [y3 a];rfl,a⟩ (by simp only;omega)
 ·have a:¬ i<l.length:=by simpa using a
  unfold Z1y;rw [List.take_of_length_le (by omega)]
def Z8A (f:A2_) (d:Int):Bool:=decide (f.F_<=d)&&decide (d<f.u_)
theorem Z2U (F:Nat) (f:A2_) (d:Int):Q4A F f d=some (Z8A f d):=by
 unfold Q4A;rw [Q3V (Q5T F)];rfl
theorem Z9k {F:Nat} (hF:BIG<=F) (l:List A2_) (d:Int):Q6x F l d=some (if Q9T l≠0 then Q9T l else if d<0\/36864<d then 9 else 0):=by
 unfold Q6x;refine Q4 (Z9m hF l) ?_
 refine Q8 (fun h=>?_) (fun h=>?_)
 ·have h:Q9T l≠0:=by simpa using h
  rw [if_pos h]
 ·have h:Q9T l=0:=by simpa using h
  rw [if_neg (by simp [h]),Q7n (Q3t F)];unfold Q3t
  refine Q8 (fun h=>?_) (fun h=>?_)
  ·rw [if_pos (by simpa using h)]
  ·rw [if_neg (by simpa using h)]
theorem Z6L {F:Nat} (hF:BIG<=F) (l:List A2_) (d:Int):Q9i F l d=some (if Q9T l≠0 then ([],Q9T l) else if d<0\/36864<d then ([],9) else (l.filter fun f=>Z8A f d,0)):=by
 unfold Q9i;refine Q4 (Z9k hF l d) ?_
 by_cases h:Q9T l=0
 ·simp only [h,ne_eq,not_true_eq_false,if_false]
  by_cases h2:d<0\/36864<d
  ·simp only [h2,if_true]
   exact Z8 rfl rfl
  ·simp only [h2,if_false]
   refine Q9 rfl ?_;have a:=(Z0S l).1 h
   refine Q4 (Y1w hF a) ?_;have b:=a.len
   refine Q4 (Z0b hF (fun f=> !Z8A f d) (by omega) (fun f _=>by unfold Z0Q;rw [Z2U];rfl)) ?_;simp
 ·have e:(if Q9T l≠0 then Q9T l else if d<0\/36864<d then 9 else 0)=Q9T l:=if_pos h
  rw [e,if_pos h];refine Z8 (by simpa using h) rfl
def Q4S (l:List A2_) (n:Int):Nat:=l.countP fun f=>decide (f.N_<n)
theorem Z7e {l:List A2_} (h:l.Pairwise fun f g=>f.N_<g.N_) (n:Int):Q4S l n<=l.length/\(∀ j,j<Q4S l n->(gl l j).N_<n)/\∀ j,Q4S l n<=j->j<l.length->n<=(gl l j).N_:=by
 induction l with
 | nil=>exact ⟨Nat.le_refl _,fun j i=>by simp [Q4S] at i,fun j _ i=>by simp at i⟩
 | cons f l ih=>
  obtain ⟨p,k⟩:=List.pairwise_cons.1 h;obtain ⟨a,b,c⟩:=ih k
  by_cases hf:f.N_<n
  ·have e:Q4S (f::l) n=Q4S l n+1:=by simp [Q4S,hf]
   rw [e];refine ⟨by simp;exact a,fun j i=>?_,fun j i d=>?_⟩
   ·cases j with
    | zero=>exact hf
    | succ j=>exact b j (by omega)
   ·cases j with
    | zero=>omega
    | succ j=>exact c j (by omega) (by simpa using d)
  ·have m:Q4S l n=0:=by
    unfold Q4S;rw [List.countP_eq_zero]
    intro g o;have:=p g o
    simp;omega
   have e:Q4S (f::l) n=0:=by
    have:Q4S (f::l) n=Q4S l n:=by simp [Q4S,hf]
    rw [this,m]
   rw [e];refine ⟨Nat.zero_le _,fun j i=>by omega,fun j _ d=>?_⟩
   cases j with
   | zero=>show n<=f.N_;omega
   | succ j=>exact c j (by omega) (by simpa using d)
theorem Y1Y {F:Nat} (hF:BIG<=F) {a b:Re_} (h:b.t_.length<=LIM):Q6V F a b=some (decide (a.t_=b.t_)):=by
 unfold Q6V;exact Q4 (Z5a hF h) rfl
structure TOk (t:Tape):Prop where
 at_:0<=t.at_
 len:t.l_.length<=400
theorem Y4h {F:Nat} (a:Int) {n:Int} (h1:1<=n) (h2:n<=1099511627776):∃ k,Q9P F a n=some k/\0<=k/\k<n:=by
 have b:=Int.tmod_lt_of_pos a (show 0<n by omega);have c:=Int.lt_tmod_of_pos a (show 0<n by omega)
 unfold Q9P;generalize a.tmod n=m at *
 by_cases h:m<0
 ·refine ⟨m+n,?_,by omega,by omega⟩
  refine Q9 (by simp;omega) ?_;refine Z5 (k:=?_)
  refine Z8 (by simpa using h) ?_;refine Z5 (k:=?_)
  rfl
 ·refine ⟨m,?_,by omega,by omega⟩
  refine Q9 (by simp;omega) ?_;refine Z5 (k:=?_)
  exact Q9 (by simpa using h) rfl
theorem Z7 {F:Nat} {t:Tape} (ht:TOk t) {n:Int} (h1:1<=n) (h2:n<=1099511627776):∃ t' k,Z9 F t n=some (t',k)/\TOk t' /\ 0<=k/\k<n:=by
 obtain ⟨a,b⟩:=ht;unfold Z9
 by_cases h:(t.l_.length:Int)<=t.at_
 ·exact ⟨t,0,Z8 (by simpa using h) rfl,⟨a,b⟩,by omega,by omega⟩
 ·obtain ⟨k,c,k1,k2⟩:=Y4h (F:=F) (gl t.l_ ((t.at_+1)-1).toNat) h1 h2
  refine ⟨⟨t.l_,t.at_+1⟩,k,?_,⟨by simp only;omega,b⟩,k1,k2⟩;refine Q9 (by simpa using h) ?_
  refine Z5 (k:=?_);refine Z5 (k:=?_)
  refine Z5 (k:=?_);exact Q4 c rfl
theorem V3 {F:Nat} {t:Tape} (ht:TOk t) {lo hi:Int} (h1:lo<=hi) (h0 : -1099511627<=lo) (h2:hi<=1099511627):∃ t' k,W7 F t lo hi=some (t',k)/\TOk t' /\ lo<=k/\k<=hi:=by
 obtain ⟨t',k,d,a,b,c⟩:=Z7 (F:=F) ht (n:=(hi-lo)+1) (by omega) (by omega);refine ⟨t',lo+k,?_,a,by omega,by omega⟩
 unfold W7;refine Z5 (k:=?_)
 refine Z5 (k:=?_);refine Q4 d ?_
 refine Z5 (k:=?_);rfl
def Box (n:Int) (l:List Rect):Prop:=∀ r ∈ l,0<=r.L_/\r.L_<r.R_/\r.R_<=n/\0<=r.w_/\r.w_<r.H_/\r.H_<=n
theorem Box.prop {n:Int} {l:List Rect} (h:Box n l) (hn:n<=16384):∀ r ∈ l,Q3a r=true:=fun r a=>(Q0g r).2 (by have:=h r a;omega)
theorem Box.in {n:Int} {l:List Rect} (h:Box n l) {x y:Int} (hx:inR l x y=true):0<=x/\x<n/\0<=y/\y<n:=by
 obtain ⟨r,b,a⟩:=List.any_eq_true.1 hx;rw [y5] at a
 have:=h r b
 omega
theorem Y8E {l:List (Rn (List Span))} {r:Rect} (h:r ∈ flat l):∃ b ∈ l,∃ s ∈ b.v,r=⟨s.L_,b.lo,s.R_,b.hi⟩:=by
 obtain ⟨b,a,d⟩:=List.mem_flatMap.1 h;obtain ⟨s,c,rfl⟩:=List.mem_map.1 d
 exact ⟨b,a,s,c,rfl⟩
theorem Q2Q.pos {l:List Rect} (h:Q2Q l) {r:Rect} (hr:r ∈ l):r.L_<r.R_/\r.w_<r.H_:=by
 obtain ⟨b,a,rfl⟩:=h;obtain ⟨c,d,s,e,rfl⟩:=Y8E hr
 exact ⟨(a.sp c d).pos s e,a.runs.pos c d⟩
theorem Y0n {l:List Rect} {r:Rect} (hr:r ∈ l) {x y:Int} (h:r.has x y=true):inR l x y=true:=List.any_eq_true.2 ⟨r,hr,h⟩
theorem Q2Q.box {l:List Rect} (h:Q2Q l) {n:Int} (hn:∀ x y,inR l x y=true->0<=x/\x<n/\0<=y/\y<n):Box n l:=by
 intro r c;obtain ⟨e,d⟩:=h.pos c
 have a:=hn r.L_ r.w_ (Y0n c ((y5 _ _ _).2 (by omega)));have b:=hn (r.R_-1) (r.H_-1) (Y0n c ((y5 _ _ _).2 (by omega)))
 omega
theorem Y8Y {S:Int->Int->Bool} (hf:Fin S) {n:Int} (hn:∀ x y,S x y=true->0<=x/\x<n/\0<=y/\y<n):Box n (cn S):=
 (Q2Q.cn hf).box fun x y h=>hn x y (by rwa [Q1b hf] at h)
theorem Y2P:Q2Q []:=⟨[],⟨.nil,fun b a=>(List.not_mem_nil a).elim,fun b a=>(List.not_mem_nil a).elim⟩,rfl⟩
theorem Z9s {r:Rect} (h1:r.L_<r.R_) (h2:r.w_<r.H_):Q2Q [r]:=
 ⟨[⟨r.w_,r.H_,[⟨r.L_,r.R_⟩]⟩],⟨⟨fun b a=>by rw [List.mem_singleton.1 a];exact h2,List.pairwise_singleton _ _⟩,fun b a=>by
  rw [List.mem_singleton.1 a];exact ⟨fun s c=>by rw [List.mem_singleton.1 c];exact h1,List.pairwise_singleton _ _⟩,fun b a=>by rw [List.mem_singleton.1 a];simp⟩,rfl⟩
theorem Y6G (n:Int):Box n []:=fun r a=>(List.not_mem_nil a).elim
theorem Val.nil:Val []:=⟨by simp,fun r a=>(List.not_mem_nil a).elim,Y2P⟩
theorem Q8m {F:Nat} {t:Tape} (ht:TOk t) {n:Int} (h1:1<=n) (h2:n<=16384):∃ t' r,Q1k F t n=some (t',r)/\TOk t' /\ Box n [r]:=by
 obtain ⟨w,x,a,i,o,q⟩:=Z7 (F:=F) ht (n:=n) (by omega) (by omega);obtain ⟨A,y,h,j,s,z⟩:=Z7 (F:=F) i (n:=n) (by omega) (by omega)
 obtain ⟨p,u,e,g,B,m⟩:=Z7 (F:=F) j (n:=n-x) (by omega) (by omega);obtain ⟨b,v,c,f,l,C⟩:=Z7 (F:=F) g (n:=n-y) (by omega) (by omega)
 refine ⟨b,⟨x,y,(x+1)+u,(y+1)+v⟩,?_,f,fun r d=>?_⟩
 ·unfold Q1k
  refine Q4 a ?_;refine Q4 h ?_
  simp only
  refine Z5 (k:=?_);refine Z5 (k:=?_)
  refine Q4 e ?_;simp only
  refine Z5 (k:=?_);refine Z5 (k:=?_)
  refine Z5 (k:=?_);refine Q4 c ?_
  simp only
  refine Z5 (k:=?_);rfl
 ·rw [List.mem_singleton.1 d]
  simp only
  omega
structure RegT (n:Int) (a:Re_):Prop where
 box:Box n a.t_
 val:Val a.t_
theorem Q9N {F:Nat} (hF:BIG<=F) {t:Tape} (ht:TOk t) {n most:Int} (h1:1<=n) (h2:n<=16384) (m1:0<=most) (m2:most<=100):∃ t' a R,Q0W F t n most=some (t',a)/\TOk t' /\ RegT n a/\(List.length (α:=Rect) R:Int)<=most/\inR a.t_=inR R:=by
 have o:=hF;unfold BIG at hF
 obtain ⟨C,c,v,E,H,I⟩:=Z7 (F:=F) ht (n:=most+1) (by omega) (by omega);have m:∀ (k f:Nat) (t:Tape) (l:List Rect),k<f->TOk t->Box n l->l.length+k<=100->(l.length:Int)+k<=most->∃ t' a R,Z6 (fun again (z:Int×List Int×Int×List Rect)=>Q0M F n again z.1 z.2.1 z.2.2.1 z.2.2.2) f ((k:Int),t.l_,t.at_,l)=some (t',a)/\TOk t' /\ RegT n a/\(List.length (α:=Rect) R:Int)<=most/\inR a.t_=inR R:=by
  intro k
  induction k with
  | zero=>
   intro f t l s ht e B u
   cases f with
   | zero=>omega
   | succ f=>
    have j:=Y3X o (l:=l) (by omega) (e.prop h2);refine ⟨⟨t.l_,t.at_⟩,(if 120<(cn (inR l)).length then ((⟨[]⟩:Re_),(1:Int)) else (⟨cn (inR l)⟩,0)).1,(if 120<(cn (inR l)).length then [] else l),?_,ht,?_⟩
    ·show Q0M F n _ 0 t.l_ t.at_ l=_
     unfold Q0M;refine Q9 rfl ?_
     unfold Q6b;exact Q4 j rfl
    ·split
     ·exact ⟨⟨Y6G _,Val.nil⟩,by simp;omega,rfl⟩
     ·rename_i p
      have b:Box n (cn (inR l)):=Y8Y (G5 l) fun x y h=>e.in h
      exact ⟨⟨b,by simp only;omega,b.prop h2,Q2Q.cn (G5 l)⟩,by omega,by funext x y;exact Q1b (G5 l) x y⟩
  | succ k ih=>
   intro f t l s ht e B u
   cases f with
   | zero=>omega
   | succ f=>
    obtain ⟨t',r,G,w,A⟩:=Q8m (F:=F) ht h1 h2;obtain ⟨D,a,Q,g,i,b⟩:=ih f t' (l++[r]) (by omega) w (fun q d=>by
     rcases List.mem_append.1 d with d|d
     ·exact e q d
     ·exact A q d) (by simp;omega) (by simp;omega)
    refine ⟨D,a,Q,?_,i,b⟩;show Q0M F n _ ((k+1:Nat):Int) t.l_ t.at_ l=_
    unfold Q0M;refine Z8 (by simp) ?_
    refine Q4 G ?_;refine Z5 (k:=?_)
    refine Z5 (k:=?_);have:((k+1:Nat):Int)-1=(k:Int):=by omega
    rw [this];exact g
 obtain ⟨t',a,Q,g,i,b⟩:=m c.toNat F C [] (by omega) E (Y6G _) (by simp;omega) (by simp;omega);refine ⟨t',a,Q,?_,i,b⟩
 unfold Q0W;refine Z5 (k:=?_)
 refine Q4 v ?_;have:(c.toNat:Int)=c:=by omega
 rw [this] at g;exact g
theorem Z0B {F:Nat} (hF:BIG<=F) {t:Tape} (ht:TOk t) {n most:Int} (h1:1<=n) (h2:n<=16384) (m1:0<=most) (m2:most<=100):∃ t' a,Q0W F t n most=some (t',a)/\TOk t' /\ RegT n a:=by
 obtain ⟨t',a,_,e,o,h,_⟩:=Q9N hF ht h1 h2 m1 m2;exact ⟨t',a,e,o,h⟩
theorem Z7j {F:Nat} (hF:BIG<=F) {t:Tape} (ht:TOk t) {n most:Int} (h1:1<=n) (h2:n<=16384) (m1:1<=most) (m2:most<=100):∃ t' a R,Q1l F t n most=some (t',a)/\TOk t' /\ RegT n a/\a.t_.length≠0/\(List.length (α:=Rect) R:Int)<=most/\inR a.t_=inR R:=by
 obtain ⟨c,a,Q,e,f,j,l⟩:=Q9N hF ht h1 h2 (by omega) m2;unfold Q1l
 by_cases h:a.t_.length=0
 ·obtain ⟨d,r,g,i,b⟩:=Q8m (F:=F) f h1 h2
  have k:=b r (by simp);refine ⟨⟨d.l_,d.at_⟩,⟨[r]⟩,[r],?_,i,⟨b,by simp,b.prop h2,Z9s (by omega) (by omega)⟩,by simp,by simp;omega,rfl⟩
  refine Q4 e ?_;refine Z8 (by simp only [h];rfl) ?_
  exact Q4 g rfl
 ·refine ⟨⟨c.l_,c.at_⟩,⟨a.t_⟩,Q,?_,f,j,h,l⟩
  refine Q4 e ?_;exact Q9 (by simpa using h) rfl
theorem Z8e {F:Nat} (hF:BIG<=F) {t:Tape} (ht:TOk t) {n most:Int} (h1:1<=n) (h2:n<=16384) (m1:0<=most) (m2:most<=100):∃ t' a,Q1l F t n most=some (t',a)/\TOk t' /\ RegT n a/\a.t_.length≠0:=by
 obtain ⟨c,a,e,f,j⟩:=Z0B hF ht h1 h2 m1 m2;unfold Q1l
 by_cases h:a.t_.length=0
 ·obtain ⟨d,r,g,i,b⟩:=Q8m (F:=F) f h1 h2
  have k:=b r (by simp);refine ⟨⟨d.l_,d.at_⟩,⟨[r]⟩,?_,i,⟨b,by simp,b.prop h2,Z9s (by omega) (by omega)⟩,by simp⟩
  refine Q4 e ?_;refine Z8 (by simp only [h];rfl) ?_
  exact Q4 g rfl
 ·refine ⟨⟨c.l_,c.at_⟩,⟨a.t_⟩,?_,f,j,h⟩
  refine Q4 e ?_;exact Q9 (by simpa using h) rfl
structure FeaT (f:A2_):Prop where
 kind:0<=f.k_/\f.k_<=15
 F_:0<=f.F_/\f.F_<20
 u_:f.F_<f.u_/\f.u_<=f.F_+30
 reg:RegT 9 f.g_
 ne:f.g_.t_.length≠0
theorem Z5p {F:Nat} (hF:BIG<=F) {t:Tape} (ht:TOk t) (n:Int):∃ t' f,Q2K F t n=some (t',f)/\TOk t' /\ FeaT f/\f.N_=n:=by
 obtain ⟨y,a,e,p,u,s⟩:=Z7 (F:=F) ht (n:=20) (by omega) (by omega);obtain ⟨z,b,o,q,x,B⟩:=Z7 (F:=F) p (n:=16) (by omega) (by omega)
 obtain ⟨v,c,j,m,w,A⟩:=V3 (F:=F) q (lo:=1) (hi:=30) (by omega) (by omega) (by omega);obtain ⟨g,r,h,l,i,d⟩:=Z8e hF m (n:=9) (most:=2) (by omega) (by omega) (by omega) (by omega)
 refine ⟨g,⟨n,b,a,a+c,r⟩,?_,l,⟨by simp only;omega,by simp only;omega,by simp only;omega,i,d⟩,rfl⟩;unfold Q2K
 refine Q4 e ?_;refine Q4 o ?_
 refine Q4 j ?_;simp only
 refine Z5 (k:=?_);exact Q4 h rfl
theorem FeaT.one {f:A2_} (h:FeaT f) (h1:1<=f.N_) (h2:f.N_<=1073741824):Z2M f=0:=
 (Z5J f).2 ⟨h1,h2,h.kind.1,h.kind.2,h.F_.1,h.u_.1,by have:=h.F_;have:=h.u_;omega,h.ne,h.reg.val⟩
def Y4j (l:List A2_) (f:A2_):List A2_:=l.take (Q4S l f.N_)++[f]++l.drop (Q4S l f.N_)
noncomputable def Y5S (l:List A2_) (f:A2_):List A2_×Int:=
 if Q9T l≠0 then ([],Q9T l) else if Z2M f≠0 then ([],Z2M f) else if Q4S l f.N_<l.length/\(gl l (Q4S l f.N_)).N_=f.N_ then ([],6)
 else if l.length=60 then ([],1) else (Y4j l f,0)
theorem Z7U {F:Nat} (hF:BIG<=F) (l:List A2_) (f:A2_):Z2G F l f=some (Y5S l f):=by
 have j:=hF;unfold BIG at hF
 unfold Z2G Y5S;refine Q4 (Y1a j l) ?_
 by_cases h:Q9T l=0
 ·refine Q9 (by simp [h]) ?_
  rw [if_neg (by simp [h])];refine Q4 (Z7T j f) ?_
  by_cases h1:Z2M f=0
  ·refine Q9 (by simp [h1]) ?_
   rw [if_neg (by simp [h1])];have r:=(Z0S l).1 h
   have q:=r.len;obtain ⟨a,b,c⟩:=Z7e r.asc f.N_
   unfold Y4j;generalize Q4S l f.N_=k at *
   refine Y7 (fun z:Int=>∃ i:Nat,z=i/\i<=k) (fun z=>l.length-z.toNat) (fun o z s u=>?_) ⟨0,rfl,by omega⟩ (by simp;omega);obtain ⟨i,rfl,v⟩:=s
   have n:i=k->Z0M F l f (i:Int)=some (if k<l.length/\(gl l k).N_=f.N_ then ([],6) else if l.length=60 then ([],1) else (l.take k++[f]++l.drop k,0)):=by
    rintro rfl;unfold Z0M
    have m:∀ b:Bool,(b=true↔i<l.length/\(gl l i).N_=f.N_)->Q8c F l f (i:Int) b=some (if i<l.length/\(gl l i).N_=f.N_ then ([],6) else if l.length=60 then ([],1) else (l.take i++[f]++l.drop i,0)):=by
     intro b p;unfold Q8c
     refine Q8 (fun h=>by rw [if_pos (p.1 h)]) (fun h=>?_);rw [if_neg fun t=>by rw [p.2 t] at h;cases h]
     refine Q8 (fun h=>?_) (fun h=>?_)
     ·have h:l.length=60:=by simp at h;omega
      rw [if_pos h]
     ·have h:l.length≠60:=by simp at h;omega
      rw [if_neg h];simp only [Int.toNat_natCast]
      refine Z5 (k:=?_);refine Z5 (k:=?_)
      refine Z5 (k:=?_);refine Z5 (k:=?_)
      refine Z5 (k:=?_);simp
    refine Q8 (fun d=>?_) (fun d=>?_)
    ·have d:i<l.length:=by simpa using d
     refine Z5 (k:=?_);exact m _ (by simp [d])
    ·have d:¬ i<l.length:=by simpa using d
     exact m _ (by simp [d])
   unfold Z7V;refine Q8 (fun d=>?_) (fun d=>?_)
   ·have d:i<l.length:=by simpa using d
    refine Z5 (k:=?_);unfold Q8d
    simp only [Int.toNat_natCast];refine Q8 (fun g=>?_) (fun g=>?_)
    ·have g:(gl l i).N_<f.N_:=by simpa using g
     refine Z5 (k:=?_);refine u _ ⟨i+1,by omega,?_⟩ (by omega)
     rcases Nat.lt_or_ge i k with e|e
     ·exact e
     ·have:=c i e d;omega
    ·have g:¬ (gl l i).N_<f.N_:=by simpa using g
     refine n ?_;rcases Nat.lt_or_ge i k with e|e
     ·exact absurd (b i e) g
     ·omega
   ·have d:¬ i<l.length:=by simpa using d
    unfold Q8d;exact Q9 rfl (n (by omega))
  ·refine Z8 (by simpa using h1) ?_
   rw [if_pos h1]
 ·refine Z8 (by simpa using h) ?_
  rw [if_pos h]
theorem Y4i {l:List A2_} {f g:A2_}:g ∈ Y4j l f↔g=f\/g ∈ l:=by
 unfold Y4j;constructor
 ·intro h
  rcases List.mem_append.1 h with h|h
  ·rcases List.mem_append.1 h with h|h
   ·exact .inr (List.mem_of_mem_take h)
   ·exact .inl (List.mem_singleton.1 h)
  ·exact .inr (List.mem_of_mem_drop h)
 ·rintro (rfl|h)
  ·simp
  ·rw [<-List.take_append_drop (Q4S l f.N_) l] at h
   rcases List.mem_append.1 h with h|h
   ·simp [h]
   ·simp [h]
theorem Y9X {l:List A2_} {f:A2_} (hl:VL l) (hf:Z2M f=0) (hn:¬ (Q4S l f.N_<l.length/\(gl l (Q4S l f.N_)).N_=f.N_)) (h60:l.length≠60):VL (Y4j l f):=by
 obtain ⟨a,b,c⟩:=Z7e hl.asc f.N_;have o:=hl.len
 refine ⟨by simp [Y4j];omega,fun g h=>?_,?_⟩
 ·rcases Y4i.1 h with rfl|h
  ·exact hf
  ·exact hl.one g h
 ·unfold Y4j
  generalize Q4S l f.N_=k at *;have w:∀ g ∈ l.take k,g.N_<f.N_:=by
   intro g h;obtain ⟨j,n,rfl⟩:=List.getElem_of_mem h
   have d : j<k:=by simp at n;omega
   have:=b j d
   rw [z7 (by omega)] at this;simpa using this
  have u:∀ g ∈ l.drop k,f.N_<g.N_:=by
   intro g h;obtain ⟨j,n,rfl⟩:=List.getElem_of_mem h
   have d : k+j<l.length:=by simp at n;omega
   have t:=c (k+j) (by omega) d;rw [z7 d] at t
   have A:(l[k+j]).N_≠f.N_:=by
    intro e;rcases Nat.eq_zero_or_pos j with rfl|m
    ·exact hn ⟨by omega,by rw [z7 (by omega)];exact e⟩
    ·have r:=c k (Nat.le_refl _) (by omega)
     rw [z7 (by omega)] at r;have z:=List.pairwise_iff_getElem.1 hl.asc k (k+j) (by omega) d (by omega)
     omega
   simp only [List.getElem_drop];omega
  have m:=hl.asc;rw [<-List.take_append_drop k l,List.pairwise_append] at m
  obtain ⟨v,s,q⟩:=m;rw [List.append_assoc,List.pairwise_append]
  refine ⟨v,List.pairwise_cons.2 ⟨u,s⟩,fun x p y i=>?_⟩;rcases List.mem_append.1 i with i|i
  ·rw [List.mem_singleton.1 i];exact w x p
  ·exact q x p y i
structure LayT (l:List A2_):Prop where
 vl:VL l
 fea:∀ f ∈ l,FeaT f/\1<=f.N_/\f.N_<=12
theorem Z7h {F:Nat} (hF:BIG<=F) {t:Tape} (ht:TOk t) {most:Int} (m1:0<=most) (m2:most<=50):∃ t' l,Q4j F t most=some (t',l)/\TOk t' /\ LayT l/\(l.length:Int)<=most:=by
 have e:=hF;unfold BIG at hF
 obtain ⟨I,c,G,J,K,O⟩:=Z7 (F:=F) ht (n:=most+1) (by omega) (by omega);have r:∀ (k f:Nat) (t:Tape) (l:List A2_),k<f->TOk t->LayT l->(l.length:Int)+k<=most->∃ t' l',Z6 (fun again (z:List A2_×Int×List Int×Int)=>Q0Z F again z.1 z.2.1 z.2.2.1 z.2.2.2) f (l,(k:Int),t.l_,t.at_)=some (t',l')/\TOk t' /\ LayT l' /\ (l'.length:Int)<=most:=by
  intro k
  induction k with
  | zero=>
   intro f t l h ht d H
   cases f with
   | zero=>omega
   | succ f=>exact ⟨⟨t.l_,t.at_⟩,l,rfl,ht,d,by omega⟩
  | succ k ih=>
   intro f t l h ht d H
   cases f with
   | zero=>omega
   | succ f=>
    obtain ⟨L,n,y,C,N,M⟩:=V3 (F:=F) ht (lo:=1) (hi:=12) (by omega) (by omega) (by omega);obtain ⟨u,g,w,v,B,D⟩:=Z5p e C n
    have i:=B.one (by omega) (by omega);have E:=(Z0S l).2 d.vl
    have A:((k+1:Nat):Int)-1=(k:Int):=by omega
    by_cases hadd:(Y5S l g).2=0
    ·have j:LayT (Y5S l g).1/\(Y5S l g).1.length=l.length+1:=by
      unfold Y5S at hadd ⊢;rw [if_neg (by simp [E]),if_neg (by simp [i])] at hadd ⊢
      by_cases a:Q4S l g.N_<l.length/\(gl l (Q4S l g.N_)).N_=g.N_
      ·rw [if_pos a] at hadd;cases hadd
      ·rw [if_neg a] at hadd ⊢
       by_cases b:l.length=60
       ·rw [if_pos b] at hadd;cases hadd
       ·rw [if_neg b]
        refine ⟨⟨Y9X d.vl i a b,fun x p=>?_⟩,?_⟩
        ·rcases Y4i.1 p with rfl|p
         ·exact ⟨B,by omega,by omega⟩
         ·exact d.fea x p
        ·have:=(Z7e d.vl.asc g.N_).1
         simp [Y4j];omega
     obtain ⟨s,q,a,b,o,m⟩:=ih f u (Y5S l g).1 (by omega) v j.1 (by omega);refine ⟨s,q,?_,b,o,m⟩
     show Q0Z F _ l ((k+1:Nat):Int) t.l_ t.at_=_;unfold Q0Z
     refine Z8 (by simp) ?_;refine Q4 y (Q4 w (Q4 (Z7U e l g) ?_))
     refine Z8 (by simpa using hadd) ?_;unfold Q2e
     refine Z5 (k:=?_);rw [A];exact a
    ·obtain ⟨s,q,a,b,o,m⟩:=ih f u l (by omega) v d (by omega)
     refine ⟨s,q,?_,b,o,m⟩;show Q0Z F _ l ((k+1:Nat):Int) t.l_ t.at_=_
     unfold Q0Z;refine Z8 (by simp) ?_
     refine Q4 y (Q4 w (Q4 (Z7U e l g) ?_));refine Q9 (by simpa using hadd) ?_
     unfold Q2e;refine Z5 (k:=?_)
     rw [A];exact a
 obtain ⟨t',l,a,b,o,m⟩:=r c.toNat F I [] (by omega) J ⟨⟨by simp,fun f h=>(List.not_mem_nil h).elim,.nil⟩,fun f h=>(List.not_mem_nil h).elim⟩ (by simp;omega);refine ⟨t',l,?_,b,o,m⟩
 unfold Q4j;refine Z5 (k:=?_)
 refine Q4 G ?_;have:(c.toNat:Int)=c:=by omega
 rw [this] at a;exact a
theorem Y4g (F:Nat) (l:List Int):∃ t,Z2P F l=some t/\TOk t:=by
 unfold Z2P;have h:Q5S ((l.length:Nat):Int) 400=((min l.length 400:Nat):Int):=by unfold Q5S;split <;> omega
 rw [h];refine ⟨⟨l.take (min l.length 400),0⟩,?_,by simp only;omega,by simp;omega⟩
 refine Z5 (k:=?_);simp
theorem Y5z {R:Type} {body:(Int->Option R)->Int->Option R} {y:Option R} (N:Nat)
  (step:∀ again (i:Nat),i<N->again ((i:Int)+1)=y->body again (i:Int)=y) (stop:∀ again,body again (N:Int)=y) {F:Nat} (hF:N<F):Z6 body F 0=y:=by
 refine Y7 (fun z:Int=>∃ i:Nat,z=i/\i<=N) (fun z=>N-z.toNat) (fun again z a b=>?_) ⟨0,rfl,Nat.zero_le _⟩ (by simp;omega);obtain ⟨i,rfl,c⟩:=a
 rcases Nat.lt_or_ge i N with h|h
 ·exact step again i h (b _ ⟨i+1,by omega,h⟩ (by omega))
 ·have:i=N:=by omega
  subst this;exact stop again
theorem Runs.len {α:Type} {l:List (Rn α)} (h:Runs l) {n:Int}:∀ {a:Int},a<=n->(∀ r ∈ l,a<=r.lo/\r.hi<=n)->(l.length:Int)<=n-a:=by
 induction l with
 | nil=>intro a d _;simp;omega
 | cons r l ih=>
  intro a d b;have f:=b r (by simp)
  have e:=h.pos r (by simp);have:=ih h.tail (a:=r.hi) (by omega) fun q c=>⟨(h.head q c).1,(b q (by simp [c])).2⟩
  rw [List.length_cons];omega
theorem Y1E {S:Int->Int->Bool} (h:Fin S):cn S=[]↔∀ x y,S x y=false:=by
 constructor
 ·intro e x y
  rw [<-Q1b h,e];rfl
 ·intro e
  exact Y4A (l:=[]) ⟨.nil,fun b a=>(List.not_mem_nil a).elim,fun b a=>(List.not_mem_nil a).elim⟩ fun x y=>(e x y).symm
def ovB (r s:Rect):Bool:=decide (r.L_<s.R_)&&(decide (s.L_<r.R_)&&(decide (r.w_<s.H_)&&decide (s.w_<r.H_)))
theorem Z7L (F:Nat) (r s:Rect):Q5g F r s=some (ovB r s):=by
 unfold Q5g;rw [Q3V (Q0c F),Q3V (Q0c F),Q3V (Q0c F)]
 rfl
def ovL (a b:List Rect):Bool:=a.any fun r=>b.any fun s=>ovB r s
theorem Y6h {r s:Rect} (hr:Q3a r=true) (hs:Q3a s=true):ovB r s=true↔∃ x y,r.has x y=true/\s.has x y=true:=by
 rw [Q0g] at hr hs;simp only [y5]
 constructor
 ·intro h
  simp only [ovB,Bool.and_eq_true,decide_eq_true_eq] at h;refine ⟨max r.L_ s.L_,max r.w_ s.w_,?_⟩
  omega
 ·rintro ⟨x,y,h⟩
  simp only [ovB,Bool.and_eq_true,decide_eq_true_eq];omega
theorem Q5P (l:List Rect) (x y:Int):inR l x y=true↔∃ r ∈ l,r.has x y=true:=by unfold inR;rw [List.any_eq_true]
theorem Y3m {a b:List Rect} (ha:∀ r ∈ a,Q3a r=true) (hb:∀ r ∈ b,Q3a r=true):ovL a b=true↔∃ x y,inR a x y=true/\inR b x y=true:=by
 simp only [ovL,List.any_eq_true,Q5P];constructor
 ·rintro ⟨r,d,s,c,h⟩
  obtain ⟨x,y,f,e⟩:=(Y6h (ha r d) (hb s c)).1 h;exact ⟨x,y,⟨r,d,f⟩,⟨s,c,e⟩⟩
 ·rintro ⟨x,y,⟨r,d,f⟩,⟨s,c,e⟩⟩
  exact ⟨r,d,s,c,(Y6h (ha r d) (hb s c)).2 ⟨x,y,f,e⟩⟩
theorem Y8c {a b:List Rect}:ovL a b=ovL b a:=by
 rw [Bool.eq_iff_iff];simp only [ovL,List.any_eq_true,ovB,Bool.and_eq_true,decide_eq_true_eq]
 constructor <;> (rintro ⟨r,f,s,c,h,g,e,d⟩;exact ⟨s,c,r,f,g,h,d,e⟩)
noncomputable def Q4i (a b:Re_):Bool:=Q3D a.t_&&(Q3D b.t_&&ovL a.t_ b.t_)
theorem Y5s (a b:Re_):Q4i a b=Q4i b a:=by
 unfold Q4i;rw [Y8c]
 cases Q3D a.t_ <;> cases Q3D b.t_ <;> rfl
theorem Z9U {F:Nat} (hF:BIG<=F) (a b:Re_):Q7P F a b=some (Q4i a b):=by
 unfold Q7P Q4i;refine Q4 (Q0o hF a) ?_
 refine Q8 (fun h=>?_) (fun h=>by rw [h];rfl);refine Q4 (Q0o hF b) ?_
 refine Q8 (fun c=>?_) (fun c=>by rw [h,c];rfl);have e:=((Q1z _).1 h).1
 have d:=((Q1z _).1 c).1;refine Q4 (Q1H hF (fun r=>b.t_.any fun s=>ovB r s) (by omega) fun r _=>?_) ?_
 ·unfold Q7O
  refine Q4 (Q1H hF (fun s=>ovB r s) (by omega) fun s _=>?_) rfl;unfold Q5B
  rw [Z7L];rfl
 ·rw [h,c];rfl
theorem Y1c {F:Nat} (hF:BIG<=F) (a b:Re_):Q9I F a b=some (Q4i a b):=by
 unfold Q9I Q4i;refine Q4 (Q1j hF a) ?_
 refine Q8 (fun h=>?_) (fun h=>by rw [h];rfl);refine Q4 (Q1j hF b) ?_
 refine Q8 (fun f=>?_) (fun f=>by rw [h,f];rfl);have j:=(Q1z _).1 h
 have c:=(Q1z _).1 f;have m:=j.1
 have l:=c.1;refine Q4 (Q5Z hF (by omega)) ?_
 unfold Q5p;rw [h,f]
 show some _=some (ovL a.t_ b.t_);congr 1
 rw [Bool.eq_iff_iff,decide_eq_true_iff,Y3m j.2.1 c.2.1];have i:=Y1E (Q4l a.t_ b.t_ 2)
 have e:∀ x y,G3 (inR a.t_ x y) (inR b.t_ x y) 2=true↔inR a.t_ x y=true/\inR b.t_ x y=true:=fun x y=>by simp [G3]
 constructor
 ·intro d
  refine Classical.byContradiction fun k=>?_
  have:cn (fun x y=>G3 (inR a.t_ x y) (inR b.t_ x y) 2)=[]:=i.2 fun x y=>by
   rw [<-Bool.not_eq_true,e];exact fun g=>k ⟨x,y,g⟩
  rw [this] at d;simp at d
 ·rintro ⟨x,y,g⟩
  rcases Nat.eq_zero_or_pos (cn fun x y=>G3 (inR a.t_ x y) (inR b.t_ x y) 2).length with d|d
  ·have:=i.1 (List.eq_nil_of_length_eq_zero d) x y
   rw [(e x y).2 g] at this;cases this
  ·omega
theorem Z1J (F:Nat) (l:List Rect):Q1X F l=some (if 120<l.length then (⟨[]⟩,1) else (⟨l⟩,0)):=by
 unfold Q1X;refine Q8 (fun h=>?_) (fun h=>?_)
 ·have h:120<l.length:=by simp at h;omega
  rw [if_pos h]
 ·have h:¬ 120<l.length:=by simp at h;omega
  rw [if_neg h]
theorem Q8N {F:Nat} (hF:BIG<=F) {l:List Rect} (hl:l.length<=32768) (hpos:∀ r ∈ l,r.L_<r.R_):Q0C F l=some (if 120<(cn (inR l)).length then (⟨[]⟩,1) else (⟨cn (inR l)⟩,0)):=by
 unfold Q0C;refine Q4 (Z0x hF hl hpos) ?_
 exact Q4 (Z1J F _) rfl
def Q0D (L:List A2_) (d:Int) (p:Int->Bool):List Rect:=(L.filter fun f=>Z8A f d&&p f.k_).flatMap fun f=>f.g_.t_
theorem Z5h (f:A2_) (L:List A2_) (d:Int) (p:Int->Bool):Q0D (f::L) d p=(if (Z8A f d&&p f.k_)=true then f.g_.t_ else [])++Q0D L d p:=by
 unfold Q0D;rw [List.filter_cons]
 split
 ·rw [List.flatMap_cons]
 ·rfl
theorem Y5p {L:List A2_} {d:Int} {p:Int->Bool} {r:Rect} (h:r ∈ Q0D L d p):∃ f ∈ L,r ∈ f.g_.t_:=by
 obtain ⟨f,a,b⟩:=List.mem_flatMap.1 h;exact ⟨f,(List.mem_filter.1 a).1,b⟩
theorem Y5h {L:List A2_} (h:∀ f ∈ L,f.g_.t_.length<=120) (d:Int) (p:Int->Bool):(Q0D L d p).length<=120*L.length:=by
 induction L with
 | nil=>simp [Q0D]
 | cons f L ih=>
  have c:=ih fun g a=>h g (by simp [a])
  have b:=h f (by simp);rw [Z5h,List.length_append,List.length_cons]
  split
  ·omega
  ·simp;omega
theorem Z2V {F:Nat} (hF:BIG<=F) {L:List A2_} (hl:L.length<=10000) (hr:∀ f ∈ L,f.g_.t_.length<=120) (d:Int) {q:Int->Option Bool} (p:Int->Bool) (hq:∀ f ∈ L,q f.k_=some (p f.k_)) :
  Q4B F L d q=some (Q0D L d p):=by
 unfold BIG at hF;unfold Q4B
 refine Z1q (l:=L) (I:=fun l s=>s.length+120*l.length<=2000000/\∀ f ∈ l,f.g_.t_.length<=120) (fun l s=>some (s++Q0D l d p)) (fun a i s o g n=>?_) (fun a s _=>?_) (by omega) ⟨by simp;omega,hr⟩
 ·obtain ⟨g,c⟩:=g
  have r:=c _ (List.mem_cons_self ..);rw [List.length_cons] at g
  have j:∀ b:Bool,b=(Z8A (gl L i) d&&p (gl L i).k_)->Q3v F L i s a b=some (s++Q0D (gl L i::L.drop (i+1)) d p):=by
   intro b m;unfold Q3v
   rw [Z5h];refine Q8 (fun h=>?_) (fun h=>?_)
   ·rw [<-m,if_pos h]
    simp only [Int.toNat_natCast];refine Z3 (by unfold LIM;omega) ?_
    unfold Q3u;refine Z5 (k:=?_)
    rw [n _ ⟨by rw [List.length_append];omega,fun f e=>c f (List.mem_cons_of_mem _ e)⟩,List.append_assoc]
   ·rw [<-m,if_neg (by simp [h])]
    unfold Q3u;refine Z5 (k:=?_)
    rw [n _ ⟨by omega,fun f e=>c f (List.mem_cons_of_mem _ e)⟩];rfl
  unfold Q5U;refine Z8 (Z0q o) ?_
  refine Z5 (k:=?_);simp only [Int.toNat_natCast]
  refine Q4 (Z2U F _ d) ?_;refine Q8 (fun h=>?_) (fun h=>?_)
  ·refine Q4 (hq _ (V6 o)) ?_
   exact j _ (by rw [h];rfl)
  ·exact j _ (by rw [h];rfl)
 ·show Q5U F L d q a (L.length:Int) s=_
  unfold Q5U Q9h;refine Q9 (Q2V _) ?_
  simp [Q0D]
theorem Z3s {F:Nat} (hF:BIG<=F) {a b:List Span} (ha:a.length<=1000000) (hb:b.length<=1000000):Q3F F [a,b]=some (a++b):=by
 unfold BIG at hF;obtain ⟨m,rfl⟩:∃ m,F=m+3:=⟨F-3,by omega⟩
 have c:gl [a,b] (0:Int).toNat=a:=rfl;have d:gl [a,b] (1:Int).toNat=b:=rfl
 have k1:Q2l (m+3) [a,b] (((a.length:Nat):Int)+((b.length:Nat):Int))=some (a++b):=by
  unfold Q2l;refine Q4 (a:=[]) (by unfold Z9G;rw [if_pos (by unfold LIM;omega)]) ?_
  show K3 (m+3) [a,b] _ 0 []=_;unfold K3
  refine Z8 rfl ?_;rw [c]
  refine Z5 (k:=?_);refine Z3 (by simp [LIM];omega) ?_
  refine Z5 (k:=?_);show K3 (m+3) [a,b] _ 1 ([]++a)=_
  unfold K3;refine Z8 rfl ?_
  rw [d];refine Z5 (k:=?_)
  refine Z3 (by simp [LIM];omega) ?_;refine Z5 (k:=?_)
  show K3 (m+3) [a,b] _ 2 (([]++a)++b)=_;unfold K3
  refine Q9 rfl ?_;unfold Q4F
  simp
 show K4 (m+3) [a,b] _ 0 0=_;unfold K4
 refine Z8 rfl ?_;rw [c]
 refine Z5 (k:=?_);refine Z5 (k:=?_)
 refine Q9 (by simp <;> omega) ?_;refine Z5 (k:=?_)
 show K4 (m+3) [a,b] _ (0+((a.length:Nat):Int)) 1=_;unfold K4
 refine Z8 rfl ?_;rw [d]
 refine Z5 (k:=?_);refine Z5 (k:=?_)
 refine Q9 (by simp <;> omega) ?_;refine Z5 (k:=?_)
 show K4 (m+3) [a,b] _ (0+((a.length:Nat):Int)+((b.length:Nat):Int)) 2=_;unfold K4
 refine Q9 rfl ?_;rw [Int.zero_add]
 exact k1
theorem Z2z {F:Nat} (hF:BIG<=F) {l:List Span} (hl:l.length<=1000000) (x:Int):Q4q F l x=some (inS l x):=by
 unfold BIG at hF;have c:∃ i:Int,Q2j F l (fun a=>Q0n F a x)=some i/\(0<=i↔inS l x=true):=by
  have m:∀ s:Span,Q0n F s x=some (s.has x):=fun s=>by
   unfold Q0n;rw [Q3V (Q3H F)];rfl
  have d:∀ (n i:Nat),i<=l.length->l.length-i<n->∃ r:Int,Z6 (fun again (z:Int)=>U9 F l (fun a=>Q0n F a x) again z) n (i:Int)=some r/\(0<=r↔inS (l.drop i) x=true):=by
   intro n
   induction n with
   | zero=>intro i _ h;omega
   | succ n ih=>
    intro i p q;show ∃ r:Int,U9 F l (fun a=>Q0n F a x) (Z6 (fun again (z:Int)=>U9 F l (fun a=>Q0n F a x) again z) n) (i:Int)=some r/\_
    by_cases h:i<l.length
    ·have e:inS (l.drop i) x=((gl l i).has x||inS (l.drop (i+1)) x):=Y1K h fun s=>s.has x
     rw [e]
     by_cases b:(gl l i).has x=true
     ·refine ⟨i,?_,by rw [b];simp⟩
      unfold U9;refine Z8 (Z0q h) ?_
      refine Z5 (k:=?_);exact Q4 (m _) (Z8 b rfl)
     ·have b:(gl l i).has x=false:=by simpa using b
      obtain ⟨r,o,f⟩:=ih (i+1) h (by omega);refine ⟨r,?_,by rw [f,b];simp⟩
      unfold U9;refine Z8 (Z0q h) ?_
      refine Z5 (k:=?_);refine Q4 (m _) (Q9 b ?_)
      refine Z5 (k:=?_);exact o
    ·have:i=l.length:=by omega
     subst this;refine ⟨-1,?_,by simp [inS]⟩
     unfold U9;exact Q9 (Q2V _) rfl
  obtain ⟨r,j,g⟩:=d F 0 (Nat.zero_le _) (by omega);exact ⟨r,j,by simpa using g⟩
 obtain ⟨i,j,g⟩:=c;unfold Q4q Q1e
 refine Q4 (Q4 j rfl) ?_;congr 1
 rw [Bool.eq_iff_iff, <-g,decide_eq_true_iff]
theorem Y8k {F:Nat} (hF:BIG<=F) {a b:List Span} (ha:a.length<=1000000) (hb:b.length<=1000000) {es:List Int} {f:Int->Bool} {k:Bool->Bool->Bool} {q:Bool->Bool->Option Bool} (hq:∀ u v,q u v=some (k u v))
  (hst:Step false es f) (hf:∀ x,f x=k (inS a x) (inS b x)) (hes:es.length<=8000000):Z6 (fun again (z:Int×List Span)=>Q4e F a b q es again z.1 z.2) F ((1:Int),([]:List Span))=some (spn f):=by
 have p:=hF;unfold BIG at hF
 by_cases h0:es.length=0
 ·obtain ⟨m,rfl⟩:∃ m,F=m+1:=⟨F-1,by omega⟩
  show Q4e (m+1) a b q es _ 1 []=_;unfold Q4e Q6C
  refine Q9 (by simp [h0]) ?_;rw [Z8G (hst.empty h0)]
 ·refine Y7 (fun z:Int×List Span=>∃ (i:Nat) (e:List Span),z=(((i+1:Nat):Int),e)/\i+1<=es.length/\Bst false f (e.map Span.rn) (gl es i)/\e.length<=i) (fun z=>es.length-z.1.toNat) (fun again z D G=>?_) ⟨0,[],rfl,by omega,hst.start (by omega),by simp⟩ (by simp;omega)
  obtain ⟨i,e,rfl,H,l,j⟩:=D;simp only
  unfold Q4e;refine Q8 (fun h=>?_) (fun h=>?_)
  ·have h:i+1<es.length:=by simp at h;omega
   have A:(((i+1:Nat):Int)-1).toNat=i:=by omega
   have B:((i+1:Nat):Int).toNat=i+1:=by omega
   have g:=hst.asc.at_lt (show i<i+1 by omega) h;refine Z5 (k:=?_)
   refine Z5 (k:=?_);rw [A]
   refine Q4 (Z2z p ha _) ?_;refine Q4 (Z2z p hb _) ?_
   refine Q4 (hq _ _) ?_;rw [<-hf]
   have d:∀ c : List Span,Bst false f (c.map Span.rn) (gl es (i+1))->c.length<=i+1->Q2r F ((i+1:Nat):Int) again c=some (spn f):=by
    intro c y w;unfold Q2r
    refine Z5 (k:=?_);exact G _ ⟨i+1,c,by simp,h,y,w⟩ (by simp;omega)
   cases hfe:f (gl es i) with
   | false=>
    refine Z8 rfl ?_;exact d e (l.skip (by omega) fun t y w=>(hst.gap i h t y w).trans hfe) (by omega)
   | true=>
    refine Q9 rfl ?_;rcases List.eq_nil_or_concat e with rfl|⟨n,s,r⟩
    ·refine Q9 rfl ?_
     unfold Q4d;refine Q9 rfl ?_
     rw [A,B];refine Z5 (k:=?_)
     refine Z3 (by simp [LIM]) ?_;refine d _ ?_ (by simp)
     have:=l.add g (hst.gap i h) (fun a ha=>by simp at ha)
     rw [hfe] at this;exact this
    ·rw [List.concat_eq_append] at r
     subst r;have C:(((n ++ [s]).length:Nat):Int)-1=((n.length:Nat):Int):=by simp
     have o:(((n.length:Nat):Int)).toNat=n.length:=by omega
     refine Z8 (by simp <;> omega) ?_;rw [C,o]
     refine Z5 (k:=?_);refine Z3 (by simp <;> omega) ?_
     rw [Z3B n s rfl];unfold Q4d
     by_cases hs:s.R_=gl es i
     ·refine Z8 (by simp [hs]) ?_
      rw [C,o,B];refine Z5 (k:=?_)
      refine Z5 (k:=?_);refine Z3 (by simp <;> omega) ?_
      rw [Z3B n s rfl,Z7G n s _ rfl];refine d _ ?_ (by simp at j ⊢;omega)
      rw [List.map_append] at l;have:=l.grow (a:=s.rn) hs g fun t y w=>(hst.gap i h t y w).trans hfe
      rw [List.map_append];exact this
     ·refine Q9 (by simpa using hs) ?_
      rw [A,B];refine Z5 (k:=?_)
      refine Z3 (by simp [LIM] at j ⊢;omega) ?_;refine d _ ?_ (by simp at j ⊢;omega)
      have:=l.add g (hst.gap i h) (fun a ha E=>by
       rw [List.map_append] at ha;simp at ha
       subst ha;exact absurd E hs)
      rw [hfe] at this;rw [List.map_append];exact this
  ·have h:i+1=es.length:=by simp at h;omega
   unfold Q6C;congr 1
   refine (Z8H (.of_runs l.runs) fun x=>?_).symm;rw [Z8g];exact hst.done h l x
def Y1B (l:List Span):List Int:=l.flatMap fun s=>[s.L_,s.R_]
theorem Z9o (l:List Span):(Y1B l).length=2*l.length:=by
 induction l with
 | nil=>rfl
 | cons s l ih=>unfold Y1B at ih ⊢;rw [List.flatMap_cons,List.length_append,ih];simp;omega
theorem Y6m {l:List Span} {c:List Int} (hc:Asc c) (hm:∀ s ∈ l,s.L_ ∈ c/\s.R_ ∈ c) {i:Nat} (hi:i+1<c.length) {t:Int} (h1:gl c i<=t) (h2:t<gl c (i+1)):inS l t=inS l (gl c i):=by
 unfold inS
 induction l with
 | nil=>rfl
 | cons s l ih=>
  rw [List.any_cons,List.any_cons,ih fun q g=>hm q (by simp [g])];congr 1
  obtain ⟨d,f⟩:=hm s (by simp);have e:=hc.gap hi h1 h2 d
  have h:=hc.gap hi h1 h2 f;unfold Span.has
  have a:decide (s.L_<=t)=decide (s.L_<=gl c i):=by simp only [e]
  have b:decide (t<s.R_)=decide (gl c i<s.R_):=by rw [decide_eq_decide];omega
  rw [a,b]
theorem Y8w {l:List Span} {t:Int} (h:∀ s ∈ l,¬ (s.L_<=t/\t<s.R_)):inS l t=false:=by
 unfold inS;rw [List.any_eq_false]
 intro s a;have:=h s a
 simp only [Span.has,Bool.and_eq_true,decide_eq_true_eq];exact this
theorem Z9T {F:Nat} (hF:BIG<=F) {a b:List Span} (ha:a.length<=1000000) (hb:b.length<=1000000) {k:Bool->Bool->Bool} (hk:k false false=false) {q:Bool->Bool->Option Bool} (hq:∀ u v,q u v=some (k u v)) :
  Q7L F a b q=some (spn fun x=>k (inS a x) (inS b x)):=by
 have h:=hF;unfold BIG at hF
 unfold Q7L;refine Q4 (Z3s h ha hb) ?_
 have K:(a++b).length<=2000000:=by rw [List.length_append];omega
 refine Z1q (l:=a++b) (I:=fun l s=>s++Y1B l=Y1B (a++b)) (fun _ _=>some (spn fun x=>k (inS a x) (inS b x))) (fun d i s n o M=>?_) (fun d s o=>?_) (by omega) rfl
 ·have p:=Z9o (a++b)
  have H:s.length+2<=(Y1B (a++b)).length:=by
   rw [<-o,List.length_append,Z9o];simp;omega
  unfold Q6D;refine Z8 (Z0q n) ?_
  refine Z5 (k:=?_);simp only [Int.toNat_natCast]
  refine Z3 (by simp [LIM];omega) ?_;refine Z5 (k:=?_)
  refine M _ ?_;rw [<-o,List.append_assoc];rfl
 ·have w:s=Y1B (a++b):=by rw [<-o];simp [Y1B]
  show Q6D F a b q (a++b) d (((a++b).length:Nat):Int) s=_;unfold Q6D
  refine Q9 (Q2V _) ?_;unfold Z0k
  have p:=Z9o (a++b);obtain ⟨r,L,B,A,C⟩:=Y7O (l:=s) (by rw [w];unfold LIM;omega)
  refine Q4 L ?_;have G:r.length<=4000000:=by rw [C,w];omega
  refine Q4 (Q8A h (by unfold LIM;omega)) ?_;have E:=Y5C r
  have g:=Y5D r B;have c:∀ l,l=a\/l=b->∀ s ∈ l,s.L_ ∈ dd r/\s.R_ ∈ dd r:=by
   intro l j q z;have:q ∈ a++b:=by rcases j with rfl|rfl <;> simp [z]
   have m:∀ v,v ∈ [q.L_,q.R_]->v ∈ dd r:=fun v J=>(Y3p r v).2 ((A v).2 (by rw [w];exact List.mem_flatMap.2 ⟨q,this,J⟩))
   exact ⟨m _ (by simp),m _ (by simp)⟩
  refine Y8k h ha hb hq (f:=fun x=>k (inS a x) (inS b x)) ⟨g,fun i n t D m=>?_,fun t y=>?_,fun t y=>?_⟩ (fun _=>rfl) (by omega)
  ·simp only [Y6m g (c a (.inl rfl)) n D m,Y6m g (c b (.inr rfl)) n D m]
  ·have e:∀ l,l=a\/l=b->inS l t=false:=fun l j=>Y8w fun q hq=>by have:=y _ (c l j q hq).1;omega
   simp only [e a (.inl rfl),e b (.inr rfl),hk]
  ·have e:∀ l,l=a\/l=b->inS l t=false:=fun l j=>Y8w fun q hq=>by have:=y _ (c l j q hq).2;omega
   simp only [e a (.inl rfl),e b (.inr rfl),hk]
theorem Q8O {F:Nat} (hF:BIG<=F) {a b:List Rect} (hl:a.length+b.length<=16000) (ha:∀ r ∈ a,r.L_<r.R_) (hb:∀ r ∈ b,r.L_<r.R_) {k:Bool->Bool->Bool} (hk:k false false=false) {q:Bool->Bool->Option Bool} (hq:∀ u v,q u v=some (k u v)) :
  V2 F a b q=some (cn fun x y=>k (inR a x y) (inR b x y)):=by
 unfold V2;have d:Grid (Q8s b (Q8s a [])) (Y2h [a,b]) fun x y=>k (inR a x y) (inR b x y):=
  Grid.of (Q8r b (Q8r a .nil)) (Y4v _) (fun r c=>⟨(Q0z b _ _).2 (.inl ((Q0z a _ _).2 (.inr ⟨r,c,.inl rfl⟩))),(Q0z b _ _).2 (.inl ((Q0z a _ _).2 (.inr ⟨r,c,.inr rfl⟩)))⟩)
   (fun r c=>⟨(Q0z b _ _).2 (.inr ⟨r,c,.inl rfl⟩),(Q0z b _ _).2 (.inr ⟨r,c,.inr rfl⟩)⟩) (Z9q _ (by simp)) (Z9q _ (by simp)) hk
 have f:=Y1l a (ls:=[a,b]) (by simp);have e:=Y1l b (ls:=[a,b]) (by simp)
 have h:tot [a,b]=a.length+b.length:=by simp [tot]
 have g:=Y4u [a,b];have i:=Z9I (a:=a) (b:=b)
 refine Q4 (Z4M hF (by omega) (by simp)) ?_;refine Q4 (Z3S hF d.rows d.step (by omega) (fun y=>?_) (fun y=>?_)) rfl
 ·unfold Q6G
  have o:=(f.x y).spn_len;have n:=(e.x y).spn_len
  have m:=Z3I (l:=a);have j:=Z3I (l:=b)
  refine Q4 (Z1Y hF (by omega) ha y) ?_;refine Q4 (Z1Y hF (by omega) hb y) ?_
  refine Q4 (Z9T hF (by omega) (by omega) hk hq) ?_;congr 2
  funext x
  rw [(f.rows.sp y).2 x,(e.rows.sp y).2 x]
 ·have:=(d.x y).spn_len
  omega
def Sm (r:Rect):Prop:= -1000000<=r.L_/\r.L_<=1000000 /\ -1000000<=r.w_/\r.w_<=1000000 /\ -1000000<=r.R_/\r.R_<=1000000 /\ -1000000<=r.H_/\r.H_<=1000000
theorem Y9L {r:Rect} (h:Q3a r=true):Sm r:=by
 rw [Q0g] at h;unfold Sm;omega
def Y5t (a b:Rect):Int:=Q0A 0 (Q5S a.H_ b.H_-Q0A a.w_ b.w_)
def Y4f (a b:Rect):Int:=Q0A 0 (Q5S a.R_ b.R_-Q0A a.L_ b.L_)
def W0G (a b:Rect):Bool:=a.R_==b.L_||b.R_==a.L_
def Y6b (a b:Rect):Bool:=a.H_==b.w_||b.H_==a.w_
def com (a b:Rect):Int:=(if W0G a b=true then Y5t a b else 0)+(if Y6b a b=true then Y4f a b else 0)
theorem Y9V {a b:Rect} (ha:Sm a) (hb:Sm b):0<=Y5t a b/\Y5t a b<=2000000 /\ -2000000<=Q5S a.H_ b.H_-Q0A a.w_ b.w_/\Q5S a.H_ b.H_-Q0A a.w_ b.w_<=2000000:=by
 unfold Sm at ha hb;unfold Y5t Q0A Q5S
 repeat' split
 all_goals omega
theorem Y9W {a b:Rect} (ha:Sm a) (hb:Sm b):0<=Y4f a b/\Y4f a b<=2000000 /\ -2000000<=Q5S a.R_ b.R_-Q0A a.L_ b.L_/\Q5S a.R_ b.R_-Q0A a.L_ b.L_<=2000000:=by
 unfold Sm at ha hb;unfold Y4f Q0A Q5S
 repeat' split
 all_goals omega
theorem Y2K {F:Nat} {a b:Rect} (ha:Sm a) (hb:Sm b) {v:Int} (h1:0<=v) (h2:v<=2000000) (c:Bool):Q4a F a b v c=some (v+if c=true then Y4f a b else 0):=by
 obtain ⟨g,e,d,f⟩:=Y9W ha hb;unfold Q4a
 cases c with
 | true=>
  refine Z8 rfl ?_;refine Z3 (Y3 (by omega) (by omega)) ?_
  show gd (I64 (v+Y4f a b)) _=_;refine Z3 (Y3 (by omega) (by omega)) ?_
  rfl
 | false=>
  refine Q9 rfl ?_;show some v=some (v+0)
  rw [Int.add_zero]
theorem Y2L {F:Nat} {a b:Rect} (ha:Sm a) (hb:Sm b) {v:Int} (h1:0<=v) (h2:v<=2000000):Q2q F a b v=some (v+if Y6b a b=true then Y4f a b else 0):=by
 unfold Q2q;rw [Y2K ha hb h1 h2,Y2K ha hb h1 h2]
 unfold Y6b
 cases a.H_==b.w_ <;> rfl
theorem Y2M {F:Nat} {a b:Rect} (ha:Sm a) (hb:Sm b) (c:Bool):Q4b F a b c=some ((if c=true then Y5t a b else 0)+if Y6b a b=true then Y4f a b else 0):=by
 obtain ⟨g,e,d,f⟩:=Y9V ha hb;unfold Q4b
 cases c with
 | true=>
  refine Z8 rfl ?_;refine Z3 (Y3 (by omega) (by omega)) ?_
  show gd (I64 (0+Y5t a b)) _=_;refine Z3 (Y3 (by omega) (by omega)) ?_
  show Q2q F a b (0+Y5t a b)=_;rw [Y2L ha hb (by omega) (by omega)]
  simp
 | false=>
  refine Q9 rfl ?_;rw [Y2L ha hb (by omega) (by omega)]
  rfl
theorem Z9N (F:Nat) {a b:Rect} (ha:Sm a) (hb:Sm b):Q7G F a b=some (com a b):=by
 unfold Q7G;rw [Y2M ha hb,Y2M ha hb]
 unfold com W0G
 cases a.R_==b.L_ <;> rfl
def Q3n (a b:Rect):Bool:=decide (0<com a b)
theorem Z1I {F:Nat} {q:List Rect} {r:Rect} {i:Nat} (hi:i<q.length) (hl:q.length<=1000000) (hq:∀ s ∈ q,Sm s) (hr:Sm r) :
  Q3g F r q i=some (if Q3n (gl q i) r=true then q++[r] else q,Q3n (gl q i) r):=by
 unfold Q3g;refine Z3 (by omega) ?_
 simp only [Int.toNat_natCast];refine Q4 (Z9N F (hq _ (V6 hi)) hr) ?_
 show Q4O F r q (Q3n (gl q i) r)=_;unfold Q4O
 cases Q3n (gl q i) r with
 | true=>
  refine Z8 rfl ?_;refine Z3 (by simp [LIM];omega) rfl
 | false=>exact Q9 rfl rfl
theorem Y9Y {F:Nat} (hF:BIG<=F) {l q:List Rect} {k:Nat} (hk:k<q.length) (hl:l.length<=900000) (hql:q.length<=900000) (hq:∀ s ∈ q,Sm s) (hr:∀ r ∈ l,Sm r) :
  Q0t F l q k=some (l,if l.any (Q3n (gl q k))=true then q++[gl l (l.findIdx (Q3n (gl q k)))] else q,Z0P (Q3n (gl q k)) l):=by
 unfold BIG at hF;unfold Q0t
 refine Y7 (fun z:Int×List Rect=>∃ i:Nat,z=((i:Int),q)/\i<=l.length/\∀ j,j<i->Q3n (gl q k) (gl l j)=false) (fun z=>l.length-z.1.toNat) (fun d z m e=>?_) ⟨0,rfl,by omega,fun j g=>by omega⟩ (by simp;omega);obtain ⟨i,rfl,n,c⟩:=m
 simp only at e ⊢;unfold Q5d
 refine Q8 (fun h=>?_) (fun h=>?_)
 ·have h:i<l.length:=by simpa using h
  refine Z5 (k:=?_);simp only [Int.toNat_natCast]
  refine Q4 (Z1I hk (by omega) hq (hr _ (V6 h))) ?_;simp only
  refine Q8 (fun a=>?_) (fun a=>?_)
  ·have b:l.any (Q3n (gl q k))=true:=List.any_eq_true.2 ⟨_,V6 h,a⟩
   rw [if_pos a,Z0P,if_pos b,if_pos b,Z3E h c a]
  ·rw [a,if_neg (by simp)]
   refine Z5 (k:=?_);refine e _ ⟨i+1,rfl,h,fun j g=>?_⟩ (by simp only;omega)
   rcases Nat.lt_or_ge j i with f|f
   ·exact c j f
   ·have:j=i:=by omega
    subst this;exact a
 ·have h:¬ i<l.length:=by simpa using h
  have:i=l.length:=by omega
  subst this;have b:=Q6A c
  rw [Z0P,b];rfl
theorem Y8K {F:Nat} (hF:BIG<=F) {l q:List Rect} {k:Nat} (hk:k<q.length) (hl:l.length+q.length<=900000) (hq:∀ s ∈ q,Sm s) (hr:∀ r ∈ l,Sm r) :
  Q0j F l q k=some (q++l.filter (Q3n (gl q k)),l.filter fun r=> !Q3n (gl q k) r):=by
 have J:=hF;unfold BIG at hF
 unfold Q0j;refine Q4 (Y9Y J hk (by omega) (by omega) hq hr) ?_
 generalize a:Q3n (gl q k)=p;simp only
 by_cases f:l.any p=true
 ·obtain ⟨x,d,E⟩:=List.any_eq_true.1 f
  have c:l.findIdx p<l.length:=List.findIdx_lt_length_of_exists ⟨x,d,E⟩;have y:p (gl l (l.findIdx p))=true:=by rw [z7 c];exact List.findIdx_getElem (w:=c)
  have A:∀ j,j<l.findIdx p->p (gl l j)=false:=by
   intro j t;rw [z7 (by omega)]
   simpa using List.not_of_lt_findIdx t
  rw [Z0P,if_pos f,if_pos f];refine Q9 (by simp) ?_
  refine Z5 (k:=?_);generalize l.findIdx p=i0 at *
  have I:(l.take i0).filter (fun r=> !p r)=l.take i0:=by
   rw [List.filter_eq_self];intro x d
   obtain ⟨j,t,rfl⟩:=List.getElem_of_mem d;have g : j<i0:=by simp at t;omega
   have:=A j g
   rw [z7 (by omega)] at this;simp [this]
  have K:(l.take i0).filter p=[]:=by
   rw [List.filter_eq_nil_iff];intro x d
   obtain ⟨j,t,rfl⟩:=List.getElem_of_mem d;have g : j<i0:=by simp at t;omega
   have:=A j g
   rw [z7 (by omega)] at this;simp [this]
  have Q:(l.take (i0+1)).filter (fun r=> !p r)=l.take i0:=by
   rw [y3 c,List.filter_append,I];simp [y]
  have G:(l.take (i0+1)).filter p=[gl l i0]:=by
   rw [y3 c,List.filter_append,K];simp [y]
  refine Y7 (fun z:Int×Int×List Rect×List Rect=>∃ (i j:Nat) (b:List Rect),z=((i:Int),(j:Int),b,q++(l.take j).filter p)/\i<j/\j<=l.length/\b.length=l.length/\(∀ m,j<=m->gl b m=gl l m)/\b.take i=(l.take j).filter fun r=> !p r)
   (fun z=>l.length-z.2.1.toNat) (fun D z L H=>?_) ⟨i0,i0+1,l,by rw [G];rfl,by omega,by omega,rfl,fun _ _=>rfl,Q.symm⟩ (by simp only;omega)
  obtain ⟨i,j,b,rfl,O,t,e,n,o⟩:=L;simp only at H ⊢
  unfold Q4N;rw [e]
  have M:((l.take j).filter p).length<=j:=by
   have:=List.length_filter_le p (l.take j)
   simp at this;omega
  have C:gl (q++(l.take j).filter p) k=gl q k:=by simp [gl,List.getD_eq_getElem?_getD,List.getElem?_append,hk]
  refine Q8 (fun h=>?_) (fun h=>?_)
  ·have h:j<l.length:=by simpa using h
   refine Z5 (k:=?_);simp only [Int.toNat_natCast]
   rw [n j (Nat.le_refl _)];refine Q4 (Z1I (by simp;omega) (by simp;omega) (fun s v=>?_) (hr _ (V6 h))) ?_
   ·rcases List.mem_append.1 v with v|v
    ·exact hq s v
    ·exact hr s (List.mem_of_mem_take (List.mem_filter.1 v).1)
   rw [C,a];have B:(l.take (j+1)).filter (fun r=> !p r)=(l.take j).filter (fun r=> !p r)++(if p (gl l j)=true then [] else [gl l j]):=by
    rw [y3 h,List.filter_append]
    by_cases a:p (gl l j)=true
    ·rw [if_pos a];simp [a]
    ·rw [if_neg a];simp [a]
   have u:(l.take (j+1)).filter p=(l.take j).filter p++(if p (gl l j)=true then [gl l j] else []):=by
    rw [y3 h,List.filter_append]
    by_cases a:p (gl l j)=true
    ·rw [if_pos a];simp [a]
    ·rw [if_neg a];simp [a]
   simp only
   refine Q8 (fun a=>?_) (fun a=>?_)
   ·have a:p (gl l j)=false:=by simpa using a
    refine Z5 (k:=?_);refine Z5 (k:=?_)
    unfold G2;refine Z5 (k:=?_)
    rw [a,if_neg (by simp)];refine H _ ⟨i+1,j+1,b.set i (gl l j),?_,by omega,by omega,by simp [e],fun m N=>?_,?_⟩ (by simp only;omega)
    ·rw [u,a,if_neg (by simp),List.append_nil];rfl
    ·rw [Z9h _ _ _ _ (by omega),if_neg (by omega)];exact n m (by omega)
    ·rw [B,if_neg (by rw [a];simp), <-o,y3 (by simp;omega),Z4y _ _ _ _ (Nat.le_refl _),Z9h _ _ _ _ (by omega),if_pos rfl]
   ·have a:p (gl l j)=true:=by simpa using a
    unfold G2;refine Z5 (k:=?_)
    rw [a,if_pos rfl];refine H _ ⟨i,j+1,b,?_,by omega,by omega,e,fun m N=>n m (by omega),?_⟩ (by simp only;omega)
    ·rw [u,a,if_pos rfl, <-List.append_assoc];rfl
    ·rw [B,if_pos a,List.append_nil,o]
  ·have h:¬ j<l.length:=by simpa using h
   have P:j=l.length:=by omega
   unfold Q1G;simp only [Int.toNat_natCast,Y3x,e]
   refine Z5 (k:=?_);refine Z5 (k:=?_)
   rw [Y0G _ _ _ (by omega),o,List.take_of_length_le (by omega)]
 ·have f:l.any p=false:=by simpa using f
  rw [Z0P,f];refine Z8 rfl ?_
  have I:l.filter p=[]:=by
   rw [List.filter_eq_nil_iff];intro x d
   have:=List.any_eq_false.1 f x d
   simpa using this
  have K:l.filter (fun r=> !p r)=l:=by
   rw [List.filter_eq_self];intro x d
   have:=List.any_eq_false.1 f x d
   simpa using this
  rw [I,K];simp
def jn:Nat->List Rect->Nat->List Rect->List Rect×List Rect
 | 0,q,_,rest=>(q,rest)
 | n+1,q,k,rest=>if k<q.length then jn n (q++rest.filter (Q3n (gl q k))) (k+1) (rest.filter fun r=> !Q3n (gl q k) r) else (q,rest)
def Z1x:List Rect->List Rect×List Rect
 | []=>([],[])
 | a::l=>jn (l.length+2) [a] 0 l
theorem Z9H {α:Type} (p:α->Bool) (l:List α):(l.filter p).length+(l.filter fun r=> !p r).length=l.length:=by
 induction l with
 | nil=>rfl
 | cons a l ih=>by_cases h:p a=true <;> simp [h] <;> omega
theorem Y5W {F:Nat} {l:List Rect} (h:l.length<=LIM):Q1C F l=some l:=by
 unfold Q1C
 cases h:l with
 | nil=>
  show gdc _ _=_;unfold gdc
  exact @Z3 _ _ (Classical.propDecidable _) _ _ rfl rfl
 | cons a l' =>
  have:(a::l').length=l'.length+1:=rfl
  show (gd _ _)=_;rw [<-h]
  refine Z5 (k:=?_);simp
theorem Z9O {F:Nat} (hF:BIG<=F) {l:List Rect} (hne:l≠[]) (hl:l.length<=400000) (hs:∀ r ∈ l,Sm r):Q7I F l=some (Z1x l):=by
 have g:=hF;unfold BIG at hF
 cases l with
 | nil=>exact absurd rfl hne
 | cons a l=>
  simp only [List.length_cons] at hl;unfold Q7I
  refine Z3 (by simp only [List.length_cons];omega) ?_;refine Z3 (by simp only [List.length_cons];omega) ?_
  have m:(1:Int).toNat=1:=rfl;rw [m]
  refine Q4 (Y5W (by simp [LIM];omega)) ?_;simp only [List.drop_succ_cons,List.drop_zero,List.take_succ_cons,List.take_zero]
  refine Y7 (fun z:List Rect×Int×List Rect=>∃ (n k:Nat) (q b:List Rect),z=(b,(k:Int),q)/\k<=q.length/\q.length+b.length=l.length+1/\(∀ r ∈ q++b,Sm r)/\l.length+2<=n+k/\jn n q k b=Z1x (a::l))
   (fun z=>l.length+2-z.2.1.toNat) (fun f z o j=>?_) ⟨l.length+2,0,[a],l,rfl,by simp,by simp;omega,fun r c=>hs r (by simpa using c),by omega,rfl⟩ (by simp;omega)
  obtain ⟨n,k,q,b,rfl,t,i,d,u,e⟩:=o;simp only at j ⊢
  unfold Z3Q Z0e
  cases n with
  | zero=>omega
  | succ n=>
  rw [jn] at e;refine Q8 (fun h=>?_) (fun h=>?_)
  ·have h:k<q.length:=by simpa using h
   rw [if_pos h] at e;refine Q4 (Y8K g h (by omega) (fun s hs=>d s (by simp [hs])) (fun s hs=>d s (by simp [hs]))) ?_
   refine Z5 (k:=?_);have p:=Z9H (Q3n (gl q k)) b
   refine j _ ⟨n,k+1,_,_,rfl,by simp;omega,by simp;omega,fun r c=>d r ?_,by omega,e⟩ (by simp only;omega);simp only [List.mem_append,List.mem_filter] at c ⊢
   rcases c with (c|c) | c
   ·exact .inl c
   ·exact .inr c.1
   ·exact .inr c.1
  ·have h:¬ k<q.length:=by simpa using h
   rw [if_neg h] at e;unfold Z0d
   rw [e]
def Apt (r s:Rect):Prop:=∀ x y,r.has x y=true->s.has x y=true->False
def W0R (q:List Rect):Prop:=∀ i,0<i->i<q.length->∃ j,j<i/\Q3n (gl q j) (gl q i)=true
structure JnOk (q rest q' rest' : List Rect):Prop where
 perm:(q' ++ rest').Perm (q++rest)
 chain:W0R q'
 pre:q <+: q'
 apart:∀ r ∈ q',∀ s ∈ rest',Q3n r s=false
theorem Y3l {α:Type} (p:α->Bool) (l:List α):(l.filter p++l.filter fun r=> !p r).Perm l:=List.filter_append_perm p l
theorem W1C:∀ (n:Nat) (q:List Rect) (k:Nat) (rest:List Rect),q.length+rest.length<n+k->k<=q.length->W0R q->(∀ i,i<k->∀ s ∈ rest,Q3n (gl q i) s=false)->JnOk q rest (jn n q k rest).1 (jn n q k rest).2:=by
 intro n
 induction n with
 | zero=>intro q k rest w v;omega
 | succ n ih=>
  intro q k rest w v l g;rw [jn]
  by_cases hk:k<q.length
  ·rw [if_pos hk]
   have x:=Z9H (Q3n (gl q k)) rest;have d:∀ i,i<q.length->gl (q++rest.filter (Q3n (gl q k))) i=gl q i:=fun i a=>by simp [gl,List.getD_eq_getElem?_getD,List.getElem?_append,a]
   have h:=ih (q++rest.filter (Q3n (gl q k))) (k+1) (rest.filter fun r=> !Q3n (gl q k) r) (by simp;omega) (by simp;omega) (fun i a e=>?_) (fun i a s f=>?_)
   ·refine ⟨h.perm.trans ?_,h.chain,?_,h.apart⟩
    ·rw [List.append_assoc]
     exact (Y3l _ rest).append_left q
    ·exact (List.prefix_append _ _).trans h.pre
   ·by_cases hiq:i<q.length
    ·obtain ⟨j,o,u⟩:=l i a hiq
     exact ⟨j,o,by rw [d i hiq,d j (by omega)];exact u⟩
    ·refine ⟨k,by omega,?_⟩
     rw [d k hk];have p:gl (q++rest.filter (Q3n (gl q k))) i ∈ rest.filter (Q3n (gl q k)):=by
      have b : i-q.length<(rest.filter (Q3n (gl q k))).length:=by simp at e;omega
      have:gl (q++rest.filter (Q3n (gl q k))) i=gl (rest.filter (Q3n (gl q k))) (i-q.length):=by
       simp [gl,List.getD_eq_getElem?_getD,List.getElem?_append,hiq]
      rw [this];exact V6 b
     exact (List.mem_filter.1 p).2
   ·have c:=List.mem_filter.1 f
    rcases Nat.lt_or_ge i k with m|m
    ·rw [d i (by omega)];exact g i m s c.1
    ·have:i=k:=by omega
     subst this;rw [d i hk];simpa using c.2
  ·rw [if_neg hk]
   refine ⟨List.Perm.refl _,l,List.prefix_refl _,fun r t s f=>?_⟩;obtain ⟨i,a,rfl⟩:=List.getElem_of_mem t
   have:=g i (by simp only at a;omega) s f
   rwa [z7 a] at this
theorem Y2E (a:Rect) (l:List Rect):JnOk [a] l (Z1x (a::l)).1 (Z1x (a::l)).2:=
 W1C (l.length+2) [a] 0 l (by simp;omega) (by simp) (fun i c b=>by simp at b;omega) (fun i c=>by omega)
def Z7d:Nat->List Rect->List (List Rect)
 | 0,_=>[]
 | _+1,[]=>[]
 | n+1,a::l=>(Z1x (a::l)).1::Z7d n (Z1x (a::l)).2
def Z9D (l:List Rect):List (List Rect):=Z7d l.length l
theorem JnOk.lens {a:Rect} {l q r:List Rect} (h:JnOk [a] l q r):q≠[]/\r.length<=l.length:=by
 have d:=h.perm.length_eq;simp at d
 obtain ⟨t,b⟩:=h.pre;have:1<=q.length:=by rw [<-b];simp
 exact ⟨fun c=>by rw [c] at this;simp at this,by omega⟩
theorem Y4a:∀ (n:Nat) (l:List Rect),l.length<=n->(Z7d n l).flatten.Perm l:=by
 intro n
 induction n with
 | zero=>intro l b;have:l=[]:=List.eq_nil_of_length_eq_zero (by omega);subst this;exact List.Perm.refl _
 | succ n ih=>
  intro l b
  cases l with
  | nil=>exact List.Perm.refl _
  | cons a l=>
   have h:=Y2E a l;have:=h.lens.2
   simp only [Z7d,List.flatten_cons];simp only [List.length_cons] at b
   exact ((ih _ (by omega)).append_left _).trans h.perm
theorem Y1j (l:List Rect):(Z9D l).flatten.Perm l:=Y4a _ l (Nat.le_refl _)
def lt2 (a b:Int×Int):Prop:=a.1<b.1\/(a.1=b.1/\a.2<b.2)
theorem Y9T {a b:Int×Int} (h:a≠b):lt2 a b\/lt2 b a:=by
 unfold lt2;have:a.1≠b.1\/a.2≠b.2:=by
  rcases Int.decEq a.1 b.1 with c|c
  ·exact .inl c
  ·right;intro d;exact h (Prod.ext c d)
 omega
theorem Q2Q.apt {l:List Rect} (h:Q2Q l):l.Pairwise Apt:=by
 obtain ⟨b,e,rfl⟩:=h;unfold flat
 rw [List.pairwise_flatMap];refine ⟨fun c g=>?_,?_⟩
 ·unfold G4
  rw [List.pairwise_map];refine (e.sp c g).ch.imp fun h x y d a=>?_
  rw [y5] at d a;simp only at d a
  omega
 ·refine e.runs.ch.imp fun h r f s i x y d a=>?_
  obtain ⟨u,_,rfl⟩:=List.mem_map.1 f;obtain ⟨v,_,rfl⟩:=List.mem_map.1 i
  rw [y5] at d a;simp only at d a
  have:=h.1
  omega
theorem Y7g {l p:List Rect} (hp:p ∈ Z9D l) {r:Rect} (hr:r ∈ p):r ∈ l:=(Y1j l).mem_iff.1 (List.mem_flatten.2 ⟨p,hp,hr⟩)
theorem Y5H (F:Nat) (hF:BIG<=F) (u v:Int):Z1D F [u,v]=some (if u≠0 then u else v):=by
 unfold BIG at hF;obtain ⟨F,rfl⟩:∃ G,F=G+3:=⟨F-3,by omega⟩
 unfold Z1D;show Q2Z _ [u,v] _ 0=_
 unfold Q2Z;refine Z8 (by simp) ?_
 refine Z3 (by simp) ?_;have b:gl [u,v] (0:Int).toNat=u:=rfl
 rw [b]
 by_cases hu:u=0
 ·subst hu
  refine Q9 (by simp) ?_;refine Z3 (Y3 (by omega) (by omega)) ?_
  rw [if_neg (by simp)];show Q2Z _ [0,v] _ (0+1)=_
  unfold Q2Z;refine Z8 (by simp) ?_
  refine Z3 (by simp) ?_;have a:gl [0,v] ((0:Int)+1).toNat=v:=rfl
  rw [a]
  by_cases hv:v=0
  ·subst hv
   refine Q9 (by simp) ?_;refine Z3 (Y3 (by omega) (by omega)) ?_
   show Q2Z _ [0,0] _ (0+1+1)=_;unfold Q2Z
   exact Q9 (by simp) rfl
  ·exact Z8 (by simpa using hv) rfl
 ·rw [if_pos hu]
  exact Z8 (by simpa using hu) rfl
noncomputable def lim (l:List Rect):Re_×Int:=if 120<l.length then (⟨[]⟩,1) else (⟨l⟩,0)
theorem Z8k (a b:List Rect):Fin fun x y=>inR a x y && !inR b x y:=Q4l a b 3
section
theorem val_one {r:Rect} (h:Q3a r=true):Val [r]:=by
 have b:=(Q0g r).1 h;exact ⟨by simp,fun s a=>by rw [List.mem_singleton.1 a];exact h,Z9s (by omega) (by omega)⟩
section
variable {F:Nat} {a:Re_} {z1:Tape×Re_} {x1 k:Int} {x y:Int}
end
end
theorem Y6r {B:List (Rn (List Span))} {N:Nat} (h:∀ b ∈ B,b.v.length<=N):(flat B).length<=B.length*N:=by
 induction B with
 | nil=>simp [flat]
 | cons c B ih=>
  have e:flat (c::B)=G4 c++flat B:=rfl;have:=ih fun d f=>h d (by simp [f])
  have g:=h c (by simp);rw [e,List.length_append,Q0w,List.length_cons,Nat.add_mul]
  omega
noncomputable def Y2m (a b:Re_):Bool:=Q3D a.t_&&(Q3D b.t_&&decide (cn (fun x y=>G3 (inR a.t_ x y) (inR b.t_ x y) 3)=[]))
theorem Y6R {a b:Re_} (ha:Val a.t_) (hb:Val b.t_):Y2m a b=true↔∀ x y,inR a.t_ x y=true->inR b.t_ x y=true:=by
 unfold Y2m;rw [Q1P ha,Q1P hb,Bool.true_and,Bool.true_and,decide_eq_true_eq,Y1E (Q4l _ _ _)]
 constructor
 ·intro h x y c
  have:=h x y
  simp only [G3] at this;rw [c] at this
  simpa using this
 ·intro h x y
  simp only [G3]
  cases c:inR a.t_ x y with
  | false=>rfl
  | true=>rw [h x y c];rfl
theorem Y2q {l:List Int} {M:Int} (h:∀ x ∈ l,0<=x/\x<=M):0<=l.sum/\l.sum<=M*l.length:=by
 induction l with
 | nil=>simp
 | cons x l ih=>
  have d:=h x (by simp);have c:=ih fun y b=>h y (by simp [b])
  simp only [List.sum_cons,List.length_cons];have e:M*((l.length+1:Nat):Int)=M*l.length+M:=by rw [Int.natCast_add,Int.mul_add];simp
  omega
theorem Z7D {f:Rect->Int} {l:List Rect} {j:Nat} (h:j<l.length):((l.take (j+1)).map f).sum=((l.take j).map f).sum+f (gl l j):=by
 rw [y3 h,List.map_append,List.sum_append];simp
def ar1 (r:Rect):Int:=(r.R_-r.L_)*(r.H_-r.w_)
def area (l:List Rect):Int:=(l.map ar1).sum
theorem Y3A {r:Rect} (h:Q3a r=true):0<=ar1 r/\ar1 r<=268435456:=by
 rw [Q0g] at h;unfold ar1
 have c:0<=r.R_-r.L_/\r.R_-r.L_<=16384:=by omega
 have b:0<=r.H_-r.w_/\r.H_-r.w_<=16384:=by omega
 refine ⟨Int.mul_nonneg c.1 b.1,?_⟩;have:=Int.mul_le_mul c.2 b.2 b.1 (by omega)
 omega
theorem Y1X {F:Nat} (hF:BIG<=F) {l:List Rect} (hl:l.length<=1000000) (hp:∀ r ∈ l,Q3a r=true):Z1n F l=some (area l):=by
 unfold BIG at hF;have b:∀ j,0<=((l.take j).map ar1).sum/\((l.take j).map ar1).sum<=268435456*1000000:=fun j=>by
  have:=Y2q (l:=(l.take j).map ar1) (M:=268435456) (fun x i=>by
   obtain ⟨s,e,rfl⟩:=List.mem_map.1 i;exact Y3A (hp s (List.mem_of_mem_take e)))
  simp only [List.length_map,List.length_take] at this;omega
 unfold Z1n;refine Y7 (fun z:Int×Int=>∃ j:Nat,z=(((l.take j).map ar1).sum,(j:Int))/\j<=l.length) (fun z=>l.length-z.2.toNat) (fun c z f d=>?_) ⟨0,by simp,by omega⟩ (by simp;omega)
 obtain ⟨j,rfl,n⟩:=f;simp only at d ⊢
 have p:=b j;have m:=b (j+1)
 unfold Z6D;refine Q8 (fun h=>?_) (fun h=>?_)
 ·have h:j<l.length:=by simpa using h
  refine Z5 (k:=?_);simp only [Int.toNat_natCast]
  have g:=(Q0g _).1 (hp _ (V6 h));have o:=Y3A (hp _ (V6 h))
  rw [Z7D h] at m;refine Z3 (Y3 (by omega) (by omega)) ?_
  refine Z3 (Y3 (by omega) (by omega)) ?_;show gd (I64 (ar1 (gl l j))) _=_
  refine Z3 (Y3 (by omega) (by omega)) ?_;show gd (I64 (((l.take j).map ar1).sum+ar1 (gl l j))) _=_
  refine Z3 (Y3 (by omega) (by omega)) ?_;refine Z5 (k:=?_)
  refine d _ ⟨j+1,?_,h⟩ (by simp only;omega);rw [Z7D h];rfl
 ·have h:¬ j<l.length:=by simpa using h
  have:j=l.length:=by omega
  subst this;rw [List.take_length]
  rfl
theorem Z6F {F:Nat} (hF:BIG<=F) {a:Re_} (hv:Val a.t_):Q8V F a=some (area a.t_):=by
 have:=hv.1
 unfold Q8V;refine Q4 (Q1j hF a) ?_
 rw [Q1P hv];refine Q9 rfl ?_
 exact Q4 (Y1X hF (by omega) hv.2.1) rfl
theorem Q8Q {F:Nat} (hF:BIG<=F) {a b:Re_} (ha:Val a.t_) (hb:Val b.t_) (how:Int):Q2U F a b how=some (lim (cn fun x y=>G3 (inR a.t_ x y) (inR b.t_ x y) how)):=by
 have c:=ha.1;have d:=hb.1
 unfold Q2U;refine Q4 (Q1j hF a) ?_
 rw [Q1P ha];refine Q9 rfl ?_
 refine Q4 (Q1j hF b) ?_;rw [Q1P hb]
 unfold Q5G;refine Q9 rfl ?_
 refine Q4 (Q5Z hF (by omega)) ?_;exact Q4 (Z5f _) rfl
theorem Z8Q {F:Nat} (hF:BIG<=F) {a b:Re_} (ha:Val a.t_) (hb:Val b.t_):Q4w F a b=some (lim (cn fun x y=>G3 (inR a.t_ x y) (inR b.t_ x y) 3)):=by
 unfold Q4w;exact Q4 (Q8Q hF ha hb 3) rfl
theorem SpOk.half {n:Int}:∀ {l:List Span},SpOk l->∀ {a:Int},a<=n+1->(∀ s ∈ l,a<=s.L_/\s.R_<=n)->2*(l.length:Int)<=n+1-a
 | [],_,a,ha,_=>by simp;omega
 | s::l,h,a,ha,hb=>by
  have e:=hb s (by simp);have d:=h.pos s (by simp)
  have c:SpOk l:=⟨fun q b=>h.pos q (by simp [b]),(List.pairwise_cons.1 h.ch).2⟩;have:=SpOk.half (n:=n) c (a:=s.R_+1) (by omega) fun q b=>⟨by have:=(List.pairwise_cons.1 h.ch).1 q b;omega,(hb q (by simp [b])).2⟩
  rw [List.length_cons];omega
theorem Q2Q.half {l:List Rect} (hc:Q2Q l) {n:Nat} (hb:Box n l):l.length<=n*((n+1) / 2):=by
 obtain ⟨b,f,rfl⟩:=hc;have g:∀ c ∈ b,∃ s,s ∈ c.v:=fun c hc=>List.exists_mem_of_ne_nil _ (f.ne c hc)
 have d:∀ c ∈ b,∀ s ∈ c.v,(⟨s.L_,c.lo,s.R_,c.hi⟩:Rect) ∈ flat b:=fun c hc s e=>List.mem_flatMap.2 ⟨c,hc,List.mem_map.2 ⟨s,e,rfl⟩⟩
 have m:(b.length:Int)<=n-0:=f.runs.len (by omega) fun c hc=>by
  obtain ⟨s,e⟩:=g c hc;have:=hb _ (d c hc s e)
  simp only at this;omega
 have h:∀ c ∈ b,c.v.length<=(n+1) / 2:=fun c hc=>by
  have:=(f.sp c hc).half (n:=n) (a:=0) (by omega) fun s e=>by
   have:=hb _ (d c hc s e)
   simp only at this ⊢;omega
  omega
 have j:=Y6r h;have i:b.length*((n+1) / 2)<=n*((n+1) / 2):=Nat.mul_le_mul_right _ (by omega)
 omega
def Z3o (f:Nat->Int):Nat->Int
 | 0=>0
 | n+1=>Z3o f n+f n
theorem Q6R {f g:Nat->Int} {n:Nat} (h:∀ i,i<n->f i=g i):Z3o f n=Z3o g n:=by
 induction n with
 | zero=>rfl
 | succ n ih=>rw [Z3o,Z3o,ih fun i b=>h i (by omega),h n (by omega)]
theorem Y3I (f g:Nat->Int) (n:Nat):Z3o (fun i=>f i+g i) n=Z3o f n+Z3o g n:=by
 induction n with
 | zero=>rfl
 | succ n ih=>rw [Z3o,Z3o,Z3o,ih];omega
theorem Z8C (n:Nat):Z3o (fun _=>0) n=0:=by
 induction n with
 | zero=>rfl
 | succ n ih=>rw [Z3o,ih];rfl
theorem Y2r (c lo hi:Int) (h0:0<=lo) (h1:lo<=hi) (n:Nat):Z3o (fun i=>if lo<=(i:Int)/\(i:Int)<hi then c else 0) n=(if (n:Int)<=lo then 0 else if (n:Int)<=hi then n-lo else hi-lo)*c:=by
 induction n with
 | zero=>rw [Z3o,if_pos (by omega),Int.zero_mul]
 | succ n ih=>
  rw [Z3o,ih];simp only [Int.natCast_succ]
  by_cases a:(n:Int)<lo
  ·rw [if_pos (by omega),if_neg (by omega),if_pos (by omega)];omega
  ·by_cases b:(n:Int)<hi
   ·rw [if_pos (show lo<=(n:Int)/\(n:Int)<hi by omega),if_neg (show ¬ (n:Int)+1<=lo by omega),if_pos (show (n:Int)+1<=hi by omega)]
    by_cases e:(n:Int)<=lo
    ·have:(n:Int)=lo:=by omega
     rw [if_pos e,show (n:Int)+1-lo=1 by omega,Int.zero_mul,Int.one_mul];omega
    ·rw [if_neg e,if_pos (by omega),show (n:Int)+1-lo=(n-lo)+1 by omega,Int.add_mul,Int.one_mul]
   ·rw [if_neg (show ¬ (lo<=(n:Int)/\(n:Int)<hi) by omega),if_neg (show ¬ (n:Int)+1<=lo by omega)]
    by_cases e:(n:Int)<=lo
    ·have d:lo=hi:=by omega
     have f:(n:Int)=lo:=by omega
     rw [if_pos e]
     by_cases e3:(n:Int)+1<=hi
     ·omega
     ·rw [if_neg e3,d,Int.sub_self];omega
    ·rw [if_neg e]
     by_cases e4:(n:Int)<=hi
     ·rw [if_pos e4,if_neg (by omega),show (n:Int)=hi by omega];omega
     ·rw [if_neg e4,if_neg (by omega)];omega
def cnt (N:Nat) (S:Int->Int->Bool):Int:=Z3o (fun x=>Z3o (fun y=>if S x y=true then 1 else 0) N) N
theorem Y5F {N:Nat} {S T:Int->Int->Bool} (h:∀ x y,S x y=true->T x y=true->False):cnt N (fun x y=>S x y||T x y)=cnt N S+cnt N T:=by
 unfold cnt;rw [<-Y3I]
 refine Q6R fun x _=>?_
 rw [<-Y3I];refine Q6R fun y _=>?_
 have:=h x y
 cases e:S x y <;> cases e2:T x y <;> simp_all
theorem Y8R {N:Nat} {S:Int->Int->Bool} (h:∀ x y,S x y=false):cnt N S=0:=by
 unfold cnt;rw [Q6R (g:=fun _=>0) fun x _=>by rw [Q6R (g:=fun _=>0) fun y _=>by rw [h];rfl,Z8C],Z8C]
theorem W0v {N:Nat} {r:Rect} (h1:0<=r.L_) (h2:r.L_<=r.R_) (h3:r.R_<=N) (h4:0<=r.w_) (h5:r.w_<=r.H_) (h6:r.H_<=N):cnt N r.has=ar1 r:=by
 have e:∀ x:Nat,Z3o (fun y=>if r.has x y=true then 1 else 0) N=if r.L_<=(x:Int)/\(x:Int)<r.R_ then r.H_-r.w_ else 0:=fun x=>by
  by_cases hx:r.L_<=(x:Int)/\(x:Int)<r.R_
  ·rw [if_pos hx,Q6R (g:=fun i=>if r.w_<=(i:Int)/\(i:Int)<r.H_ then 1 else 0) fun y _=>by
    by_cases hy:r.w_<=(y:Int)/\(y:Int)<r.H_
    ·rw [if_pos ((y5 r x y).2 ⟨hx.1,hx.2,hy.1,hy.2⟩),if_pos hy]
    ·rw [if_neg (fun h=>hy (by have:=(y5 r x y).1 h;omega)),if_neg hy],Y2r 1 _ _ h4 h5]
   by_cases a:(N:Int)<=r.w_
   ·rw [if_pos a];omega
   ·rw [if_neg a];split <;> omega
  ·rw [if_neg hx,Q6R (g:=fun _=>0) fun y _=>by rw [if_neg (fun h=>hx (by have:=(y5 r x y).1 h;omega))],Z8C]
 unfold cnt;rw [Q6R fun x _=>e x,Y2r _ _ _ h1 h2]
 unfold ar1
 by_cases a:(N:Int)<=r.L_
 ·rw [if_pos a,show r.R_-r.L_=0 by omega]
 ·rw [if_neg a]
  by_cases b:(N:Int)<=r.R_
  ·rw [if_pos b,show (N:Int)=r.R_ by omega]
  ·rw [if_neg b]
@[irreducible] def sq (S:Int->Int->Bool):Int:=cnt 16384 S
theorem Z4z (S:Int->Int->Bool):sq S=cnt 16384 S:=by unfold sq;rfl
theorem Y6L:∀ {l:List Rect},l.Pairwise Apt->(∀ r ∈ l,Q3a r=true)->area l=sq (inR l)
 | [],_,_=>by
  rw [Z4z,Y8R (S:=inR []) (fun x y=>rfl)];rfl
 | r::l,ha,hp=>by
  have c:=(Q0g r).1 (hp r (by simp));have b:=Y6L (l:=l) (List.pairwise_cons.1 ha).2 fun q c=>hp q (by simp [c])
  have e:inR (r::l)=fun x y=>r.has x y||inR l x y:=by
   funext x y;simp [inR]
  rw [Z4z] at b ⊢;rw [e,Y5F (fun x y h d=>by
   obtain ⟨s,f,g⟩:=(Q5P l x y).1 d;exact (List.pairwise_cons.1 ha).1 s f x y h g),W0v (by omega) (by omega) (by omega) (by omega) (by omega) (by omega), <-b]
  simp [area]
theorem Val.area {l:List Rect} (h:Val l):area l=sq (inR l):=Y6L h.2.2.apt h.2.1
section
def Ok {R:Type} (x:Option R) (G:R->Prop):Prop:=∃ r,x=some r/\G r
theorem Z5K {R:Type} {r:R} {G:R->Prop} (h:G r):Ok (some r) G:=⟨r,rfl,h⟩
theorem Q1M {R:Type} {p:Prop} [Decidable p] {x:Option R} {G:R->Prop} (h:p) (k:Ok x G):Ok (gd p x) G:=by unfold gd;rw [if_pos h];exact k
theorem Q4R {α R:Type} {x:Option α} {f:α->Option R} {a:α} {G:R->Prop} (h:x=some a) (k:Ok (f a) G):Ok (x.bind f) G:=by rw [h];exact k
theorem Q6t {R:Type} {b:Bool} {x y:Option R} {G:R->Prop} (ht:b=true->Ok x G) (hf:b=false->Ok y G):Ok (br b x y) G:=by cases b;exact hf rfl;exact ht rfl
theorem Z7Z {σ R:Type} {body:(σ->Option R)->σ->Option R} {G:R->Prop} (I:σ->Prop) (μ:σ->Nat)
  (round:∀ again z,I z->(∀ z',I z' -> μ z' < μ z->Ok (again z') G)->Ok (body again z) G):∀ {n:Nat} {z:σ},I z->μ z<n->Ok (Z6 body n z) G:=by
 intro n
 induction n with
 | zero=>intro z _ h;omega
 | succ n ih=>
  intro z b h;exact round _ z b fun z' c d=>ih c (by omega)
section
variable (R:List Rect)
end
variable {F:Nat} {a:Re_}
end
theorem Y0S {F:Nat} (hF:BIG<=F) {l:List Rect} (hl:l.length<=1000000) (hp:∀ r ∈ l,Q3a r=true):Q9D F l=some (area l):=by
 unfold BIG at hF;have b:∀ j,0<=((l.take j).map ar1).sum/\((l.take j).map ar1).sum<=268435456*1000000:=fun j=>by
  have:=Y2q (l:=(l.take j).map ar1) (M:=268435456) (fun x i=>by
   obtain ⟨s,e,rfl⟩:=List.mem_map.1 i;exact Y3A (hp s (List.mem_of_mem_take e)))
  simp only [List.length_map,List.length_take] at this;omega
 unfold Q9D;refine Y7 (fun z:Int×Int=>∃ j:Nat,z=(((l.take j).map ar1).sum,(j:Int))/\j<=l.length) (fun z=>l.length-z.2.toNat) (fun c z f d=>?_) ⟨0,by simp,by omega⟩ (by simp;omega)
 obtain ⟨j,rfl,n⟩:=f;simp only at d ⊢
 have p:=b j;have m:=b (j+1)
 unfold Z4L;refine Q8 (fun h=>?_) (fun h=>?_)
 ·have h:j<l.length:=by simpa using h
  refine Z5 (k:=?_);simp only [Int.toNat_natCast]
  have g:=(Q0g _).1 (hp _ (V6 h));have o:=Y3A (hp _ (V6 h))
  rw [Z7D h] at m;refine Z3 (Y3 (by omega) (by omega)) ?_
  refine Z3 (Y3 (by omega) (by omega)) ?_;show gd (I64 (ar1 (gl l j))) _=_
  refine Z3 (Y3 (by omega) (by omega)) ?_;show gd (I64 (((l.take j).map ar1).sum+ar1 (gl l j))) _=_
  refine Z3 (Y3 (by omega) (by omega)) ?_;refine Z5 (k:=?_)
  refine d _ ⟨j+1,?_,h⟩ (by simp only;omega);rw [Z7D h];rfl
 ·have h:¬ j<l.length:=by simpa using h
  have:j=l.length:=by omega
  subst this;rw [List.take_length]
  rfl
theorem Z4Z {F:Nat} (hF:BIG<=F) {a b:Re_} (ha:Val a.t_) (hb:Val b.t_):Q3C F a b=some (lim (cn fun x y=>G3 (inR a.t_ x y) (inR b.t_ x y) 1)):=by
 unfold Q3C;exact Q4 (Q8Q hF ha hb 1) rfl
theorem Q8Y {F:Nat} {t:Tape} (ht:TOk t) {n:Int} (h1:1<=n) (h2:n<=1099511627776):∃ t' b,Q1N F t n=some (t',b)/\TOk t':=by
 obtain ⟨c,k,e,d,_,_⟩:=Z7 (F:=F) ht h1 h2;refine ⟨c,k==n-1,?_,d⟩
 unfold Q1N;refine Q4 e ?_
 refine Z3 (Y3 (by omega) (by omega)) rfl
section
theorem Q7E {F:Nat} (hF:BIG<=F) {a b:List Rect} (ha:a.length<=1000000) (hb:b.length<=1000000):Q1V F [a,b]=some (a++b):=by
 unfold BIG at hF;obtain ⟨m,rfl⟩:∃ m,F=m+3:=⟨F-3,by omega⟩
 have c:gl [a,b] (0:Int).toNat=a:=rfl;have d:gl [a,b] (1:Int).toNat=b:=rfl
 have k1:Q2m (m+3) [a,b] (((a.length:Nat):Int)+((b.length:Nat):Int))=some (a++b):=by
  unfold Q2m;refine Q4 (a:=[]) (by unfold Z9G;rw [if_pos (by unfold LIM;omega)]) ?_
  show K5 (m+3) [a,b] _ 0 []=_;unfold K5
  refine Z8 rfl ?_;rw [c]
  refine Z5 (k:=?_);refine Z3 (by simp [LIM];omega) ?_
  refine Z5 (k:=?_);show K5 (m+3) [a,b] _ 1 ([]++a)=_
  unfold K5;refine Z8 rfl ?_
  rw [d];refine Z5 (k:=?_)
  refine Z3 (by simp [LIM];omega) ?_;refine Z5 (k:=?_)
  show K5 (m+3) [a,b] _ 2 (([]++a)++b)=_;unfold K5
  refine Q9 rfl ?_;unfold Q4G
  simp
 show K6 (m+3) [a,b] _ 0 0=_;unfold K6
 refine Z8 rfl ?_;rw [c]
 refine Z5 (k:=?_);refine Z5 (k:=?_)
 refine Q9 (by simp <;> omega) ?_;refine Z5 (k:=?_)
 show K6 (m+3) [a,b] _ (0+((a.length:Nat):Int)) 1=_;unfold K6
 refine Z8 rfl ?_;rw [d]
 refine Z5 (k:=?_);refine Z5 (k:=?_)
 refine Q9 (by simp <;> omega) ?_;refine Z5 (k:=?_)
 show K6 (m+3) [a,b] _ (0+((a.length:Nat):Int)+((b.length:Nat):Int)) 2=_;unfold K6
 refine Q9 rfl ?_;rw [Int.zero_add]
 exact k1
def zs (k:Int):Int:=if 0<=k/\k<=7 then 0 else if 8<=k/\k<=11 then 1 else 2
theorem Y2T (F:Nat) (k:Int):Z2o F k=some (zs k):=by
 have l:Q0m F k true=some 0:=rfl;have j:Q2v F true=some 1:=rfl
 have p:Q2v F false=some 2:=rfl;have e:∀ n:Int,(k==n)=decide (k=n):=fun n=>by rw [Bool.eq_iff_iff];simp
 unfold Z2o;simp only [e]
 by_cases h:0<=k/\k<=7
 ·have f:zs k=0:=by unfold zs;rw [if_pos h]
  rw [f];have b:∀ {n:Int} {x:Option Int},(k≠n->x=some 0)->br (decide (k=n)) (Q0m F k (decide (k=n))) x=some 0:=fun {n x} hx=>by
   refine Q8 (fun d=>by rw [d];exact l) (fun d=>hx (by simpa using d))
  refine b fun q=>b fun o=>b fun m=>b fun t=>b fun u=>b fun v=>b fun s=>?_
  rw [show decide (k=7)=true by rw [decide_eq_true_eq];omega];exact l
 ·have c:∀ n:Int,0<=n->n<=7->decide (k=n)=false:=fun n r g=>by rw [decide_eq_false_iff_not];omega
  rw [c 0 (by omega) (by omega),c 1 (by omega) (by omega),c 2 (by omega) (by omega),c 3 (by omega) (by omega),c 4 (by omega) (by omega),c 5 (by omega) (by omega),c 6 (by omega) (by omega),c 7 (by omega) (by omega)];simp only [br]
  unfold Q0m;simp only [br,e]
  by_cases g:8<=k/\k<=11
  ·have f:zs k=1:=by unfold zs;rw [if_neg h,if_pos g]
   rw [f];have b:∀ {n:Int} {x:Option Int},(k≠n->x=some 1)->br (decide (k=n)) (Q2v F (decide (k=n))) x=some 1:=fun {n x} hx=>by
    refine Q8 (fun d=>by rw [d];exact j) (fun d=>hx (by simpa using d))
   refine b fun q=>b fun o=>b fun m=>?_
   rw [show decide (k=11)=true by rw [decide_eq_true_eq];omega];exact j
  ·have f:zs k=2:=by unfold zs;rw [if_neg h,if_neg g]
   rw [f];have i:∀ n:Int,8<=n->n<=11->decide (k=n)=false:=fun n r g=>by rw [decide_eq_false_iff_not];omega
   rw [i 8 (by omega) (by omega),i 9 (by omega) (by omega),i 10 (by omega) (by omega),i 11 (by omega) (by omega)];exact p
def zp (w:Int) (k:Int):Bool:=zs k==w
theorem Y2U (F:Nat) (k w:Int):Z2p F k w=some (zp w k):=by
 unfold Z2p;exact Q4 (Y2T F k) rfl
structure LB (n:Nat) (L:List A2_):Prop where
 vl:VL L
 box:∀ f ∈ L,Box n f.g_.t_
 n15:n<=15
theorem W1g {l:List Rect} (hc:Q2Q l) {n:Nat} (hb:Box n l) (hn:n<=15):l.length<=120:=by
 have c:=hc.half hb;have b:n*((n+1) / 2)<=15*8:=Nat.mul_le_mul hn (by omega)
 omega
theorem Y2Y {S:Int->Int->Bool} (hf:Fin S) {n:Nat} (hn:n<=15) (hb:∀ x y,S x y=true->0<=x/\x<n/\0<=y/\y<n):Val (cn S)/\Box n (cn S):=by
 have h:=Y8Y (n:=(n:Int)) hf hb;exact ⟨⟨W1g (Q2Q.cn hf) h hn,h.prop (by omega),Q2Q.cn hf⟩,h⟩
theorem Y0l {l:List Rect} (h:Val l):lim l=(⟨l⟩,0):=by
 have:=h.1
 unfold lim;rw [if_neg (by omega)]
variable {F n:Nat} {L:List A2_} {d:Int}
theorem LB.rbox (hL:LB n L) (d:Int) (p:Int->Bool):Box n (Q0D L d p):=fun r b=>by
 obtain ⟨f,c,b⟩:=Y5p b;exact hL.box f c r b
theorem LB.rval (hL:LB n L) (d:Int) (p:Int->Bool):Val (cn (inR (Q0D L d p)))/\Box n (cn (inR (Q0D L d p))):=Y2Y (G5 _) hL.n15 fun x y h=>(hL.rbox d p).in h
theorem Y0w (hF:BIG<=F) (hL:LB n L) (d w:Int):Z5E F L d w=some (⟨cn (inR (Q0D L d (zp w)))⟩,0):=by
 have c:=hL.vl.len;unfold Z5E
 refine Q4 (Z2V hF (by omega) (fun f b=>hL.vl.rlen b) d (zp w) (fun f _=>Y2U F f.k_ w)) ?_;have g:=Y5h (L:=L) (fun f b=>hL.vl.rlen b) d (zp w)
 refine Q4 (Q8N hF (by omega) fun r e=>?_) ?_
 ·have:=hL.rbox d (zp w) r e
  omega
 ·have:=(hL.rval d (zp w)).1.1
  rw [if_neg (by omega)]
theorem Z1Q (hF:BIG<=F) (hv:VL L) (d1:0<=d) (d2:d<=36864) {a:Re_} (ha:Val a.t_) {m:Int} (m1:0<=m) (m2:m<=268435456):Q6N F L d m a=some 0:=by
 unfold Q6N;refine Q4 (Z6L hF L d) ?_
 rw [if_neg (by simp [(Z0S L).2 hv]),if_neg (by omega)];refine Q9 rfl ?_
 refine Q4 (Q0o hF a) ?_;rw [Q1P ha]
 refine Q9 rfl ?_;refine Q9 (by rw [decide_eq_false_iff_not];omega) ?_
 rw [show decide ((268435456:Int)<m)=false by rw [decide_eq_false_iff_not];omega];rfl
theorem Y2W (hF:BIG<=F) (hL:LB n L) (d1:0<=d) (d2:d<=36864):Z2r F L d=some (⟨cn (inR (Q0D L d (zp 0)))⟩,0):=by
 unfold Z2r;refine Q4 (Z1Q hF hL.vl d1 d2 Val.nil (by omega) (by omega)) ?_
 refine Q9 rfl ?_;exact Q4 (Y0w hF hL d 0) rfl
noncomputable def Z3P (L:List A2_) (d:Int) (a:List Rect):List Rect:=cn fun x y=>inR (Q0D L d (zp 1)) x y&&inR a x y
noncomputable def Z2x (L:List A2_) (d m:Int) (a:List Rect):List Rect:=((Z9D (Z3P L d a)).filter fun p=>decide (m<area p)).flatten
theorem W0h (a b:List Rect):Fin fun x y=>inR a x y&&inR b x y:=Q4l a b 2
theorem Y3N (hL:LB n L) (d:Int) (a:List Rect):Val (Z3P L d a)/\Box n (Z3P L d a):=Y2Y (W0h _ _) hL.n15 fun x y h=>(hL.rbox d (zp 1)).in (Bool.and_eq_true _ _ ▸ h).1
theorem Y6U {m:Int} {a:List Rect} {r:Rect} (h:r ∈ Z2x L d m a):r ∈ Z3P L d a:=by
 obtain ⟨p,c,b⟩:=List.mem_flatten.1 h;exact Y7g (List.mem_filter.1 c).1 b
theorem Y2t (hL:LB n L) (d m:Int) (a:List Rect):Box n (Z2x L d m a):=fun r b=>(Y3N hL d a).2 r (Y6U b)
theorem Y2s (hL:LB n L) (d m:Int) (a:List Rect):Val (cn (inR (Z2x L d m a)))/\Box n (cn (inR (Z2x L d m a))):=Y2Y (G5 _) hL.n15 fun x y h=>(Y2t hL d m a).in h
theorem Z4c {p:List Rect->Bool}:∀ Q:List (List Rect),(Q.filter p).flatten.length<=Q.flatten.length
 | []=>Nat.le_refl _
 | q::Q=>by
  have:=Z4c (p:=p) Q
  rw [List.filter_cons,List.flatten_cons,List.length_append];split
  ·rw [List.flatten_cons,List.length_append];omega
  ·omega
theorem Y2V (hF:BIG<=F) (hL:LB n L) (d1:0<=d) (d2:d<=36864) {a:Re_} (ha:Val a.t_) {m:Int} (m1:0<=m) (m2:m<=268435456):Z2q F L d m a=some (⟨cn (inR (Z2x L d m a.t_))⟩,0):=by
 have f:=hF;unfold BIG at hF
 have A:=Y3N hL d a.t_;have s:=A.1.1
 have K:=ha.1;have E:=hL.rval d (zp 1)
 have P:=E.1.1;unfold Z2q
 refine Q4 (Z1Q f hL.vl d1 d2 ha m1 m2) ?_;refine Q9 rfl ?_
 refine Q4 (Y0w f hL d 1) ?_;refine Q9 rfl ?_
 refine Q4 (Q8O f (by omega) (fun r c=>(E.1.2.2.pos c).1) (fun r c=>(ha.2.2.pos c).1) (k:=fun u v=>u&&v) rfl (fun u v=>by cases u <;> cases v <;> rfl)) ?_;have e:(cn fun x y=>inR (cn (inR (Q0D L d (zp 1)))) x y&&inR a.t_ x y)=Z3P L d a.t_:=by
  unfold Z3P;congr 1
  funext x y
  rw [Q1b (G5 _)]
 rw [e];refine Q9 (by rw [decide_eq_false_iff_not];omega) ?_
 have T:=(Y1j (Z3P L d a.t_)).length_eq;refine Y7 (fun z:List Rect×List Rect=>∃ (k:Nat) (Q:List (List Rect)),Q++Z7d k z.1=Z9D (Z3P L d a.t_)/\z.1.length<=k/\z.1.length<=120/\z.2=(Q.filter fun p=>decide (m<area p)).flatten/\∀ r ∈ z.1,r ∈ Z3P L d a.t_) (fun z=>z.1.length) (fun i z I H=>?_) ⟨_,[],rfl,Nat.le_refl _,s,rfl,fun _ h=>h⟩ (by simp only;omega)
 obtain ⟨l,M⟩:=z;obtain ⟨k,Q,j,B,G,rfl,w⟩:=I
 simp only at j B G w H ⊢;have S:Q.flatten.length<=120:=by
  have:=congrArg (fun q=>(List.flatten q).length) j
  simp only [List.flatten_append,List.length_append] at this;omega
 have J:=Z4c (p:=fun p=>decide (m<area p)) Q;unfold Z7y
 cases l with
 | nil=>
  refine Q9 (by simp) ?_;unfold Z3g
  have U:Z7d k []=[]:=by cases k <;> rfl
  rw [U,List.append_nil] at j;subst j
  refine Q4 (Q8N f (by omega) fun r c=>?_) ?_
  ·have:=Y2t hL d m a.t_ r c
   omega
  ·have:=(Y2s hL d m a.t_).1.1
   unfold Z2x at this;rw [if_neg (by omega)];rfl
 | cons b l=>
  refine Z8 (by simp) ?_;refine Q4 (Z9O f (by simp) (by omega) (fun r c=>Y9L (A.1.2.1 r (w r c)))) ?_
  cases k with
  | zero=>simp at B
  | succ k=>
  simp only [Z7d] at j;have t:=Y2E b l
  have D:=t.perm.length_eq;simp only [List.length_append,List.length_cons,List.length_nil] at D B G
  have V:∀ r ∈ (Z1x (b::l)).1,r ∈ Z3P L d a.t_:=fun r c=>w r (t.perm.mem_iff.1 (List.mem_append.2 (.inl c)))
  have O:1<=(Z1x (b::l)).1.length:=by
   have:=t.lens.1
   exact List.length_pos_iff.2 this
  refine Q4 (Y0S f (by omega) fun r c=>A.1.2.1 r (V r c)) ?_;have g:∀ o,o=(((Q++[(Z1x (b::l)).1])).filter fun p=>decide (m<area p)).flatten->i ((Z1x (b::l)).2,o)=some (⟨cn (inR (Z2x L d m a.t_))⟩,0):=fun o N=>by
   refine H _ ⟨k,Q++[(Z1x (b::l)).1],by rw [<-j,List.append_assoc];rfl,by simp only;omega,by simp only;omega,N,fun r c=>w r (t.perm.mem_iff.1 (List.mem_append.2 (.inr c)))⟩ (by simp only [List.length_cons];omega)
  refine Q8 (fun C=>?_) (fun C=>?_)
  ·refine Z3 (by simp only [LIM];omega) ?_
   refine g _ ?_;rw [List.filter_append,List.filter_cons,C];simp
  ·refine g _ ?_
   rw [List.filter_append,List.filter_cons,C];simp
noncomputable def elS (L:List A2_) (d m:Int) (a:List Rect) (x y:Int):Bool:=inR a x y && !(inR (Q0D L d (zp 0)) x y||inR (Z2x L d m a) x y)
theorem Y5B (L:List A2_) (d m:Int) (a:List Rect):Fin (elS L d m a):=by
 have:=Z8k a (Q0D L d (zp 0)++Z2x L d m a)
 simp only [Z3A] at this;exact this
end
section
theorem Y8l {a b:Re_} (ha:Val a.t_) (hb:Val b.t_) (h:∀ x y,inR a.t_ x y=true->inR b.t_ x y=true->False):Q4i a b=false:=by
 rw [<-Bool.not_eq_true];intro c
 unfold Q4i at c;rw [Q1P ha,Q1P hb,Bool.true_and,Bool.true_and,Y3m ha.2.1 hb.2.1] at c
 obtain ⟨x,y,e,f⟩:=c;exact h x y e f
theorem LayT.lb {L:List A2_} (h:LayT L):LB 9 L:=⟨h.vl,fun f b=>(h.fea f b).1.reg.box,by omega⟩
variable {F n:Nat} {L:List A2_} {d:Int}
theorem Y4O {w n:Int} (h0:0<=w) (hn:0<n):0<=w.tmod n/\w.tmod n<n:=⟨Int.tmod_nonneg _ h0,Int.tmod_lt_of_pos _ hn⟩
end
section
variable {F n:Nat} {L:List A2_} {d:Int}
end
section
variable {F:Nat}
end
section
variable {F n:Nat} {L:List A2_} {d:Int}
end
section
variable {F:Nat} {L:List A2_} {d:Int}
theorem Y3z:∀ {l:List Int},Asc l->∀ {lo hi:Int},(∀ v ∈ l,lo<=v/\v<=hi)->lo<=hi+1->(l.length:Int)<=hi+1-lo
 | [],_,lo,hi,_,h=>by simp;omega
 | a::l,h,lo,hi,hb,h2=>by
  have b:=List.pairwise_cons.1 h;have e:=hb a (by simp)
  have:=Y3z (l:=l) b.2 (lo:=a+1) (hi:=hi) (fun v c=>by have:=b.1 v c;have:=hb v (by simp [c]);omega) (by omega)
  rw [List.length_cons];omega
theorem Q3P (hF:BIG<=F) {a b:List Rect} {how:Int} (ha:a.length<=200000) (hb:b.length<=200000) (pa:∀ r ∈ a,Q3a r=true) (pb:∀ r ∈ b,Q3a r=true):U3 F a b how=some (cn fun x y=>G3 (inR a x y) (inR b x y) how):=by
 refine Z2J hF ha hb ?_ ?_
 ·have:=Y3z (Q8r b (Q8r a (f:=Rect.L_) (g:=Rect.R_) .nil)) (lo:=0) (hi:=16384) (fun v e=>by
   rcases (Q0z b _ _).1 e with h|⟨r,c,h⟩
   ·rcases (Q0z a _ _).1 h with h|⟨r,c,h⟩
    ·cases h
    ·have h:v=r.L_\/v=r.R_:=h
     have:=(Q0g r).1 (pa r c);omega
   ·have h:v=r.L_\/v=r.R_:=h
    have:=(Q0g r).1 (pb r c);omega) (by omega)
  unfold Q8s;omega
 ·have:=Y3z (Q8r b (Q8r a (f:=Rect.w_) (g:=Rect.H_) .nil)) (lo:=0) (hi:=16384) (fun v e=>by
   rcases (Q0z b _ _).1 e with h|⟨r,c,h⟩
   ·rcases (Q0z a _ _).1 h with h|⟨r,c,h⟩
    ·cases h
    ·have h:v=r.w_\/v=r.H_:=h
     have:=(Q0g r).1 (pa r c);omega
   ·have h:v=r.w_\/v=r.H_:=h
    have:=(Q0g r).1 (pb r c);omega) (by omega)
  unfold Z0t;omega
end
section
def Z4h (r:Rg_):Int:=
 if r.y_<0\/100<r.y_ then 18 else if r.c_<0\/40<=r.c_ then 13 else if r.g_.t_.length=0\/Q3D r.g_.t_=false then 7 else 0
theorem Q8W (r:Rg_):Z4h r=0↔0<=r.y_/\r.y_<=100/\0<=r.c_/\r.c_<40/\r.g_.t_.length≠0/\Val r.g_.t_:=by
 unfold Z4h;rw [<-Q1z]
 by_cases h1:r.y_<0\/100<r.y_
 ·rw [if_pos h1];simp;omega
 ·rw [if_neg h1]
  by_cases h2:r.c_<0\/40<=r.c_
  ·rw [if_pos h2];simp;omega
  ·rw [if_neg h2]
   by_cases b:r.g_.t_.length=0\/Q3D r.g_.t_=false
   ·rw [if_pos b]
    constructor
    ·intro h;cases h
    ·rintro ⟨_,_,_,_,c,e⟩
     rcases b with b|b
     ·exact absurd b c
     ·rw [e] at b;cases b
   ·rw [if_neg b]
    refine ⟨fun _=>?_,fun _=>rfl⟩;have c:r.g_.t_.length≠0:=fun h=>b (.inl h)
    have e:Q3D r.g_.t_=true:=by
     cases hv:Q3D r.g_.t_ with
     | true=>rfl
     | false=>exact absurd (.inr hv) b
    exact ⟨by omega,by omega,by omega,by omega,c,e⟩
theorem Z8h {F:Nat} (hF:BIG<=F) (r:Rg_):Q5s F r=some (Z4h r):=by
 unfold Q5s Z4h;rw [Q7n (Q2M F r)]
 unfold Q2M;refine Q8 (fun h=>by rw [if_pos (by simpa using h)]) (fun h=>?_)
 rw [if_neg (by simpa using h),Q7n (Q2L F r)];unfold Q2L
 refine Q8 (fun h=>by rw [if_pos (by simpa using h)]) (fun h=>?_);rw [if_neg (by simpa using h)]
 refine Q8 (fun h=>?_) (fun h=>?_)
 ·have h:r.g_.t_.length=0:=by simpa using h
  rw [if_pos (.inl h)];rfl
 ·have h:r.g_.t_.length≠0:=by simpa using h
  refine Q4 (Q0o hF _) ?_;unfold Q4W
  refine Q8 (fun b=>?_) (fun b=>?_)
  ·rw [if_pos (.inr (by simpa using b))]
  ·rw [if_neg (by rintro (h3|h3);exact h h3;rw [h3] at b;cases b)]
def ltR (f g:Rg_):Bool:=decide (f.y_<g.y_)||(decide (f.y_=g.y_)&&decide (f.c_<g.c_))
theorem Q8k (f g:Rg_):ltR f g=true↔f.y_<g.y_\/(f.y_=g.y_/\f.c_<g.c_):=by unfold ltR;simp
theorem Z8U {f g h:Rg_} (h1:ltR f g=true) (h2:ltR g h=true):ltR f h=true:=by
 rw [Q8k] at *;omega
theorem Z7n {F:Nat} (hF:BIG<=F) (f g:Rg_):∃ c,Q4k F f g=some c/\(c<0↔ltR f g=true)/\(0<c↔ltR g f=true):=by
 refine ⟨if (if f.y_<g.y_ then (-1:Int) else if g.y_<f.y_ then 1 else 0)≠0 then (if f.y_<g.y_ then (-1:Int) else if g.y_<f.y_ then 1 else 0) else (if f.c_<g.c_ then (-1:Int) else if g.c_<f.c_ then 1 else 0),?_,?_⟩
 ·unfold Q4k
  exact Q4 (Q7a _ _ _) (Q4 (Q7a _ _ _) (Q4 (Y5H F hF _ _) rfl))
 ·rw [Q8k,Q8k]
  by_cases h1:f.y_<g.y_
  ·simp [h1];omega
  ·by_cases h2:g.y_<f.y_
   ·simp [h1,h2];omega
   ·by_cases h3:f.c_<g.c_
    ·simp [h1,h2,h3];omega
    ·by_cases h4:g.c_<f.c_
     ·simp [h1,h2,h3,h4];omega
     ·simp [h1,h2,h3,h4]
def hGo:Option Rg_->List Rg_->Int
 | _,[]=>0
 | p,f::l=>if Z4h f≠0 then Z4h f else if p.any (fun g=> !ltR g f) then 3 else hGo (some f) l
def NX (l:List Rg_):Prop:=l.Pairwise fun f g=>f.y_=g.y_->Q4i f.g_ g.g_=false
open Classical in
def Q9j (l:List Rg_):Int:=if 200<l.length then 1 else if hGo none l≠0 then hGo none l else if NX l then 0 else 11
def Z4b (l:List Rg_) (i:Nat):Option Rg_:=if i=0 then none else some (gl l (i-1))
theorem Y1h (l:List Rg_) (i:Nat):Z4b l (i+1)=some (gl l i):=by simp [Z4b]
theorem W0Q {l:List Rg_}:NX l↔∀ j,j<l.length->∀ i,i<j->(gl l i).y_=(gl l j).y_->Q4i (gl l i).g_ (gl l j).g_=false:=by
 unfold NX;rw [List.pairwise_iff_getElem]
 constructor
 ·intro h j b i f e
  rw [z7 b,z7 (by omega)] at *;exact h i j (by omega) b f e
 ·intro h i j f b c e
  have:=h j b i c
  rw [z7 b,z7 (by omega)] at this;exact this e
theorem Y3W {F:Nat} (hF:BIG<=F) {l:List Rg_} (hl:l.length<=200) {y:Int} (h0:NX l->y=0) (h1:¬ NX l->y=11):Q5k F l=some y:=by
 have w:=hF;unfold BIG at hF
 unfold Q5k;refine Y7 (fun z:Int=>∃ i:Nat,z=i/\i<=l.length/\∀ j,j<i->∀ a,a<j->(gl l a).y_=(gl l j).y_->Q4i (gl l a).g_ (gl l j).g_=false) (fun z=>l.length-z.toNat) (fun t z s E=>?_) ⟨0,rfl,by omega,fun j r=>absurd r (Nat.not_lt_zero j)⟩ (by simp;omega)
 obtain ⟨i,rfl,G,A⟩:=s;unfold Z4T
 refine Q8 (fun m=>?_) (fun m=>?_)
 ·have m:i<l.length:=by simpa using m
  refine Z5 (k:=?_);refine Z5 (k:=?_)
  refine Y7 (fun z:Int=>∃ j:Nat,z=j/\j<=i/\∀ a,a<j->(gl l a).y_=(gl l i).y_->Q4i (gl l a).g_ (gl l i).g_=false) (fun z=>i-z.toNat) (fun f z s u=>?_) ⟨0,rfl,by omega,fun j r=>absurd r (Nat.not_lt_zero j)⟩ (by simp;omega);obtain ⟨j,rfl,r,C⟩:=s
  unfold Z4S;simp only [Int.toNat_natCast]
  have o:(l.take i).length=i:=by rw [List.length_take];omega
  simp only [o];refine Q8 (fun g=>?_) (fun g=>?_)
  ·have g:j<i:=by simpa using g
   have e:gl (l.take i) j=gl l j:=by simp [gl,List.getD_eq_getElem?_getD,g]
   rw [e];refine Z5 (k:=?_)
   have B:∀ b:Bool,b=(decide ((gl l j).y_=(gl l i).y_)&&Q4i (gl l j).g_ (gl l i).g_)->Q5j F j f b=some y:=by
    intro b h;unfold Q5j
    refine Q8 (fun c=>?_) (fun c=>?_)
    ·rw [c,eq_comm,Bool.and_eq_true,decide_eq_true_eq] at h
     rw [h1 fun D=>by rw [W0Q.1 D i m j g h.1] at h;cases h.2]
    ·rw [c] at h
     refine Z5 (k:=?_);refine u _ ⟨j+1,by omega,g,fun a v q=>?_⟩ (by omega)
     rcases Nat.lt_or_ge a j with p|p
     ·exact C a p q
     ·have:a=j:=by omega
      subst this;rw [decide_eq_true q,Bool.true_and] at h
      exact h.symm
   refine Q8 (fun c=>?_) (fun c=>?_)
   ·refine Q4 (Y1c w _ _) (B _ ?_)
    have c:(gl l j).y_=(gl l i).y_:=by simpa using c
    rw [decide_eq_true c,Bool.true_and]
   ·refine B _ ?_
    have c:¬ (gl l j).y_=(gl l i).y_:=by simpa using c
    rw [decide_eq_false c,Bool.false_and]
  ·have g:j=i:=by
    have:¬ j<i:=by simpa using g
    omega
   subst g;unfold Z1j
   refine Z5 (k:=?_);refine E _ ⟨j+1,by omega,m,fun b h a v q=>?_⟩ (by omega)
   rcases Nat.lt_or_ge b j with p|p
   ·exact A b p a v q
   ·have:b=j:=by omega
    subst this;exact C a v q
 ·have m:i=l.length:=by
   have:¬ i<l.length:=by simpa using m
   omega
  subst m;rw [h0 (W0Q.2 A)];rfl
theorem Y0X {F:Nat} (hF:BIG<=F) (l:List Rg_):Q9G F l=some (Q9j l):=by
 have A:=hF;unfold BIG at hF
 unfold Q9G;refine Q8 (fun h=>?_) (fun h=>?_)
 ·have h:200<l.length:=by simp at h;omega
  rw [Q9j,if_pos h]
 ·have h:¬ 200<l.length:=by simp at h;omega
  have C:hGo none l=0->Q5k F l=some (Q9j l):=fun q=>by
   refine Y3W A (by omega) (fun D=>?_) (fun D=>?_)
   ·rw [Q9j,if_neg h,if_neg (by simp [q]),if_pos D]
   ·rw [Q9j,if_neg h,if_neg (by simp [q]),if_neg D]
  have u:hGo none l≠0->Q9j l=hGo none l:=fun q=>by rw [Q9j,if_neg h,if_pos q]
  refine Y7 (fun z:Int=>∃ i:Nat,z=i/\i<=l.length/\hGo none l=hGo (Z4b l i) (l.drop i)) (fun z=>l.length-z.toNat) (fun e z H I=>?_) ⟨0,rfl,by omega,rfl⟩ (by simp;omega);obtain ⟨i,rfl,J,o⟩:=H
  unfold Z4U;refine Q8 (fun t=>?_) (fun t=>?_)
  ·have t:i<l.length:=by simpa using t
   rw [Q1I t,hGo] at o;refine Z5 (k:=?_)
   simp only [Int.toNat_natCast];have s:∀ c:Int,Z4h (gl l i)=c->c≠0->Q9j l=c:=fun c r p=>by
    rw [if_pos (by rw [r];exact p),r] at o;rw [u (by rw [o];exact p),o]
   have f:Z4h (gl l i)=0->∀ b:Bool,b=(Z4b l i).any (fun g=> !ltR g (gl l i))->Q2b F i e b=some (Q9j l):=by
    intro r b B;rw [if_neg (by simp [r])] at o
    unfold Q2b;refine Q8 (fun p=>?_) (fun p=>?_)
    ·rw [if_pos (B ▸ p)] at o
     rw [u (by rw [o];decide),o]
    ·rw [if_neg (by rw [<-B,p];simp)] at o
     refine Z5 (k:=?_);refine I _ ⟨i+1,by omega,t,?_⟩ (by omega)
     rw [o,Y1h]
   rw [Q7n (Q5n F l i e)];unfold Q5n
   refine Q8 (fun r=>?_) (fun r=>?_)
   ·rw [s 18 (by unfold Z4h;rw [if_pos (by simpa using r)]) (by decide)]
   ·rw [Q7n (Q5m F l i e)]
    unfold Q5m;refine Q8 (fun p=>?_) (fun p=>?_)
    ·rw [s 13 (by unfold Z4h;rw [if_neg (by simpa using r),if_pos (by simpa using p)]) (by decide)]
    ·refine Q4 (Q1j A _) ?_
     rw [Q7n (Q5l F l i e)];unfold Q5l
     refine Q8 (fun j=>?_) (fun j=>?_)
     ·have j:(gl l i).g_.t_.length=0\/Q3D (gl l i).g_.t_=false:=by
       rw [Bool.or_eq_true] at j;rcases j with m|m
       ·exact .inr (by simpa using m)
       ·exact .inl (by simpa using m)
      rw [s 7 (by unfold Z4h;rw [if_neg (by simpa using r),if_neg (by simpa using p),if_pos j]) (by decide)]
     ·have j:¬ ((gl l i).g_.t_.length=0\/Q3D (gl l i).g_.t_=false):=by
       rw [Bool.or_eq_false_iff] at j;simp only [Int.toNat_natCast] at j
       rintro (m|m)
       ·rw [m] at j;simp at j
       ·rw [m] at j;simp at j
      have m:Z4h (gl l i)=0:=by unfold Z4h;rw [if_neg (by simpa using r),if_neg (by simpa using p),if_neg j]
      refine Q8 (fun q=>?_) (fun q=>?_)
      ·have q:0<i:=by simpa using q
       refine Z5 (k:=?_);refine Z5 (k:=?_)
       have G:((i:Int)-1).toNat=i-1:=by omega
       rw [G];have E:(Z4b l i).any (fun g=> !ltR g (gl l i))=!ltR (gl l (i-1)) (gl l i):=by simp [Z4b,show i≠0 from by omega]
       refine Q8 (fun v=>?_) (fun v=>?_)
       ·refine f m _ ?_
        have v:(gl l i).y_<(gl l (i-1)).y_:=by simpa using v
        rw [E,eq_comm,Bool.not_eq_true', <-Bool.not_eq_true,Q8k];omega
       ·have v:¬ (gl l i).y_<(gl l (i-1)).y_:=by simpa using v
        refine Z5 (k:=?_);refine Z5 (k:=?_)
        refine Q8 (fun w=>?_) (fun w=>?_)
        ·have w:(gl l i).y_=(gl l (i-1)).y_:=by simpa using w
         refine Z5 (k:=?_);refine Z5 (k:=?_)
         refine f m _ ?_;rw [E,Bool.eq_iff_iff,Bool.not_eq_true', <-Bool.not_eq_true,Q8k,decide_eq_true_eq]
         simp only [Int.toNat_natCast];omega
        ·have w:¬ (gl l i).y_=(gl l (i-1)).y_:=by simpa using w
         refine f m _ ?_;rw [E,eq_comm,Bool.not_eq_false',Q8k];omega
      ·have q:i=0:=by simp at q;omega
       exact f m _ (by simp [Z4b,q])
  ·have t:¬ i<l.length:=by simpa using t
   rw [List.drop_of_length_le (by omega)] at o;exact C o
end
theorem Z0Z {F:Nat} (hF:BIG<=F) {l:List Rg_} {q:Rg_->Option Bool} (p:Rg_->Bool) (hl:l.length<=1000000000) (hq:∀ r ∈ l,q r=some (p r)):Q0u F l q=some (Z0P p l):=by
 unfold BIG at hF;unfold Q0u
 refine Y7 (fun z:Int=>∃ i:Nat,z=i/\i<=l.length/\∀ j,j<i->p (gl l j)=false) (fun z=>l.length-z.toNat) (fun e z o s=>?_) ⟨0,rfl,by omega,fun j m=>by omega⟩ (by simp;omega);obtain ⟨i,rfl,t,c⟩:=o
 unfold Q5f;refine Q8 (fun h=>?_) (fun h=>?_)
 ·have h:i<l.length:=by simpa using h
  refine Z5 (k:=?_);refine Q4 (hq _ (V6 h)) ?_
  simp only [Int.toNat_natCast];refine Q8 (fun b=>?_) (fun b=>?_)
  ·have f:l.any p=true:=List.any_eq_true.2 ⟨_,V6 h,b⟩
   rw [Z0P,if_pos f,Z3E h c b]
  ·refine Z5 (k:=?_)
   refine s _ ⟨i+1,by omega,h,fun j m=>?_⟩ (by omega);rcases Nat.lt_or_ge j i with g|g
   ·exact c j g
   ·have:j=i:=by omega
    subst this;exact b
 ·have h:¬ i<l.length:=by simpa using h
  have:i=l.length:=by omega
  subst this;have f:=Q6A c
  rw [Z0P,f];rfl
theorem Y4k {α:Type} (p:α->Bool) (l:List α):0<=Z0P p l↔l.any p=true:=by
 unfold Z0P;split
 ·rename_i h;simp [h]
 ·rename_i h;simp [h]
theorem Q9B {F:Nat} (hF:BIG<=F) {l:List Rg_} {q:Rg_->Option Bool} (p:Rg_->Bool) (hl:l.length<=1000000000) (hq:∀ r ∈ l,q r=some (p r)):G6 F l q=some (l.any p):=by
 unfold G6;refine Q4 (Z0Z hF p hl hq) ?_
 congr 1
 rw [Bool.eq_iff_iff, <-Y4k,decide_eq_true_iff]
structure GrpOf (gs:List (Int×List Rg_)) (l:List Rg_):Prop where
 nd:(gs.map (·.1)).Nodup
 row:∀ e ∈ gs,e.2=l.filter fun f=>decide (f.y_=e.1)
 key:∀ f ∈ l,∃ e ∈ gs,e.1=f.y_
theorem GrpOf.nil:GrpOf [] []:=⟨by simp,fun e c=>by simp at c,fun f b=>by simp at b⟩
theorem GrpOf.gRow {gs:List (Int×List Rg_)} {l:List Rg_} (h:GrpOf gs l) (y:Int):gRow y gs=l.filter fun f=>decide (f.y_=y):=by
 unfold Go.Ab.gRow;rcases Q7o y gs with ⟨j,q,i,r⟩|⟨m,g⟩
 ·rw [i]
  simp only
  rw [h.row q (List.mem_of_getElem? i),r]
 ·rw [m,List.getElem?_eq_none (Nat.le_refl _)]
  simp only
  symm
  rw [List.filter_eq_nil_iff];intro f o b
  obtain ⟨e,p,c⟩:=h.key f o;exact g e p (by rw [c];exact of_decide_eq_true b)
theorem GrpOf.app {gs:List (Int×List Rg_)} {l:List Rg_} (h:GrpOf gs l) (f:Rg_):GrpOf (gApp f.y_ [f] gs) (l++[f]):=by
 obtain ⟨q,w,H,C,D⟩:=Z8j (y:=f.y_) (m:=[f]) (gs:=gs);have p:=Y2J (y:=f.y_) (m:=[f]) h.nd
 have A:(gApp f.y_ [f] gs)[Q0J f.y_ gs]?=some q:=by rw [C,Z7X D,if_pos rfl]
 have t:∀ e ∈ gApp f.y_ [f] gs,e=q\/(e ∈ gs/\e.1≠f.y_):=by
  intro e r;obtain ⟨j,c⟩:=List.getElem?_of_mem r
  by_cases b:j=Q0J f.y_ gs
  ·rw [b,A] at c;cases c;exact .inl rfl
  ·right
   have o:=c;rw [C,Z7X D,if_neg b] at o
   refine ⟨List.mem_of_getElem? o,fun z=>b ?_⟩;exact Z8T p c A (by rw [z,w])
 refine ⟨p,fun e r=>?_,fun g u=>?_⟩
 ·rcases t e r with rfl|⟨J,I⟩
  ·rw [H,h.gRow,List.filter_append,w];simp
  ·rw [h.row e J,List.filter_append]
   have:([f].filter fun g=>decide (g.y_=e.1))=[]:=by simp;exact fun E=>I E.symm
   rw [this,List.append_nil]
 ·rcases List.mem_append.1 u with u|u
  ·obtain ⟨e,r,s⟩:=h.key g u
   by_cases z:e.1=f.y_
   ·exact ⟨q,List.mem_of_getElem? A,by rw [w, <-s,z]⟩
   ·obtain ⟨j,c⟩:=List.getElem?_of_mem r
    have b:j≠Q0J f.y_ gs:=by
     rintro rfl;rcases Q7o f.y_ gs with ⟨_,K,v,B⟩|⟨G,_⟩
     ·rw [c] at v;cases v;exact z B
     ·rw [G,List.getElem?_eq_none (Nat.le_refl _)] at c;cases c
    refine ⟨e,List.mem_of_getElem? (i:=j) ?_,s⟩;rw [C,Z7X D,if_neg b];exact c
  ·have:g=f:=by simpa using u
   subst this;exact ⟨q,List.mem_of_getElem? A,w⟩
theorem Y8C (y:Int) (m:List Rg_) (gs:List (Int×List Rg_)):(gApp y m gs).length<=gs.length+1:=by
 obtain ⟨q,_,_,h,b⟩:=Z8j (y:=y) (m:=m) (gs:=gs);rw [h,Z5i b]
 split <;> omega
theorem Z9c {F:Nat} (hF:BIG<=F) {l:List Rg_} (hl:l.length<=200):∃ gs,Q9q F l=some gs/\GrpOf gs l/\gs.length<=l.length:=by
 unfold BIG at hF;have c:∀ (n i:Nat) (gs:List (Int×List Rg_)),i<=l.length->l.length-i<n->GrpOf gs (l.take i)->gs.length<=i->∃ r,Z6 (fun again (z:Int×(List (Int×(List Rg_))))=>Q1S F l again z.1 z.2) n ((i:Int),gs)=some r/\GrpOf r l/\r.length<=l.length:=by
  intro n
  induction n with
  | zero=>intro i gs _ h;omega
  | succ n ih=>
   intro i gs p m b g
   by_cases h:i<l.length
   ·obtain ⟨r,j,e⟩:=ih (i+1) (gApp (gl l i).y_ [gl l i] gs) h (by omega) (by rw [y3 h];exact b.app _) (by have:=Y8C (gl l i).y_ [gl l i] gs;omega)
    refine ⟨r,?_,e⟩;show Q1S F l _ (i:Int) gs=_
    unfold Q1S;simp only [Int.toNat_natCast]
    refine Z8 (by simpa using h) ?_;refine Z5 (k:=?_)
    refine Z3 ?_ ?_
    ·rw [b.gRow]
     have:=List.length_filter_le (fun f:Rg_=>decide (f.y_=(gl l i).y_)) (l.take i)
     have o:(l.take i).length<=200:=by rw [List.length_take];omega
     simp only [LIM,List.length_cons,List.length_nil];omega
    ·refine Z5 (k:=?_)
     exact j
   ·have:i=l.length:=by omega
    subst this;refine ⟨gs,?_,by rw [List.take_length] at b;exact b,g⟩
    show Q1S F l _ _ gs=_;unfold Q1S
    exact Q9 (by simp) rfl
 exact c F 0 [] (Nat.zero_le _) (by omega) (by rw [List.take_zero];exact GrpOf.nil) (Nat.zero_le _)
def Y2k (e:Int×List Rg_):Prop:=¬ e.2.Pairwise fun f g=>Q4i f.g_ g.g_=false
theorem Y6I {gs:List (Int×List Rg_)} {l:List Rg_} (h:GrpOf gs l):NX l↔∀ e ∈ gs,¬ Y2k e:=by
 unfold NX Y2k;constructor
 ·intro m e c p
  refine p ?_;rw [h.row e c,List.pairwise_filter]
  exact m.imp fun {f g} hh h1 h2=>hh (by simp at h1 h2;omega)
 ·intro m
  rw [List.pairwise_iff_getElem];intro i j s q o r
  obtain ⟨e,c,b⟩:=h.key l[i] (List.getElem_mem _);have:=Classical.not_not.1 (m e c)
  rw [h.row e c,List.pairwise_filter,List.pairwise_iff_getElem] at this;exact this i j s q o (by simp [b]) (by simp [b,r])
theorem Y6J {e:Int×List Rg_}:¬ Y2k e↔∀ j,j<e.2.length->∀ i,i<j->Q4i (gl e.2 i).g_ (gl e.2 j).g_=false:=by
 unfold Y2k;rw [Classical.not_not,List.pairwise_iff_getElem]
 constructor
 ·intro h j b i f
  rw [z7 b,z7 (by omega)];exact h i j (by omega) b f
 ·intro h i j f b c
  have:=h j b i c
  rw [z7 b,z7 (by omega)] at this;exact this
theorem Z6e {F:Nat} (hF:BIG<=F) {e:Int×List Rg_} (hl:e.2.length<=200) {rest:List (Int×List Rg_)} {ag:List (Int×List Rg_)->Option Int} {y:Int} (hb:Y2k e->y=11) (hg:¬ Y2k e->ag rest=some y) :
  Z6 (fun again (z:Int)=>Q9g F e rest ag again z) F (0:Int)=some y:=by
 have b:=hF;unfold BIG at hF
 refine Y7 (fun z:Int=>∃ i:Nat,z=i/\i<=e.2.length/\∀ j,j<i->∀ a,a<j->Q4i (gl e.2 a).g_ (gl e.2 j).g_=false) (fun z=>e.2.length-z.toNat) (fun again z t w=>?_) ⟨0,rfl,by omega,fun j p=>absurd p (Nat.not_lt_zero j)⟩ (by simp;omega);obtain ⟨i,rfl,A,o⟩:=t
 unfold Q9g;simp only [Int.toNat_natCast]
 refine Q8 (fun h=>?_) (fun h=>?_)
 ·have h:i<e.2.length:=by simpa using h
  refine Z5 (k:=?_);refine Z5 (k:=?_)
  refine Q4 (Q9B b (fun f=>Q4i f.g_ (gl e.2 i).g_) (by rw [List.length_take];omega) (fun r _=>by unfold Q6K;exact Q4 (Z9U b _ _) rfl)) ?_;refine Q8 (fun l=>?_) (fun l=>?_)
  ·rw [hb fun v=>?_]
   ·obtain ⟨f,s,g⟩:=List.any_eq_true.1 l
    obtain ⟨a,m,rfl⟩:=List.getElem_of_mem s;have c:a<i:=by rw [List.length_take] at m;omega
    have:=Y6J.1 (Classical.not_not.2 v) i h a c
    rw [List.getElem_take] at g;rw [z7 (show a<e.2.length by omega)] at this
    rw [this] at g;cases g
  ·refine Z5 (k:=?_)
   refine w _ ⟨i+1,by omega,h,fun j p a m=>?_⟩ (by omega);rcases Nat.lt_or_ge j i with q|q
   ·exact o j q a m
   ·have:j=i:=by omega
    subst this;have u:=List.any_eq_false.1 l (gl e.2 a) (by
     rw [z7 (show a<e.2.length by omega)];have:e.2[a]=(e.2.take j)[a]'(by rw [List.length_take];omega):=by rw [List.getElem_take]
     rw [this];exact List.getElem_mem _)
    simpa using u
 ·have h:i=e.2.length:=by
   have:¬ i<e.2.length:=by simpa using h
   omega
  subst h;exact hg (Y6J.2 o)
theorem Z8b {α:Type} {l:List α} {i:Nat} (hi:i<l.length) (p:α->Prop):(∀ e ∈ l,p e)↔p l[i]/\∀ e ∈ l.eraseIdx i,p e:=by
 constructor
 ·exact fun h=>⟨h _ (List.getElem_mem _),fun e b=>h e (List.mem_of_mem_eraseIdx b)⟩
 ·rintro ⟨g,c⟩ e b
  obtain ⟨j,f,rfl⟩:=List.getElem_of_mem b
  by_cases hij:j=i
  ·subst hij;exact g
  ·exact c _ (List.mem_eraseIdx_iff_getElem.2 ⟨j,f,hij,rfl⟩)
theorem Z6f {F:Nat} (hF:BIG<=F):∀ (n:Nat) (gs:List (Int×List Rg_)) (y:Int),gs.length<n->(∀ e ∈ gs,e.2.length<=200)->((∀ e ∈ gs,¬ Y2k e)->y=0)->((¬ ∀ e ∈ gs,¬ Y2k e)->y=11) ->
  Z6 (fun again (z:(List (Int×(List Rg_))))=>Q5R F again z) n gs=some y:=by
 intro n
 induction n with
 | zero=>intro gs y h;omega
 | succ n ih=>
  intro gs y r c p q;show Q5R F _ gs=_
  unfold Q5R
  cases gs with
  | nil=>
   rw [Y7h,p (fun e m=>by simp at m)];rfl
  | cons g l=>
   refine Y5o (by simp) fun i o=>?_
   refine Z6e hF (c _ (List.getElem_mem _)) (fun f=>q fun b=>b _ (List.getElem_mem _) f) (fun f=>?_);refine ih _ y (by rw [List.length_eraseIdx];rw [if_pos o];simp at r ⊢;omega) (fun e m=>c e (List.mem_of_mem_eraseIdx m)) (fun b=>p ?_) (fun j=>q fun b=>j ?_)
   ·exact (Z8b o (fun e=>¬ Y2k e)).2 ⟨f,b⟩
   ·exact ((Z8b o (fun e=>¬ Y2k e)).1 b).2
theorem Z9e {F:Nat} (hF:BIG<=F) (l:List Rg_):Q6v F l=some (Q9j l):=by
 have p:=hF;unfold BIG at hF
 unfold Q6v;refine Q8 (fun h=>?_) (fun h=>?_)
 ·have h:200<l.length:=by simp at h;omega
  rw [Q9j,if_pos h]
 ·have h:¬ 200<l.length:=by simp at h;omega
  have w:hGo none l=0->Q5Q F l=some (Q9j l):=fun m=>by
   unfold Q5Q;obtain ⟨E,A,D,M⟩:=Z9c p (l:=l) (by omega)
   refine Q4 A ?_;have o:E.length<F:=by omega
   refine Z6f p F E _ o (fun e j=>?_) (fun C=>?_) (fun C=>?_)
   ·rw [D.row e j]
    have:=List.length_filter_le (fun f:Rg_=>decide (f.y_=e.1)) l
    omega
   ·rw [Q9j,if_neg h,if_neg (by simp [m]),if_pos ((Y6I D).2 C)]
   ·rw [Q9j,if_neg h,if_neg (by simp [m]),if_neg fun H=>C ((Y6I D).1 H)]
  have u:hGo none l≠0->Q9j l=hGo none l:=fun m=>by rw [Q9j,if_neg h,if_pos m]
  refine Y7 (fun z:Int=>∃ i:Nat,z=i/\i<=l.length/\hGo none l=hGo (Z4b l i) (l.drop i)) (fun z=>l.length-z.toNat) (fun s z G N=>?_) ⟨0,rfl,by omega,rfl⟩ (by simp;omega);obtain ⟨i,rfl,O,j⟩:=G
  unfold Z2T;refine Q8 (fun t=>?_) (fun t=>?_)
  ·have t:i<l.length:=by simpa using t
   rw [Q1I t,hGo] at j;refine Z5 (k:=?_)
   simp only [Int.toNat_natCast];refine Q4 (Z8h p _) ?_
   refine Q8 (fun r=>?_) (fun r=>?_)
   ·have r:Z4h (gl l i)≠0:=by simpa using r
    rw [if_pos r] at j;rw [u (by rw [j];exact r),j]
   ·have r:Z4h (gl l i)=0:=by simpa using r
    rw [if_neg (by simp [r])] at j;have q:∀ b:Bool,b=(Z4b l i).any (fun g=> !ltR g (gl l i))->Q3s F i s b=some (Q9j l):=by
     intro b v;unfold Q3s
     refine Q8 (fun B=>?_) (fun B=>?_)
     ·rw [if_pos (v ▸ B)] at j
      rw [u (by rw [j];decide),j]
     ·rw [if_neg (by rw [<-v,B];simp)] at j
      refine Z5 (k:=?_);refine N _ ⟨i+1,by omega,t,?_⟩ (by omega)
      rw [j,Y1h]
    refine Q8 (fun m=>?_) (fun m=>?_)
    ·have m:0<i:=by simpa using m
     refine Z5 (k:=?_);refine Z5 (k:=?_)
     have A:((i:Int)-1).toNat=i-1:=by omega
     rw [A];obtain ⟨c,I,K,P⟩:=Z7n p (gl l (i-1)) (gl l i)
     refine Q4 I (q _ ?_);have J:(Z4b l i).any (fun g=> !ltR g (gl l i))=!ltR (gl l (i-1)) (gl l i):=by simp [Z4b,show i≠0 from by omega]
     rw [J,Bool.eq_iff_iff,Bool.not_eq_true', <-Bool.not_eq_true, <-K,decide_eq_true_eq];omega
    ·have m:i=0:=by simp at m;omega
     exact q _ (by simp [Z4b,m])
  ·have t:¬ i<l.length:=by simpa using t
   rw [List.drop_of_length_le (by omega)] at j;exact w j
structure HL (l:List Rg_):Prop where
 len:l.length<=200
 one:∀ f ∈ l,Z4h f=0
 asc:l.Pairwise fun f g=>ltR f g=true
 nx:NX l
theorem Y1r:∀ (l:List Rg_) (p:Option Rg_),hGo p l=0↔(∀ f ∈ l,Z4h f=0)/\l.Pairwise (fun f g=>ltR f g=true)/\∀ n,p=some n->∀ f ∈ l,ltR n f=true
 | [],p=>by simp [hGo]
 | f::l,p=>by
  have q:=Y1r l (some f);unfold hGo
  by_cases h1:Z4h f=0
  ·rw [if_neg (by simp [h1])]
   by_cases i:p.any (fun g=> !ltR g f)=true
   ·rw [if_pos i]
    constructor
    ·intro h;cases h
    ·rintro ⟨_,_,h⟩
     cases p with
     | none=>simp at i
     | some n=>
      have i:ltR n f=false:=by simpa using i
      rw [h n rfl f (by simp)] at i;cases i
   ·rw [if_neg i,q]
    constructor
    ·rintro ⟨a,b,c⟩
     refine ⟨fun g e=>?_,List.pairwise_cons.2 ⟨fun g e=>c _ rfl g e,b⟩,fun n j g e=>?_⟩
     ·rcases List.mem_cons.1 e with rfl|e
      ·exact h1
      ·exact a g e
     ·subst j
      have i:ltR n f=true:=by simpa using i
      rcases List.mem_cons.1 e with rfl|e
      ·exact i
      ·exact Z8U i (c _ rfl g e)
    ·rintro ⟨a,b,c⟩
     obtain ⟨m,o⟩:=List.pairwise_cons.1 b;exact ⟨fun g e=>a g (by simp [e]),o,fun n j g e=>by cases j;exact m g e⟩
  ·rw [if_pos h1]
   constructor
   ·intro h;exact absurd h h1
   ·rintro ⟨a,_,_⟩;exact absurd (a f (by simp)) h1
theorem Z3b (l:List Rg_):Q9j l=0↔HL l:=by
 unfold Q9j
 by_cases h:200<l.length
 ·rw [if_pos h]
  exact ⟨fun h=>(by cases h),fun c=>by have:=c.len;omega⟩
 ·rw [if_neg h]
  by_cases h2:hGo none l=0
  ·rw [if_neg (by simp [h2])]
   obtain ⟨a,b,_⟩:=(Y1r l none).1 h2
   by_cases h3:NX l
   ·rw [if_pos h3];exact ⟨fun _=>⟨by omega,a,b,h3⟩,fun _=>rfl⟩
   ·rw [if_neg h3];exact ⟨fun h=>(by cases h),fun c=>absurd c.nx h3⟩
  ·rw [if_pos h2]
   exact ⟨fun h=>absurd h h2,fun c=>absurd ((Y1r l none).2 ⟨c.one,c.asc,fun n e=>by cases e⟩) h2⟩
section
variable {F:Nat} {L:List A2_} {d:Int}
end
section
variable {F n:Nat} {L:List A2_} {d:Int}
end
section
variable {F:Nat} {L:List A2_} {d:Int}
theorem Y4l {l:List Rect} (hc:Q2Q l) (hl:l.length<=120) {a:List Rect} (ha:∀ r ∈ a,Q3a r=true) (hs:∀ x y,inR l x y=true->inR a x y=true):Val l:=by
 have b:Box (16384:Int) l:=hc.box fun x y h=>by
  obtain ⟨r,c,e⟩:=(Q5P _ _ _).1 (hs x y h);have:=(Q0g r).1 (ha r c)
  rw [y5] at e;omega
 exact ⟨hl,b.prop (by omega),hc⟩
end
section
variable {F:Nat} {L:List A2_} {d:Int}
end
def Q3z (y c:Int) (f:Rg_):Bool:=decide (f.y_=y)&&decide (f.c_=c)
def Z5y (y:Int) (a:List Rect) (f:Rg_):Rg_:=if f.y_=y then ⟨f.y_,f.c_,⟨cn fun u v=>inR f.g_.t_ u v && !inR a u v⟩⟩ else f
def Q1W (l:List Rg_) (y c:Int) (a:List Rect):List Rg_:=(l.filter fun f=> !Q3z y c f).map (Z5y y a)
def vA (l:List Rg_) (y c:Int) (a:List Rect):List Rect:=match l.find? (Q3z y c) with|some f=>cn fun u v=>inR f.g_.t_ u v||inR a u v|none=>a
def neR (f:Rg_):Bool:= !decide (f.g_.t_.length=0)
def Z8z (l:List Rg_):Bool:=decide (200<l.length)||l.any fun f=>decide (120<f.g_.t_.length)
def Z5B (l:List Rg_) (r:Rg_):Nat:=l.countP fun f=>ltR f r
def Y7p (l:List Rg_) (r:Rg_):List Rg_:=l.take (Z5B l r)++[r]++l.drop (Z5B l r)
def Z5C (l:List Rg_) (y c:Int) (a:List Rect):List Rg_:=
 if (vA l y c a).length=0 then (Q1W l y c a).filter neR else Y7p ((Q1W l y c a).filter neR) ⟨y,c,⟨vA l y c a⟩⟩
def addH (l:List Rg_) (y c:Int) (a:Re_):List Rg_×Int:=
 if Q9j l≠0 then ([],Q9j l) else if y<0\/100<y then ([],18) else if c<0\/40<=c then ([],13) else if Q3D a.t_=false then ([],7)
 else if Z8z (Z5C l y c a.t_)=true then ([],1) else (Z5C l y c a.t_,0)
theorem Y5g (l:List Rg_) (x:Rg_) (y c:Int) (a:List Rect):Q1W (l++[x]) y c a=Q1W l y c a++(if Q3z y c x=true then [] else [Z5y y a x]):=by
 unfold Q1W;rw [List.filter_append,List.map_append]
 congr 1
 cases h:Q3z y c x with
 | true=>simp [h]
 | false=>simp [h]
theorem Y9B (l:List Rg_) (x:Rg_) (y c:Int) (a:List Rect) (h:Q3z y c x=true->∀ f ∈ l,Q3z y c f=false):vA (l++[x]) y c a=if Q3z y c x=true then cn (fun u v=>inR x.g_.t_ u v||inR a u v) else vA l y c a:=by
 unfold vA;rw [List.find?_append]
 cases hx:Q3z y c x with
 | true=>
  have:l.find? (Q3z y c)=none:=List.find?_eq_none.2 fun f b=>by rw [h hx f b];simp
  rw [this];simp [hx]
 | false=>simp [hx]
theorem Y7H (l:List Rg_) (y c:Int) (a:List Rect) (h:∀ f ∈ l,Q3z y c f=false):vA l y c a=a:=by
 unfold vA;have:l.find? (Q3z y c)=none:=List.find?_eq_none.2 fun f b=>by rw [h f b];simp
 rw [this]
theorem Z9y {l:List Rg_} (h:l.Pairwise fun f g=>ltR f g=true) {i:Nat} (hi:i<l.length) {y c:Int} (hs:Q3z y c (gl l i)=true):∀ f ∈ l.take i,Q3z y c f=false:=by
 intro f e;obtain ⟨j,m,rfl⟩:=List.getElem_of_mem e
 have b:j<i:=by rw [List.length_take] at m;omega
 rw [List.getElem_take];have:=List.pairwise_iff_getElem.1 h j i (by omega) hi b
 rw [Q8k] at this;rw [z7 hi] at hs
 unfold Q3z at hs ⊢;rw [Bool.and_eq_true,decide_eq_true_eq,decide_eq_true_eq] at hs
 rw [<-Bool.not_eq_true,Bool.and_eq_true,decide_eq_true_eq,decide_eq_true_eq];omega
theorem HL.val {l:List Rg_} (h:HL l) {f:Rg_} (hf:f ∈ l):Val f.g_.t_:=((Q8W f).1 (h.one f hf)).2.2.2.2.2
theorem Y0Z {F:Nat} (hF:BIG<=F) {l:List Rg_} (h:HL l) {y c:Int} {a:Re_} (ha:Val a.t_) {r:List Rg_×Int} (hk:Q7X F y c (vA l y c a.t_) ((Q1W l y c a.t_).filter neR)=some r) :
  Z6 (fun again (z:(List Rect)×Int×(List Rg_))=>Z3u F l y c a again z.1 z.2.1 z.2.2) F (a.t_,(0:Int),([]:List Rg_))=some r:=by
 have s:=hF;unfold BIG at hF
 have D:=h.len;refine Y7 (fun z:(List Rect)×Int×(List Rg_)=>∃ i:Nat,z=(vA (l.take i) y c a.t_,(i:Int),(Q1W (l.take i) y c a.t_).filter neR)/\i<=l.length) (fun z=>l.length-z.2.1.toNat) (fun again z M K=>?_) ⟨0,by rw [List.take_zero];rfl,by omega⟩ (by simp only;omega)
 obtain ⟨i,rfl,P⟩:=M;simp only at K ⊢
 unfold Z3u;simp only [Int.toNat_natCast]
 refine Q8 (fun j=>?_) (fun j=>?_)
 ·have j:i<l.length:=by simpa using j
  have t:=h.val (V6 j);have N:((Q1W (l.take i) y c a.t_).filter neR).length<=200:=by
   have G:=List.length_filter_le neR (Q1W (l.take i) y c a.t_);unfold Q1W at G ⊢
   rw [List.length_map] at G;have:=List.length_filter_le (fun f=> !Q3z y c f) (l.take i)
   have e:(l.take i).length<=l.length:=by rw [List.length_take];omega
   omega
  have g:∀ (v:List Rect) (q:List Rg_),v=vA (l.take (i+1)) y c a.t_->q=(Q1W (l.take (i+1)) y c a.t_).filter neR->Q5D F i again v q=some r:=by
   rintro v q rfl rfl;unfold Q5D
   refine Z5 (k:=?_);exact K _ ⟨i+1,rfl,j⟩ (by simp only;omega)
  have A:=Y9B (l.take i) (gl l i) y c a.t_ (Z9y h.asc j);have B:=Y5g (l.take i) (gl l i) y c a.t_
  rw [<-y3 j] at A B;have I:∀ w:List Rect,Q3z y c (gl l i)=false->(⟨(gl l i).y_,(gl l i).c_,⟨w⟩⟩:Rg_)=Z5y y a.t_ (gl l i)->Q7Y F l (vA (l.take i) y c a.t_) i ((Q1W (l.take i) y c a.t_).filter neR) again w=some r:=by
   intro w m O;unfold Q7Y
   simp only [Int.toNat_natCast];have H:(Q1W (l.take (i+1)) y c a.t_).filter neR=(Q1W (l.take i) y c a.t_).filter neR++[(⟨(gl l i).y_,(gl l i).c_,⟨w⟩⟩:Rg_)].filter neR:=by
    rw [B,if_neg (by rw [m];simp),List.filter_append,O]
   have E:vA (l.take i) y c a.t_=vA (l.take (i+1)) y c a.t_:=by rw [A,if_neg (by rw [m];simp)]
   refine Q8 (fun o=>?_) (fun o=>?_)
   ·have o:w.length≠0:=by simp at o;omega
    refine Z5 (k:=?_);refine g _ _ E ?_
    rw [H];congr 1
    simp [neR,o]
   ·have o:w.length=0:=by simp at o;simp [o]
    refine g _ _ E ?_;rw [H]
    simp [neR,o]
  refine Z5 (k:=?_);have J:∀ b:Bool,b=Q3z y c (gl l i)->Q7Z F l y a (vA (l.take i) y c a.t_) i ((Q1W (l.take i) y c a.t_).filter neR) again b=some r:=by
   intro b C;unfold Q7Z
   simp only [Int.toNat_natCast];refine Q8 (fun e=>?_) (fun e=>?_)
   ·have m:Q3z y c (gl l i)=true:=by rw [<-C,e]
    rw [Y7H _ y c a.t_ (Z9y h.asc j m)];refine Q4 (Q3P s (by have:=ha.1;omega) (by have:=t.1;omega) ha.2.1 t.2.1) (g _ _ ?_ ?_)
    ·rw [A,if_pos m]
     congr 1
     funext u v
     simp [G3,Bool.or_comm]
    ·rw [B,if_pos m,List.append_nil]
   ·have m:Q3z y c (gl l i)=false:=by rw [<-C,e]
    refine Q8 (fun p=>?_) (fun p=>?_)
    ·have p:(gl l i).y_=y:=by simpa using p
     refine Q4 (Q3P s (by have:=t.1;omega) (by have:=ha.1;omega) t.2.1 ha.2.1) (I _ m ?_);unfold Z5y;rw [if_pos p]
     simp [G3]
    ·have p:¬ (gl l i).y_=y:=by simpa using p
     refine I _ m ?_;unfold Z5y;rw [if_neg p]
  refine Q8 (fun e=>?_) (fun e=>?_)
  ·have e:(gl l i).y_=y:=by simpa using e
   refine J _ ?_;unfold Q3z
   rw [decide_eq_true e,Bool.true_and];rfl
  ·have e:¬ (gl l i).y_=y:=by simpa using e
   refine J _ ?_;unfold Q3z
   rw [decide_eq_false e,Bool.false_and]
 ·have j:i=l.length:=by
   have:¬ i<l.length:=by simpa using j
   omega
  subst j;rw [List.take_length]
  exact hk
def Y2d (f:Rg_):Int×Int:=(f.y_,f.c_)
theorem Z8c {f g:Rg_}:lt2 (Y2d f) (Y2d g)↔ltR f g=true:=by rw [Q8k];unfold lt2 Y2d;exact Iff.rfl
theorem Y2N {l:List Rg_} (h:l.Pairwise fun f g=>ltR f g=true) (r:Rg_):Z5B l r<=l.length/\(∀ j,j<Z5B l r->ltR (gl l j) r=true)/\∀ j,Z5B l r<=j->j<l.length->ltR (gl l j) r=false:=by
 induction l with
 | nil=>exact ⟨Nat.le_refl _,fun j i=>by simp [Z5B] at i,fun j _ i=>by simp at i⟩
 | cons f l ih=>
  obtain ⟨t,s⟩:=List.pairwise_cons.1 h;obtain ⟨a,b,c⟩:=ih s
  cases hf:ltR f r with
  | true=>
   have e:Z5B (f::l) r=Z5B l r+1:=by simp [Z5B,hf]
   rw [e];refine ⟨by simp;exact a,fun j i=>?_,fun j i o=>?_⟩
   ·cases j with
    | zero=>exact hf
    | succ j=>exact b j (by omega)
   ·cases j with
    | zero=>omega
    | succ j=>exact c j (by omega) (by simpa using o)
  | false=>
   have m:∀ g ∈ l,ltR g r=false:=fun g p=>by
    rw [<-Bool.not_eq_true];intro q
    rw [Z8U (t g p) q] at hf;cases hf
   have e:Z5B (f::l) r=0:=by
    unfold Z5B;rw [List.countP_eq_zero]
    intro g p;rcases List.mem_cons.1 p with rfl|p
    ·rw [hf];simp
    ·rw [m g p];simp
   rw [e];refine ⟨Nat.zero_le _,fun j i=>absurd i (Nat.not_lt_zero j),fun j _ o=>?_⟩
   cases j with
   | zero=>exact hf
   | succ j=>
    have i:j<l.length:=by simpa using o
    exact m _ (V6 i)
theorem Y7o (l:List Rg_) (r:Rg_):(Y7p l r).Perm (l++[r]):=by
 unfold Y7p;have b:(l.take (Z5B l r)++[r]++l.drop (Z5B l r)).Perm (l.take (Z5B l r)++(l.drop (Z5B l r)++[r])):=by
  rw [List.append_assoc];exact List.Perm.append_left _ List.perm_append_comm
 rw [<-List.append_assoc,List.take_append_drop] at b;exact b
theorem Y8u {l:List Rg_} (h:l.Pairwise fun f g=>ltR f g=true) {r:Rg_} (hr:∀ f ∈ l,Y2d f≠Y2d r):(Y7p l r).Pairwise fun f g=>ltR f g=true:=by
 obtain ⟨a,b,c⟩:=Y2N h r;unfold Y7p
 generalize Z5B l r=k at *;have s:∀ f ∈ l.take k,ltR f r=true:=fun f e=>by
  obtain ⟨j,o,rfl⟩:=List.getElem_of_mem e;have i:j<k:=by rw [List.length_take] at o;omega
  have:=b j i
  rw [z7 (show j<l.length by omega)] at this;rw [List.getElem_take];exact this
 have t:∀ f ∈ l.drop k,ltR r f=true:=fun f e=>by
  obtain ⟨j,o,rfl⟩:=List.getElem_of_mem e;have i:k+j<l.length:=by rw [List.length_drop] at o;omega
  have q:=c (k+j) (by omega) i;rw [z7 i] at q
  rw [List.getElem_drop];have u:=hr _ (List.getElem_mem i)
  rcases Y9T u with p|p
  ·rw [Z8c.1 p] at q;cases q
  ·exact Z8c.1 p
 rw [List.pairwise_append,List.pairwise_append];refine ⟨⟨h.sublist (List.take_sublist _ _),List.pairwise_singleton _ _,fun f e g m=>?_⟩,h.sublist (List.drop_sublist _ _),fun f e g m=>?_⟩
 ·rw [List.mem_singleton] at m;subst m;exact s f e
 ·rcases List.mem_append.1 e with e|e
  ·exact Z8U (s f e) (t g m)
  ·rw [List.mem_singleton] at e;subst e;exact t g m
theorem Z3a (y:Int) (a:List Rect) (f:Rg_):Y2d (Z5y y a f)=Y2d f:=by unfold Z5y;split <;> rfl
theorem Y8m (y:Int) (a:List Rect) (f g:Rg_):ltR (Z5y y a f) (Z5y y a g)=ltR f g:=by
 rw [Bool.eq_iff_iff, <-Z8c, <-Z8c,Z3a,Z3a]
theorem Y0P {l:List Rg_} (h:l.Pairwise fun f g=>ltR f g=true) (y c:Int) (a:List Rect):((Q1W l y c a).filter neR).Pairwise fun f g=>ltR f g=true:=by
 refine List.Pairwise.filter _ ?_;unfold Q1W
 rw [List.pairwise_map];refine List.Pairwise.imp (fun {f g} hh=>?_) (List.Pairwise.filter _ h)
 rw [Y8m];exact hh
theorem Y7W {l:List Rg_} {y c:Int} {a v:List Rect}:∀ f ∈ (Q1W l y c a).filter neR,Y2d f≠Y2d ⟨y,c,⟨v⟩⟩:=by
 intro f h e;have h:=(List.mem_filter.1 h).1
 unfold Q1W at h;obtain ⟨g,j,rfl⟩:=List.mem_map.1 h
 have b:=(List.mem_filter.1 j).2;rw [Z3a] at e
 unfold Y2d at e;have m:g.y_=y:=congrArg Prod.fst e
 have i:g.c_=c:=congrArg Prod.snd e;unfold Q3z at b
 simp [m,i] at b
theorem Y9l {l:List Rg_} (h:l.Pairwise fun f g=>ltR f g=true) (y c:Int) (a:List Rect):(Z5C l y c a).Pairwise fun f g=>ltR f g=true:=by
 unfold Z5C;split
 ·exact Y0P h y c a
 ·exact Y8u (Y0P h y c a) Y7W
theorem Z9w (l:List Rg_) (y c:Int) (a:List Rect):((Q1W l y c a++[(⟨y,c,⟨vA l y c a⟩⟩:Rg_)]).filter neR).Perm (Z5C l y c a):=by
 rw [List.filter_append];unfold Z5C
 split
 ·rename_i h
  have:[(⟨y,c,⟨vA l y c a⟩⟩:Rg_)].filter neR=[]:=by simp [neR,h]
  rw [this,List.append_nil]
 ·rename_i h
  have:[(⟨y,c,⟨vA l y c a⟩⟩:Rg_)].filter neR=[⟨y,c,⟨vA l y c a⟩⟩]:=by simp [neR,h]
  rw [this];exact (Y7o _ _).symm
theorem Y2z (l:List Rg_) (y c:Int) (a:List Rect):(Q1W l y c a).length<=l.length:=by
 unfold Q1W;rw [List.length_map]
 exact List.length_filter_le _ _
theorem Z2E {F:Nat} (hF:BIG<=F) {L:List Rg_} (hl:L.length<=201):Q6r F L=some (if Z8z L=true then ([],1) else (L,0)):=by
 unfold BIG at hF;unfold Q6r
 refine Q8 (fun h=>?_) (fun h=>?_)
 ·have h:200<L.length:=by have:=of_decide_eq_true h;omega
  rw [if_pos (by unfold Z8z;rw [decide_eq_true h,Bool.true_or])]
 ·have h:¬ 200<L.length:=by have:=of_decide_eq_false h;omega
  refine Y7 (fun z:Int=>∃ i:Nat,z=i/\i<=L.length/\∀ j,j<i->¬ 120<(gl L j).g_.t_.length) (fun z=>L.length-z.toNat) (fun g z o q=>?_) ⟨0,rfl,by omega,fun j e=>absurd e (Nat.not_lt_zero j)⟩ (by simp;omega);obtain ⟨i,rfl,r,l⟩:=o
  unfold Z6z;simp only [Int.toNat_natCast]
  refine Q8 (fun b=>?_) (fun b=>?_)
  ·have b:i<L.length:=by simpa using b
   refine Z5 (k:=?_);refine Q8 (fun c=>?_) (fun c=>?_)
   ·have c:120<(gl L i).g_.t_.length:=by have:=of_decide_eq_true c;omega
    rw [if_pos];unfold Z8z
    rw [Bool.or_eq_true];exact .inr (List.any_eq_true.2 ⟨_,V6 b,decide_eq_true c⟩)
   ·have c:¬ 120<(gl L i).g_.t_.length:=by have:=of_decide_eq_false c;omega
    refine Z5 (k:=?_);refine q _ ⟨i+1,by omega,b,fun j e=>?_⟩ (by omega)
    rcases Nat.lt_or_ge j i with m|m
    ·exact l j m
    ·have:j=i:=by omega
     subst this;exact c
  ·have b:i=L.length:=by
    have:¬ i<L.length:=by simpa using b
    omega
   subst b;rw [if_neg]
   ·rfl
   ·unfold Z8z
    rw [decide_eq_false h,Bool.false_or,Q6A (p:=fun f:Rg_=>decide (120<f.g_.t_.length)) fun j e=>decide_eq_false (l j e)];simp
theorem Z9W {F:Nat} (hF:BIG<=F) {l:List Rg_} (h:HL l) {y c:Int} {a:List Rect} :
  Q7X F y c (vA l y c a) ((Q1W l y c a).filter neR)=some (if Z8z (Z5C l y c a)=true then ([],1) else (Z5C l y c a,0)):=by
 have s:=hF;unfold BIG at hF
 have w:=h.len;have B:((Q1W l y c a).filter neR).length<=200:=by
  have o:=Y2z l y c a;have f:=List.length_filter_le neR (Q1W l y c a)
  omega
 have r:=Y0P h.asc y c a;unfold Q7X Z5C
 generalize (Q1W l y c a).filter neR=R at *;generalize vA l y c a=v at *
 refine Q8 (fun o=>?_) (fun o=>?_)
 ·have o:v.length≠0:=by have:=of_decide_eq_true o;omega
  rw [if_neg o];obtain ⟨k1,k2,C⟩:=Y2N r ⟨y,c,⟨v⟩⟩
  unfold Y7p;generalize Z5B R ⟨y,c,⟨v⟩⟩=k at *
  refine Y7 (fun z:Int=>∃ i:Nat,z=i/\i<=k) (fun z=>R.length-z.toNat) (fun p z A D=>?_) ⟨0,rfl,by omega⟩ (by simp;omega);obtain ⟨i,rfl,E⟩:=A
  have t:i=k->Z0K F y c v R (i:Int)=some (if Z8z (R.take k++[(⟨y,c,⟨v⟩⟩:Rg_)]++R.drop k)=true then ([],1) else (R.take k++[⟨y,c,⟨v⟩⟩]++R.drop k,0)):=by
   rintro rfl;unfold Z0K
   simp only [Int.toNat_natCast];refine Z3 (by omega) (Z3 (by omega) (Z3 (by simp only [LIM];omega) (Z3 (by simp only [LIM,List.length_cons,List.length_nil];omega) (Z3 (by omega) (Z3 (by omega) (Z3 (by simp only [LIM,List.length_cons,List.length_nil];omega) ?_))))))
   have e:((([]:List Rg_)++((R.drop 0).take i))++([(⟨y,c,(⟨v⟩:Re_)⟩:Rg_)]:List Rg_))++((R.drop (0+i)).take (R.length-i))=R.take i++[⟨y,c,⟨v⟩⟩]++R.drop i:=by
    rw [List.nil_append,List.drop_zero,Nat.zero_add,List.take_of_length_le (l:=R.drop i) (by rw [List.length_drop];omega)]
   rw [e];refine Z2E s ?_
   simp only [List.length_append,List.length_take,List.length_drop,List.length_cons,List.length_nil];omega
  have g:∀ b:Bool,(b=true↔i<R.length/\ltR (gl R i) ⟨y,c,⟨v⟩⟩=true)->Q3N F y c v R i p b=some (if Z8z (R.take k++[(⟨y,c,⟨v⟩⟩:Rg_)]++R.drop k)=true then ([],1) else (R.take k++[⟨y,c,⟨v⟩⟩]++R.drop k,0)):=by
   intro b u;unfold Q3N
   refine Q8 (fun f=>?_) (fun f=>?_)
   ·obtain ⟨q,j⟩:=u.1 f
    have m:i<k:=by
     rcases Nat.lt_or_ge i k with m|m
     ·exact m
     ·rw [C i m q] at j;cases j
    refine Z5 (k:=?_);exact D _ ⟨i+1,by omega,m⟩ (by omega)
   ·refine t ?_
    rcases Nat.lt_or_ge i k with m|m
    ·have:=u.2 ⟨by omega,k2 i m⟩
     rw [f] at this;cases this
    ·omega
  unfold Z7S;simp only [Int.toNat_natCast]
  refine Q8 (fun f=>?_) (fun f=>?_)
  ·have f:i<R.length:=by simpa using f
   refine Z5 (k:=?_);refine Q8 (fun q=>?_) (fun q=>?_)
   ·refine g _ ?_
    have q:=of_decide_eq_true q;rw [Q8k];simp;omega
   ·have q:=of_decide_eq_false q
    refine Z5 (k:=?_);refine Q8 (fun j=>?_) (fun j=>?_)
    ·have j:(gl R i).y_=y:=by simpa using j
     refine Z5 (k:=?_);refine g _ ?_
     rw [Q8k,decide_eq_true_eq];simp only;omega
    ·have j:¬ (gl R i).y_=y:=by simpa using j
     refine g _ ?_;rw [Q8k];simp;omega
  ·have f:¬ i<R.length:=by simpa using f
   refine g _ ?_;simp;omega
 ·have o:v.length=0:=by have:=of_decide_eq_false o;omega
  rw [if_pos o];exact Z2E s (by omega)
theorem Y3g {F:Nat} (hF:BIG<=F) (l:List Rg_) (y c:Int) (a:Re_):Z2F F l y c a=some (addH l y c a):=by
 unfold Z2F addH;refine Q4 (Y0X hF l) ?_
 refine Q8 (fun h=>?_) (fun h=>?_)
 ·rw [if_pos (by simpa using h)]
 ·have h:Q9j l=0:=by simpa using h
  rw [if_neg (by simp [h]),Q7n (Q8b F l y c a)];unfold Q8b
  refine Q8 (fun f=>by rw [if_pos (by simpa using f)]) (fun f=>?_);rw [if_neg (by simpa using f),Q7n (Q8a F l y c a)]
  unfold Q8a;refine Q8 (fun e=>by rw [if_pos (by simpa using e)]) (fun e=>?_)
  rw [if_neg (by simpa using e)];refine Q4 (Q1j hF _) ?_
  refine Q8 (fun b=>by rw [if_pos (by simpa using b)]) (fun b=>?_);have b:Q3D a.t_=true:=by simpa using b
  rw [if_neg (by rw [b];simp)];exact Y0Z hF ((Z3b l).1 h) ((Q1z _).1 b) (Z9W hF ((Z3b l).1 h))
theorem Y2C {a b:Re_} (h:∀ x y,inR a.t_ x y=true->inR b.t_ x y=true->False):Q4i a b=false:=by
 by_cases ha:Val a.t_
 ·by_cases hb:Val b.t_
  ·exact Y8l ha hb h
  ·unfold Q4i
   have:Q3D b.t_=false:=by rw [<-Bool.not_eq_true,Q1z];exact hb
   rw [this];simp
 ·unfold Q4i
  have:Q3D a.t_=false:=by rw [<-Bool.not_eq_true,Q1z];exact ha
  rw [this];rfl
theorem Z5k {a b:Re_} (ha:Val a.t_) (hb:Val b.t_) (h:Q4i a b=false):∀ x y,inR a.t_ x y=true->inR b.t_ x y=true->False:=by
 intro x y e c;unfold Q4i at h
 rw [Q1P ha,Q1P hb,Bool.true_and,Bool.true_and] at h;have:=(Y3m ha.2.1 hb.2.1).2 ⟨x,y,e,c⟩
 rw [this] at h;cases h
theorem W0a (a b:List Rect) (x y:Int):inR (a++b) x y=(inR a x y||inR b x y):=by
 rw [Bool.eq_iff_iff,Bool.or_eq_true,Q5P,Q5P,Q5P];constructor
 ·rintro ⟨r,c,h⟩
  rcases List.mem_append.1 c with c|c
  ·exact .inl ⟨r,c,h⟩
  ·exact .inr ⟨r,c,h⟩
 ·rintro (⟨r,c,h⟩|⟨r,c,h⟩)
  ·exact ⟨r,List.mem_append_left _ c,h⟩
  ·exact ⟨r,List.mem_append_right _ c,h⟩
theorem Y1C (f:Rg_) (y:Int) (a:List Rect) {u v:Int} (h:inR (Z5y y a f).g_.t_ u v=true):inR f.g_.t_ u v=true/\(f.y_=y->inR a u v=false):=by
 unfold Z5y at h;split at h
 ·rename_i b
  simp only at h;rw [Q1b (Z8k _ _),Bool.and_eq_true,Bool.not_eq_true'] at h
  exact ⟨h.1,fun _=>h.2⟩
 ·rename_i b
  exact ⟨h,fun c=>absurd c b⟩
theorem W0B {l:List Rg_} {y c:Int} {a:List Rect} {u v:Int}:inR (vA l y c a) u v=true↔inR a u v=true\/∃ f,l.find? (Q3z y c)=some f/\inR f.g_.t_ u v=true:=by
 unfold vA;split
 ·rename_i f b
  have:=Q4l f.g_.t_ a 1
  simp only [G3,if_true] at this;rw [Q1b this,Bool.or_eq_true]
  constructor
  ·rintro (h|h)
   ·exact .inr ⟨f,b,h⟩
   ·exact .inl h
  ·rintro (h|⟨g,hg,h⟩)
   ·exact .inr h
   ·rw [b] at hg;cases hg;exact .inl h
 ·rename_i b
  constructor
  ·exact fun h=>.inl h
  ·rintro (h|⟨g,hg,h⟩)
   ·exact h
   ·rw [b] at hg;cases hg
theorem Y1L {l:List Rg_} {y c:Int} {a:List Rect} {f:Rg_}:f ∈ Z5C l y c a↔(f ∈ Q1W l y c a\/f=⟨y,c,⟨vA l y c a⟩⟩)/\f.g_.t_.length≠0:=by
 rw [<-(Z9w l y c a).mem_iff,List.mem_filter,List.mem_append,List.mem_singleton];unfold neR
 simp
theorem Y2y (y c:Int) (f:Rg_):Q3z y c f=true↔f.y_=y/\f.c_=c:=by unfold Q3z;simp
theorem Z7I {l:List Rg_} {y c:Int} {a:List Rect} {f:Rg_}:f ∈ Q1W l y c a↔∃ g ∈ l,Q3z y c g=false/\f=Z5y y a g:=by
 unfold Q1W;rw [List.mem_map]
 constructor
 ·rintro ⟨g,b,rfl⟩
  have:=List.mem_filter.1 b
  exact ⟨g,this.1,by simpa using this.2,rfl⟩
 ·rintro ⟨g,b,e,rfl⟩
  exact ⟨g,List.mem_filter.2 ⟨b,by simpa using e⟩,rfl⟩
theorem Y4N {l:List Rg_} (h:Z8z l=false):l.length<=200/\∀ f ∈ l,f.g_.t_.length<=120:=by
 unfold Z8z at h;rw [Bool.or_eq_false_iff] at h
 refine ⟨by have:=of_decide_eq_false h.1;omega,fun f b=>?_⟩;have:=List.any_eq_false.1 h.2 f b
 simp at this;exact this
theorem HL.apart {l:List Rg_} (h:HL l) {f g:Rg_} (hf:f ∈ l) (hg:g ∈ l) (hy:f.y_=g.y_) (hc:f.c_≠g.c_):∀ x y,inR f.g_.t_ x y=true->inR g.g_.t_ x y=true->False:=by
 obtain ⟨i,m,rfl⟩:=List.getElem_of_mem hf;obtain ⟨j,e,rfl⟩:=List.getElem_of_mem hg
 have c:=List.pairwise_iff_getElem.1 h.nx;rcases Nat.lt_trichotomy i j with b|b|b
 ·exact Z5k (h.val hf) (h.val hg) (c i j m e b hy)
 ·subst b;exact absurd rfl hc
 ·exact fun x y o p=>Z5k (h.val hg) (h.val hf) (c j i e m b hy.symm) x y p o
theorem HL.add {l:List Rg_} (h:HL l) {y c:Int} (hy:0<=y/\y<=100) (hc:0<=c/\c<40) {a:List Rect} (ha:Val a) (ht:Z8z (Z5C l y c a)=false):HL (Z5C l y c a):=by
 obtain ⟨Y,t2⟩:=Y4N ht;have N:∀ g ∈ l,∀ x E,inR (Z5y y a g).g_.t_ x E=true->inR g.g_.t_ x E=true:=fun g _ x E q=>(Y1C g y a q).1
 refine ⟨Y,fun f s=>?_,Y9l h.asc y c a,?_⟩
 ·have b:=t2 f s
  obtain ⟨s,o⟩:=Y1L.1 s;rcases s with s|rfl
  ·obtain ⟨g,t,D,rfl⟩:=Z7I.1 s
   obtain ⟨g1,S,U,T,g5,X⟩:=(Q8W g).1 (h.one g t);unfold Z5y at o b ⊢
   split at o <;> rename_i A
   ·rw [if_pos A] at b ⊢
    rw [Q8W];simp only at b o ⊢
    exact ⟨g1,S,U,T,o,Y4l (Q2Q.cn (Z8k _ _)) b X.2.1 fun u v q=>by rw [Q1b (Z8k _ _),Bool.and_eq_true] at q;exact q.1⟩
   ·rw [if_neg A];exact h.one g t
  ·rw [Q8W]
   simp only at b o ⊢;refine ⟨hy.1,hy.2,hc.1,hc.2,o,?_⟩
   unfold vA at b o ⊢;split at o <;> rename_i O
   ·rename_i g
    rw [O] at b;simp only at b
    have p:=Q4l g.g_.t_ a 1;simp only [G3,if_true] at p
    refine Y4l (Q2Q.cn p) b (a:=g.g_.t_++a) (fun r B=>?_) fun u v q=>?_
    ·rcases List.mem_append.1 B with B|B
     ·exact (h.val (List.mem_of_find?_eq_some O)).2.1 r B
     ·exact ha.2.1 r B
    ·rw [Q1b p] at q
     rw [W0a];exact q
   ·exact ha
 ·unfold NX
  have z:∀ {f g:Rg_},(f.y_=g.y_->Q4i f.g_ g.g_=false)->(g.y_=f.y_->Q4i g.g_ f.g_=false):=fun {f g} q m=>by rw [Y5s];exact q m.symm
  refine ((Z9w l y c a).pairwise_iff z).1 (List.Pairwise.filter _ ?_);rw [List.pairwise_append]
  refine ⟨?_,List.pairwise_singleton _ _,fun f s g t m=>?_⟩
  ·unfold Q1W
   rw [List.pairwise_map,List.pairwise_filter];have Z:=List.pairwise_iff_getElem.1 h.nx
   rw [List.pairwise_iff_getElem];intro i j P M J _ _ m
   have e:∀ f:Rg_,(Z5y y a f).y_=f.y_:=fun f=>congrArg Prod.fst (Z3a y a f)
   rw [e,e] at m;have:=Z5k (h.val (List.getElem_mem P)) (h.val (List.getElem_mem M)) (Z i j P M J m)
   exact Y2C fun u v I H=>this u v (Y1C _ y a I).1 (Y1C _ y a H).1
  ·rw [List.mem_singleton] at t
   subst t;obtain ⟨g,t,D,rfl⟩:=Z7I.1 s
   have e:(Z5y y a g).y_=g.y_:=congrArg Prod.fst (Z3a y a g);rw [e] at m
   simp only at m;refine Y2C fun u v I H=>?_
   obtain ⟨V,W⟩:=Y1C _ y a I;rcases W0B.1 H with C|⟨k,Q,C⟩
   ·rw [W m] at C;cases C
   ·have G:=List.mem_of_find?_eq_some Q
    have w:=(Y2y y c k).1 (List.find?_some Q);refine h.apart t G (by rw [m,w.1]) (fun K=>?_) u v V C
    rw [<-Bool.not_eq_true,Y2y] at D;exact D ⟨m,by rw [K,w.2]⟩
theorem HL.nil:HL []:=⟨by simp,fun f b=>by simp at b,.nil,.nil⟩
end
end Go.Ab
