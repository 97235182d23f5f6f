/- What the plain programs compute, up to the law itself. -/
import Derived.Test.YtgfmopdbhjcpfaaGreatLwA
set_option linter.unusedVariables false
set_option linter.unusedSimpArgs false
set_option maxRecDepth 20000
namespace Go.Ab
noncomputable section
def Z5p (n:Int):Bool:=decide (97<=n)&&decide (n<=122)
def Y3J (n:Int):Bool:=decide (48<=n)&&decide (n<=57)
def Q2G (s:ByteArray):Bool:=decide (1<=s.size)&&decide (s.size<=12)&&decide (∀ i,i<s.size->(Z5p (sAt s (i:Nat))||(!decide (i=0)&&Y3J (sAt s (i:Nat))))=true)
theorem Z2S {F:Nat} {s:ByteArray} (hs:s.size<F) (hs2:s.size<=4294967296):Z1z F s=some (Q2G s):=by
 unfold Z1z;refine Y7 (fun z:Int=>∃ i:Nat,z=i/\i<=s.size/\∀ j,j<i->(Z5p (sAt s (j:Nat))||(!decide (j=0)&&Y3J (sAt s (j:Nat))))=true) (fun z=>s.size-z.toNat) (fun c z t r=>?_) ⟨0,rfl,by omega,fun j p=>absurd p (Nat.not_lt_zero j)⟩ (by simp;omega)
 obtain ⟨i,rfl,u,q⟩:=t;unfold Z7A
 refine Q9 (fun h=>?_) (fun h=>?_)
 ·have h:i<s.size:=by simpa using h
  refine Z4 (k:=?_);have n:∀ b:Bool,b=!(Z5p (sAt s (i:Nat))||(!decide (i=0)&&Y3J (sAt s (i:Nat))))->Q4k F i c b=some (Q2G s):=by
   intro b l;unfold Q4k
   refine Q9 (fun a=>?_) (fun a=>?_)
   ·rw [a,eq_comm,Bool.not_eq_true'] at l
    congr 1
    symm
    unfold Q2G;rw [Bool.and_eq_false_iff]
    right
    rw [decide_eq_false_iff_not];intro m
    rw [m i h] at l;cases l
   ·rw [a,eq_comm,Bool.not_eq_false'] at l
    refine Z4 (k:=?_);refine r _ ⟨i+1,by omega,h,fun j p=>?_⟩ (by omega)
    rcases Nat.lt_or_ge j i with e|e
    ·exact q j e
    ·have:j=i:=by omega
     subst this;exact l
  have k2:∀ g o:Bool,g=Z5p (sAt s (i:Nat))->o=Y3J (sAt s (i:Nat))->Q6h F i g c o=some (Q2G s):=by
   intro g o a e;unfold Q6h
   rw [a,e];refine Q9 (fun d=>?_) (fun d=>?_)
   ·have d:Z5p (sAt s (i:Nat))=false:=by simpa using d
    refine Q9 (fun f=>?_) (fun f=>?_)
    ·have f:i=0:=by simpa using f
     refine n _ ?_;rw [d,f];rfl
    ·have f:i≠0:=by simpa using f
     refine n _ ?_;rw [d,decide_eq_false f];simp
   ·have d:Z5p (sAt s (i:Nat))=true:=by simpa using d
    refine n _ ?_;rw [d];rfl
  have k1:∀ g:Bool,g=Z5p (sAt s (i:Nat))->Q6i F s i c g=some (Q2G s):=by
   intro g a;unfold Q6i
   refine Z4 (k:=?_);refine Q9 (fun e=>?_) (fun e=>?_)
   ·refine Z4 (k:=?_)
    refine k2 _ _ a ?_;unfold Y3J;rw [e,Bool.true_and]
   ·refine k2 _ _ a ?_
    unfold Y3J;rw [e,Bool.false_and]
  refine Q9 (fun a=>?_) (fun a=>?_)
  ·refine Z4 (k:=?_)
   refine k1 _ ?_;unfold Z5p;rw [a,Bool.true_and]
  ·refine k1 _ ?_
   unfold Z5p;rw [a,Bool.false_and]
 ·have h:i=s.size:=by
   have:¬ i<s.size:=by simpa using h
   omega
  subst h;unfold Z2T
  refine Q9 (fun a=>?_) (fun a=>?_)
  ·unfold Q6g
   congr 1
   unfold Q2G;have a:1<=s.size:=by have:=of_decide_eq_true a;omega
   rw [decide_eq_true a,decide_eq_true q,Bool.true_and,Bool.and_true,Bool.eq_iff_iff,decide_eq_true_eq,decide_eq_true_eq];omega
  ·unfold Q6g
   congr 1
   unfold Q2G;have a:¬ 1<=s.size:=by have:=of_decide_eq_false a;omega
   rw [decide_eq_false a];rfl
def Q8v:List ByteArray:=[(ByteArray.mk #[98,97,114,108,101,121]),(ByteArray.mk #[99,108,111,118,101,114]),(ByteArray.mk #[103,114,97,115,115]),(ByteArray.mk #[109,97,105,122,101]),(ByteArray.mk #[111,97,116,115]),(ByteArray.mk #[114,121,101]),(ByteArray.mk #[118,101,116,99,104]),(ByteArray.mk #[119,104,101,97,116])]
theorem Y3f:∀ i,i<8->Q2G (gl Q8v i)=true/\(gl Q8v i).size<=12:=by decide +kernel
theorem Y9b:∀ i,i<8->0<i->(sLt (gl Q8v i) (gl Q8v (i-1))||sEq (gl Q8v i) (gl Q8v (i-1)))=false:=by decide +kernel
structure CropT (l:List Crop):Prop where
 len:3<=l.length/\l.length<=8
 one:∀ i,i<l.length->(gl l i).n_=gl Q8v i/\0<=(gl l i).f_/\(gl l i).f_<=2/\0<=(gl l i).m_/\(gl l i).m_<=31
theorem Y3L {F:Nat} (hF:BIG<=F) {l:List Crop} (h:CropT l):Q9m F l=some 0:=by
 have j:=hF;unfold BIG at hF
 obtain ⟨s,n⟩:=h.len;unfold Q9m
 refine Q8 (decide_eq_false (by omega)) ?_;refine Y7k l.length (fun a i e m=>?_) (fun a=>?_) (by omega)
 ·obtain ⟨b,p,r,t,o⟩:=h.one i e
  unfold Q4u;simp only [Int.toNat_natCast]
  refine Z5 (by simpa using e) ?_;refine Z4 (k:=?_)
  obtain ⟨g,q⟩:=Y3f i (by omega);refine Q3 (Z2S (by rw [b];omega) (by rw [b];omega)) ?_
  rw [b,g];refine Q8 rfl (Q8 (decide_eq_false (by omega)) ?_)
  unfold Q2W;simp only [Int.toNat_natCast]
  refine Q8 (decide_eq_false (by omega)) (Q8 (decide_eq_false (by omega)) ?_);unfold Q2V
  simp only [Int.toNat_natCast];have d:Q2U F i a false=some 0:=by
   unfold Q2U;refine Q8 rfl ?_
   refine Z4 (k:=?_);exact m
  refine Q8 (decide_eq_false (by omega)) (Q9 (fun c=>?_) (fun c=>d));have c:0<i:=by simpa using c
  refine Z4 (k:=?_);refine Z4 (k:=?_)
  have f:((i:Int)-1).toNat=i-1:=by omega
  rw [f,b,(h.one (i-1) (by omega)).1,Y9b i (by omega) c];exact d
 ·unfold Q4u
  exact Q8 (by simp) rfl
theorem Z8y {F:Nat} (hF:BIG<=F) {t:Tape} (ht:TOk t):∃ t' l,Q4h F t=some (t',l)/\TOk t' /\ CropT l:=by
 unfold BIG at hF;obtain ⟨h,n,y,K,L,Q⟩:=V7 (F:=F) ht (lo:=3) (hi:=8) (by omega) (by omega) (by omega)
 have g:(Q8v.take n.toNat).length=n.toNat:=by rw [List.length_take];simp [Q8v];omega
 have m:∀ (k f i:Nat) (t:Tape) (c:List Crop),i+k=n.toNat->k<f->TOk t->c.length=i->(∀ j,j<i->(gl c j).n_=gl Q8v j/\0<=(gl c j).f_/\(gl c j).f_<=2/\0<=(gl c j).m_/\(gl c j).m_<=31) ->
   ∃ t' l,Z3 (fun again (z:Int×(List Int)×Int×(List Crop))=>Q0Y F (h,n) again z.1 z.2.1 z.2.2.1 z.2.2.2) f ((i:Int),t.l_,t.at_,c)=some (t',l)/\TOk t' /\ CropT l:=by
  intro k
  induction k with
  | zero=>
   intro f i t c q J ht s d
   cases f with
   | zero=>omega
   | succ f=>
    refine ⟨⟨t.l_,t.at_⟩,c,?_,ht,⟨by omega,fun j u=>d j (by omega)⟩⟩;show Q0Y F (h,n) _ (i:Int) t.l_ t.at_ c=_
    unfold Q0Y;refine Q8 ?_ rfl
    show decide ((i:Int)<(((Q8v.take n.toNat).length:Nat):Int))=false;rw [g];exact decide_eq_false (by omega)
  | succ k ih=>
   intro f i t c q J ht s d
   cases f with
   | zero=>omega
   | succ f=>
    obtain ⟨M,a,E,H,x,P⟩:=Z6 (F:=F) ht (n:=3) (by omega) (by omega);obtain ⟨A,b,C,B,N,O⟩:=Z6 (F:=F) H (n:=8) (by omega) (by omega)
    have D:∀ j,j<8->0<=gl ([0,0,0,2,20,8,1,31]:List Int) j/\gl ([0,0,0,2,20,8,1,31]:List Int) j<=31:=by decide
    have r:gl (Q8v.take n.toNat) i=gl Q8v i:=by simp [gl,List.getD_eq_getElem?_getD,show i<n.toNat from by omega]
    obtain ⟨t',l,v,p,o⟩:=ih f (i+1) A (c++[⟨gl (Q8v.take n.toNat) i,a,gl ([0,0,0,2,20,8,1,31]:List Int) b.toNat⟩]) (by omega) (by omega) B (by simp [s]) (fun j u=>by
     rcases Nat.lt_or_ge j i with w|w
     ·have e:gl (c++[(⟨gl (Q8v.take n.toNat) i,a,gl ([0,0,0,2,20,8,1,31]:List Int) b.toNat⟩:Crop)]) j=gl c j:=by simp [gl,List.getD_eq_getElem?_getD,List.getElem?_append_left (show j<c.length by omega)]
      rw [e];exact d j w
     ·have:j=c.length:=by omega
      subst this;have e:gl (c++[(⟨gl (Q8v.take n.toNat) i,a,gl ([0,0,0,2,20,8,1,31]:List Int) b.toNat⟩:Crop)]) c.length=⟨gl (Q8v.take n.toNat) i,a,gl ([0,0,0,2,20,8,1,31]:List Int) b.toNat⟩:=by simp [gl,List.getD_eq_getElem?_getD]
      rw [e];obtain ⟨G,I⟩:=D b.toNat (by omega)
      refine ⟨by simp only;rw [r,s],x,by simp only;omega,G,I⟩)
    refine ⟨t',l,?_,p,o⟩;show Q0Y F (h,n) _ (i:Int) t.l_ t.at_ c=_
    unfold Q0Y;refine Z5 ?_ (Q7 ?_ (Q3 E (Q3 C (Q7 ?_ (Q7 ?_ (Q7 (Z7 (by omega) (by omega)) ?_))))))
    ·show decide ((i:Int)<(((Q8v.take n.toNat).length:Nat):Int))=true
     rw [g];exact decide_eq_true (by omega)
    ·show 0<=(i:Int)/\(i:Int)<(((Q8v.take n.toNat).length:Nat):Int)
     rw [g];omega
    ·simp only [List.length_cons,List.length_nil];omega
    ·simp only [LIM,List.length_cons,List.length_nil];omega
    ·exact v
 obtain ⟨t',l,v,p,o⟩:=m n.toNat F 0 h [] (by omega) (by omega) K rfl (fun j u=>absurd u (Nat.not_lt_zero j));refine ⟨t',l,?_,p,o⟩
 unfold Q4h;refine Q3 y (Q7 ?_ v)
 simp only [List.length_cons,List.length_nil];omega
structure HisT (K:Int) (l:List Rg_):Prop where
 hl:HL l
 box:∀ f ∈ l,Box 9 f.g_.t_
 crop:∀ f ∈ l,f.c_<K
theorem HisT.nil (K:Int):HisT K []:=⟨HL.nil,fun f a=>by simp at a,fun f a=>by simp at a⟩
theorem Y7w {n:Int} {l:List Rect} (hb:Box n l) {u v:Int} (h:inR l u v=true):0<=u/\u<n/\0<=v/\v<n:=by
 obtain ⟨r,a,b⟩:=(Q2I _ _ _).1 h;have:=hb r a
 rw [J2] at b;omega
theorem HisT.add {K:Int} {l:List Rg_} (h:HisT K l) {y c:Int} (hy:0<=y/\y<=100) (hc:0<=c/\c<40) (hk:c<K) {a:List Rect} (ha:Val a) (hb:Box 9 a) (ht:Z9U (Z6H l y c a)=false):HisT K (Z6H l y c a):=by
 have k:=h.hl.add hy hc ha ht;refine ⟨k,fun f b=>?_,fun f b=>?_⟩
 ·refine (k.val b).2.2.box fun u v d=>?_
  obtain ⟨b,_⟩:=Y3p.1 b;rcases b with b|rfl
  ·obtain ⟨g,i,_,rfl⟩:=Z8Z.1 b
   exact Y7w (h.box g i) (Y3e g y a d).1
  ·rcases W2m.1 d with j|⟨g,i,j⟩
   ·exact Y7w hb j
   ·exact Y7w (h.box g (List.mem_of_find?_eq_some i)) j
 ·obtain ⟨b,_⟩:=Y3p.1 b
  rcases b with b|rfl
  ·obtain ⟨g,i,_,rfl⟩:=Z8Z.1 b
   have:=congrArg Prod.snd (Z3U y a g)
   have e:(Z6C y a g).c_=g.c_:=this;rw [e];exact h.crop g i
  ·exact hk
theorem Y8x {l:List Rg_} (h:HL l) {y c:Int} (hy:0<=y/\y<=100) (hc:0<=c/\c<40) {a:Re_} (ha:Val a.t_):addH l y c a=if Z9U (Z6H l y c a.t_)=true then ([],1) else (Z6H l y c a.t_,0):=by
 unfold addH;rw [if_neg (by rw [(Z3W _).2 h];simp),if_neg (by omega),if_neg (by omega),if_neg (by rw [Q3g ha];simp)]
theorem HisT.addH {K:Int} {l:List Rg_} (h:HisT K l) {y c:Int} (hy:0<=y/\y<=100) (hc:0<=c/\c<40) (hk:c<K) {a:Re_} (ha:RegT 9 a):HisT K (addH l y c a).1:=by
 rw [Y8x h.hl hy hc ha.val];split
 ·exact HisT.nil K
 ·rename_i b
  exact h.add hy hc hk ha.val ha.box (by simpa using b)
def yrs (l:List Rg_) (y:Int) (p:Int->Bool):List Rect:=(l.filter fun f=>decide (f.y_=y)&&p f.c_).flatMap fun f=>f.g_.t_
theorem Y1W (l:List Rg_) (x:Rg_) (y:Int) (p:Int->Bool):yrs (l++[x]) y p=yrs l y p++(if (decide (x.y_=y)&&p x.c_)=true then x.g_.t_ else []):=by
 unfold yrs;rw [List.filter_append,List.flatMap_append]
 congr 1
 cases h:(decide (x.y_=y)&&p x.c_) with
 | true=>simp [h]
 | false=>simp [h]
theorem W1g {l:List Rg_} (h:HL l) (y:Int) (p:Int->Bool):∀ i,i<=l.length->(yrs (l.take i) y p).length<=120*i:=by
 intro i
 induction i with
 | zero=>intro _;rw [List.take_zero];exact Nat.le_refl _
 | succ i ih=>
  intro a;rw [J8 (show i<l.length by omega),Y1W,List.length_append]
  have:=ih (by omega)
  have b:=(h.val (W9 (show i<l.length by omega))).1;split
  ·omega
  ·simp only [List.length_nil];omega
theorem Y0A {F:Nat} (hF:BIG<=F) {l:List Rg_} (h:HL l) (y:Int) {q:Int->Option Bool} (p:Int->Bool) (hq:∀ f ∈ l,q f.c_=some (p f.c_)):Q9A F l y q=some (yrs l y p):=by
 have r:=hF;unfold BIG at hF
 have o:=h.len;unfold Q9A
 refine Y7 (fun z:Int×List Rect=>∃ i:Nat,z=((i:Int),yrs (l.take i) y p)/\i<=l.length) (fun z=>l.length-z.1.toNat) (fun c z s n=>?_) ⟨0,rfl,by omega⟩ (by simp only;omega);obtain ⟨i,rfl,v⟩:=s
 simp only at n ⊢;unfold Z3K
 simp only [Int.toNat_natCast];refine Q9 (fun d=>?_) (fun d=>?_)
 ·have d:i<l.length:=by simpa using d
  refine Z4 (k:=?_);have u:=(h.val (W9 d)).1
  have t:=W1g h y p i (by omega);have e:=Y1W (l.take i) (gl l i) y p
  rw [<-J8 d] at e;have g:∀ j,j=yrs (l.take (i+1)) y p->Q3r F i c j=some (yrs l y p):=by
   rintro j rfl;unfold Q3r
   refine Z4 (k:=?_);exact n _ ⟨i+1,rfl,d⟩ (by simp only;omega)
  have k1:∀ b:Bool,b=(decide ((gl l i).y_=y)&&p (gl l i).c_)->Q3s F l i (yrs (l.take i) y p) c b=some (yrs l y p):=by
   intro b m;unfold Q3s
   simp only [Int.toNat_natCast];refine Q9 (fun a=>?_) (fun a=>?_)
   ·refine Q7 (by simp only [LIM];omega) (g _ ?_)
    rw [e,if_pos (by rw [<-m,a])]
   ·refine g _ ?_
    rw [e,if_neg (by rw [<-m,a];simp),List.append_nil]
  refine Q9 (fun a=>?_) (fun a=>?_)
  ·have a:(gl l i).y_=y:=by simpa using a
   refine Q3 (hq _ (W9 d)) (k1 _ ?_);rw [decide_eq_true a,Bool.true_and]
  ·have a:¬ (gl l i).y_=y:=by simpa using a
   refine k1 _ ?_;rw [decide_eq_false a,Bool.false_and]
 ·have d:i=l.length:=by
   have:¬ i<l.length:=by simpa using d
   omega
  subst d;unfold Q9h
  rw [List.take_length]
theorem W0S (l:List Rg_) (y c:Int) (a:List Rect):(Z6H l y c a).length<=l.length+1:=by
 rw [<-(Y0S l y c a).length_eq];have b:=List.length_filter_le neR (Q1S l y c a++[(⟨y,c,⟨vA l y c a⟩⟩:Rg_)])
 have d:=Y3Y l y c a;simp only [List.length_append,List.length_cons,List.length_nil] at b
 omega
theorem HisT.addH_len {K:Int} {l:List Rg_} (h:HisT K l) {y c:Int} (hy:0<=y/\y<=100) (hc:0<=c/\c<40) {a:Re_} (ha:RegT 9 a):(Go.Ab.addH l y c a).1.length<=l.length+1:=by
 rw [Y8x h.hl hy hc ha.val];split
 ·simp
 ·exact W0S l y c a.t_
theorem Z5t {F:Nat} (hF:BIG<=F) {t:Tape} (ht:TOk t) {cs:List Crop} (hcs:CropT cs) {most:Int} (m1:0<=most) (m2:most<=50):∃ t' l,Q4S F t cs 4 most=some (t',l)/\TOk t' /\ HisT (cs.length:Nat) l/\(l.length:Int)<=most:=by
 have b:=hF;unfold BIG at hF
 obtain ⟨N,p⟩:=hcs.len;obtain ⟨G,c,r,I,s,q⟩:=Z6 (F:=F) ht (n:=most+1) (by omega) (by omega)
 have g:∀ (k f:Nat) (t:Tape) (l:List Rg_),k<f->k<=60->(l.length:Int)+k<=most->TOk t->HisT (cs.length:Nat) l->∃ t' l',Z3 (fun again (z:List Rg_×Int×List Int×Int)=>Q2H F cs 4 again z.1 z.2.1 z.2.2.1 z.2.2.2) f (l,(k:Int),t.l_,t.at_)=some (t',l')/\TOk t' /\ HisT (cs.length:Nat) l' /\ (l'.length:Int)<=most:=by
  intro k
  induction k with
  | zero=>
   intro f t l H _ i ht d
   cases f with
   | zero=>omega
   | succ f=>exact ⟨⟨t.l_,t.at_⟩,l,rfl,ht,d,by omega⟩
  | succ k ih=>
   intro f t l H m i ht d
   cases f with
   | zero=>omega
   | succ f=>
    obtain ⟨L,y,D,E,O,M⟩:=Z6 (F:=F) ht (n:=5) (by omega) (by omega);obtain ⟨K,c,A,v,s,q⟩:=Z6 (F:=F) E (n:=(cs.length:Nat)) (by omega) (by omega)
    obtain ⟨J,a,B,u,o⟩:=Z0P b v (n:=9) (most:=2) (by omega) (by omega) (by omega) (by omega);have x:=d.addH_len (y:=y) (c:=c) (by omega) (by omega) o
    obtain ⟨w,p,e,j,h⟩:=ih f J (addH l y c a).1 (by omega) (by omega) (by omega) u (d.addH (by omega) (by omega) q o);refine ⟨w,p,?_,j,h⟩
    show Q2H F cs 4 _ l ((k+1:Nat):Int) t.l_ t.at_=_;unfold Q2H
    refine Z5 (by simp) ?_;refine Z4 (k:=?_)
    refine Q3 D (Q3 A (Q3 B (Q3 (Y4F b _ _ _ _) ?_)));refine Z4 (k:=?_)
    have C:((k+1:Nat):Int)-1=(k:Int):=by omega
    rw [C];exact e
 obtain ⟨t',l,e,j,h⟩:=g c.toNat F G [] (by omega) (by omega) (by simp;omega) I (HisT.nil _);refine ⟨t',l,?_,j,h⟩
 unfold Q4S;refine Z4 (k:=?_)
 refine Q3 r ?_;have:(c.toNat:Int)=c:=by omega
 rw [this] at e;exact e
def Y2O (cs:List Crop) (c m:Int):Bool:=decide (0<=c)&&(decide (c<(cs.length:Nat))&&((m != 0)&&(Q3A .i64 (gl cs c.toNat).m_ m==m)))
theorem Z6D (F:Nat) (cs:List Crop) (c m:Int):Z3V F cs c m=some (Y2O cs c m):=by
 unfold Z3V Y2O;refine Q9 (fun a=>?_) (fun a=>?_)
 ·rw [a,Bool.true_and]
  refine Q9 (fun b=>?_) (fun b=>?_)
  ·rw [b,Bool.true_and]
   have a:=of_decide_eq_true a;have b:=of_decide_eq_true b
   refine Q9 (fun d=>?_) (fun d=>?_)
   ·rw [d,Bool.true_and];exact Q7 ⟨a,b⟩ rfl
   ·rw [d];rfl
  ·rw [b];rfl
 ·rw [a];rfl
theorem W1h {K:Int} {l:List Rg_} (h:HisT K l) (y:Int) (p:Int->Bool):∀ i,i<=l.length->(yrs (l.take i) y p).length<=45*i:=by
 intro i
 induction i with
 | zero=>intro _;rw [List.take_zero];exact Nat.le_refl _
 | succ i ih=>
  intro b;have a:=W9 (show i<l.length by omega)
  rw [J8 (show i<l.length by omega),Y1W,List.length_append];have:=ih (by omega)
  have c:=Q2l.half (h.hl.val a).2.2 (n:=9) (h.box _ a);split
  ·omega
  ·simp only [List.length_nil];omega
structure FewR (l:List Rg_):Prop where
 hl:HL l
 few:∀ y p i,i<l.length->(yrs (l.take i) y p).length<=300
end
end Go.Ab
