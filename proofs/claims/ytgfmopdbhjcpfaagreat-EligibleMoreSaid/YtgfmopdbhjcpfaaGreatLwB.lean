/- What the plain programs compute, up to the law itself. -/
import Derived.Test.YtgfmopdbhjcpfaaGreatLwA
set_option linter.unusedVariables false
set_option linter.unusedSimpArgs false
set_option maxRecDepth 20000
namespace Go.Ab
noncomputable section
def Z4c (n:Int):Bool:=decide (97<=n)&&decide (n<=122)
def Y1V (n:Int):Bool:=decide (48<=n)&&decide (n<=57)
def Q2I (s:ByteArray):Bool:=decide (1<=s.size)&&decide (s.size<=12)&&decide (∀ i,i<s.size->(Z4c (sAt s (i:Nat))||(!decide (i=0)&&Y1V (sAt s (i:Nat))))=true)
theorem Z1Q {F:Nat} {s:ByteArray} (hs:s.size<F) (hs2:s.size<=4294967296):Q8D F s=some (Q2I s):=by
 unfold Q8D;refine Y9 (fun z:Int=>∃ i:Nat,z=i/\i<=s.size/\∀ j,j<i->(Z4c (sAt s (j:Nat))||(!decide (j=0)&&Y1V (sAt s (j:Nat))))=true) (fun z=>s.size-z.toNat) (fun c z t r=>?_) ⟨0,rfl,by omega,fun j q=>absurd q (Nat.not_lt_zero j)⟩ (by simp;omega)
 obtain ⟨i,rfl,u,p⟩:=t;unfold Z6d
 refine Q8 (fun h=>?_) (fun h=>?_)
 ·have h:i<s.size:=by simpa using h
  refine Z7 (k:=?_);have o:∀ b:Bool,b=!(Z4c (sAt s (i:Nat))||(!decide (i=0)&&Y1V (sAt s (i:Nat))))->Q4j F i c b=some (Q2I s):=by
   intro b l;unfold Q4j
   refine Q8 (fun a=>?_) (fun a=>?_)
   ·rw [a,eq_comm,Bool.not_eq_true'] at l
    congr 1
    symm
    unfold Q2I;rw [Bool.and_eq_false_iff]
    right
    rw [decide_eq_false_iff_not];intro m
    rw [m i h] at l;cases l
   ·rw [a,eq_comm,Bool.not_eq_false'] at l
    refine Z7 (k:=?_);refine r _ ⟨i+1,by omega,h,fun j q=>?_⟩ (by omega)
    rcases Nat.lt_or_ge j i with d|d
    ·exact p j d
    ·have:j=i:=by omega
     subst this;exact l
  have k2:∀ f n:Bool,f=Z4c (sAt s (i:Nat))->n=Y1V (sAt s (i:Nat))->Q6b F i f c n=some (Q2I s):=by
   intro f n a d;unfold Q6b
   rw [a,d];refine Q8 (fun e=>?_) (fun e=>?_)
   ·have e:Z4c (sAt s (i:Nat))=false:=by simpa using e
    refine Q8 (fun g=>?_) (fun g=>?_)
    ·have g:i=0:=by simpa using g
     refine o _ ?_;rw [e,g];rfl
    ·have g:i≠0:=by simpa using g
     refine o _ ?_;rw [e,decide_eq_false g];simp
   ·have e:Z4c (sAt s (i:Nat))=true:=by simpa using e
    refine o _ ?_;rw [e];rfl
  have k1:∀ f:Bool,f=Z4c (sAt s (i:Nat))->Q6c F s i c f=some (Q2I s):=by
   intro f a;unfold Q6c
   refine Z7 (k:=?_);refine Q8 (fun d=>?_) (fun d=>?_)
   ·refine Z7 (k:=?_)
    refine k2 _ _ a ?_;unfold Y1V;rw [d,Bool.true_and]
   ·refine k2 _ _ a ?_
    unfold Y1V;rw [d,Bool.false_and]
  refine Q8 (fun a=>?_) (fun a=>?_)
  ·refine Z7 (k:=?_)
   refine k1 _ ?_;unfold Z4c;rw [a,Bool.true_and]
  ·refine k1 _ ?_
   unfold Z4c;rw [a,Bool.false_and]
 ·have h:i=s.size:=by
   have:¬ i<s.size:=by simpa using h
   omega
  subst h;unfold Z1R
  refine Q8 (fun a=>?_) (fun a=>?_)
  ·unfold Q6a
   congr 1
   unfold Q2I;have a:1<=s.size:=by have:=of_decide_eq_true a;omega
   rw [decide_eq_true a,decide_eq_true p,Bool.true_and,Bool.and_true,Bool.eq_iff_iff,decide_eq_true_eq,decide_eq_true_eq];omega
  ·unfold Q6a
   congr 1
   unfold Q2I;have a:¬ 1<=s.size:=by have:=of_decide_eq_false a;omega
   rw [decide_eq_false a];rfl
def Q8q:List ByteArray:=[(ByteArray.mk #[98,97,114,108,101,121]),(ByteArray.mk #[99,108,111,118,101,114]),(ByteArray.mk #[103,114,97,115,115]),(ByteArray.mk #[109,97,105,122,101]),(ByteArray.mk #[111,97,116,115]),(ByteArray.mk #[114,121,101]),(ByteArray.mk #[118,101,116,99,104]),(ByteArray.mk #[119,104,101,97,116])]
theorem Y1t:∀ i,i<8->Q2I (gl Q8q i)=true/\(gl Q8q i).size<=12:=by decide +kernel
theorem Y7d:∀ i,i<8->0<i->(sLt (gl Q8q i) (gl Q8q (i-1))||sEq (gl Q8q i) (gl Q8q (i-1)))=false:=by decide +kernel
structure CropT (l:List Crop):Prop where
 len:3<=l.length/\l.length<=8
 one:∀ i,i<l.length->(gl l i).n_=gl Q8q i/\0<=(gl l i).f_/\(gl l i).f_<=2/\0<=(gl l i).m_/\(gl l i).m_<=31
theorem Y1Y {F:Nat} (hF:BIG<=F) {l:List Crop} (h:CropT l):Q6X F l=some 0:=by
 have g:=hF;unfold BIG at hF
 obtain ⟨p,r⟩:=h.len;unfold Q6X
 refine Q9 (decide_eq_false (by omega)) ?_;refine Y5n l.length (fun a i d m=>?_) (fun a=>?_) (by omega)
 ·obtain ⟨c,s,t,n,o⟩:=h.one i d
  unfold Q4y;simp only [Int.toNat_natCast]
  refine Y2 (by simpa using d) ?_;refine Z7 (k:=?_)
  obtain ⟨j,q⟩:=Y1t i (by omega);refine Q4 (Z1Q (by rw [c];omega) (by rw [c];omega)) ?_
  rw [c,j];refine Q9 rfl (Q9 (decide_eq_false (by omega)) ?_)
  unfold Q2Y;simp only [Int.toNat_natCast]
  refine Q9 (decide_eq_false (by omega)) (Q9 (decide_eq_false (by omega)) ?_);unfold Q2X
  simp only [Int.toNat_natCast];have e:Q2W F i a false=some 0:=by
   unfold Q2W;refine Q9 rfl ?_
   refine Z7 (k:=?_);exact m
  refine Q9 (decide_eq_false (by omega)) (Q8 (fun b=>?_) (fun b=>e));have b:0<i:=by simpa using b
  refine Z7 (k:=?_);refine Z7 (k:=?_)
  have f:((i:Int)-1).toNat=i-1:=by omega
  rw [f,c,(h.one (i-1) (by omega)).1,Y7d i (by omega) b];exact e
 ·unfold Q4y
  exact Q9 (by simp) rfl
theorem Z7a {F:Nat} (hF:BIG<=F) {t:Tape} (ht:TOk t):∃ t' l,Q2v F t=some (t',l)/\TOk t' /\ CropT l:=by
 unfold BIG at hF;obtain ⟨h,n,C,I,O,N⟩:=V5 (F:=F) ht (lo:=3) (hi:=8) (by omega) (by omega) (by omega)
 have g:(Q8q.take n.toNat).length=n.toNat:=by rw [List.length_take];simp [Q8q];omega
 have r:∀ (k f i:Nat) (t:Tape) (c:List Crop),i+k=n.toNat->k<f->TOk t->c.length=i->(∀ j,j<i->(gl c j).n_=gl Q8q j/\0<=(gl c j).f_/\(gl c j).f_<=2/\0<=(gl c j).m_/\(gl c j).m_<=31) ->
   ∃ t' l,Z8 (fun again (z:Int×(List Int)×Int×(List Crop))=>Q1d F (h,n) again z.1 z.2.1 z.2.2.1 z.2.2.2) f ((i:Int),t.l_,t.at_,c)=some (t',l)/\TOk t' /\ CropT l:=by
  intro k
  induction k with
  | zero=>
   intro f i t c p A ht o d
   cases f with
   | zero=>omega
   | succ f=>
    refine ⟨⟨t.l_,t.at_⟩,c,?_,ht,⟨by omega,fun j v=>d j (by omega)⟩⟩;show Q1d F (h,n) _ (i:Int) t.l_ t.at_ c=_
    unfold Q1d;refine Q9 ?_ rfl
    show decide ((i:Int)<(((Q8q.take n.toNat).length:Nat):Int))=false;rw [g];exact decide_eq_false (by omega)
  | succ k ih=>
   intro f i t c p A ht o d
   cases f with
   | zero=>omega
   | succ f=>
    obtain ⟨M,a,D,x,B,L⟩:=Z9 (F:=F) ht (n:=3) (by omega) (by omega);obtain ⟨H,b,K,G,Q,P⟩:=Z9 (F:=F) x (n:=8) (by omega) (by omega)
    have J:∀ j,j<8->0<=gl ([0,0,0,2,20,8,1,31]:List Int) j/\gl ([0,0,0,2,20,8,1,31]:List Int) j<=31:=by decide
    have m:gl (Q8q.take n.toNat) i=gl Q8q i:=by simp [gl,List.getD_eq_getElem?_getD,show i<n.toNat from by omega]
    obtain ⟨t',l,u,q,s⟩:=ih f (i+1) H (c++[⟨gl (Q8q.take n.toNat) i,a,gl ([0,0,0,2,20,8,1,31]:List Int) b.toNat⟩]) (by omega) (by omega) G (by simp [o]) (fun j v=>by
     rcases Nat.lt_or_ge j i with w|w
     ·have e:gl (c++[(⟨gl (Q8q.take n.toNat) i,a,gl ([0,0,0,2,20,8,1,31]:List Int) b.toNat⟩:Crop)]) j=gl c j:=by simp [gl,List.getD_eq_getElem?_getD,List.getElem?_append_left (show j<c.length by omega)]
      rw [e];exact d j w
     ·have:j=c.length:=by omega
      subst this;have e:gl (c++[(⟨gl (Q8q.take n.toNat) i,a,gl ([0,0,0,2,20,8,1,31]:List Int) b.toNat⟩:Crop)]) c.length=⟨gl (Q8q.take n.toNat) i,a,gl ([0,0,0,2,20,8,1,31]:List Int) b.toNat⟩:=by simp [gl,List.getD_eq_getElem?_getD]
      rw [e];obtain ⟨y,E⟩:=J b.toNat (by omega)
      refine ⟨by simp only;rw [m,o],B,by simp only;omega,y,E⟩)
    refine ⟨t',l,?_,q,s⟩;show Q1d F (h,n) _ (i:Int) t.l_ t.at_ c=_
    unfold Q1d;refine Y2 ?_ (Z3 ?_ (Q4 D (Q4 K (Z3 ?_ (Z3 ?_ (Z3 (Y5 (by omega) (by omega)) ?_))))))
    ·show decide ((i:Int)<(((Q8q.take n.toNat).length:Nat):Int))=true
     rw [g];exact decide_eq_true (by omega)
    ·show 0<=(i:Int)/\(i:Int)<(((Q8q.take n.toNat).length:Nat):Int)
     rw [g];omega
    ·simp only [List.length_cons,List.length_nil];omega
    ·simp only [LIM,List.length_cons,List.length_nil];omega
    ·exact u
 obtain ⟨t',l,u,q,s⟩:=r n.toNat F 0 h [] (by omega) (by omega) I rfl (fun j v=>absurd v (Nat.not_lt_zero j));refine ⟨t',l,?_,q,s⟩
 unfold Q2v;refine Q4 C (Z3 ?_ u)
 simp only [List.length_cons,List.length_nil];omega
structure HisT (K:Int) (l:List Rg_):Prop where
 hl:HL l
 box:∀ f ∈ l,Box 9 f.g_.t_
 crop:∀ f ∈ l,f.c_<K
theorem HisT.nil (K:Int):HisT K []:=⟨HL.nil,fun f a=>by simp at a,fun f a=>by simp at a⟩
theorem Y5z {n:Int} {l:List Rect} (hb:Box n l) {u v:Int} (h:inR l u v=true):0<=u/\u<n/\0<=v/\v<n:=by
 obtain ⟨r,a,b⟩:=(Q4T _ _ _).1 h;have:=hb r a
 rw [y6] at b;omega
theorem HisT.add {K:Int} {l:List Rg_} (h:HisT K l) {y c:Int} (hy:0<=y/\y<=100) (hc:0<=c/\c<40) (hk:c<K) {a:List Rect} (ha:Val a) (hb:Box 9 a) (ht:Z8s (Z5u l y c a)=false):HisT K (Z5u l y c a):=by
 have k:=h.hl.add hy hc ha ht;refine ⟨k,fun f b=>?_,fun f b=>?_⟩
 ·refine (k.val b).2.2.box fun u v i=>?_
  obtain ⟨b,_⟩:=Y1B.1 b;rcases b with b|rfl
  ·obtain ⟨g,d,_,rfl⟩:=Z7y.1 b
   exact Y5z (h.box g d) (Y1s g y a i).1
  ·rcases W0k.1 i with j|⟨g,d,j⟩
   ·exact Y5z hb j
   ·exact Y5z (h.box g (List.mem_of_find?_eq_some d)) j
 ·obtain ⟨b,_⟩:=Y1B.1 b
  rcases b with b|rfl
  ·obtain ⟨g,d,_,rfl⟩:=Z7y.1 b
   have:=congrArg Prod.snd (Z2U y a g)
   have e:(Z5q y a g).c_=g.c_:=this;rw [e];exact h.crop g d
  ·exact hk
theorem Y6x {l:List Rg_} (h:HL l) {y c:Int} (hy:0<=y/\y<=100) (hc:0<=c/\c<40) {a:Re_} (ha:Val a.t_):addH l y c a=if Z8s (Z5u l y c a.t_)=true then ([],1) else (Z5u l y c a.t_,0):=by
 unfold addH;rw [if_neg (by rw [(Z2V _).2 h];simp),if_neg (by omega),if_neg (by omega),if_neg (by rw [Q3f ha];simp)]
theorem HisT.addH {K:Int} {l:List Rg_} (h:HisT K l) {y c:Int} (hy:0<=y/\y<=100) (hc:0<=c/\c<40) (hk:c<K) {a:Re_} (ha:RegT 9 a):HisT K (addH l y c a).1:=by
 rw [Y6x h.hl hy hc ha.val];split
 ·exact HisT.nil K
 ·rename_i b
  exact h.add hy hc hk ha.val ha.box (by simpa using b)
def yrs (l:List Rg_) (y:Int) (p:Int->Bool):List Rect:=(l.filter fun f=>decide (f.y_=y)&&p f.c_).flatMap fun f=>f.g_.t_
theorem Y0p (l:List Rg_) (x:Rg_) (y:Int) (p:Int->Bool):yrs (l++[x]) y p=yrs l y p++(if (decide (x.y_=y)&&p x.c_)=true then x.g_.t_ else []):=by
 unfold yrs;rw [List.filter_append,List.flatMap_append]
 congr 1
 cases h:(decide (x.y_=y)&&p x.c_) with
 | true=>simp [h]
 | false=>simp [h]
theorem Y9g {l:List Rg_} (h:HL l) (y:Int) (p:Int->Bool):∀ i,i<=l.length->(yrs (l.take i) y p).length<=120*i:=by
 intro i
 induction i with
 | zero=>intro _;rw [List.take_zero];exact Nat.le_refl _
 | succ i ih=>
  intro b;rw [y4 (show i<l.length by omega),Y0p,List.length_append]
  have:=ih (by omega)
  have a:=(h.val (V7 (show i<l.length by omega))).1;split
  ·omega
  ·simp only [List.length_nil];omega
theorem Z8W {F:Nat} (hF:BIG<=F) {l:List Rg_} (h:HL l) (y:Int) {q:Int->Option Bool} (p:Int->Bool) (hq:∀ f ∈ l,q f.c_=some (p f.c_)):Q6r F l y q=some (yrs l y p):=by
 have r:=hF;unfold BIG at hF
 have n:=h.len;unfold Q6r
 refine Y9 (fun z:Int×List Rect=>∃ i:Nat,z=((i:Int),yrs (l.take i) y p)/\i<=l.length) (fun z=>l.length-z.1.toNat) (fun a z t m=>?_) ⟨0,rfl,by omega⟩ (by simp only;omega);obtain ⟨i,rfl,u⟩:=t
 simp only at m ⊢;unfold Z2L
 simp only [Int.toNat_natCast];refine Q8 (fun d=>?_) (fun d=>?_)
 ·have d:i<l.length:=by simpa using d
  refine Z7 (k:=?_);have v:=(h.val (V7 d)).1
  have s:=Y9g h y p i (by omega);have e:=Y0p (l.take i) (gl l i) y p
  rw [<-y4 d] at e;have g:∀ j,j=yrs (l.take (i+1)) y p->Q3r F i a j=some (yrs l y p):=by
   rintro j rfl;unfold Q3r
   refine Z7 (k:=?_);exact m _ ⟨i+1,rfl,d⟩ (by simp only;omega)
  have k1:∀ b:Bool,b=(decide ((gl l i).y_=y)&&p (gl l i).c_)->Q3s F l i (yrs (l.take i) y p) a b=some (yrs l y p):=by
   intro b o;unfold Q3s
   simp only [Int.toNat_natCast];refine Q8 (fun c=>?_) (fun c=>?_)
   ·refine Z3 (by simp only [LIM];omega) (g _ ?_)
    rw [e,if_pos (by rw [<-o,c])]
   ·refine g _ ?_
    rw [e,if_neg (by rw [<-o,c];simp),List.append_nil]
  refine Q8 (fun c=>?_) (fun c=>?_)
  ·have c:(gl l i).y_=y:=by simpa using c
   refine Q4 (hq _ (V7 d)) (k1 _ ?_);rw [decide_eq_true c,Bool.true_and]
  ·have c:¬ (gl l i).y_=y:=by simpa using c
   refine k1 _ ?_;rw [decide_eq_false c,Bool.false_and]
 ·have d:i=l.length:=by
   have:¬ i<l.length:=by simpa using d
   omega
  subst d;unfold Q9a
  rw [List.take_length]
theorem Y8T (l:List Rg_) (y c:Int) (a:List Rect):(Z5u l y c a).length<=l.length+1:=by
 rw [<-(Z9o l y c a).length_eq];have b:=List.length_filter_le neR (Q1W l y c a++[(⟨y,c,⟨vA l y c a⟩⟩:Rg_)])
 have d:=Y2n l y c a;simp only [List.length_append,List.length_cons,List.length_nil] at b
 omega
theorem HisT.addH_len {K:Int} {l:List Rg_} (h:HisT K l) {y c:Int} (hy:0<=y/\y<=100) (hc:0<=c/\c<40) {a:Re_} (ha:RegT 9 a):(Go.Ab.addH l y c a).1.length<=l.length+1:=by
 rw [Y6x h.hl hy hc ha.val];split
 ·simp
 ·exact Y8T l y c a.t_
theorem Z4i {F:Nat} (hF:BIG<=F) {t:Tape} (ht:TOk t) {cs:List Crop} (hcs:CropT cs) {most:Int} (m1:0<=most) (m2:most<=50):∃ t' l,Q2K F t cs 4 most=some (t',l)/\TOk t' /\ HisT (cs.length:Nat) l/\(l.length:Int)<=most:=by
 have b:=hF;unfold BIG at hF
 obtain ⟨N,m⟩:=hcs.len;obtain ⟨B,c,w,D,J,p⟩:=Z9 (F:=F) ht (n:=most+1) (by omega) (by omega)
 have h:∀ (k f:Nat) (t:Tape) (l:List Rg_),k<f->k<=60->(l.length:Int)+k<=most->TOk t->HisT (cs.length:Nat) l->∃ t' l',Z8 (fun again (z:List Rg_×Int×List Int×Int)=>Q2J F cs 4 again z.1 z.2.1 z.2.2.1 z.2.2.2) f (l,(k:Int),t.l_,t.at_)=some (t',l')/\TOk t' /\ HisT (cs.length:Nat) l' /\ (l'.length:Int)<=most:=by
  intro k
  induction k with
  | zero=>
   intro f t l u _ j ht d
   cases f with
   | zero=>omega
   | succ f=>exact ⟨⟨t.l_,t.at_⟩,l,rfl,ht,d,by omega⟩
  | succ k ih=>
   intro f t l u o j ht d
   cases f with
   | zero=>omega
   | succ f=>
    obtain ⟨K,y,x,s,L,O⟩:=Z9 (F:=F) ht (n:=5) (by omega) (by omega);obtain ⟨M,c,H,C,J,p⟩:=Z9 (F:=F) s (n:=(cs.length:Nat)) (by omega) (by omega)
    obtain ⟨r,a,E,v,q⟩:=Z0x b C (n:=9) (most:=2) (by omega) (by omega) (by omega) (by omega);have A:=d.addH_len (y:=y) (c:=c) (by omega) (by omega) q
    obtain ⟨I,m,e,g,i⟩:=ih f r (addH l y c a).1 (by omega) (by omega) (by omega) v (d.addH (by omega) (by omega) p q);refine ⟨I,m,?_,g,i⟩
    show Q2J F cs 4 _ l ((k+1:Nat):Int) t.l_ t.at_=_;unfold Q2J
    refine Y2 (by simp) ?_;refine Z7 (k:=?_)
    refine Q4 x (Q4 H (Q4 E (Q4 (Y2U b _ _ _ _) ?_)));refine Z7 (k:=?_)
    have G:((k+1:Nat):Int)-1=(k:Int):=by omega
    rw [G];exact e
 obtain ⟨t',l,e,g,i⟩:=h c.toNat F B [] (by omega) (by omega) (by simp;omega) D (HisT.nil _);refine ⟨t',l,?_,g,i⟩
 unfold Q2K;refine Z7 (k:=?_)
 refine Q4 w ?_;have:(c.toNat:Int)=c:=by omega
 rw [this] at e;exact e
def Y1g (cs:List Crop) (c m:Int):Bool:=decide (0<=c)&&(decide (c<(cs.length:Nat))&&((m != 0)&&(Q5T .i64 (gl cs c.toNat).m_ m==m)))
theorem Z5r (F:Nat) (cs:List Crop) (c m:Int):Z1z F cs c m=some (Y1g cs c m):=by
 unfold Z1z Y1g;refine Q8 (fun b=>?_) (fun b=>?_)
 ·rw [b,Bool.true_and]
  refine Q8 (fun a=>?_) (fun a=>?_)
  ·rw [a,Bool.true_and]
   have b:=of_decide_eq_true b;have a:=of_decide_eq_true a
   refine Q8 (fun d=>?_) (fun d=>?_)
   ·rw [d,Bool.true_and];exact Z3 ⟨b,a⟩ rfl
   ·rw [d];rfl
  ·rw [a];rfl
 ·rw [b];rfl
theorem Y9h {K:Int} {l:List Rg_} (h:HisT K l) (y:Int) (p:Int->Bool):∀ i,i<=l.length->(yrs (l.take i) y p).length<=45*i:=by
 intro i
 induction i with
 | zero=>intro _;rw [List.take_zero];exact Nat.le_refl _
 | succ i ih=>
  intro c;have a:=V7 (show i<l.length by omega)
  rw [y4 (show i<l.length by omega),Y0p,List.length_append];have:=ih (by omega)
  have b:=Q2R.half (h.hl.val a).2.2 (n:=9) (h.box _ a);split
  ·omega
  ·simp only [List.length_nil];omega
structure FewR (l:List Rg_):Prop where
 hl:HL l
 few:∀ y p i,i<l.length->(yrs (l.take i) y p).length<=300
end
end Go.Ab
