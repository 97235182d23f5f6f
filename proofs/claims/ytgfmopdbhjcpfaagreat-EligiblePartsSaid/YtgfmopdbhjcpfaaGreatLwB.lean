/- What the plain programs compute, up to the law itself. -/
import Derived.Test.YtgfmopdbhjcpfaaGreatLwA
set_option linter.unusedVariables false
set_option linter.unusedSimpArgs false
set_option maxRecDepth 20000
namespace Go.Ab
noncomputable section
def Z4i (n:Int):Bool:=decide (97<=n)&&decide (n<=122)
def Y2g (n:Int):Bool:=decide (48<=n)&&decide (n<=57)
def Q2H (s:ByteArray):Bool:=decide (1<=s.size)&&decide (s.size<=12)&&decide (∀ i,i<s.size->(Z4i (sAt s (i:Nat))||(!decide (i=0)&&Y2g (sAt s (i:Nat))))=true)
theorem Z1S {F:Nat} {s:ByteArray} (hs:s.size<F) (hs2:s.size<=4294967296):Q8G F s=some (Q2H s):=by
 unfold Q8G;refine Y7 (fun z:Int=>∃ i:Nat,z=i/\i<=s.size/\∀ j,j<i->(Z4i (sAt s (j:Nat))||(!decide (j=0)&&Y2g (sAt s (j:Nat))))=true) (fun z=>s.size-z.toNat) (fun c z r t=>?_) ⟨0,rfl,by omega,fun j q=>absurd q (Nat.not_lt_zero j)⟩ (by simp;omega)
 obtain ⟨i,rfl,u,p⟩:=r;unfold Z6n
 refine Q8 (fun h=>?_) (fun h=>?_)
 ·have h:i<s.size:=by simpa using h
  refine Z5 (k:=?_);have o:∀ b:Bool,b=!(Z4i (sAt s (i:Nat))||(!decide (i=0)&&Y2g (sAt s (i:Nat))))->Q4n F i c b=some (Q2H s):=by
   intro b l;unfold Q4n
   refine Q8 (fun a=>?_) (fun a=>?_)
   ·rw [a,eq_comm,Bool.not_eq_true'] at l
    congr 1
    symm
    unfold Q2H;rw [Bool.and_eq_false_iff]
    right
    rw [decide_eq_false_iff_not];intro m
    rw [m i h] at l;cases l
   ·rw [a,eq_comm,Bool.not_eq_false'] at l
    refine Z5 (k:=?_);refine t _ ⟨i+1,by omega,h,fun j q=>?_⟩ (by omega)
    rcases Nat.lt_or_ge j i with e|e
    ·exact p j e
    ·have:j=i:=by omega
     subst this;exact l
  have k2:∀ g n:Bool,g=Z4i (sAt s (i:Nat))->n=Y2g (sAt s (i:Nat))->Q6e F i g c n=some (Q2H s):=by
   intro g n a e;unfold Q6e
   rw [a,e];refine Q8 (fun d=>?_) (fun d=>?_)
   ·have d:Z4i (sAt s (i:Nat))=false:=by simpa using d
    refine Q8 (fun f=>?_) (fun f=>?_)
    ·have f:i=0:=by simpa using f
     refine o _ ?_;rw [d,f];rfl
    ·have f:i≠0:=by simpa using f
     refine o _ ?_;rw [d,decide_eq_false f];simp
   ·have d:Z4i (sAt s (i:Nat))=true:=by simpa using d
    refine o _ ?_;rw [d];rfl
  have k1:∀ g:Bool,g=Z4i (sAt s (i:Nat))->Q6f F s i c g=some (Q2H s):=by
   intro g a;unfold Q6f
   refine Z5 (k:=?_);refine Q8 (fun e=>?_) (fun e=>?_)
   ·refine Z5 (k:=?_)
    refine k2 _ _ a ?_;unfold Y2g;rw [e,Bool.true_and]
   ·refine k2 _ _ a ?_
    unfold Y2g;rw [e,Bool.false_and]
  refine Q8 (fun a=>?_) (fun a=>?_)
  ·refine Z5 (k:=?_)
   refine k1 _ ?_;unfold Z4i;rw [a,Bool.true_and]
  ·refine k1 _ ?_
   unfold Z4i;rw [a,Bool.false_and]
 ·have h:i=s.size:=by
   have:¬ i<s.size:=by simpa using h
   omega
  subst h;unfold Z1T
  refine Q8 (fun a=>?_) (fun a=>?_)
  ·unfold Q6d
   congr 1
   unfold Q2H;have a:1<=s.size:=by have:=of_decide_eq_true a;omega
   rw [decide_eq_true a,decide_eq_true p,Bool.true_and,Bool.and_true,Bool.eq_iff_iff,decide_eq_true_eq,decide_eq_true_eq];omega
  ·unfold Q6d
   congr 1
   unfold Q2H;have a:¬ 1<=s.size:=by have:=of_decide_eq_false a;omega
   rw [decide_eq_false a];rfl
def Q8t:List ByteArray:=[(ByteArray.mk #[98,97,114,108,101,121]),(ByteArray.mk #[99,108,111,118,101,114]),(ByteArray.mk #[103,114,97,115,115]),(ByteArray.mk #[109,97,105,122,101]),(ByteArray.mk #[111,97,116,115]),(ByteArray.mk #[114,121,101]),(ByteArray.mk #[118,101,116,99,104]),(ByteArray.mk #[119,104,101,97,116])]
theorem Y1D:∀ i,i<8->Q2H (gl Q8t i)=true/\(gl Q8t i).size<=12:=by decide +kernel
theorem Y7u:∀ i,i<8->0<i->(sLt (gl Q8t i) (gl Q8t (i-1))||sEq (gl Q8t i) (gl Q8t (i-1)))=false:=by decide +kernel
structure CropT (l:List Crop):Prop where
 len:3<=l.length/\l.length<=8
 one:∀ i,i<l.length->(gl l i).n_=gl Q8t i/\0<=(gl l i).f_/\(gl l i).f_<=2/\0<=(gl l i).m_/\(gl l i).m_<=31
theorem Y2i {F:Nat} (hF:BIG<=F) {l:List Crop} (h:CropT l):Q6Z F l=some 0:=by
 have j:=hF;unfold BIG at hF
 obtain ⟨s,p⟩:=h.len;unfold Q6Z
 refine Q9 (decide_eq_false (by omega)) ?_;refine Y5z l.length (fun a i e m=>?_) (fun a=>?_) (by omega)
 ·obtain ⟨b,q,n,t,r⟩:=h.one i e
  unfold Q4D;simp only [Int.toNat_natCast]
  refine Z8 (by simpa using e) ?_;refine Z5 (k:=?_)
  obtain ⟨f,o⟩:=Y1D i (by omega);refine Q4 (Z1S (by rw [b];omega) (by rw [b];omega)) ?_
  rw [b,f];refine Q9 rfl (Q9 (decide_eq_false (by omega)) ?_)
  unfold Q2Y;simp only [Int.toNat_natCast]
  refine Q9 (decide_eq_false (by omega)) (Q9 (decide_eq_false (by omega)) ?_);unfold Q2X
  simp only [Int.toNat_natCast];have d:Q2W F i a false=some 0:=by
   unfold Q2W;refine Q9 rfl ?_
   refine Z5 (k:=?_);exact m
  refine Q9 (decide_eq_false (by omega)) (Q8 (fun c=>?_) (fun c=>d));have c:0<i:=by simpa using c
  refine Z5 (k:=?_);refine Z5 (k:=?_)
  have g:((i:Int)-1).toNat=i-1:=by omega
  rw [g,b,(h.one (i-1) (by omega)).1,Y7u i (by omega) c];exact d
 ·unfold Q4D
  exact Q9 (by simp) rfl
theorem Z7k {F:Nat} (hF:BIG<=F) {t:Tape} (ht:TOk t):∃ t' l,Q2u F t=some (t',l)/\TOk t' /\ CropT l:=by
 unfold BIG at hF;obtain ⟨h,n,H,J,Q,P⟩:=V3 (F:=F) ht (lo:=3) (hi:=8) (by omega) (by omega) (by omega)
 have g:(Q8t.take n.toNat).length=n.toNat:=by rw [List.length_take];simp [Q8t];omega
 have u:∀ (k f i:Nat) (t:Tape) (c:List Crop),i+k=n.toNat->k<f->TOk t->c.length=i->(∀ j,j<i->(gl c j).n_=gl Q8t j/\0<=(gl c j).f_/\(gl c j).f_<=2/\0<=(gl c j).m_/\(gl c j).m_<=31) ->
   ∃ t' l,Z6 (fun again (z:Int×(List Int)×Int×(List Crop))=>Q1a F (h,n) again z.1 z.2.1 z.2.2.1 z.2.2.2) f ((i:Int),t.l_,t.at_,c)=some (t',l)/\TOk t' /\ CropT l:=by
  intro k
  induction k with
  | zero=>
   intro f i t c o y ht p d
   cases f with
   | zero=>omega
   | succ f=>
    refine ⟨⟨t.l_,t.at_⟩,c,?_,ht,⟨by omega,fun j m=>d j (by omega)⟩⟩;show Q1a F (h,n) _ (i:Int) t.l_ t.at_ c=_
    unfold Q1a;refine Q9 ?_ rfl
    show decide ((i:Int)<(((Q8t.take n.toNat).length:Nat):Int))=false;rw [g];exact decide_eq_false (by omega)
  | succ k ih=>
   intro f i t c o y ht p d
   cases f with
   | zero=>omega
   | succ f=>
    obtain ⟨M,a,G,x,A,N⟩:=Z7 (F:=F) ht (n:=3) (by omega) (by omega);obtain ⟨B,b,E,D,O,L⟩:=Z7 (F:=F) x (n:=8) (by omega) (by omega)
    have C:∀ j,j<8->0<=gl ([0,0,0,2,20,8,1,31]:List Int) j/\gl ([0,0,0,2,20,8,1,31]:List Int) j<=31:=by decide
    have q:gl (Q8t.take n.toNat) i=gl Q8t i:=by simp [gl,List.getD_eq_getElem?_getD,show i<n.toNat from by omega]
    obtain ⟨t',l,s,r,v⟩:=ih f (i+1) B (c++[⟨gl (Q8t.take n.toNat) i,a,gl ([0,0,0,2,20,8,1,31]:List Int) b.toNat⟩]) (by omega) (by omega) D (by simp [p]) (fun j m=>by
     rcases Nat.lt_or_ge j i with w|w
     ·have e:gl (c++[(⟨gl (Q8t.take n.toNat) i,a,gl ([0,0,0,2,20,8,1,31]:List Int) b.toNat⟩:Crop)]) j=gl c j:=by simp [gl,List.getD_eq_getElem?_getD,List.getElem?_append_left (show j<c.length by omega)]
      rw [e];exact d j w
     ·have:j=c.length:=by omega
      subst this;have e:gl (c++[(⟨gl (Q8t.take n.toNat) i,a,gl ([0,0,0,2,20,8,1,31]:List Int) b.toNat⟩:Crop)]) c.length=⟨gl (Q8t.take n.toNat) i,a,gl ([0,0,0,2,20,8,1,31]:List Int) b.toNat⟩:=by simp [gl,List.getD_eq_getElem?_getD]
      rw [e];obtain ⟨I,K⟩:=C b.toNat (by omega)
      refine ⟨by simp only;rw [q,p],A,by simp only;omega,I,K⟩)
    refine ⟨t',l,?_,r,v⟩;show Q1a F (h,n) _ (i:Int) t.l_ t.at_ c=_
    unfold Q1a;refine Z8 ?_ (Z3 ?_ (Q4 G (Q4 E (Z3 ?_ (Z3 ?_ (Z3 (Y3 (by omega) (by omega)) ?_))))))
    ·show decide ((i:Int)<(((Q8t.take n.toNat).length:Nat):Int))=true
     rw [g];exact decide_eq_true (by omega)
    ·show 0<=(i:Int)/\(i:Int)<(((Q8t.take n.toNat).length:Nat):Int)
     rw [g];omega
    ·simp only [List.length_cons,List.length_nil];omega
    ·simp only [LIM,List.length_cons,List.length_nil];omega
    ·exact s
 obtain ⟨t',l,s,r,v⟩:=u n.toNat F 0 h [] (by omega) (by omega) J rfl (fun j m=>absurd m (Nat.not_lt_zero j));refine ⟨t',l,?_,r,v⟩
 unfold Q2u;refine Q4 H (Z3 ?_ s)
 simp only [List.length_cons,List.length_nil];omega
structure HisT (K:Int) (l:List Rg_):Prop where
 hl:HL l
 box:∀ f ∈ l,Box 9 f.g_.t_
 crop:∀ f ∈ l,f.c_<K
theorem HisT.nil (K:Int):HisT K []:=⟨HL.nil,fun f a=>by simp at a,fun f a=>by simp at a⟩
theorem Y5L {n:Int} {l:List Rect} (hb:Box n l) {u v:Int} (h:inR l u v=true):0<=u/\u<n/\0<=v/\v<n:=by
 obtain ⟨r,b,a⟩:=(Q5P _ _ _).1 h;have:=hb r b
 rw [y5] at a;omega
theorem HisT.add {K:Int} {l:List Rg_} (h:HisT K l) {y c:Int} (hy:0<=y/\y<=100) (hc:0<=c/\c<40) (hk:c<K) {a:List Rect} (ha:Val a) (hb:Box 9 a) (ht:Z8z (Z5C l y c a)=false):HisT K (Z5C l y c a):=by
 have k:=h.hl.add hy hc ha ht;refine ⟨k,fun f b=>?_,fun f b=>?_⟩
 ·refine (k.val b).2.2.box fun u v d=>?_
  obtain ⟨b,_⟩:=Y1L.1 b;rcases b with b|rfl
  ·obtain ⟨g,i,_,rfl⟩:=Z7I.1 b
   exact Y5L (h.box g i) (Y1C g y a d).1
  ·rcases W0B.1 d with j|⟨g,i,j⟩
   ·exact Y5L hb j
   ·exact Y5L (h.box g (List.mem_of_find?_eq_some i)) j
 ·obtain ⟨b,_⟩:=Y1L.1 b
  rcases b with b|rfl
  ·obtain ⟨g,i,_,rfl⟩:=Z7I.1 b
   have:=congrArg Prod.snd (Z3a y a g)
   have e:(Z5y y a g).c_=g.c_:=this;rw [e];exact h.crop g i
  ·exact hk
theorem Y6O {l:List Rg_} (h:HL l) {y c:Int} (hy:0<=y/\y<=100) (hc:0<=c/\c<40) {a:Re_} (ha:Val a.t_):addH l y c a=if Z8z (Z5C l y c a.t_)=true then ([],1) else (Z5C l y c a.t_,0):=by
 unfold addH;rw [if_neg (by rw [(Z3b _).2 h];simp),if_neg (by omega),if_neg (by omega),if_neg (by rw [Q1P ha];simp)]
theorem HisT.addH {K:Int} {l:List Rg_} (h:HisT K l) {y c:Int} (hy:0<=y/\y<=100) (hc:0<=c/\c<40) (hk:c<K) {a:Re_} (ha:RegT 9 a):HisT K (addH l y c a).1:=by
 rw [Y6O h.hl hy hc ha.val];split
 ·exact HisT.nil K
 ·rename_i b
  exact h.add hy hc hk ha.val ha.box (by simpa using b)
def yrs (l:List Rg_) (y:Int) (p:Int->Bool):List Rect:=(l.filter fun f=>decide (f.y_=y)&&p f.c_).flatMap fun f=>f.g_.t_
theorem Y0A (l:List Rg_) (x:Rg_) (y:Int) (p:Int->Bool):yrs (l++[x]) y p=yrs l y p++(if (decide (x.y_=y)&&p x.c_)=true then x.g_.t_ else []):=by
 unfold yrs;rw [List.filter_append,List.flatMap_append]
 congr 1
 cases h:(decide (x.y_=y)&&p x.c_) with
 | true=>simp [h]
 | false=>simp [h]
theorem Y9y {l:List Rg_} (h:HL l) (y:Int) (p:Int->Bool):∀ i,i<=l.length->(yrs (l.take i) y p).length<=120*i:=by
 intro i
 induction i with
 | zero=>intro _;rw [List.take_zero];exact Nat.le_refl _
 | succ i ih=>
  intro b;rw [y3 (show i<l.length by omega),Y0A,List.length_append]
  have:=ih (by omega)
  have a:=(h.val (V6 (show i<l.length by omega))).1;split
  ·omega
  ·simp only [List.length_nil];omega
theorem Z9d {F:Nat} (hF:BIG<=F) {l:List Rg_} (h:HL l) (y:Int) {q:Int->Option Bool} (p:Int->Bool) (hq:∀ f ∈ l,q f.c_=some (p f.c_)):Q6u F l y q=some (yrs l y p):=by
 have s:=hF;unfold BIG at hF
 have n:=h.len;unfold Q6u
 refine Y7 (fun z:Int×List Rect=>∃ i:Nat,z=((i:Int),yrs (l.take i) y p)/\i<=l.length) (fun z=>l.length-z.1.toNat) (fun a z r o=>?_) ⟨0,rfl,by omega⟩ (by simp only;omega);obtain ⟨i,rfl,v⟩:=r
 simp only at o ⊢;unfold Z2R
 simp only [Int.toNat_natCast];refine Q8 (fun d=>?_) (fun d=>?_)
 ·have d:i<l.length:=by simpa using d
  refine Z5 (k:=?_);have u:=(h.val (V6 d)).1
  have t:=Y9y h y p i (by omega);have e:=Y0A (l.take i) (gl l i) y p
  rw [<-y3 d] at e;have g:∀ j,j=yrs (l.take (i+1)) y p->Q3q F i a j=some (yrs l y p):=by
   rintro j rfl;unfold Q3q
   refine Z5 (k:=?_);exact o _ ⟨i+1,rfl,d⟩ (by simp only;omega)
  have k1:∀ b:Bool,b=(decide ((gl l i).y_=y)&&p (gl l i).c_)->Q3r F l i (yrs (l.take i) y p) a b=some (yrs l y p):=by
   intro b m;unfold Q3r
   simp only [Int.toNat_natCast];refine Q8 (fun c=>?_) (fun c=>?_)
   ·refine Z3 (by simp only [LIM];omega) (g _ ?_)
    rw [e,if_pos (by rw [<-m,c])]
   ·refine g _ ?_
    rw [e,if_neg (by rw [<-m,c];simp),List.append_nil]
  refine Q8 (fun c=>?_) (fun c=>?_)
  ·have c:(gl l i).y_=y:=by simpa using c
   refine Q4 (hq _ (V6 d)) (k1 _ ?_);rw [decide_eq_true c,Bool.true_and]
  ·have c:¬ (gl l i).y_=y:=by simpa using c
   refine k1 _ ?_;rw [decide_eq_false c,Bool.false_and]
 ·have d:i=l.length:=by
   have:¬ i<l.length:=by simpa using d
   omega
  subst d;unfold Q9f
  rw [List.take_length]
theorem Y9k (l:List Rg_) (y c:Int) (a:List Rect):(Z5C l y c a).length<=l.length+1:=by
 rw [<-(Z9w l y c a).length_eq];have b:=List.length_filter_le neR (Q1W l y c a++[(⟨y,c,⟨vA l y c a⟩⟩:Rg_)])
 have d:=Y2z l y c a;simp only [List.length_append,List.length_cons,List.length_nil] at b
 omega
theorem HisT.addH_len {K:Int} {l:List Rg_} (h:HisT K l) {y c:Int} (hy:0<=y/\y<=100) (hc:0<=c/\c<40) {a:Re_} (ha:RegT 9 a):(Go.Ab.addH l y c a).1.length<=l.length+1:=by
 rw [Y6O h.hl hy hc ha.val];split
 ·simp
 ·exact Y9k l y c a.t_
theorem Z4n {F:Nat} (hF:BIG<=F) {t:Tape} (ht:TOk t) {cs:List Crop} (hcs:CropT cs) {most:Int} (m1:0<=most) (m2:most<=50):∃ t' l,Q2J F t cs 4 most=some (t',l)/\TOk t' /\ HisT (cs.length:Nat) l/\(l.length:Int)<=most:=by
 have b:=hF;unfold BIG at hF
 obtain ⟨M,o⟩:=hcs.len;obtain ⟨G,c,C,J,u,q⟩:=Z7 (F:=F) ht (n:=most+1) (by omega) (by omega)
 have h:∀ (k f:Nat) (t:Tape) (l:List Rg_),k<f->k<=60->(l.length:Int)+k<=most->TOk t->HisT (cs.length:Nat) l->∃ t' l',Z6 (fun again (z:List Rg_×Int×List Int×Int)=>Q2I F cs 4 again z.1 z.2.1 z.2.2.1 z.2.2.2) f (l,(k:Int),t.l_,t.at_)=some (t',l')/\TOk t' /\ HisT (cs.length:Nat) l' /\ (l'.length:Int)<=most:=by
  intro k
  induction k with
  | zero=>
   intro f t l s _ i ht d
   cases f with
   | zero=>omega
   | succ f=>exact ⟨⟨t.l_,t.at_⟩,l,rfl,ht,d,by omega⟩
  | succ k ih=>
   intro f t l s p i ht d
   cases f with
   | zero=>omega
   | succ f=>
    obtain ⟨N,y,B,r,O,L⟩:=Z7 (F:=F) ht (n:=5) (by omega) (by omega);obtain ⟨K,c,w,v,u,q⟩:=Z7 (F:=F) r (n:=(cs.length:Nat)) (by omega) (by omega)
    obtain ⟨D,a,x,I,m⟩:=Z0B b v (n:=9) (most:=2) (by omega) (by omega) (by omega) (by omega);have A:=d.addH_len (y:=y) (c:=c) (by omega) (by omega) m
    obtain ⟨H,o,e,g,j⟩:=ih f D (addH l y c a).1 (by omega) (by omega) (by omega) I (d.addH (by omega) (by omega) q m);refine ⟨H,o,?_,g,j⟩
    show Q2I F cs 4 _ l ((k+1:Nat):Int) t.l_ t.at_=_;unfold Q2I
    refine Z8 (by simp) ?_;refine Z5 (k:=?_)
    refine Q4 B (Q4 w (Q4 x (Q4 (Y3g b _ _ _ _) ?_)));refine Z5 (k:=?_)
    have E:((k+1:Nat):Int)-1=(k:Int):=by omega
    rw [E];exact e
 obtain ⟨t',l,e,g,j⟩:=h c.toNat F G [] (by omega) (by omega) (by simp;omega) J (HisT.nil _);refine ⟨t',l,?_,g,j⟩
 unfold Q2J;refine Z5 (k:=?_)
 refine Q4 C ?_;have:(c.toNat:Int)=c:=by omega
 rw [this] at e;exact e
def Y1q (cs:List Crop) (c m:Int):Bool:=decide (0<=c)&&(decide (c<(cs.length:Nat))&&((m != 0)&&(Q5W .i64 (gl cs c.toNat).m_ m==m)))
theorem Z5z (F:Nat) (cs:List Crop) (c m:Int):Z1B F cs c m=some (Y1q cs c m):=by
 unfold Z1B Y1q;refine Q8 (fun b=>?_) (fun b=>?_)
 ·rw [b,Bool.true_and]
  refine Q8 (fun a=>?_) (fun a=>?_)
  ·rw [a,Bool.true_and]
   have b:=of_decide_eq_true b;have a:=of_decide_eq_true a
   refine Q8 (fun d=>?_) (fun d=>?_)
   ·rw [d,Bool.true_and];exact Z3 ⟨b,a⟩ rfl
   ·rw [d];rfl
  ·rw [a];rfl
 ·rw [b];rfl
theorem Y9z {K:Int} {l:List Rg_} (h:HisT K l) (y:Int) (p:Int->Bool):∀ i,i<=l.length->(yrs (l.take i) y p).length<=45*i:=by
 intro i
 induction i with
 | zero=>intro _;rw [List.take_zero];exact Nat.le_refl _
 | succ i ih=>
  intro c;have a:=V6 (show i<l.length by omega)
  rw [y3 (show i<l.length by omega),Y0A,List.length_append];have:=ih (by omega)
  have b:=Q2Q.half (h.hl.val a).2.2 (n:=9) (h.box _ a);split
  ·omega
  ·simp only [List.length_nil];omega
structure FewR (l:List Rg_):Prop where
 hl:HL l
 few:∀ y p i,i<l.length->(yrs (l.take i) y p).length<=300
end
end Go.Ab
