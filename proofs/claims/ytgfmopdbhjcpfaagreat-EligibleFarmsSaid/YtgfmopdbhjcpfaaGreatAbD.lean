/- Abstract states over the model. -/
import Derived.Test.YtgfmopdbhjcpfaaGreatLwB
import Derived.Test.YtgfmopdbhjcpfaaGreatLwA
set_option linter.unusedVariables false
set_option linter.unusedSimpArgs false
section
namespace Go.Ab
set_option maxRecDepth 20000
noncomputable section
theorem Q2l.half2 {l:List Rect} (hc:Q2l l) {x0:Int} {w h:Nat} (hb:∀ r ∈ l,x0<=r.L_/\r.R_<=x0+w/\0<=r.w_/\r.H_<=h):l.length<=h*((w+1) / 2):=by
 obtain ⟨b,g,rfl⟩:=hc;have f:∀ c ∈ b,∃ s,s ∈ c.v:=fun c hc=>List.exists_mem_of_ne_nil _ (g.ne c hc)
 have d:∀ c ∈ b,∀ s ∈ c.v,(⟨s.L_,c.lo,s.R_,c.hi⟩:Rect) ∈ flat b:=fun c hc s e=>List.mem_flatMap.2 ⟨c,hc,List.mem_map.2 ⟨s,e,rfl⟩⟩
 have m:(b.length:Int)<=h-0:=g.runs.len (by omega) fun c hc=>by
  obtain ⟨s,e⟩:=f c hc;have:=hb _ (d c hc s e)
  simp only at this;omega
 have i:∀ c ∈ b,c.v.length<=(w+1) / 2:=fun c hc=>by
  have:=(g.sp c hc).half (n:=x0+w) (a:=x0) (by omega) fun s e=>by
   have:=hb _ (d c hc s e)
   simp only at this ⊢;omega
  omega
 have k:=Y4Y i;have j:b.length*((w+1) / 2)<=h*((w+1) / 2):=Nat.mul_le_mul_right _ (by omega)
 omega
def PlB (d:Int) (S:Int->Int->Bool):Prop:=∀ u v,S u v=true->d<=u/\u<d+9/\0<=v/\v<9
theorem W2s {S:Int->Int->Bool} (hf:Fin S) {d:Int} (h0:0<=d/\d<=100) (hb:PlB d S):Val (cn S)/\∀ r ∈ cn S,d<=r.L_/\r.R_<=d+9/\0<=r.w_/\r.H_<=9:=by
 have e:=Q2l.cn hf;have c:∀ r ∈ cn S,d<=r.L_/\r.R_<=d+9/\0<=r.w_/\r.H_<=9:=by
  intro r c;obtain ⟨g,f⟩:=e.pos c
  have a:=hb r.L_ r.w_ (by rw [<-Q1w hf];exact Z1p c ((J2 _ _ _).2 (by omega)));have b:=hb (r.R_-1) (r.H_-1) (by rw [<-Q1w hf];exact Z1p c ((J2 _ _ _).2 (by omega)))
  omega
 have i:=e.half2 (x0:=d) (w:=9) (h:=9) fun r h=>by have:=c r h;omega
 refine ⟨⟨by omega,fun r h=>?_,e⟩,c⟩;obtain ⟨g,f⟩:=e.pos h
 have:=c r h
 rw [Q0f];omega
theorem Z7p (F:Nat) (t:Tape) (n m:Int):Q9g F t n m=Q2b F t n m:=rfl
def shR (d:Int) (r:Rect):Rect:=⟨r.L_+d,r.w_,r.R_+d,r.H_⟩
theorem Y9C (d:Int) (l:List Rect) (u v:Int):inR (l.map (shR d)) u v=inR l (u-d) v:=by
 unfold inR;rw [List.any_map]
 congr 1
 funext r
 show (shR d r).has u v=r.has (u-d) v;rw [Bool.eq_iff_iff,J2,J2]
 show r.L_+d<=u/\u<r.R_+d/\r.w_<=v/\v<r.H_↔r.L_<=u-d/\u-d<r.R_/\r.w_<=v/\v<r.H_;omega
theorem W0h {α:Type} [Emb α] (l:List α) (i j:Nat) (x:α) (hj:j<l.length):gl (l.set i x) j=if i=j then x else gl l j:=by
 unfold gl;rw [List.getD_eq_getElem?_getD,List.getElem?_set]
 by_cases h:i=j
 ·subst h;rw [if_pos rfl,if_pos rfl,if_pos hj];rfl
 ·rw [if_neg h,if_neg h, <-List.getD_eq_getElem?_getD]
theorem Z5i {α:Type} [Emb α] (l:List α) (i:Nat) (h:i<l.length):gl l i=l[i]:=by
 unfold gl;rw [List.getD_eq_getElem?_getD,List.getElem?_eq_getElem h];rfl
theorem W2Q {α:Type} [Emb α] {l m:List α} (h:l.length=m.length) (hg:∀ i,i<l.length->gl l i=gl m i):l=m:=by
 apply List.ext_getElem h;intro i a b
 have:=hg i a
 rwa [Z5i l i a,Z5i m i b] at this
theorem W1L {α β:Type} [Emb α] [Emb β] (f:α->β) (l:List α) (i:Nat) (h:i<l.length):gl (l.map f) i=f (gl l i):=by
 rw [Z5i _ i (by simpa using h),Z5i l i h];simp
def W2c (q r:Rect):Rect:=⟨max q.L_ r.L_,max q.w_ r.w_,min q.R_ r.R_,min q.H_ r.H_⟩
theorem W2b (q:Rect) (l:List Rect) (u v:Int):inR (l.map (W2c q)) u v=(inR l u v&&inR [q] u v):=by
 rw [Bool.eq_iff_iff,Bool.and_eq_true,Q2I,Q2I,Q2I];constructor
 ·rintro ⟨r,a,h⟩
  obtain ⟨s,b,rfl⟩:=List.mem_map.1 a;rw [J2] at h
  simp only [W2c] at h;exact ⟨⟨s,b,(J2 _ _ _).2 (by omega)⟩,q,by simp,(J2 _ _ _).2 (by omega)⟩
 ·rintro ⟨⟨s,b,d⟩,r,a,c⟩
  rw [List.mem_singleton] at a;subst a
  rw [J2] at d c;refine ⟨_,List.mem_map.2 ⟨s,b,rfl⟩,(J2 _ _ _).2 ?_⟩
  simp only [W2c];omega
theorem W0j {α:Type} [Emb α] (l m:List α) {i:Nat} (h:i<l.length):gl (l++m) i=gl l i:=by
 unfold gl;rw [List.getD_eq_getElem?_getD,List.getElem?_append_left h, <-List.getD_eq_getElem?_getD]
theorem W0i {α:Type} [Emb α] (l:List α) (x:α):gl (l++[x]) l.length=x:=by
 unfold gl;rw [List.getD_eq_getElem?_getD,List.getElem?_append_right (Nat.le_refl _)];simp
structure ParT (rs:List Re_):Prop where
 len:1<=rs.length/\rs.length<=3
 one:∀ i,i<rs.length->∃ w h:Int,2<=w/\w<=9/\2<=h/\h<=9/\gl rs i=⟨[⟨10*i,0,10*i+w,h⟩]⟩
theorem ParT.pl {rs:List Re_} (h:ParT rs) {i:Nat} (hi:i<rs.length):PlB (10*i) (inR (gl rs i).t_):=by
 intro u v a;obtain ⟨w,k,j,f,e,g,d⟩:=h.one i hi
 rw [d,Q2I] at a;obtain ⟨r,b,c⟩:=a
 rw [List.mem_singleton] at b;subst b
 rw [J2] at c;simp only at c
 omega
theorem ParT.val {rs:List Re_} (h:ParT rs) {i:Nat} (hi:i<rs.length):Val (gl rs i).t_:=by
 obtain ⟨w,k,e,d,b,c,a⟩:=h.one i hi;have:=h.len
 rw [a];exact val_one ((Q0f _).2 (by simp only;omega))
structure LinO (K:Int) (rs:List Re_) (x:Line):Prop where
 crop:0<=x.c_/\x.c_<K
 par:1<=x.p_/\x.p_<=rs.length
 sch:1<=x.s_/\x.s_<=15
 val:Val x.g_.t_
 ne:x.g_.t_.length≠0
 sub:∀ u v,inR x.g_.t_ u v=true->inR (gl rs (x.p_-1).toNat).t_ u v=true
def W2A (a b:Line):Prop:=∀ u v,inR a.g_.t_ u v=true->inR b.g_.t_ u v=true->False
structure LinT (K:Int) (rs:List Re_) (l:List Line):Prop where
 one:∀ x ∈ l,LinO K rs x
 apart:l.Pairwise W2A
 two:∀ i,i<l.length->∃ R:List Rect,R.length<=2/\∀ u v,inR (gl l i).g_.t_ u v=(inR R u v && !(l.take i).any fun x=>inR x.g_.t_ u v)
theorem LinO.pl {K:Int} {rs:List Re_} (hp:ParT rs) {x:Line} (h:LinO K rs x):PlB (10*(x.p_-1)) (inR x.g_.t_):=by
 intro u v a;have:=h.par
 have b:=hp.pl (i:=(x.p_-1).toNat) (by omega) u v (h.sub u v a);omega
theorem LinT.nil (K:Int) (rs:List Re_):LinT K rs []:=⟨fun x b=>by simp at b,.nil,fun i a=>by simp at a⟩
theorem Z8u {F:Nat} (hF:BIG<=F) {t:Tape} (ht:TOk t) {cs:List Crop} (hcs:1<=cs.length/\cs.length<=100) {most:Int} (m1:0<=most) (m2:most<=10) :
  ∃ t' l ns rs,Q4g F t cs most=some (t',l,ns,rs)/\TOk t' /\ ParT rs/\LinT (cs.length:Nat) rs l/\(l.length:Int)<=most:=by
 have L:=hF;unfold BIG at hF
 obtain ⟨t1,c,e1,o1,c1,c2⟩:=V7 (F:=F) ht (lo:=1) (hi:=3) (by omega) (by omega) (by omega);have Y:∀ (rs:List Re_) (ns:List Int) (tl:List Int) (T:Int),ParT rs->ns.length=rs.length->TOk ⟨tl,T⟩->∃ t' l,Q3V F cs most tl T ns rs=some (t',l,ns,rs)/\TOk t' /\ LinT (cs.length:Nat) rs l/\(l.length:Int)<=most:=by
  intro rs ns tl T I D hT;have d7:=I.len
  obtain ⟨H,k,e2,o2,k1,k2⟩:=Z6 (F:=F) hT (n:=most+1) (by omega) (by omega);have Q:∀ (k f:Nat) (t:Tape) (l:List Line),k<f->(l.length:Int)+k<=most->TOk t->LinT (cs.length:Nat) rs l ->
    ∃ t' l',Z3 (fun d (z:Int×List Int×Int×List Line)=>Q0V F cs ns rs d z.1 z.2.1 z.2.2.1 z.2.2.2) f ((k:Int),t.l_,t.at_,l)=some (t',l',ns,rs)/\TOk t' /\ LinT (cs.length:Nat) rs l' /\ (l'.length:Int)<=most:=by
   intro k
   induction k with
   | zero=>
    intro f t l hf c4 ht P
    cases f with
    | zero=>omega
    | succ f=>exact ⟨⟨t.l_,t.at_⟩,l,rfl,ht,P,by omega⟩
   | succ k ih=>
    intro f t l hf c4 ht P
    cases f with
    | zero=>omega
    | succ f=>
     obtain ⟨T,p,ea,oa,p1,p2⟩:=Z6 (F:=F) ht (n:=(ns.length:Nat)) (by omega) (by omega);obtain ⟨tb,a,R0,eb,ob,ha,d6,e8,c7⟩:=Z8x L oa (n:=9) (most:=2) (by omega) (by omega) (by omega) (by omega)
     obtain ⟨tc,c,ec,oc,c1,c2⟩:=Z6 (F:=F) ob (n:=(cs.length:Nat)) (by omega) (by omega);obtain ⟨td,s,ed,od,s1,s2⟩:=Z6 (F:=F) oc (n:=15) (by omega) (by omega)
     have G:p.toNat<rs.length:=by omega
     have e6:=ha.val.1
     let S:Nat->Int->Int->Bool:=fun n u v=>(inR (a.t_.map (shR (10*p))) u v&&inR (gl rs p.toNat).t_ u v) && !((l.take n).any fun x=>inR x.g_.t_ u v)
     have b5:∀ n,PlB (10*p) (S n):=fun n u v h=>by
      have h1:inR (gl rs p.toNat).t_ u v=true:=by
       simp only [S,Bool.and_eq_true] at h;exact h.1.2
      have:=I.pl G u v h1
      omega
     have a5:S 0=fun u v=>Q0u (inR (a.t_.map (shR (10*p))) u v) (inR (gl rs p.toNat).t_ u v) 2:=by
      funext u v
      simp [S,Q0u]
     have a4:∀ r ∈ a.t_,0<=r.L_/\r.L_<r.R_/\r.R_<=9/\0<=r.w_/\r.w_<r.H_/\r.H_<=9:=ha.box;have c8:∀ r ∈ a.t_.map (shR (10*p)),Q2F r=true:=fun r hr=>by
      obtain ⟨q,hq,rfl⟩:=List.mem_map.1 hr;have:=a4 q hq
      rw [Q0f];simp only [shR]
      omega
     have g:∀ n,n<=l.length->Fin (S n):=by
      intro n
      induction n with
      | zero=>intro _;rw [a5];exact Q6z _ _ 2
      | succ n ihn=>
       intro J;have h0:=ihn (by omega)
       have e:S (n+1)=fun u v=>Q0u (inR (cn (S n)) u v) (inR (gl l n).g_.t_ u v) 3:=by
        funext u v
        rw [Q1w h0];simp only [S,Q0u]
        rw [J8 (by omega),List.any_append];simp [Bool.and_assoc]
       rw [e];exact Q6z _ _ 3
     have X:∀ n,n<l.length->(cn fun u v=>Q0u (inR (cn (S n)) u v) (inR (gl l n).g_.t_ u v) 3)=cn (S (n+1)):=fun n J=>by
      congr 1
      funext u v
      rw [Q1w (g n (by omega))];simp only [S,Q0u]
      rw [J8 J,List.any_append];simp [Bool.and_assoc]
     have B:∀ n,n<=l.length->Val (cn (S n)):=fun n J=>(W2s (g n J) (by omega) (b5 n)).1
     have a2:∃ t' l',Q3U F cs rs ((k+1:Nat):Int) l (T,p) (tb,a) (Z3 (fun d (z:Int×List Int×Int×List Line)=>Q0V F cs ns rs d z.1 z.2.1 z.2.2.1 z.2.2.2) f) (a.t_.map (shR (10*p)))=some (t',l',ns,rs)/\TOk t' /\ LinT (cs.length:Nat) rs l' /\ (l'.length:Int)<=most:=by
      have b2:∃ t' l',Q1Z F cs ((k+1:Nat):Int) l (T,p) (tb,a) (Z3 (fun d (z:Int×List Int×Int×List Line)=>Q0V F cs ns rs d z.1 z.2.1 z.2.2.1 z.2.2.2) f) (cn (S l.length))=some (t',l',ns,rs)/\TOk t' /\ LinT (cs.length:Nat) rs l' /\ (l'.length:Int)<=most:=by
       have ek:((k+1:Nat):Int)-1=(k:Int):=by omega
       by_cases hz:(cn (S l.length)).length=0
       ·obtain ⟨H,U,m,o,A⟩:=ih f tb l (by omega) (by omega) ob P
        refine ⟨H,U,?_,o,A⟩;unfold Q1Z
        refine Q8 (by simp [hz]) ?_;unfold Q1Y
        simp only
        rw [ek];exact Q7 (Z7 (by omega) (by omega)) m
       ·have hx:LinO (cs.length:Nat) rs ⟨p+1,⟨cn (S l.length)⟩,c,1+s⟩:=by
         refine ⟨⟨c1,c2⟩,by simp only;omega,by simp only;omega,B _ (Nat.le_refl _),hz,fun u v C=>?_⟩;have C:inR (cn (S l.length)) u v=true:=C
         rw [Q1w (g _ (Nat.le_refl _))] at C;simp only [S,Bool.and_eq_true] at C
         have e5:(p+1-1:Int)=p:=by omega
         simp only [e5];exact C.1.2
        have c6:LinT (cs.length:Nat) rs (l++[⟨p+1,⟨cn (S l.length)⟩,c,1+s⟩]):=by
         refine ⟨fun x h=>?_,?_,fun i hi=>?_⟩
         ·rcases List.mem_append.1 h with h|h
          ·exact P.one x h
          ·rw [List.mem_singleton] at h;subst h;exact hx
         ·rw [List.pairwise_append]
          refine ⟨P.apart,List.pairwise_singleton _ _,fun x h y hy u v h1 h2=>?_⟩;rw [List.mem_singleton] at hy
          subst hy;have h2:inR (cn (S l.length)) u v=true:=h2
          rw [Q1w (g _ (Nat.le_refl _))] at h2;simp only [S,Bool.and_eq_true,Bool.not_eq_true',List.take_length] at h2
          have:=List.any_eq_false.1 h2.2 x h
          exact this h1
         ·rcases Nat.lt_or_ge i l.length with N|N
          ·obtain ⟨R,r1,r2⟩:=P.two i N
           refine ⟨R,r1,fun u v=>?_⟩;rw [W0j _ _ N,List.take_append_of_le_length (by omega)]
           exact r2 u v
          ·have Z:i=l.length:=by simp at hi;omega
           subst Z;obtain ⟨w,k2,_,_,_,_,e5⟩:=I.one p.toNat G
           refine ⟨(R0.map (shR (10*p))).map (W2c ⟨10*(p.toNat:Int),0,10*(p.toNat:Int)+w,k2⟩),by simp;omega,fun u v=>?_⟩;rw [W0i,List.take_left' rfl,W2b,Y9C]
           show inR (cn (S l.length)) u v=_;rw [Q1w (g _ (Nat.le_refl _))]
           simp only [S,List.take_length];rw [Y9C,e5,c7]
        obtain ⟨H,U,m,o,A⟩:=ih f td (l++[⟨p+1,⟨cn (S l.length)⟩,c,1+s⟩]) (by omega) (by simp;omega) od c6;refine ⟨H,U,?_,o,A⟩
        unfold Q1Z;refine Z5 (decide_eq_true (by omega)) ?_
        refine Q7 (Z7 (by simp only;omega) (by simp only;omega)) (Q3 ec (Q3 ed ?_));refine Q7 (Z7 (by simp only;omega) (by simp only;omega)) (Q7 (by simp [LIM];omega) ?_)
        unfold Q1Y;simp only
        rw [ek];exact Q7 (Z7 (by omega) (by omega)) m
      obtain ⟨H,U,m,o,A⟩:=b2;refine ⟨H,U,?_,o,A⟩
      unfold Q3U;refine Q7 (by simp only;omega) ?_
      refine Q3 ((Q3P L (a:=a.t_.map (shR (10*p))) (b:=(gl rs p.toNat).t_) (how:=2) (by simp;omega) (by have:=(I.val G).1;omega) c8 (I.val G).2.1).trans (congrArg some (congrArg cn a5.symm))) ?_;refine Y7 (fun z:List Rect×Int=>∃ n:Nat,z.2=n/\n<=l.length/\z.1=cn (S n)) (fun z=>l.length-z.2.toNat) (fun d z hz O=>?_) ⟨0,rfl,by omega,rfl⟩ (by simp only;omega)
      obtain ⟨V,n0⟩:=z;obtain ⟨n,rfl,J,rfl⟩:=hz
      simp only at J ⊢;unfold Z2a
      refine Q9 (fun h=>?_) (fun h=>?_)
      ·have h:n<l.length:=by simpa using h
       refine Q7 (by omega) ?_;simp only [Int.toNat_natCast]
       have hx:=P.one _ (W9 h);refine Q3 ((Q3P L (a:=cn (S n)) (b:=(gl l n).g_.t_) (how:=3) (by have:=(B n J).1;omega) (by have:=hx.val.1;omega) (B n J).2.1 hx.val.2.1).trans (congrArg some (X n h))) ?_
       refine Q7 (Z7 (by omega) (by omega)) (O _ ⟨n+1,by simp,h,rfl⟩ (by simp only;omega))
      ·have h:n=l.length:=by
        have:¬ n<l.length:=by simpa using h
        omega
       subst h;exact m
     obtain ⟨H,U,m,o,A⟩:=a2;refine ⟨H,U,?_,o,A⟩
     show Q0V F cs ns rs _ ((k+1:Nat):Int) t.l_ t.at_ l=_;unfold Q0V
     refine Z5 (by simp) (Q3 ea ?_);rw [Z7p]
     refine Q3 eb ?_;refine Y7 (fun z:Int×List Rect=>∃ i:Nat,z.1=i/\i<=a.t_.length/\z.2.length=a.t_.length/\∀ j,j<a.t_.length->gl z.2 j=if j<i then shR (10*p) (gl a.t_ j) else gl a.t_ j) (fun z=>a.t_.length-z.1.toNat) (fun d z hz O=>?_)
      ⟨0,rfl,by omega,rfl,fun j _=>by rw [if_neg (by omega)]⟩ (by simp only;omega)
     obtain ⟨i0,V⟩:=z;obtain ⟨i,rfl,hi,M,hV⟩:=hz
     simp only at M hV ⊢;unfold Z2b
     simp only [Int.toNat_natCast];refine Q9 (fun h=>?_) (fun h=>?_)
     ·have h:i<a.t_.length:=by simpa using h
      have b9:gl V i=gl a.t_ i:=by rw [hV i h,if_neg (by omega)]
      have hb:=a4 _ (W9 h);have a6:∀ x,gl (V.set i x) i=x:=fun x=>by rw [W0h V i i x (by omega),if_pos rfl]
      simp only [b9,a6];refine Q7 (by omega) (Q7 (Z7 (by omega) (by omega)) (Q7 (Z7 (by omega) (by omega)) (Q7 (by omega) (Q7 (Z7 (by omega) (by omega)) (Q7 (Z7 (by omega) (by omega)) (Q7 (by omega) (Q7 (by rw [List.length_set];omega) (Q7 (Z7 (by omega) (by omega)) ?_))))))))
      refine O _ ⟨i+1,by simp,h,by simp [M],fun j hj=>?_⟩ (by simp only;omega);rw [W0h _ i j _ (by simp;omega)]
      by_cases hij:i=j
      ·subst hij
       rw [if_pos rfl,if_pos (by omega)];rfl
      ·rw [if_neg hij,W0h V i j _ (by omega),if_neg hij,hV j hj]
       by_cases Z:j<i
       ·rw [if_pos Z,if_pos (by omega)]
       ·rw [if_neg Z,if_neg (by omega)]
     ·have h:i=a.t_.length:=by
       have:¬ i<a.t_.length:=by simpa using h
       omega
      have b7:V=a.t_.map (shR (10*p)):=W2Q (by simp [M]) fun j hj=>by
       rw [hV j (by omega),if_pos (by omega),W1L _ _ _ (by omega)]
      rw [b7];exact m
  obtain ⟨t',l,m,o,A,q4⟩:=Q k.toNat F H [] (by omega) (by simp;omega) o2 (LinT.nil _ _);refine ⟨t',l,?_,o,A,q4⟩
  unfold Q3V;refine Q7 (Z7 (by omega) (by omega)) (Q3 e2 ?_)
  have:(k.toNat:Int)=k:=by omega
  rw [this] at m;exact m
 have Q:∀ (k f:Nat) (t:Tape) (ns:List Int) (rs:List Re_),k<f->TOk t->ns.length=rs.length->rs.length+k=c.toNat->(∀ i,i<rs.length->∃ w h:Int,2<=w/\w<=9/\2<=h/\h<=9/\gl rs i=⟨[⟨10*i,0,10*i+w,h⟩]⟩) ->
   ∃ t' l K E,Z3 (fun d (z:Int×List Int×Int×List Int×List Re_)=>Q0W F cs most d z.1 z.2.1 z.2.2.1 z.2.2.2.1 z.2.2.2.2) f ((k:Int),t.l_,t.at_,ns,rs)=some (t',l,K,E)/\TOk t' /\ ParT E /\ LinT (cs.length:Nat) E l/\(l.length:Int)<=most:=by
  intro k
  induction k with
  | zero=>
   intro f t ns rs hf ht D hk W
   cases f with
   | zero=>omega
   | succ f=>
    have I:ParT rs:=⟨by omega,W⟩;obtain ⟨t',l,m,o,A,q4⟩:=Y rs ns t.l_ t.at_ I D ht
    refine ⟨t',l,ns,rs,?_,o,I,A,q4⟩;show Q0W F cs most _ 0 t.l_ t.at_ ns rs=_
    unfold Q0W;exact Q8 rfl m
  | succ k ih=>
   intro f t ns rs hf ht D hk W
   cases f with
   | zero=>omega
   | succ f=>
    obtain ⟨T,w,ea,oa,w1,w2⟩:=V7 (F:=F) ht (lo:=2) (hi:=9) (by omega) (by omega) (by omega);obtain ⟨tb,h,eb,ob,h1,h2⟩:=V7 (F:=F) oa (lo:=2) (hi:=9) (by omega) (by omega) (by omega)
    obtain ⟨t',l,K,E,m,o⟩:=ih f tb (ns++[((ns.length:Nat):Int)+1]) (rs++[⟨[⟨10*((ns.length:Nat):Int),0,10*((ns.length:Nat):Int)+w,h⟩]⟩]) (by omega) ob (by simp [D]) (by simp;omega) (fun i hi=>by
     rcases Nat.lt_or_ge i rs.length with N|N
     ·have e:gl (rs++[(⟨[⟨10*((ns.length:Nat):Int),0,10*((ns.length:Nat):Int)+w,h⟩]⟩:Re_)]) i=gl rs i:=by
       unfold gl;rw [List.getD_eq_getElem?_getD,List.getElem?_append_left N, <-List.getD_eq_getElem?_getD]
      rw [e];exact W i N
     ·have Z:i=rs.length:=by simp at hi;omega
      subst Z;refine ⟨w,h,by omega,by omega,by omega,by omega,?_⟩
      unfold gl;rw [List.getD_eq_getElem?_getD,List.getElem?_append_right (Nat.le_refl _),D]
      simp)
    refine ⟨t',l,K,E,?_,o⟩;show Q0W F cs most _ ((k+1:Nat):Int) t.l_ t.at_ ns rs=_
    unfold Q0W;have ek:((k+1:Nat):Int)-1=(k:Int):=by omega
    refine Z5 (by simp) (Q7 (Z7 (by omega) (by omega)) (Q7 (by simp [LIM];omega) (Q7 (Z7 (by omega) (by omega)) (Q7 (Z7 (by omega) (by omega)) (Q3 ea (Q7 (Z7 (by omega) (by omega)) (Q3 eb (Q7 (by simp [LIM];omega) (Q7 (Z7 (by omega) (by omega)) ?_)))))))));rw [ek]
    exact m
 obtain ⟨t',l,ns,rs,m,o⟩:=Q c.toNat F t1 [] [] (by omega) o1 rfl (by simp) (fun i hi=>by simp at hi);refine ⟨t',l,ns,rs,?_,o⟩
 unfold Q4g;refine Q3 e1 ?_
 have:(c.toNat:Int)=c:=by omega
 rw [this] at m;exact m
end
end Go.Ab
end
section
namespace Go.Ab
set_option maxRecDepth 20000
noncomputable section
abbrev Sq:=Int->Int->Bool
structure TR (A:List Rect):Prop where
 val:Val A
 sub:∀ {S:Sq},Fin S->(∀ x y,S x y=true->inR A x y=true)->Val (cn S)
theorem TR.of_pl {A:List Rect} (hv:Val A) {d:Int} (h0:0<=d/\d<=100) (hb:PlB d (inR A)):TR A:=⟨hv,fun b a=>(W2s b h0 fun x y h=>hb x y (a x y h)).1⟩
theorem Val.pos {l:List Rect} (h:Val l):∀ r ∈ l,r.L_<r.R_:=fun _ a=>(h.2.2.pos a).1
theorem Y7t {A:List Rect} (h:Val A):cn (inR A)=A:=(Z1x A).1 h.2.2
theorem Y6c:Fin fun _ _=>false:=by
 have:=K2 []
 exact this
theorem Y3h:cn (fun _ _=>false)=[]:=(Z1x []).1 Y4n
theorem Q3z {F:Nat} (hF:BIG<=F) {a b:List Rect} (la:a.length<=8000) (lb:b.length<=8000) (pa:∀ r ∈ a,r.L_<r.R_) (pb:∀ r ∈ b,r.L_<r.R_) {S T:Sq} (ea:inR a=S) (eb:inR b=T) {k:Bool->Bool->Bool} (hk:k false false=false) {q:Bool->Bool->Option Bool} (hq:∀ u v,q u v=some (k u v)) :
  V9 F a b q=some (cn fun x y=>k (S x y) (T x y)):=by
 subst ea eb;exact Q8R hF (by omega) pa pb hk hq
theorem W0n {a b:List Rect} {S T:Sq} (ea:inR a=S) (eb:inR b=T) (how:Int):Fin fun x y=>Q0u (S x y) (T x y) how:=by
 subst ea eb;exact Q6z a b how
theorem Q0n {S:Sq} (h:Fin S):inR (cn S)=S:=by
 funext x y;exact Q1w h x y
theorem Z4H {S T:Sq} (hS:Fin S) (hT:Fin T):Fin fun x y=>S x y&&T x y:=W0n (Q0n hS) (Q0n hT) 2
theorem Y7n {S T:Sq} (hS:Fin S) (hT:Fin T):Fin fun x y=>S x y||T x y:=W0n (Q0n hS) (Q0n hT) 1
theorem Z7c {S T:Sq} (hS:Fin S) (hT:Fin T):Fin fun x y=>S x y && !T x y:=W0n (Q0n hS) (Q0n hT) 3
theorem Z0V (F:Nat) (u v:Bool):Q8L F u v=some (u&&v):=by
 unfold Q8L Z0W;cases u <;> rfl
theorem Z5D (F:Nat) (u v:Bool):Q9J F u v=some (u||v):=by
 unfold Q9J Q7A;cases u <;> rfl
theorem Z0i (F:Nat) (u v:Bool):Q5C F u v=some (u && !v):=by
 unfold Q5C Q6F;cases u <;> rfl
structure TS where
 Y:Sq
 N:Sq
def TS.O (A:List Rect) (s:TS):Sq:=fun x y=>(inR A x y && !s.Y x y) && !s.N x y
structure TIn (A:List Rect) (s:TS):Prop where
 fY:Fin s.Y
 fN:Fin s.N
 sY:∀ x y,s.Y x y=true->inR A x y=true
 sN:∀ x y,s.N x y=true->inR A x y=true
theorem TIn.fO {A:List Rect} {s:TS} (h:TIn A s):Fin (s.O A):=Z7c (Z7c (K2 A) h.fY) h.fN
theorem TIn.vY {A:List Rect} (ht:TR A) {s:TS} (h:TIn A s):Val (cn s.Y):=ht.sub h.fY h.sY
theorem TIn.vN {A:List Rect} (ht:TR A) {s:TS} (h:TIn A s):Val (cn s.N):=ht.sub h.fN h.sN
theorem TIn.vO {A:List Rect} (ht:TR A) {s:TS} (h:TIn A s):Val (cn (s.O A)):=ht.sub h.fO fun x y a=>by
 unfold TS.O at a
 cases hA:inR A x y with
 | true=>rfl
 | false=>rw [hA] at a;cases a
def TS.sqs (A:List Rect) (s:TS):Squares:=⟨cn s.Y,cn s.N,cn (s.O A)⟩
theorem Val.le8 {l:List Rect} (h:Val l):l.length<=8000:=by have:=h.1;omega
theorem Z4c {F:Nat} (hF:BIG<=F) {p:TermPlace} {A:List Rect} (hp:p.t_=A) (ht:TR A) {s:TS} (h:TIn A s):Q2o F p (cn s.Y) (cn s.N)=some (s.sqs A):=by
 unfold Q2o;subst hp
 have b:Val (cn fun x y=>inR p.t_ x y && !s.Y x y):=ht.sub (Z7c (K2 _) h.fY) fun x y a=>by
  cases hA:inR p.t_ x y with
  | true=>rfl
  | false=>rw [hA] at a;cases a
 refine Q3 (Q3z hF ht.val.le8 (h.vY ht).le8 ht.val.pos (h.vY ht).pos rfl (Q0n h.fY) (k:=fun u v=>u && !v) rfl (Z0i F)) (Q3 (Q3z hF b.le8 (h.vN ht).le8 b.pos (h.vN ht).pos (Q0n (Z7c (K2 _) h.fY)) (Q0n h.fN) (k:=fun u v=>u && !v) rfl (Z0i F)) rfl)
end
end Go.Ab
end
section
namespace Go.Ab
set_option maxRecDepth 20000
noncomputable section
structure EV (y:Int) (cs:List Crop) (hs:List Rg_) (zs:List A2_) (c:Int) (A:List Rect):Prop where
 tr:TR A
 crop:0<=c/\c<(cs.length:Nat)
 fam:0<=(gl cs c.toNat).f_
 mrk:0<=(gl cs c.toNat).m_/\(gl cs c.toNat).m_<=31
 few:FewR hs
 hb:∀ f ∈ hs,Box (15:Nat) f.g_.t_
 hc:∀ f ∈ hs,0<=f.c_/\f.c_<(cs.length:Nat)
 yr:0<=y/\y<=100
 zs:LB 15 zs
theorem W2D {l:List Rg_} (hb:∀ f ∈ l,Box (15:Nat) f.g_.t_) (y:Int) (p:Int->Bool):Box (15:Nat) (yrs l y p):=fun r a=>by
 unfold yrs at a;obtain ⟨f,b,h⟩:=List.mem_flatMap.1 a
 exact hb f (List.mem_filter.1 b).1 r h
theorem W1i (a b:List Rg_) (y:Int) (p:Int->Bool):yrs (a++b) y p=yrs a y p++yrs b y p:=by simp [yrs]
theorem W1T {l:List Rg_} (h:FewR l) (y:Int) (p:Int->Bool):(yrs l y p).length<=420:=by
 by_cases h0:l.length=0
 ·rw [List.eq_nil_of_length_eq_zero h0];simp [yrs]
 ·have d:=h.few y p (l.length-1) (by omega)
  have e:l=l.take (l.length-1)++[gl l (l.length-1)]:=by
   have:=J8 (l:=l) (i:=l.length-1) (by omega)
   rw [<-this,show l.length-1+1=l.length by omega,List.take_length]
  have c:(yrs [gl l (l.length-1)] y p).length<=120:=by
   have b:=((Q8X _).1 (h.hl.one _ (W9 (l:=l) (i:=l.length-1) (by omega)))).2.2.2.2.2;have:=b.1
   unfold yrs;rw [List.filter_cons]
   split
   ·simpa using this
   ·simp
  have a:=congrArg (fun m=>(yrs m y p).length) e;simp only [W1i,List.length_append] at a
  omega
def knS (A:List Rect) (hs:List Rg_) (y:Int) (p:Int->Bool):Sq:=fun u v=>inR A u v&&inR (yrs hs y p) u v
theorem Z4G (A:List Rect) (hs:List Rg_) (y:Int) (p:Int->Bool):Fin (knS A hs y p):=Z4H (K2 A) (K2 _)
theorem Y0w {A:List Rect} {hs:List Rg_} {y:Int} {p:Int->Bool} {u v:Int} (h:knS A hs y p u v=true):inR A u v=true:=by
 unfold knS at h;rw [Bool.and_eq_true] at h
 exact h.1
variable {F:Nat} {cs:List Crop} {hs:List Rg_} {zs:List A2_} {y c d:Int} {A:List Rect}
theorem Q6j (hF:BIG<=F) (h:EV y cs hs zs c A) {p:TermPlace} (e1:p.world_.history_=hs) (e2:p.world_.y_=y) (e3:p.t_=A) {n:Int} (n0:0<=n) (n1:n<=1000) {q:Int->Option Bool} (s:Int->Bool) (hq:∀ f ∈ hs,q f.c_=some (s f.c_)):Q0r F p n q=some (cn (knS A hs (y-n) s)):=by
 subst e1 e2 e3;have e:=h.yr
 unfold Q0r;have a:=W2D h.hb (p.world_.y_-n) s
 have:=W1T h.few (p.world_.y_-n) s
 exact Q7 (Z7 (by omega) (by omega)) (Q3 (Y0A hF h.few.hl _ s hq) (Q3 (Q3z hF h.tr.val.le8 (by omega) h.tr.val.pos (fun r b=>(a r b).2.1) rfl rfl (k:=fun u v=>u&&v) rfl (Z0V F)) rfl))
end
end Go.Ab
end
section
namespace Go.Ab
set_option maxRecDepth 20000
noncomputable section
def W2S (cs:List Crop) (f:Int) (k:Int):Bool:=(gl cs k.toNat).f_==f
def Y9Q (cs:List Crop) (f:Int) (k:Int):Bool:=(gl cs k.toNat).f_ != f
def smS (A:List Rect) (hs:List Rg_) (cs:List Crop) (y f:Int):Nat->TS
 | 0=>⟨inR A,fun _ _=>false⟩
 | k+1=>⟨fun u v=>(smS A hs cs y f k).Y u v&&knS A hs (y-((k+1:Nat):Int)) (W2S cs f) u v,fun u v=>(smS A hs cs y f k).N u v||knS A hs (y-((k+1:Nat):Int)) (Y9Q cs f) u v⟩
theorem Y7K (A:List Rect) (hs:List Rg_) (cs:List Crop) (y f:Int):∀ k,TIn A (smS A hs cs y f k)
 | 0=>⟨K2 A,Y6c,fun _ _ h=>h,fun _ _ h=>by cases h⟩
 | k+1=>by
  have a:=Y7K A hs cs y f k;refine ⟨Z4H a.fY (Z4G _ _ _ _),Y7n a.fN (Z4G _ _ _ _),fun u v h=>?_,fun u v h=>?_⟩
  ·unfold smS at h
   simp only [Bool.and_eq_true] at h;exact a.sY u v h.1
  ·unfold smS at h
   simp only [Bool.or_eq_true] at h;rcases h with h|h
   ·exact a.sN u v h
   ·exact Y0w h
variable {F:Nat} {cs:List Crop} {hs:List Rg_} {zs:List A2_} {y c d:Int} {A:List Rect}
theorem EV.kn_val (h:EV y cs hs zs c A) (k:Int) (p:Int->Bool):Val (cn (knS A hs k p)):=h.tr.sub (Z4G _ _ _ _) fun _ _ h=>Y0w h
theorem Y4x (hF:BIG<=F) (h:EV y cs hs zs c A) {p:TermPlace} (e1:p.world_.history_=hs) (e2:p.world_.y_=y) (e3:p.t_=A) (e4:p.world_.crops_=cs) (e5:p.line_.c_=c) {n:Nat} (n0:1<=n) (n1:n<=100) :
  Q6G F p (n:Int)=some ((smS A hs cs y (gl cs c.toNat).f_ (n-1)).sqs A):=by
 have e:=hF;unfold BIG at e
 have j:=h.crop;unfold Q6G
 have b:∀ (m f k:Nat),k+m=n-1->m<f->Z3 (fun again (z:(List Rect)×(List Rect)×Int)=>Q0S F p (n:Int) again z.1 z.2.1 z.2.2) f (cn (smS A hs cs y (gl cs c.toNat).f_ k).Y,cn (smS A hs cs y (gl cs c.toNat).f_ k).N,((k:Nat):Int)+1)=some ((smS A hs cs y (gl cs c.toNat).f_ (n-1)).sqs A):=by
  intro m
  induction m with
  | zero=>
   intro f k q s;obtain ⟨f,rfl⟩:∃ g,f=g+1:=⟨f-1,by omega⟩
   show Q0S F p (n:Int) (Z3 _ f) _ _ (((k:Nat):Int)+1)=_;unfold Q0S
   refine Q8 (decide_eq_false (by omega)) ?_;unfold Q6X
   rw [show n-1=k by omega];exact Q3 (Z4c hF e3 h.tr (Y7K _ _ _ _ _ k)) rfl
  | succ m ih=>
   intro f k q s;obtain ⟨f,rfl⟩:∃ g,f=g+1:=⟨f-1,by omega⟩
   show Q0S F p (n:Int) (Z3 _ f) _ _ (((k:Nat):Int)+1)=_;unfold Q0S
   have a:=Y7K A hs cs y (gl cs c.toNat).f_ k;have w:∀ g ∈ hs,Q4E F g.c_ p (gl p.world_.crops_ p.line_.c_.toNat).f_=some (W2S cs (gl cs c.toNat).f_ g.c_):=fun g i=>by
    unfold Q4E;rw [e4,e5]
    exact Q7 (h.hc g i) rfl
   have r:∀ g ∈ hs,Q4D F g.c_ p (gl p.world_.crops_ p.line_.c_.toNat).f_=some (Y9Q cs (gl cs c.toNat).f_ g.c_):=fun g i=>by
    unfold Q4D;rw [e4,e5]
    exact Q7 (h.hc g i) rfl
   have l:=h.kn_val (y-(((k:Nat):Int)+1)) (W2S cs (gl cs c.toNat).f_);have o:=h.kn_val (y-(((k:Nat):Int)+1)) (Y9Q cs (gl cs c.toNat).f_)
   have t:=ih f (k+1) (by omega) (by omega);refine Z5 (decide_eq_true (by omega)) (Q3 (Q6j hF h e1 e2 e3 (by omega) (by omega) _ w) (Q3 (Q6j hF h e1 e2 e3 (by omega) (by omega) _ r) (Q3 (Q3z hF (a.vY h.tr).le8 l.le8 (a.vY h.tr).pos l.pos (Q0n a.fY) (Q0n (Z4G _ _ _ _)) (k:=fun u v=>u&&v) rfl (Z0V F)) (Q3 (Q3z hF (a.vN h.tr).le8 o.le8 (a.vN h.tr).pos o.pos (Q0n a.fN) (Q0n (Z4G _ _ _ _)) (k:=fun u v=>u||v) rfl (Z5D F)) (Q7 (Z7 (by omega) (by omega)) ?_)))))
   exact t
 refine Q7 (by rw [e4,e5];exact j) ?_;have:=b (n-1) F 0 (by omega) (by omega)
 show Z3 _ F (p.t_,[],(1:Int))=_;rw [e3]
 rw [show (smS A hs cs y (gl cs c.toNat).f_ 0)=⟨inR A,fun _ _=>false⟩ from rfl] at this;simp only [Y7t h.tr.val,Y3h] at this
 exact this
def Z8J (A:List Rect) (b:Bool):TS:=if b then ⟨inR A,fun _ _=>false⟩ else ⟨fun _ _=>false,inR A⟩
theorem Y0R (A:List Rect) (b:Bool):TIn A (Z8J A b):=by
 cases b
 ·exact ⟨Y6c,K2 A,fun _ _ h=>(by cases h),fun _ _ h=>h⟩
 ·exact ⟨K2 A,Y6c,fun _ _ h=>h,fun _ _ h=>by cases h⟩
theorem Y8w (A:List Rect) (b:Bool):(Z8J A b).O A=fun _ _=>false:=by
 funext u v
 cases b <;> simp [Z8J,TS.O]
theorem Q9p {p:TermPlace} (e3:p.t_=A) (hv:Val A) (b:Bool):Q0R F p b=some ((Z8J A b).sqs A):=by
 unfold Q0R TS.sqs;rw [Y8w,Y3h,e3]
 cases b
 ·refine Q8 rfl ?_
  show some _=some (Squares.mk (cn fun _ _=>false) (cn (inR A)) []);rw [Y3h,Y7t hv]
 ·refine Z5 rfl ?_
  show some _=some (Squares.mk (cn (inR A)) (cn fun _ _=>false) []);rw [Y3h,Y7t hv]
def Y1C (A:List Rect) (S:Sq):TS:=⟨fun u v=>inR A u v&&S u v,fun u v=>inR A u v && !S u v⟩
theorem W0v {A:List Rect} {S:Sq} (h:Fin S):TIn A (Y1C A S):=by
 refine ⟨Z4H (K2 A) h,Z7c (K2 A) h,fun u v a=>?_,fun u v a=>?_⟩
 ·simp only [Y1C,Bool.and_eq_true] at a
  exact a.1
 ·simp only [Y1C,Bool.and_eq_true] at a
  exact a.1
theorem W3o (A:List Rect) (S:Sq):(Y1C A S).O A=fun _ _=>false:=by
 funext u v
 simp only [Y1C,TS.O]
 cases inR A u v <;> cases S u v <;> rfl
theorem Z4Q (hF:BIG<=F) {p:TermPlace} (e3:p.t_=A) (ht:TR A) {S:Sq} (h:Fin S):Q1P F p (cn fun u v=>inR A u v&&S u v)=some ((Y1C A S).sqs A):=by
 unfold Q1P TS.sqs;have a:=Z4H (K2 A) h
 have e:=ht.sub a fun u v b=>by
  simp only [Bool.and_eq_true] at b;exact b.1
 rw [W3o,Y3h,e3];refine Q3 (Q3z hF ht.val.le8 e.le8 ht.val.pos e.pos rfl (Q0n a) (k:=fun u v=>u && !v) rfl (Z0i F)) ?_
 rw [show (fun u v=>inR A u v && !(inR A u v&&S u v))=(Y1C A S).N from ?_]
 ·rfl
 ·funext u v
  simp only [Y1C]
  cases inR A u v <;> cases S u v <;> rfl
end
end Go.Ab
end
section
namespace Go.Ab
set_option maxRecDepth 20000
noncomputable section
theorem Y4E {R:Type} {body:(Int->Option R)->Int->Option R} {c y:Option R} (N:Nat) (p:Nat->Bool)
  (bad:∀ again (i:Nat),i<N->p i=true->body again (i:Int)=c) (good:∀ again (i:Nat) z,i<N->p i=false->again ((i:Int)+1)=z->body again (i:Int)=z)
  (stop:∀ again,body again (N:Int)=y) {F:Nat} (hF:N<F):Z3 body F 0=if (List.range N).any p=true then c else y:=by
 refine Y7 (fun z:Int=>∃ i:Nat,z=i/\i<=N/\∀ j,j<i->p j=false) (fun z=>N-z.toNat) (fun again z e f=>?_) ⟨0,rfl,Nat.zero_le _,fun j h=>absurd h (Nat.not_lt_zero j)⟩ (by simp;omega);obtain ⟨i,rfl,g,b⟩:=e
 rcases Nat.lt_or_ge i N with h|h
 ·cases hpi:p i with
  | true=>
   rw [if_pos (List.any_eq_true.2 ⟨i,List.mem_range.2 h,hpi⟩)];exact bad again i h hpi
  | false=>
   refine good again i _ h hpi (f _ ⟨i+1,by omega,h,fun j a=>?_⟩ (by omega))
   by_cases hji:j=i
   ·rw [hji];exact hpi
   ·exact b j (by omega)
 ·have:i=N:=by omega
  subst this;rw [if_neg (by rw [Bool.not_eq_true,List.any_eq_false];intro j a;rw [b j (List.mem_range.1 a)];simp)]
  exact stop again
end
end Go.Ab
end
section
namespace Go.Ab
set_option maxRecDepth 20000
noncomputable section
end
end Go.Ab
end
section
namespace Go.Ab
set_option maxRecDepth 20000
noncomputable section
theorem Y2C {F:Nat} (hF:BIG<=F) (s:ByteArray):Z4v F s=some (Q2G s):=by
 unfold BIG at hF;unfold Z4v
 have g:Q2G s=false->Q1H F s true=some (Q2G s):=fun h=>by unfold Q1H;rw [h];exact Z5 rfl rfl
 refine Q9 (fun h=>g ?_) (fun h=>?_)
 ·have h:=of_decide_eq_true h
  unfold Q2G;rw [decide_eq_false (by omega:¬ 1<=s.size)];rfl
 have t:1<=s.size:=by have:=of_decide_eq_false h;omega
 refine Q9 (fun h=>g ?_) (fun h=>?_)
 ·have h:=of_decide_eq_true h
  unfold Q2G;rw [decide_eq_false (by omega:¬ s.size<=12)];simp
 have r:s.size<=12:=by have:=of_decide_eq_false h;omega
 have n:Q2G s=decide (∀ i,i<s.size->(Z5p (sAt s (i:Nat))||(!decide (i=0)&&Y3J (sAt s (i:Nat))))=true):=by
  unfold Q2G;rw [decide_eq_true t,decide_eq_true r];simp
 have j:Z5p (sAt s (0:Int))=false->Q2G s=false:=fun h=>by
  rw [n,decide_eq_false_iff_not];intro e
  have:=e 0 (by omega)
  rw [show (((0:Nat):Int))=0 from rfl,h] at this;simp at this
 refine Q7 (by omega) (Q9 (fun h=>g (j ?_)) (fun h=>?_))
 ·have h:=of_decide_eq_true h
  unfold Z5p;rw [decide_eq_false (by omega)];rfl
 have u:=of_decide_eq_false h;refine Q7 (by omega) ?_
 by_cases h4:122<sAt s (0:Int)
 ·rw [decide_eq_true h4]
  refine g (j ?_);unfold Z5p;rw [decide_eq_false (by omega:¬ sAt s (0:Int)<=122)];simp
 rw [decide_eq_false h4];have o:Z5p (sAt s (0:Int))=true:=by
  unfold Z5p;rw [decide_eq_true (by omega),decide_eq_true (by omega)];rfl
 unfold Q1H;refine Q8 rfl ?_
 refine (Y4E (c:=some false) (y:=some true) s.size (fun i=> !(Z5p (sAt s (i:Nat))||Y3J (sAt s (i:Nat)))) (fun a i l b=>?_) (fun a i z l b n=>?_) (fun a=>?_) (by omega)).trans ?_
 ·rw [Bool.not_eq_true',Bool.or_eq_false_iff] at b
  unfold Z5p Y3J at b;unfold Q9z
  have k2:y6 F (i:Int) a true=some false:=by unfold y6;exact Z5 rfl rfl
  refine Z5 (decide_eq_true (by omega)) (Q7 (by omega) ?_);have q:gd (0<=(i:Int)/\(i:Int)<((s.size:Nat):Int)) (br (decide (sAt s (i:Nat)<48)) (y6 F (i:Int) a true) (gd (0<=(i:Int)/\(i:Int)<((s.size:Nat):Int)) (y6 F (i:Int) a (decide (57<sAt s (i:Nat))))))=some false:=by
   refine Q7 (by omega) (Q9 (fun _=>k2) (fun f=>Q7 (by omega) ?_));have f:=of_decide_eq_false f
   rw [decide_eq_true (p:=57<sAt s (i:Nat))]
   ·exact k2
   ·have k:=b.2
    rw [decide_eq_true (by omega:48<=sAt s (i:Nat)),Bool.true_and,decide_eq_false_iff_not] at k;omega
  refine Q9 (fun _=>q) (fun f=>Q7 (by omega) ?_);refine Z5 ?_ q
  have f:=of_decide_eq_false f;have k:=b.1
  rw [decide_eq_true (by omega:97<=sAt s (i:Nat)),Bool.true_and,decide_eq_false_iff_not] at k;exact decide_eq_true (by omega)
 ·rw [Bool.not_eq_false',Bool.or_eq_true] at b
  unfold Z5p Y3J at b;rw [Bool.and_eq_true,Bool.and_eq_true,decide_eq_true_eq,decide_eq_true_eq,decide_eq_true_eq,decide_eq_true_eq] at b
  unfold Q9z;have k2:y6 F (i:Int) a false=z:=by unfold y6;exact Q8 rfl (Q7 (Z7 (by omega) (by omega)) n)
  refine Z5 (decide_eq_true (by omega)) (Q7 (by omega) ?_);refine Q9 (fun f=>?_) (fun f=>?_)
  ·have f:=of_decide_eq_true f
   refine Q7 (by omega) (Q8 (decide_eq_false (by omega)) (Q7 (by omega) ?_));rw [decide_eq_false (p:=57<sAt s (i:Nat)) (by omega)];exact k2
  ·have f:=of_decide_eq_false f
   refine Q7 (by omega) (Q9 (fun k=>?_) (fun k=>k2));have k:=of_decide_eq_true k
   refine Q7 (by omega) (Q8 (decide_eq_false (by omega)) (Q7 (by omega) ?_));rw [decide_eq_false (p:=57<sAt s (i:Nat)) (by omega)];exact k2
 ·unfold Q9z
  exact Q8 (decide_eq_false (by omega)) rfl
 ·rw [n]
  split
  ·rename_i m
   congr 1
   symm
   rw [decide_eq_false_iff_not];intro e
   obtain ⟨i,l,b⟩:=List.any_eq_true.1 m;have:=e i (List.mem_range.1 l)
   rw [Bool.not_eq_true',Bool.or_eq_false_iff] at b;rw [b.1,b.2] at this
   simp at this
  ·rename_i m
   congr 1
   symm
   rw [decide_eq_true_eq];intro i l
   rw [Bool.not_eq_true,List.any_eq_false] at m;have:=m i (List.mem_range.2 l)
   rw [Bool.not_eq_true,Bool.not_eq_false'] at this
   by_cases h0:i=0
   ·subst h0;rw [show (((0:Nat):Int))=0 from rfl,o];rfl
   ·rw [decide_eq_false h0];simpa using this
theorem Y9E {body:(Int->Option Int)->Int->Option Int} (N:Nat) (p:Nat->Int)
  (bad:∀ again (i:Nat),i<N->p i≠0->body again (i:Int)=some (p i)) (good:∀ again (i:Nat) z,i<N->p i=0->again ((i:Int)+1)=z->body again (i:Int)=z)
  (stop:∀ again,body again (N:Int)=some 0) {F:Nat} (hF:N<F):Z3 body F 0=some ((((List.range N).map p).find? fun c=>c != 0).getD 0):=by
 refine Y7 (fun z:Int=>∃ i:Nat,z=i/\i<=N/\∀ j,j<i->p j=0) (fun z=>N-z.toNat) (fun again z m l=>?_) ⟨0,rfl,Nat.zero_le _,fun j h=>absurd h (Nat.not_lt_zero j)⟩ (by simp;omega);obtain ⟨i,rfl,o,k⟩:=m
 rcases Nat.lt_or_ge i N with h|h
 ·by_cases hpi:p i=0
  ·refine good again i _ h hpi (l _ ⟨i+1,by omega,h,fun j a=>?_⟩ (by omega))
   by_cases hji:j=i
   ·rw [hji];exact hpi
   ·exact k j (by omega)
  ·rw [bad again i h hpi]
   congr 1
   have e:List.range N=List.range i++i::(List.range N).drop (i+1):=by
    have n:(List.range N).take i=List.range i:=by rw [List.take_range];congr 1;omega
    have g:=List.take_append_drop i (List.range N);rw [n,List.drop_eq_getElem_cons (by simpa using h)] at g
    rw [List.getElem_range] at g;exact g.symm
   have f:(((List.range i).map p).find? fun c=>c != 0)=none:=List.find?_eq_none.2 fun c b=>by
    obtain ⟨j,a,rfl⟩:=List.mem_map.1 b;rw [k j (List.mem_range.1 a)];simp
   rw [e,List.map_append,List.find?_append,f,Option.none_or,List.map_cons,List.find?_cons];have:(p i != 0)=true:=by simpa using hpi
   rw [this];rfl
 ·have:i=N:=by omega
  subst this;rw [stop again]
  congr 1
  have f:(((List.range i).map p).find? fun c=>c != 0)=none:=List.find?_eq_none.2 fun c b=>by
   obtain ⟨j,a,rfl⟩:=List.mem_map.1 b;rw [k j (List.mem_range.1 a)];simp
  rw [f];rfl
def crE (l:List Crop) (i:Nat):Int:=
 if Q2G (gl l i).n_=false then 5 else if (gl l i).f_<0\/40<(gl l i).f_ then 2 else if (gl l i).m_<0\/31<(gl l i).m_ then 14
 else if 0<i/\(sLt (gl l i).n_ (gl l (i-1)).n_||sEq (gl l i).n_ (gl l (i-1)).n_)=true then 6 else 0
def crC (l:List Crop):Int:=if 40<l.length then 1 else (((List.range l.length).map (crE l)).find? fun c=>c != 0).getD 0
def NmS (l:List Crop):Prop:=∀ x ∈ l,x.n_.size<=4294967296
theorem W3C {l:List Crop} {i:Nat} (h:Q2G (gl l i).n_=false):crE l i=5:=by unfold crE;rw [if_pos h]
theorem W3D {l:List Crop} {i:Nat} (h:Q2G (gl l i).n_=true) (h2:(gl l i).f_<0\/40<(gl l i).f_):crE l i=2:=by
 unfold crE;rw [if_neg (by rw [h];simp),if_pos h2]
theorem W3p {l:List Crop} {i:Nat} (h:Q2G (gl l i).n_=true) (h2:¬ ((gl l i).f_<0\/40<(gl l i).f_)) (h3:(gl l i).m_<0\/31<(gl l i).m_):crE l i=14:=by
 unfold crE;rw [if_neg (by rw [h];simp),if_neg h2,if_pos h3]
theorem W3B {l:List Crop} {i:Nat} (h:Q2G (gl l i).n_=true) (h2:¬ ((gl l i).f_<0\/40<(gl l i).f_)) (h3:¬ ((gl l i).m_<0\/31<(gl l i).m_))
  (h4:0<i/\(sLt (gl l i).n_ (gl l (i-1)).n_||sEq (gl l i).n_ (gl l (i-1)).n_)=true):crE l i=6:=by
 unfold crE;rw [if_neg (by rw [h];simp),if_neg h2,if_neg h3,if_pos h4]
theorem W3q {l:List Crop} {i:Nat} (h:Q2G (gl l i).n_=true) (h2:¬ ((gl l i).f_<0\/40<(gl l i).f_)) (h3:¬ ((gl l i).m_<0\/31<(gl l i).m_))
  (h4:¬ (0<i/\(sLt (gl l i).n_ (gl l (i-1)).n_||sEq (gl l i).n_ (gl l (i-1)).n_)=true)):crE l i=0:=by
 unfold crE;rw [if_neg (by rw [h];simp),if_neg h2,if_neg h3,if_neg h4]
theorem Z6E {F:Nat} (hF:BIG<=F) {l:List Crop} (hn:NmS l):Q9m F l=some (crC l):=by
 have u:=hF;unfold BIG at hF
 unfold Q9m crC;refine Q9 (fun h=>?_) (fun h=>?_)
 ·rw [if_pos (by have:=of_decide_eq_true h;omega)]
 have w:l.length<=40:=by have:=of_decide_eq_false h;omega
 rw [if_neg (by omega)];have e:∀ (a:Int->Option Int) (i:Nat),i<l.length->Q4u F l a (i:Int)=if crE l i=0 then a ((i:Int)+1) else some (crE l i):=by
  intro a i j;unfold Q4u
  simp only [Int.toNat_natCast];have hs:=hn _ (W9 j)
  refine Z5 (decide_eq_true (by omega)) (Q7 (by omega) (Q3 (Z2S (by omega) hs) ?_));refine Q9 (fun b=>?_) (fun b=>?_)
  ·have b:Q2G (gl l i).n_=false:=by simpa using b
   rw [W3C b,if_neg (by decide)]
  have b:Q2G (gl l i).n_=true:=by simpa using b
  have k:(gl l i).f_<0\/40<(gl l i).f_->Q2W F l (i:Int) a true=if crE l i=0 then a ((i:Int)+1) else some (crE l i):=fun h=>by
   rw [W3D b h,if_neg (by decide)];unfold Q2W
   exact Z5 rfl rfl
  refine Q9 (fun n=>k (.inl (of_decide_eq_true n))) (fun n=>?_);have n:=of_decide_eq_false n
  by_cases h3:40<(gl l i).f_
  ·rw [decide_eq_true h3];exact k (.inr h3)
  have o:¬ ((gl l i).f_<0\/40<(gl l i).f_):=by omega
  rw [decide_eq_false h3];unfold Q2W
  simp only [Int.toNat_natCast];refine Q8 rfl ?_
  have g:(gl l i).m_<0\/31<(gl l i).m_->Q2V F l (i:Int) a true=if crE l i=0 then a ((i:Int)+1) else some (crE l i):=fun h=>by
   rw [W3p b o h,if_neg (by decide)];unfold Q2V
   exact Z5 rfl rfl
  refine Q9 (fun m=>g (.inl (of_decide_eq_true m))) (fun m=>?_);have m:=of_decide_eq_false m
  by_cases h5:31<(gl l i).m_
  ·rw [decide_eq_true h5];exact g (.inr h5)
  have r:¬ ((gl l i).m_<0\/31<(gl l i).m_):=by omega
  rw [decide_eq_false h5];unfold Q2V
  simp only [Int.toNat_natCast];refine Q8 rfl ?_
  refine Q9 (fun f=>?_) (fun f=>?_)
  ·have f:0<i:=by have:=of_decide_eq_true f;omega
   have t:((i:Int)-1).toNat=i-1:=by omega
   refine Q7 (Z7 (by omega) (by omega)) (Q7 (by omega) ?_);rw [t]
   unfold Q2U;refine Q9 (fun p=>?_) (fun p=>?_)
   ·rw [W3B b o r ⟨f,p⟩,if_neg (by decide)]
   ·rw [W3q b o r (fun q=>by rw [q.2] at p;cases p),if_pos rfl]
    exact Q7 (Z7 (by omega) (by omega)) rfl
  ·have f:¬ 0<i:=by have:=of_decide_eq_false f;omega
   rw [W3q b o r (fun q=>f q.1),if_pos rfl];unfold Q2U
   exact Q8 rfl (Q7 (Z7 (by omega) (by omega)) rfl)
 refine Y9E l.length (crE l) (fun a i j s=>?_) (fun a i z j s v=>?_) (fun a=>?_) (by omega)
 ·rw [e a i j,if_neg s]
 ·rw [e a i j,if_pos s];exact v
 ·unfold Q4u
  exact Q8 (decide_eq_false (by omega)) rfl
theorem CropT.nm {l:List Crop} (h:CropT l):NmS l:=fun x e=>by
 obtain ⟨i,a,rfl⟩:=List.getElem_of_mem e;have b:=(h.one i a).1
 have:=h.len
 rw [Z5i l i a] at b;rw [b]
 have:=(Y3f i (by omega)).2
 omega
theorem CropT.crC {l:List Crop} (h:CropT l):crC l=0:=by
 have a:=Y3L (F:=BIG) (Nat.le_refl _) h;rw [Z6E (Nat.le_refl _) h.nm] at a
 exact Option.some.inj a
end
end Go.Ab
end
section
end
section
namespace Go.Ab
set_option maxRecDepth 20000
noncomputable section
def TD:Nat->Term->Prop
 | 0,_=>False
 | d+1,t=>I64 t.op_/\I64 t.num_/\t.kids_.length<=1000000/\∀ k ∈ t.kids_,TD d k
theorem TD.op {d:Nat} {t:Term} (h:TD d t):I64 t.op_:=by
 cases d with
 | zero=>exact h.elim
 | succ d=>exact h.1
def szD:Nat->Term->Nat
 | 0,_=>0
 | d+1,t=>1+(t.kids_.map (szD d)).sum
theorem W1n {d:Nat} {t:Term} (h:TD d t):1<=szD d t:=by
 cases d with
 | zero=>exact h.elim
 | succ d=>unfold szD;omega
def Z8V (d:Nat) (t:Term) (i:Nat):Nat:=1+((t.kids_.take i).map (szD d)).sum
theorem Z9Z {d i:Nat} {t:Term} (h:i<t.kids_.length):Z8V d t (i+1)=Z8V d t i+szD d (gl t.kids_ i):=by
 unfold Z8V;rw [J8 h,List.map_append,List.sum_append];simp;omega
theorem Y0a {d i:Nat} {t:Term}:Z8V d t i<=szD (d+1) t:=by
 unfold Z8V szD;have:(t.kids_.map (szD d)).sum=((t.kids_.take i).map (szD d)).sum+((t.kids_.drop i).map (szD d)).sum:=by
  rw [<-List.sum_append, <-List.map_append,List.take_append_drop]
 omega
theorem Y5r {d:Nat} {t:Term}:Z8V d t t.kids_.length=szD (d+1) t:=by unfold Z8V szD;rw [List.take_length]
theorem Z7E:∀ (d:Nat) {F:Nat} (_:BIG+d<=F) {t:Term} (_:TD d t) {m:Int} (_:0<=m) (_:m<=40),∃ v,Q4Z F t m=some v/\1<=v/\v<=m+1/\(m<v↔m<(szD d t:Int))/\((szD d t:Int)<=m->v=szD d t)
 | 0,_,_,_,h,_,_,_=>h.elim
 | d+1,0,hF,_,_,_,_,_=>by unfold BIG at hF;omega
 | d+1,F+1,hF,t,h,m,m0,m1=>by
  obtain ⟨_,_,J,s⟩:=h;show ∃ v,Z0U F (Q4Z F) t m=some v/\_
  unfold Z0U;have e : BIG+d<=F:=by omega
  have B:=e;unfold BIG at B
  suffices hs:∀ (n:Nat) (i:Nat) (v:Int),t.kids_.length-i<n->i<=t.kids_.length->1<=v->v<=m+1->(v<=m->v=(Z8V d t i:Int))->(m<v->m<(Z8V d t i:Int)) ->
    ∃ u,Z3 (fun again (z:Int×Int)=>Q9q F (Q4Z F) t m again z.1 z.2) n (v,(i:Int))=some u/\1<=u/\u<=m+1/\(m<u↔m<(szD (d+1) t:Int))/\((szD (d+1) t:Int)<=m->u=szD (d+1) t) by
   refine hs F 0 1 (by omega) (by omega) (by omega) (by omega) (fun _=>by simp [Z8V]) (fun h=>?_);simp [Z8V];omega
  intro n
  induction n with
  | zero=>intro i v h;omega
  | succ n ih=>
   intro i v K H l o g f;show ∃ u,Q9q F (Q4Z F) t m (Z3 _ n) v (i:Int)=some u/\_
   unfold Q9q
   by_cases hil:i<t.kids_.length
   ·rw [show decide ((i:Int)<((t.kids_.length:Nat):Int))=true from decide_eq_true (by omega)]
    have a:=s _ (W9 hil);have b:=a.op
    by_cases hv:m<v
    ·refine ⟨v,?_,l,o,?_,fun h=>?_⟩
     ·refine Z5 rfl (Q7 (by omega) (Q7 b (Z5 (decide_eq_true hv) rfl)))
     ·exact ⟨fun _=>by have:=f hv;have:=Y0a (d:=d) (i:=i) (t:=t);omega,fun _=>hv⟩
     ·have:=f hv;have:=Y0a (d:=d) (i:=i) (t:=t);omega
    ·obtain ⟨w,r,G,I,p,E⟩:=Z7E d e a (m:=m-v) (by omega) (by omega)
     have q:=Z9Z (d:=d) hil;have x:=g (by omega)
     have j:=ih (i+1) (v+w) (by omega) (by omega) (by omega) (by omega) (fun h=>by
      have:=E (by
       have:¬ m-v<w:=by omega
       have:=mt p.2 this
       omega)
      omega) (fun h=>by
      have:=p.1 (by omega)
      omega)
     obtain ⟨u,C,D⟩:=j;refine ⟨u,?_,D⟩
     refine Z5 rfl (Q7 (by omega) (Q7 b (Q8 (decide_eq_false hv) (Q7 (Z7 (by omega) (by omega)) (Q3 r (Q7 (Z7 (by omega) (by omega)) (Q7 (Z7 (by omega) (by omega)) ?_)))))));rw [<-C];congr 1
   ·have k:i=t.kids_.length:=by omega
    subst k;rw [Y5r] at g f
    refine ⟨v,Q8 (decide_eq_false (by omega)) rfl,l,o,⟨f,fun h=>?_⟩,fun h=>?_⟩
    ·by_cases hv:m<v
     ·exact hv
     ·have:=g (by omega);omega
    ·by_cases hv:m<v
     ·have:=f hv;omega
     ·exact g (by omega)
theorem Z5X:∀ (d:Nat) (_:d<=2000000) {F:Nat} (_:BIG+d<=F) {t:Term} (_:TD d t),∃ v,Q3F F t=some v/\1<=v/\v<=41*d/\(40<v↔40<(szD d t:Int))/\((szD d t:Int)<=40->v=szD d t)
 | 0,_,_,_,_,h=>h.elim
 | d+1,_,0,hF,_,_=>by unfold BIG at hF;omega
 | d+1,hd,F+1,hF,t,h=>by
  obtain ⟨_,_,H,x⟩:=h;show ∃ v,Q9x F (Q3F F) t=some v/\_
  unfold Q9x;have e : BIG+d<=F:=by omega
  have C:=e;unfold BIG at C
  suffices hs:∀ (n:Nat) (i:Nat) (v:Int),t.kids_.length-i<n->i<=t.kids_.length->1<=v->v<=41*((d+1:Nat):Int)->(v<=40->v=(Z8V d t i:Int))->(40<v->40<(Z8V d t i:Int)) ->
    ∃ u,Z3 (fun again (z:Int×Int)=>Q7O F (Q3F F) t again z.1 z.2) n (v,(i:Int))=some u/\1<=u/\u<=41*((d+1:Nat):Int)/\(40<u↔40<(szD (d+1) t:Int))/\((szD (d+1) t:Int)<=40->u=szD (d+1) t) by
   exact hs F 0 1 (by omega) (by omega) (by omega) (by omega) (fun _=>by simp [Z8V]) (fun h=>by omega)
  intro n
  induction n with
  | zero=>intro i v h;omega
  | succ n ih=>
   intro i v I E o p f g;show ∃ u,Q7O F (Q3F F) t (Z3 _ n) v (i:Int)=some u/\_
   unfold Q7O
   by_cases hil:i<t.kids_.length
   ·rw [show decide ((i:Int)<((t.kids_.length:Nat):Int))=true from decide_eq_true (by omega)]
    have a:=x _ (W9 hil);have b:=a.op
    have q:=Z9Z (d:=d) hil
    by_cases hv:v<=40
    ·obtain ⟨w,s,D,G,j,r⟩:=Z5X d (by omega) e a
     have B:=f hv;obtain ⟨u,k,l⟩:=ih (i+1) (v+w) (by omega) (by omega) (by omega) (by omega) (fun h=>by
      have:=r (by
       have:¬ 40<w:=by omega
       have:=mt j.2 this
       omega)
      omega) (fun h=>by
      by_cases h40:40<w
      ·have:=j.1 h40;omega
      ·have:=r (by have:=mt j.2 h40;omega);omega)
     refine ⟨u,?_,l⟩;refine Z5 rfl (Q7 (by omega) (Q7 b (Z5 (decide_eq_true hv) (Q3 s (Q7 (Z7 (by omega) (by omega)) ?_)))))
     unfold Q5k;refine Q7 (Z7 (by omega) (by omega)) ?_
     rw [<-k];congr 1
    ·obtain ⟨u,k,l⟩:=ih (i+1) v (by omega) (by omega) o p (fun h=>by omega) (fun h=>by have:=g h;omega)
     refine ⟨u,?_,l⟩;refine Z5 rfl (Q7 (by omega) (Q7 b (Q8 (decide_eq_false hv) ?_)))
     unfold Q5k;refine Q7 (Z7 (by omega) (by omega)) ?_
     rw [<-k];congr 1
   ·have m:i=t.kids_.length:=by omega
    subst m;rw [Y5r] at f g
    refine ⟨v,Q8 (decide_eq_false (by omega)) rfl,o,p,⟨g,fun h=>?_⟩,fun h=>?_⟩
    ·by_cases hv:40<v
     ·exact hv
     ·have:=f (by omega);omega
    ·by_cases hv:40<v
     ·have:=g hv;omega
     ·exact f (by omega)
def Q5s (n:Int):Bool:=n==1||(n==2||(n==4||(n==8||n==16)))
theorem Z0z (F:Nat) (n:Int):Q5H F n=some (Q5s n):=by
 unfold Q5H Q1v Q5s
 cases h1:(n==(1:Int)) <;> cases h2:(n==(2:Int)) <;> cases h3:(n==(4:Int)) <;> cases h4:(n==(8:Int)) <;> rfl
theorem Z5A (F:Nat) (n:Int):Q3B F n=some (Q5s n):=by
 unfold Q3B
 by_cases h:1<=n/\n<=16
 ·have e:n=1\/n=2\/n=3\/n=4\/n=5\/n=6\/n=7\/n=8\/n=9\/n=10\/n=11\/n=12\/n=13\/n=14\/n=15\/n=16:=by omega
  rcases e with rfl|rfl|rfl|rfl|rfl|rfl|rfl|rfl|rfl|rfl|rfl|rfl|rfl|rfl|rfl|rfl <;> rfl
 ·have b:Q5s n=false:=by
   unfold Q5s;simp only [Bool.or_eq_false_iff,beq_eq_false_iff_ne]
   omega
  rw [b];refine Q9 (fun f=>Q9 (fun a=>?_) (fun _=>rfl)) (fun _=>rfl)
  exact absurd ⟨of_decide_eq_true f,of_decide_eq_true a⟩ h
end
end Go.Ab
end
section
namespace Go.Ab
set_option maxRecDepth 20000
noncomputable section
def Z0M (t:Term):Bool:=
 if t.op_=1 then t.num_==0&&(t.more_==0&&t.kids_.length==0)
 else if t.op_=2 then (decide (0<=t.num_)&&decide (t.num_<=39))&&(t.more_==0&&t.kids_.length==0)
 else if t.op_=3 then (decide (0<=t.num_)&&decide (t.num_<=40))&&(t.more_==0&&t.kids_.length==0)
 else if t.op_=4 then Q5s t.num_&&(t.more_==0&&t.kids_.length==0)
 else if t.op_=5 then (decide (0<=t.num_)&&decide (t.num_<=15))&&(t.more_==0&&t.kids_.length==0)
 else if t.op_=6 then (decide (2<=t.num_)&&decide (t.num_<=10))&&(t.more_==0&&t.kids_.length==0)
 else if t.op_=7 then (decide (1<=t.num_)&&decide (t.num_<=10))&&(Q5s t.more_&&t.kids_.length==0)
 else if t.op_=8 then (decide (1<=t.num_)&&decide (t.num_<=10))&&(t.more_==0&&t.kids_.length==0)
 else if t.op_=9\/t.op_=10 then t.num_==0&&(t.more_==0&&decide (1<=t.kids_.length))
 else if t.op_=11 then t.num_==0&&(t.more_==0&&t.kids_.length==1)
 else false
def Q6y:Nat->Term->Bool
 | 0,_=>false
 | d+1,t=>Z0M t&&t.kids_.all (Q6y d)
def Z6B:Nat->Term->Nat
 | 0,_=>0
 | d+1,t=>1+t.kids_.foldl (fun n k=>max n (Z6B d k)) 0
def Q6a:Nat->Nat->Term->Bool
 | 0,_,_=>false
 | d+1,n,t=> !decide (n=0)&&(Z0M t&&t.kids_.all (Q6a d (n-1)))
theorem Y0F {α:Type} (f:α->Nat):∀ (l:List α) (a n:Nat),l.foldl (fun n k=>max n (f k)) a<=n↔a<=n/\∀ k ∈ l,f k<=n
 | [],a,n=>by simp
 | x::l,a,n=>by
  rw [List.foldl_cons,Y0F f l];simp only [List.mem_cons,forall_eq_or_imp]
  constructor
  ·rintro ⟨g,b⟩;exact ⟨by omega,by omega,b⟩
  ·rintro ⟨g,b,e⟩;exact ⟨by omega,e⟩
theorem Z6S:∀ (d n:Nat) (t:Term),TD d t->Q6a d n t=(decide (Z6B d t<=n)&&Q6y d t)
 | 0,_,_,h=>h.elim
 | d+1,n,t,h=>by
  unfold Q6a Z6B Q6y;have b:=h.2.2.2
  cases n with
  | zero=>simp
  | succ n=>
   have f:t.kids_.all (Q6a d (n+1-1))=(t.kids_.all (fun k=>decide (Z6B d k<=n))&&t.kids_.all (Q6y d)):=by
    rw [Bool.eq_iff_iff,Bool.and_eq_true,List.all_eq_true,List.all_eq_true,List.all_eq_true];constructor
    ·intro h
     refine ⟨fun k a=>?_,fun k a=>?_⟩ <;> (have:=h k a;rw [Nat.add_sub_cancel,Z6S d n k (b k a),Bool.and_eq_true] at this)
     ·exact this.1
     ·exact this.2
    ·rintro ⟨i,e⟩ k a
     rw [Nat.add_sub_cancel,Z6S d n k (b k a),i k a,e k a];rfl
   have g:decide (1+t.kids_.foldl (fun n k=>max n (Z6B d k)) 0<=n+1)=t.kids_.all (fun k=>decide (Z6B d k<=n)):=by
    rw [Bool.eq_iff_iff,decide_eq_true_eq,List.all_eq_true];have:=Y0F (Z6B d) t.kids_ 0 n
    simp only [decide_eq_true_eq];constructor
    ·intro h;exact (this.1 (by omega)).2
    ·intro h;have:=this.2 ⟨by omega,h⟩;omega
   rw [f,g]
   cases Z0M t <;> cases t.kids_.all (fun k=>decide (Z6B d k<=n)) <;> cases t.kids_.all (Q6y d) <;> simp
theorem Z1R:∀ (d:Nat) (_:d<=2000000) {F:Nat} (_:BIG+d<=F) {t:Term} (_:TD d t),Q3E F t=some (Z6B d t:Int)/\Z6B d t<=d
 | 0,_,_,_,_,h=>h.elim
 | d+1,_,0,hF,_,_=>by unfold BIG at hF;omega
 | d+1,hd,F+1,hF,t,h=>by
  obtain ⟨_,_,s,l⟩:=h;have a : BIG+d<=F:=by omega
  have o:=a;unfold BIG at o
  have m:t.kids_.foldl (fun n k=>max n (Z6B d k)) 0<=d:=(Y0F _ _ _ _).2 ⟨by omega,fun k f=>(Z1R d (by omega) a (l k f)).2⟩;refine ⟨?_,by unfold Z6B;omega⟩
  show Q9w F (Q3E F) t=_;unfold Q9w
  suffices hs:∀ (n:Nat) (i:Nat) (v:Nat),t.kids_.length-i<n->i<=t.kids_.length->(t.kids_.drop i).foldl (fun n k=>max n (Z6B d k)) v=t.kids_.foldl (fun n k=>max n (Z6B d k)) 0->v<=d ->
    Z3 (fun again (z:Int×Int)=>Q7N F (Q3E F) t again z.1 z.2) n ((v:Int),(i:Int))=some ((Z6B (d+1) t:Nat):Int) by
   exact hs F 0 0 (by omega) (by omega) rfl (by omega)
  intro n
  induction n with
  | zero=>intro i v h;omega
  | succ n ih=>
   intro i v w r e q;show Q7N F (Q3E F) t (Z3 _ n) (v:Int) (i:Int)=_
   unfold Q7N
   by_cases hil:i<t.kids_.length
   ·have b:=l _ (W9 hil)
    obtain ⟨p,u⟩:=Z1R d (by omega) a b;rw [Q1F hil,List.foldl_cons] at e
    have g:=ih (i+1) (max v (Z6B d (gl t.kids_ i))) (by omega) (by omega) e (by omega);refine Z5 (decide_eq_true (by omega)) (Q7 (by omega) (Q7 b.op (Q3 p (Q7 (Z7 (by omega) (by omega)) ?_))))
    rw [<-g];congr 1
    refine Prod.ext ?_ rfl;show Q0x _ _=_
    unfold Q0x;split <;> omega
   ·have j:i=t.kids_.length:=by omega
    subst j;rw [List.drop_length,List.foldl_nil] at e
    refine Q8 (decide_eq_false (by omega)) ?_;unfold Z1S
    refine Q7 (Z7 (by omega) (by omega)) ?_;unfold Z6B
    rw [<-e];congr 1;omega
theorem Z7K:∀ (d:Nat) {F:Nat} (_:BIG+d<=F) {t:Term} (_:TD d t),Q0a F t=some (Q6y d t)
 | 0,_,_,_,h=>h.elim
 | d+1,0,hF,_,_=>by unfold BIG at hF;omega
 | d+1,F+1,hF,t,h=>by
  obtain ⟨_,_,D,v⟩:=h;have o : BIG+d<=F:=by omega
  have B:=o;unfold BIG at B
  show Z1i F (Q0a F) t=_;have k:Z3 (fun f (z:Int)=>Q4r F (Q0a F) t f z) F (0:Int)=some (t.kids_.all (Q6y d)):=by
   refine Y5I (fun l=>some (l.all (Q6y d))) (fun f i q r=>?_) (fun f=>?_) (by omega)
   ·show Q4r F (Q0a F) t f (i:Int)=_
    unfold Q4r;have m:=v _ (W9 q)
    refine Z5 (decide_eq_true (by omega)) (Q7 (by omega) (Q7 m.op (Q3 (Z7K d o m) ?_)));show br (!Q6y d (gl t.kids_ i)) _ _=some (Q6y d (gl t.kids_ i)&&_)
    cases Q6y d (gl t.kids_ i) with
    | false=>rfl
    | true=>exact Q8 rfl (Q7 (Z7 (by omega) (by omega)) r)
   ·show Q4r F (Q0a F) t f (t.kids_.length:Int)=_
    unfold Q4r;exact Q8 (decide_eq_false (by omega)) rfl
  have k2:∀ b,Q4p F (Q0a F) t b=some (!b&&t.kids_.all (Q6y d)):=fun b=>by
   unfold Q4p
   cases b with
   | true=>rfl
   | false=>exact Q8 rfl k
  have k1:∀ (n:Int) (a b:Bool),W3 F (Q0a F) t n a b=some ((b&&(a&&((t.kids_.length:Nat):Int)==n))&&t.kids_.all (Q6y d)):=fun n a b=>by
   unfold W3
   cases b <;> cases a
   ·rw [k2];rfl
   ·rw [k2];rfl
   ·exact Q8 rfl (Z5 rfl (k2 _))
   ·refine Q8 rfl (Q8 rfl ((k2 _).trans ?_))
    congr 2
    rw [bne,Bool.not_not];rfl
  have s:∀ (n:Nat),(((t.kids_.length:Nat):Int)==(n:Int))=(t.kids_.length==n):=fun n=>by
   rw [Bool.eq_iff_iff,beq_iff_eq,beq_iff_eq];omega
  have u:(((t.kids_.length:Nat):Int)==((t.kids_.length:Nat):Int))=true:=by simp
  have w:(decide ((0:Int)<((t.kids_.length:Nat):Int)))=decide (1<=t.kids_.length):=by rw [Bool.eq_iff_iff,decide_eq_true_eq,decide_eq_true_eq];omega
  have g:(((t.kids_.length:Nat):Int)==0)=(t.kids_.length==0):=s 0;have C:(((t.kids_.length:Nat):Int)==1)=(t.kids_.length==1):=s 1
  unfold Z1i Q6y Z0M;have K:∀ {x:Option Bool} {n:Int} {a b c:Bool},x=W3 F (Q0a F) t n a b->(b&&(a&&((t.kids_.length:Nat):Int)==n))=c->x=some (c&&t.kids_.all (Q6y d)):=fun h e=>by rw [h,k1,e]
  have R:∀ {lo q:Int} {a:Bool} {c:Bool},(W3 F (Q0a F) t 0 a (decide (lo<=t.num_)&&decide (t.num_<=q)))=some c->br (decide (lo<=t.num_)) (W3 F (Q0a F) t 0 a (decide (t.num_<=q))) (W3 F (Q0a F) t 0 a false)=some c:=fun h=>by
   rw [<-h];cases decide (_<=t.num_) <;> rfl
  by_cases h1:t.op_=1
  ·rw [if_pos h1]
   exact Z5 (by simp [h1]) (K rfl (by rw [g]))
  rw [if_neg h1];refine Q8 (by simp [h1]) ?_
  by_cases h2:t.op_=2
  ·rw [if_pos h2]
   refine Z5 (by simp [h2]) ?_;rw [show decide (t.num_<40)=decide (t.num_<=39) from decide_eq_decide.2 (by omega)]
   exact R (K rfl (by rw [g]))
  rw [if_neg h2];refine Q8 (by simp [h2]) ?_
  by_cases h3:t.op_=3
  ·rw [if_pos h3]
   exact Z5 (by simp [h3]) (R (K rfl (by rw [g])))
  rw [if_neg h3];refine Q8 (by simp [h3]) ?_
  by_cases h4:t.op_=4
  ·rw [if_pos h4]
   exact Z5 (by simp [h4]) (Q3 (Z0z F _) (K rfl (by rw [g])))
  rw [if_neg h4];refine Q8 (by simp [h4]) ?_
  by_cases h5:t.op_=5
  ·rw [if_pos h5]
   exact Z5 (by simp [h5]) (R (K rfl (by rw [g])))
  rw [if_neg h5];refine Q8 (by simp [h5]) ?_
  by_cases h6:t.op_=6
  ·rw [if_pos h6]
   exact Z5 (by simp [h6]) (R (K rfl (by rw [g])))
  rw [if_neg h6];refine Q8 (by simp [h6]) ?_
  by_cases h7:t.op_=7
  ·rw [if_pos h7]
   refine Z5 (by simp [h7]) ?_;refine Q9 (fun j=>Q3 (Z0z F _) (K rfl ?_)) (fun j=>Q3 (Z0z F _) (K rfl ?_))
   ·rw [g,j,Bool.true_and]
   ·rw [j];rfl
  rw [if_neg h7];refine Q8 (by simp [h7]) ?_
  by_cases j:t.op_=8
  ·rw [if_pos j]
   exact Z5 (by simp [j]) (R (K rfl (by rw [g])))
  rw [if_neg j];refine Q8 (by simp [j]) ?_
  have p:Q4q F (Q0a F) t true=some ((t.num_==0&&(t.more_==0&&decide (1<=t.kids_.length)))&&t.kids_.all (Q6y d)):=by
   unfold Q4q;refine Z5 rfl (Q9 (fun h=>K rfl ?_) (fun h=>K rfl ?_))
   ·rw [u,w,h,Bool.true_and,Bool.and_true,Bool.and_comm]
   ·rw [h];rfl
  by_cases h9:t.op_=9\/t.op_=10
  ·rw [if_pos h9]
   refine Q9 (fun h=>?_) (fun h=>?_)
   ·rw [h];exact p
   ·have:t.op_=10:=by simp at h;omega
    rw [this];exact p
  rw [if_neg h9];refine Q8 (by simp;omega) ?_
  rw [show (t.op_==(10:Int))=false by simp;omega];unfold Q4q
  refine Q8 rfl ?_
  by_cases h11:t.op_=11
  ·rw [if_pos h11]
   exact Z5 (by simp [h11]) (K rfl (by rw [C]))
  ·rw [if_neg h11]
   exact Q8 (by simp [h11]) (K rfl rfl)
end
end Go.Ab
end
section
namespace Go.Ab
set_option maxRecDepth 20000
noncomputable section
theorem Z2V {F:Nat} {l:List Term} {q:Term->Option Bool} (p:Term->Bool) (hF:l.length<F) (hl:l.length<=1000000000) (ho:∀ r ∈ l,I64 r.op_) (hq:∀ r ∈ l,q r=some (p r)):∃ i:Int,Q2f F l q=some i/\(0<=i↔l.any p=true):=by
 unfold Q2f
 suffices hs:∀ (n i:Nat),l.length-i<n->i<=l.length->∃ j:Int,Z3 (fun again (z:Int)=>Q1a F l q again z) n (i:Int)=some j/\(0<=j↔(l.drop i).any p=true) by
  simpa using hs F 0 (by omega) (by omega)
 intro n
 induction n with
 | zero=>intro i h;omega
 | succ n ih=>
  intro i g f;show ∃ j:Int,Q1a F l q (Z3 _ n) (i:Int)=some j/\_
  unfold Q1a
  by_cases hil:i<l.length
  ·have a:=W9 hil
   rw [Y3o hil]
   cases hp:p (gl l i) with
   | true=>exact ⟨i,Z5 (decide_eq_true (by omega)) (Q7 (by omega) (Q7 (ho _ a) (Q3 (hq _ a) (Z5 hp rfl)))),by simp⟩
   | false=>
    obtain ⟨j,e,b⟩:=ih (i+1) (by omega) (by omega);refine ⟨j,Z5 (decide_eq_true (by omega)) (Q7 (by omega) (Q7 (ho _ a) (Q3 (hq _ a) (Q8 hp (Q7 (Z7 (by omega) (by omega)) ?_))))),by simpa using b⟩
    rw [<-e];congr 1
  ·refine ⟨-1,Q8 (decide_eq_false (by omega)) rfl,?_⟩
   rw [List.drop_eq_nil_of_le (by omega)];simp
theorem Z0Z {F:Nat} {l:List Term} {q:Term->Option Bool} (p:Term->Bool) (hF:l.length<F) (hl:l.length<=1000000000) (ho:∀ r ∈ l,I64 r.op_) (hq:∀ r ∈ l,q r=some (p r)):Q1d F l q=some (l.any p):=by
 obtain ⟨i,a,b⟩:=Z2V p hF hl ho hq;unfold Q1d
 refine Q3 a ?_;rw [Option.some.injEq,Bool.eq_iff_iff,decide_eq_true_eq];exact b
def Y0u (n:Int):Int×Int×Bool:=if n=2 then (0,39,true) else if n=3 then (0,40,true) else if n=4 then (1,16,true) else if n=5 then (0,15,true) else if n=6 then (2,10,true) else if n=7\/n=8 then (1,10,true) else (0,0,false)
def Z3k (n:Int):Int×Int:=if n=9\/n=10 then (1,40) else if n=11 then (1,1) else (0,0)
theorem Y1Y (F:Nat) (n:Int):Z2r F n=some (Y0u n):=by
 unfold Z2r Y0u Q7z
 by_cases h2:n=2
 ·subst h2;rfl
 by_cases h3:n=3
 ·subst h3;rfl
 by_cases h4:n=4
 ·subst h4;rfl
 by_cases h5:n=5
 ·subst h5;rfl
 by_cases h6:n=6
 ·subst h6;rfl
 by_cases h7:n=7
 ·subst h7;rfl
 by_cases h8:n=8
 ·subst h8;rfl
 have e:∀ m:Int,n≠m->(n==m)=false:=fun m h=>by simpa using h
 rw [e 2 h2,e 3 h3,e 4 h4,e 5 h5,e 6 h6,e 7 h7,e 8 h8,if_neg h2,if_neg h3,if_neg h4,if_neg h5,if_neg h6,if_neg (by omega)];rfl
theorem Y4y (F:Nat) (n:Int):Z6P F n=some (Z3k n):=by
 unfold Z6P Z3k Z0T;have e:∀ m:Int,n≠m->(n==m)=false:=fun m h=>by simpa using h
 by_cases h2:n=9
 ·subst h2;rfl
 by_cases h3:n=10
 ·subst h3;rfl
 by_cases h4:n=11
 ·subst h4;rfl
 rw [e 9 h2,e 10 h3,e 11 h4,if_neg (by omega),if_neg h4];rfl
def W0J (t:Term):Bool:=((Y0u t.op_).2.2&&(decide (t.num_<(Y0u t.op_).1)||decide ((Y0u t.op_).2.1<t.num_)))||(!(Y0u t.op_).2.2&&t.num_ != 0)
def Y7x (t:Term):Bool:=(t.op_==4 && !Q5s t.num_)||((t.op_==7 && !Q5s t.more_)||(t.op_ != 7&&t.more_ != 0))
def Y6q (t:Term):Bool:=decide (((t.kids_.length:Nat):Int)<(Z3k t.op_).1)||decide ((Z3k t.op_).2<((t.kids_.length:Nat):Int))
theorem Y9P {t:Term} (hl:t.kids_.length<=40):(!(decide (t.op_<1)||decide (11<t.op_))&&(!W0J t&&(!Y7x t && !Y6q t)))=Z0M t:=by
 have f:∀ n:Int,Q5s n=true->1<=n/\n<=16:=fun n h=>by
  unfold Q5s at h;simp only [Bool.or_eq_true,beq_iff_eq] at h;omega
 have k:∀ n:Nat,(t.kids_.length==n)=decide (t.kids_.length=n):=fun n=>by rw [Bool.eq_iff_iff,beq_iff_eq,decide_eq_true_eq]
 rw [Bool.eq_iff_iff];unfold W0J Y7x Y6q Y0u Z3k Z0M
 generalize t.op_=o,t.num_=n,t.more_=m at *;have i:∀ {p q:Prop},(p↔q)->(p↔q):=fun h=>h
 by_cases h:o<1\/11<o
 ·rw [show (decide (o<1)||decide (11<o))=true by simpa using h]
  have e:∀ m:Int,1<=m->m<=11->¬ o=m:=fun m _ _=>by omega
  simp [e 1,e 2,e 3,e 4,e 5,e 6,e 7,e 8,e 9,e 10,e 11]
 have j:o=1\/o=2\/o=3\/o=4\/o=5\/o=6\/o=7\/o=8\/o=9\/o=10\/o=11:=by omega
 rcases j with rfl|rfl|rfl|rfl|rfl|rfl|rfl|rfl|rfl|rfl|rfl <;> simp <;> (try omega)
 constructor
 ·rintro ⟨_,⟨a,g⟩,b⟩;exact ⟨a,g,b⟩
 ·rintro ⟨a,g,b⟩;exact ⟨f _ a,⟨a,g⟩,b⟩
theorem Z7D:∀ (d:Nat) {F:Nat} (_:BIG+d<=F) {t:Term} (_:TD d t) (_:szD d t<=40) (n:Nat) (_:n<=8),U3 F t (n:Int)=some (Q6a d n t)
 | 0,_,_,_,h,_,_,_=>h.elim
 | d+1,0,hF,_,_,_,_,_=>by unfold BIG at hF;omega
 | d+1,F+1,hF,t,h,hs,n,hn=>by
  obtain ⟨_,_,E,f⟩:=h;have g : BIG+d<=F:=by omega
  have D:=g;unfold BIG at D
  have r:t.kids_.length<=39:=by
   have:t.kids_.length<=(t.kids_.map (szD d)).sum:=by
    have:∀ l:List Term,(∀ k ∈ l,TD d k)->l.length<=(l.map (szD d)).sum:=by
     intro l
     induction l with
     | nil=>intro _;simp
     | cons x l ih=>intro p;have:=W1n (p x (by simp));have:=ih fun k f=>p k (by simp [f]);simp;omega
    exact this _ f
   unfold szD at hs;omega
  have o:∀ k ∈ t.kids_,szD d k<=40:=fun k a=>by
   obtain ⟨i,q,rfl⟩:=List.getElem_of_mem a;have C:=Z9Z (d:=d) q
   have G:=Y0a (d:=d) (i:=i+1) (t:=t);rw [y7 q] at C;omega
  show Z0S F (U3 F) t (n:Int)=_;unfold Z0S
  refine Q3 (Y1Y F _) (Q3 (Y4y F _) ?_);have w:∀ b,n≠0->Q4l F (U3 F) t (n:Int) b=some (!b&&t.kids_.all (Q6a d (n-1))):=fun b e=>by
   unfold Q4l
   cases b with
   | true=>rfl
   | false=>
    refine Q8 rfl (Q3 (Z0Z (fun k=> !Q6a d (n-1) k) (by omega) (by omega) (fun k a=>(f k a).op) fun k a=>?_) ?_)
    ·unfold Z4b
     refine Q7 (Z7 (by omega) (by omega)) ?_;rw [show ((n:Int)-1)=((n-1:Nat):Int) by omega]
     exact Q3 (Z7D d g (f k a) (o k a) (n-1) (by omega)) rfl
    ·rw [Bool.not_false,Bool.true_and,List.not_any_eq_all_not];simp
  have k2:∀ b,n≠0->W6 F (U3 F) t (n:Int) (Z3k t.op_) b=some (!b&&(!Y6q t&&t.kids_.all (Q6a d (n-1)))):=fun b e=>by
   unfold W6 Y6q
   cases b with
   | true=>rfl
   | false=>
    refine Q8 rfl ?_;rw [Q7o (fun b=>Q4l F (U3 F) t (n:Int) b),w _ e];rfl
  have k1:∀ b,n≠0->Q0y F (U3 F) t (n:Int) (Z3k t.op_) b=some (!b&&(!Y7x t&&(!Y6q t&&t.kids_.all (Q6a d (n-1))))):=fun b e=>by
   unfold Q0y Y7x
   cases b with
   | true=>rfl
   | false=>
    refine Q8 rfl ?_;have u:(Q3B F t.more_).bind (fun z=>br (!z) (W6 F (U3 F) t (n:Int) (Z3k t.op_) true) (br (t.op_ != (7:Int)) (W6 F (U3 F) t (n:Int) (Z3k t.op_) (t.more_ != (0:Int))) (W6 F (U3 F) t (n:Int) (Z3k t.op_) false)))=W6 F (U3 F) t (n:Int) (Z3k t.op_) (!Q5s t.more_||(t.op_ != 7&&t.more_ != 0)):=by
     refine Q3 (Z5A F _) ?_
     cases Q5s t.more_ <;> cases (t.op_ != (7:Int)) <;> rfl
    have s:(br (t.op_==(7:Int)) ((Q3B F t.more_).bind (fun z=>br (!z) (W6 F (U3 F) t (n:Int) (Z3k t.op_) true) (br (t.op_ != (7:Int)) (W6 F (U3 F) t (n:Int) (Z3k t.op_) (t.more_ != (0:Int))) (W6 F (U3 F) t (n:Int) (Z3k t.op_) false)))) (br (t.op_ != (7:Int)) (W6 F (U3 F) t (n:Int) (Z3k t.op_) (t.more_ != (0:Int))) (W6 F (U3 F) t (n:Int) (Z3k t.op_) false)))
      = W6 F (U3 F) t (n:Int) (Z3k t.op_) ((t.op_==7 && !Q5s t.more_)||(t.op_ != 7&&t.more_ != 0)):=by
     rw [u]
     cases h7:(t.op_==(7:Int)) with
     | true=>rw [show (t.op_ != (7:Int))=false by rw [bne,h7];rfl];cases Q5s t.more_ <;> rfl
     | false=>rw [show (t.op_ != (7:Int))=true by rw [bne,h7];rfl];rfl
    rw [s];refine Q9 (fun m=>Q3 (Z5A F _) ?_) (fun m=>?_)
    ·rw [m,Bool.true_and]
     cases Q5s t.num_ with
     | false=>refine Z5 rfl ((k2 _ e).trans ?_);rfl
     | true=>refine Q8 rfl ((k2 _ e).trans ?_);rfl
    ·rw [m];exact k2 _ e
  have B:∀ b,(b=false->n≠0)->Q1G F (U3 F) t (n:Int) (Y0u t.op_) (Z3k t.op_) b=some (!b&&(!W0J t&&(!Y7x t&&(!Y6q t&&t.kids_.all (Q6a d (n-1)))))):=fun b v=>by
   unfold Q1G W0J
   cases b with
   | true=>rfl
   | false=>
    have e:=v rfl;refine Q8 rfl ?_
    have k1:=fun b=>k1 b e
    generalize hK:Q0y F (U3 F) t (n:Int) (Z3k t.op_)=K at k1 ⊢;generalize (!Y7x t&&(!Y6q t&&t.kids_.all (Q6a d (n-1))))=rest at k1 ⊢
    generalize (t.num_ != 0)=nz
    cases (Y0u t.op_).2.2 <;> cases decide (t.num_<(Y0u t.op_).1) <;> cases decide ((Y0u t.op_).2.1<t.num_) <;> cases nz <;> simp only [br,k1] <;> rfl
  have j:(((n:Int))==0)=decide (n=0):=by rw [Bool.eq_iff_iff,beq_iff_eq,decide_eq_true_eq];omega
  rw [j];rw [Q7o (fun b=>Q1G F (U3 F) t (n:Int) (Y0u t.op_) (Z3k t.op_) b),Q7o (fun b=>Q1G F (U3 F) t (n:Int) (Y0u t.op_) (Z3k t.op_) b)]
  rw [B _ (fun h=>by simp only [Bool.or_eq_false_iff,decide_eq_false_iff_not] at h;exact h.2.2)];unfold Q6a
  rw [<-Y9P (t:=t) (by omega)]
  cases decide (t.op_<1) <;> cases decide (11<t.op_) <;> cases decide (n=0) <;> cases W0J t <;> cases Y7x t <;> cases Y6q t <;> rfl
def Q8A (d:Nat) (t:Term):Int:=if 40<szD d t then 1 else if Q6a d 8 t=true then 0 else 16
theorem Z7F {d F:Nat} (hF:BIG+d<=F) {t:Term} (h:TD d t):Z1A F t=some (Q8A d t):=by
 unfold Z1A Q8A;obtain ⟨v,f,_,_,b,_⟩:=Z7E d hF h (m:=40) (by omega) (by omega)
 refine Q3 f (Q9 (fun a=>?_) (fun a=>?_))
 ·have:=b.1 (of_decide_eq_true a);rw [if_pos (by omega)]
 ·have e:¬ 40<szD d t:=fun h=>of_decide_eq_false a (b.2 (by omega))
  rw [if_neg e];refine Q3 (Z7D d hF h (by omega) 8 (by omega)) ?_
  cases Q6a d 8 t <;> rfl
theorem Y2s {d F:Nat} (hd:d<=2000000) (hF:BIG+d<=F) {t:Term} (h:TD d t):Z2C F t=some (Q8A d t):=by
 unfold Z2C Q8A;obtain ⟨v,g,_,_,e,_⟩:=Z5X d hd hF h
 refine Q3 g (Q9 (fun b=>?_) (fun b=>?_))
 ·have:=e.1 (of_decide_eq_true b);rw [if_pos (by omega)]
 ·have f:¬ 40<szD d t:=fun h=>of_decide_eq_false b (e.2 (by omega))
  rw [if_neg f,Z6S d 8 t h];refine Q3 (Z1R d hd hF h).1 (Q9 (fun a=>?_) (fun a=>?_))
  ·have a:=of_decide_eq_true a
   rw [decide_eq_false (by omega)];rfl
  ·have a:=of_decide_eq_false a
   rw [decide_eq_true (by omega)];refine Q3 (Z7K d hF h) ?_
   unfold Q7P
   cases Q6y d t <;> rfl
theorem Y2b (d:Nat):Q8A (d+1) ⟨1,0,0,[]⟩=0:=by
 unfold Q8A;rw [if_neg (by simp [szD]),if_pos]
 simp [Q6a,Z0M]
end
end Go.Ab
end
section
namespace Go.Ab
set_option maxRecDepth 20000
noncomputable section
def atS (y:Int) (cs:List Crop) (hs:List Rg_) (zs:List A2_) (d c:Int) (A:List Rect) (t:Term):TS:=
 if t.op_=2 then Z8J A (c==t.num_)
 else if t.op_=3 then Z8J A ((gl cs c.toNat).f_==t.num_)
 else if t.op_=4 then Z8J A (Y2O cs c t.num_)
 else if t.op_=5 then Y1C A (inR (Q0q zs d fun k=>k==t.num_))
 else if t.op_=6 then smS A hs cs y (gl cs c.toNat).f_ (t.num_.toNat-1)
 else if t.op_=7 then ⟨knS A hs (y-t.num_) fun k=>Y2O cs k t.more_,knS A hs (y-t.num_) fun k=> !Y2O cs k t.more_⟩
 else if t.op_=8 then Y1C A (inR (yrs hs (y-t.num_) fun _=>true))
 else Z8J A true
def evS (y:Int) (cs:List Crop) (hs:List Rg_) (zs:List A2_) (d c:Int) (A:List Rect):Nat->Term->TS
 | 0,_=>Z8J A true
 | e+1,t=>
  if t.op_=9 then ⟨fun u v=>inR A u v&&t.kids_.all fun k=>(evS y cs hs zs d c A e k).Y u v,fun u v=>t.kids_.any fun k=>(evS y cs hs zs d c A e k).N u v⟩
  else if t.op_=10 then ⟨fun u v=>t.kids_.any fun k=>(evS y cs hs zs d c A e k).Y u v,fun u v=>inR A u v&&t.kids_.all fun k=>(evS y cs hs zs d c A e k).N u v⟩
  else if t.op_=11 then ⟨(evS y cs hs zs d c A e (gl t.kids_ 0)).N,(evS y cs hs zs d c A e (gl t.kids_ 0)).Y⟩
  else atS y cs hs zs d c A t
variable {F:Nat} {cs:List Crop} {hs:List Rg_} {zs:List A2_} {y c d:Int} {A:List Rect}
theorem TIn.turn {s:TS} (h:TIn A s):TIn A ⟨s.N,s.Y⟩:=⟨h.fN,h.fY,h.sN,h.sY⟩
theorem W3s (t:Term):TIn A (atS y cs hs zs d c A t):=by
 unfold atS
 repeat' split
 ·exact Y0R _ _
 ·exact Y0R _ _
 ·exact Y0R _ _
 ·exact W0v (K2 _)
 ·exact Y7K _ _ _ _ _ _
 ·exact ⟨Z4G _ _ _ _,Z4G _ _ _ _,fun _ _ h=>Y0w h,fun _ _ h=>Y0w h⟩
 ·exact W0v (K2 _)
 ·exact Y0R _ _
theorem Y8e {B:Sq} (hB:Fin B) {α:Type} (f:α->Sq):∀ (l:List α),(∀ k ∈ l,Fin (f k))->Fin fun u v=>B u v&&l.all fun k=>f k u v
 | [],_=>by simpa using hB
 | k::l,h=>by
  have b:=Z4H (Y8e hB f l fun j a=>h j (List.mem_cons_of_mem _ a)) (h k List.mem_cons_self);have e:(fun u v=>(B u v&&l.all fun k=>f k u v)&&f k u v)=fun u v=>B u v&&(k::l).all fun k=>f k u v:=by
   funext u v
   rw [List.all_cons]
   cases B u v <;> cases f k u v <;> simp
  rw [<-e];exact b
theorem Y5a {α:Type} (f:α->Sq):∀ (l:List α),(∀ k ∈ l,Fin (f k))->Fin fun u v=>l.any fun k=>f k u v
 | [],_=>by simpa using Y6c
 | k::l,h=>by
  have a:=Y7n (h k List.mem_cons_self) (Y5a f l fun j b=>h j (List.mem_cons_of_mem _ b));simpa using a
theorem Y7A {α:Type} (f:α->TS) (l:List α) (h:∀ k ∈ l,TIn A (f k)):TIn A ⟨fun u v=>inR A u v&&l.all fun k=>(f k).Y u v,fun u v=>l.any fun k=>(f k).N u v⟩:=by
 refine ⟨Y8e (K2 A) (fun k=>(f k).Y) l fun k a=>(h k a).fY,Y5a (fun k=>(f k).N) l fun k a=>(h k a).fN,fun u v b=>?_,fun u v b=>?_⟩
 ·simp only [Bool.and_eq_true] at b
  exact b.1
 ·obtain ⟨k,a,e⟩:=List.any_eq_true.1 b
  exact (h k a).sN u v e
theorem Y3a:∀ (e:Nat) (t:Term),TIn A (evS y cs hs zs d c A e t)
 | 0,_=>Y0R _ _
 | e+1,t=>by
  unfold evS;split
  ·exact Y7A _ _ fun k _=>Y3a e k
  split
  ·exact (Y7A (fun k=>⟨(evS y cs hs zs d c A e k).N,(evS y cs hs zs d c A e k).Y⟩) t.kids_ fun k _=>(Y3a e k).turn).turn
  split
  ·exact (Y3a e _).turn
  ·exact W3s t
structure PL (p:TermPlace) (y:Int) (cs:List Crop) (hs:List Rg_) (zs:List A2_) (d c:Int) (A:List Rect):Prop where
 yr:p.world_.y_=y
 cs:p.world_.crops_=cs
 hs:p.world_.history_=hs
 zs:p.world_.zones_=zs
 dd:p.world_.day_=d
 cr:p.line_.c_=c
 re:p.t_=A
theorem Y6T {n:Nat} {L:List A2_} (h:∀ f ∈ L,Box n f.g_.t_) (d:Int) (p:Int->Bool):Box n (Q0q L d p):=fun r a=>by
 unfold Q0q at a;obtain ⟨f,b,e⟩:=List.mem_flatMap.1 a
 exact h f (List.mem_filter.1 b).1 r e
theorem W3j {t:Term} (hn:Z0M t=true) (q:t.op_=6):2<=t.num_/\t.num_<=10:=by
 unfold Z0M at hn;simp [q] at hn
 omega
theorem W3i {t:Term} (hn:Z0M t=true) (q:t.op_=7):(1<=t.num_/\t.num_<=10)/\Q5s t.more_=true:=by
 unfold Z0M at hn;simp [q] at hn
 exact ⟨by omega,hn.2.1⟩
theorem W3h {t:Term} (hn:Z0M t=true) (q:t.op_=8):1<=t.num_/\t.num_<=10:=by
 unfold Z0M at hn;simp [q] at hn
 omega
theorem Y9Y {n:Nat} {L:List A2_} (h:LB n L) {f:A2_} (hf:f ∈ L):Val f.g_.t_:=((Z6W f).1 (h.vl.one f hf)).2.2.2.2.2.2.2.2
theorem LB.few' {n:Nat} {L:List A2_} (h:LB n L) (d:Int) (p:Int->Bool):(Q0q L d p).length<=7200:=by
 have b:=h.vl.len;have:∀ (M:List A2_),(∀ f ∈ M,f.g_.t_.length<=120)->(Q0q M d p).length<=120*M.length:=by
  intro M
  induction M with
  | nil=>intro _;simp [Q0q]
  | cons f M ih=>
   intro a;rw [Z6k]
   have k:=a f List.mem_cons_self;have j:=ih fun g i=>a g (List.mem_cons_of_mem _ i)
   rw [List.length_append,List.length_cons];split
   ·omega
   ·simp;omega
 have:=this L fun f e=>(Y9Y h e).1
 omega
theorem Y4z (hF:BIG<=F) (h:EV y cs hs zs c A) {p:TermPlace} (hp:PL p y cs hs zs d c A) {t:Term} (hn:Z0M t=true):Q6H F p t=some ((atS y cs hs zs d c A t).sqs A):=by
 have b:=h.tr.val;have m:=h.crop
 unfold Q6H atS;refine Q9 (fun q=>?_) fun B=>Q9 (fun q=>?_) fun C=>Q9 (fun q=>?_) fun K=>Q9 (fun q=>?_) fun w=>Q9 (fun q=>?_) fun L=>Q9 (fun q=>?_) fun J=>Q9 (fun q=>?_) fun x=>?_
 ·have q:=eq_of_beq q
  rw [if_pos q,hp.cr];exact Q3 (Q9p hp.re b _) rfl
 ·have q:=eq_of_beq q
  rw [if_neg (by omega),if_pos q,hp.cr,hp.cs];exact Q7 m (Q3 (Q9p hp.re b _) rfl)
 ·have q:=eq_of_beq q
  rw [if_neg (by omega),if_neg (by omega),if_pos q,hp.cr,hp.cs];exact Q3 (Z6D F cs c t.num_) (Q3 (Q9p hp.re b _) rfl)
 ·have q:=eq_of_beq q
  rw [if_neg (by omega),if_neg (by omega),if_neg (by omega),if_pos q,hp.zs,hp.dd];have G:=Y6T h.zs.box d fun k=>k==t.num_
  refine Q3 (Z3O hF (by have:=h.zs.vl.len;omega) (fun f H=>(Y9Y h.zs H).1) d (fun k=>k==t.num_) fun f _=>rfl) ?_;refine Q3 (Q3z hF (a:=p.t_) (by rw [hp.re];exact b.le8) (by have:=h.zs.few' d fun k=>k==t.num_;omega) (by rw [hp.re];exact b.pos) (fun r I=>(G r I).2.1) (S:=inR A) (by rw [hp.re]) rfl (k:=fun u v=>u&&v) rfl (Z0V F)) ?_
  exact Q3 (Z4Q hF hp.re h.tr (K2 _)) rfl
 ·have q:=eq_of_beq q
  rw [if_neg (by omega),if_neg (by omega),if_neg (by omega),if_neg (by omega),if_pos q];have o:=W3j hn q
  have:=Y4x hF h hp.hs hp.yr hp.re hp.cs hp.cr (n:=t.num_.toNat) (by omega) (by omega)
  rw [Int.toNat_of_nonneg (by omega)] at this;exact Q3 this rfl
 ·have q:=eq_of_beq q
  rw [if_neg (by omega),if_neg (by omega),if_neg (by omega),if_neg (by omega),if_neg (by omega),if_pos q];have o:=(W3i hn q).1
  have j:∀ f ∈ hs,Q2y F f.c_ p t=some (Y2O cs f.c_ t.more_):=fun f _=>by
   unfold Q2y;rw [hp.cs]
   exact Q3 (Z6D F cs _ _) rfl
  have D:∀ f ∈ hs,Q2x F f.c_ p t=some (!Y2O cs f.c_ t.more_):=fun f _=>by
   unfold Q2x;rw [hp.cs]
   exact Q3 (Z6D F cs _ _) rfl
  have E:TIn A ⟨knS A hs (y-t.num_) fun k=>Y2O cs k t.more_,knS A hs (y-t.num_) fun k=> !Y2O cs k t.more_⟩:=⟨Z4G _ _ _ _,Z4G _ _ _ _,fun _ _ h=>Y0w h,fun _ _ h=>Y0w h⟩;have i:=Q6j hF h hp.hs hp.yr hp.re (n:=t.num_) (q:=fun g=>Q2y F g p t) (by omega) (by omega) (fun k=>Y2O cs k t.more_) j
  have l:=Q6j hF h hp.hs hp.yr hp.re (n:=t.num_) (q:=fun g=>Q2x F g p t) (by omega) (by omega) (fun k=> !Y2O cs k t.more_) D;have s:=Z4c hF hp.re h.tr E
  exact Q3 i (Q3 l (Q3 s rfl))
 ·have q:=eq_of_beq q
  rw [if_neg (by omega),if_neg (by omega),if_neg (by omega),if_neg (by omega),if_neg (by omega),if_neg (by omega),if_pos q];have o:=W3h hn q
  have j:∀ f ∈ hs,Z2M F f.c_=some true:=fun _ _=>rfl
  have i:=Q6j hF h hp.hs hp.yr hp.re (n:=t.num_) (q:=fun g=>Z2M F g) (by omega) (by omega) (fun _=>true) j;have l:=Z4Q hF hp.re h.tr (S:=inR (yrs hs (y-t.num_) fun _=>true)) (K2 _)
  exact Q3 i (Q3 l rfl)
 ·have z:∀ {k:Int},(t.op_==k)=false->¬ t.op_=k:=fun h e=>by rw [e] at h;simp at h
  rw [if_neg (z B),if_neg (z C),if_neg (z K),if_neg (z w),if_neg (z L),if_neg (z J),if_neg (z x)];exact Q3 (Q9p hp.re b _) rfl
def Z7x (A:List Rect) (l:List TS):TS:=⟨fun u v=>inR A u v&&l.all fun k=>k.Y u v,fun u v=>l.any fun k=>k.N u v⟩
theorem W0w {l:List TS} (h:∀ s ∈ l,TIn A s):TIn A (Z7x A l):=Y7A (fun k=>k) l h
theorem W0x (l:List TS) (s:TS):Z7x A (l++[s])=⟨fun u v=>(Z7x A l).Y u v&&s.Y u v,fun u v=>(Z7x A l).N u v||s.N u v⟩:=by
 unfold Z7x;congr 1
 ·funext u v;simp [List.all_append,Bool.and_assoc]
 ·funext u v;simp [List.any_append]
theorem Y5o (hF:BIG<=F) {p:TermPlace} (e3:p.t_=A) (ht:TR A) {l:List TS} (hl:∀ s ∈ l,TIn A s) (hlen:l.length<=1000000):Q3h F p (l.map (TS.sqs A))=some ((Z7x A l).sqs A):=by
 have h:=hF;unfold BIG at h
 unfold Q3h;have e:∀ (m f k:Nat),k+m=l.length->m<f->Z3 (fun again (z:(List Rect)×(List Rect)×Int)=>Q1l F p (l.map (TS.sqs A)) again z.1 z.2.1 z.2.2) f (cn (Z7x A (l.take k)).Y,cn (Z7x A (l.take k)).N,((k:Nat):Int))=some ((Z7x A l).sqs A):=by
  intro m
  induction m with
  | zero=>
   intro f k n r;obtain ⟨f,rfl⟩:∃ g,f=g+1:=⟨f-1,by omega⟩
   show Q1l F p (l.map (TS.sqs A)) (Z3 _ f) _ _ ((k:Nat):Int)=_;unfold Q1l
   refine Q8 (decide_eq_false (by rw [List.length_map];omega)) ?_;unfold Q7y
   rw [show k=l.length by omega,List.take_length];exact Q3 (Z4c hF e3 ht (W0w hl)) rfl
  | succ m ih=>
   intro f k n r;obtain ⟨f,rfl⟩:∃ g,f=g+1:=⟨f-1,by omega⟩
   show Q1l F p (l.map (TS.sqs A)) (Z3 _ f) _ _ ((k:Nat):Int)=_;unfold Q1l
   have a:k<l.length:=by omega
   have b:TIn A (Z7x A (l.take k)):=W0w fun s hs=>hl s (List.mem_of_mem_take hs)
   have hs:=hl _ (List.getElem_mem a);have o:gl (l.map (TS.sqs A)) ((k:Nat):Int).toNat=(l[k]).sqs A:=by
    rw [Int.toNat_natCast,y7 (by simpa using a),List.getElem_map]
   have i:=ih f (k+1) (by omega) (by omega);have q:l.take (k+1)=l.take k++[l[k]]:=by rw [List.take_append_getElem a]
   rw [q,W0x] at i;rw [o]
   refine Z5 (decide_eq_true (by rw [List.length_map];omega)) (Q7 (by rw [List.length_map];omega) (Q3 (Q3z hF (b.vY ht).le8 (hs.vY ht).le8 (b.vY ht).pos (hs.vY ht).pos (Q0n b.fY) (Q0n hs.fY) (k:=fun u v=>u&&v) rfl (Z0V F)) (Q3 (Q3z hF (b.vN ht).le8 (hs.vN ht).le8 (b.vN ht).pos (hs.vN ht).pos (Q0n b.fN) (Q0n hs.fN) (k:=fun u v=>u||v) rfl (Z5D F)) (Q7 (Z7 (by omega) (by omega)) ?_))));exact i
 have:=e l.length F 0 (by omega) (by omega)
 have j:Z7x A (l.take 0)=⟨inR A,fun _ _=>false⟩:=by unfold Z7x;simp
 rw [j] at this;simp only [Y7t ht.val,Y3h] at this
 rw [e3];exact this
end
end Go.Ab
end
section
namespace Go.Ab
set_option maxRecDepth 20000
noncomputable section
def TS.turn (s:TS):TS:=⟨s.N,s.Y⟩
theorem W2F (A:List Rect) (s:TS):s.turn.O A=s.O A:=by
 funext u v
 simp only [TS.turn,TS.O]
 cases inR A u v <;> cases s.Y u v <;> cases s.N u v <;> rfl
theorem Y3P (F:Nat) (A:List Rect) (s:TS):Q9H F (s.sqs A)=some (s.turn.sqs A):=by
 unfold Q9H TS.sqs;rw [W2F]
 rfl
def tkS (op:Int) (s:TS):TS:=if op=9 then s else s.turn
theorem W3e {A:List Rect} {s:TS} (h:TIn A s) (op:Int):TIn A (tkS op s):=by
 unfold tkS;split
 ·exact h
 ·exact h.turn
variable {cs:List Crop} {hs:List Rg_} {zs:List A2_} {y c d:Int} {A:List Rect}
theorem Z8S {p:TermPlace} (h:EV y cs hs zs c A) (hp:PL p y cs hs zs d c A):∀ (e:Nat) {F:Nat} (_:BIG+e<=F) {t:Term} (_:TD e t) (_:Q6y e t=true),K3 F p t=some ((evS y cs hs zs d c A e t).sqs A)
 | 0,_,_,_,ht,_=>ht.elim
 | e+1,0,hF,_,_,_=>by unfold BIG at hF;omega
 | e+1,F+1,hF,t,ht,v=>by
  have x : BIG+e<=F:=by omega
  have E:BIG<=F:=by omega
  have D:=E;unfold BIG at D
  obtain ⟨K,_,u,L⟩:=ht;have r:Z0M t=true/\∀ k ∈ t.kids_,Q6y e k=true:=by
   unfold Q6y at v;rw [Bool.and_eq_true,List.all_eq_true] at v
   exact v
  have b:=r.1;show Q4F F (K3 F) p t=_
  unfold Q4F;have B:∀ s ∈ t.kids_.map (fun k=>tkS t.op_ (evS y cs hs zs d c A e k)),TIn A s:=fun s hs=>by
   obtain ⟨k,_,rfl⟩:=List.mem_map.1 hs;exact W3e (Y3a e k) _
  have w:∀ (m f i:Nat),i+m=t.kids_.length->m<f->Z3 (fun again (z:Int×(List Squares))=>Q0o F (K3 F) p t again z.1 z.2) f (((i:Nat):Int),(t.kids_.take i).map fun k=>(tkS t.op_ (evS y cs hs zs d c A e k)).sqs A)=some ((evS y cs hs zs d c A (e+1) t).sqs A):=by
   intro m
   induction m with
   | zero=>
    intro f i J v;obtain ⟨f,rfl⟩:∃ g,f=g+1:=⟨f-1,by omega⟩
    show Q0o F (K3 F) p t (Z3 _ f) ((i:Nat):Int) _=_;unfold Q0o
    refine Q8 (decide_eq_false (by omega)) ?_;rw [show i=t.kids_.length by omega,List.take_length]
    unfold Q6Y;have a:=Y5o E hp.re h.tr B (by rw [List.length_map];exact u)
    rw [List.map_map] at a;have a:Q3h F p (t.kids_.map fun k=>(tkS t.op_ (evS y cs hs zs d c A e k)).sqs A)=_:=a
    have z:∀ {k:Int},(t.op_==k)=false->¬ t.op_=k:=fun h e=>by rw [e] at h;simp at h
    refine Q9 (fun q=>?_) fun l=>Q9 (fun q=>?_) fun n=>Q9 (fun q=>?_) fun G=>?_
    ·have q:=eq_of_beq q
     refine Q3 a ?_;have:Z7x A (t.kids_.map fun k=>tkS t.op_ (evS y cs hs zs d c A e k))=evS y cs hs zs d c A (e+1) t:=by
      conv=>rhs;unfold evS
      unfold Z7x tkS;rw [if_pos q]
      simp only [List.all_map,List.any_map,if_pos q];rfl
     rw [this]
    ·have q:=eq_of_beq q
     refine Q3 a (Q3 (Y3P F A _) ?_);have:(Z7x A (t.kids_.map fun k=>tkS t.op_ (evS y cs hs zs d c A e k))).turn=evS y cs hs zs d c A (e+1) t:=by
      conv=>rhs;unfold evS
      unfold Z7x tkS TS.turn;rw [if_neg (z l),if_pos q]
      simp only [List.all_map,List.any_map,if_neg (z l)];rfl
     rw [this]
    ·have q:=eq_of_beq q
     have N:t.kids_.length=1:=by
      unfold Z0M at b;simp [q] at b
      omega
     refine Q7 (by rw [List.length_map];omega) ?_;rw [y7 (by rw [List.length_map];show 0<_;omega),List.getElem_map]
     have:tkS t.op_ (evS y cs hs zs d c A e (gl t.kids_ 0))=evS y cs hs zs d c A (e+1) t:=by
      conv=>rhs;unfold evS
      unfold tkS TS.turn;rw [if_neg (z l),if_neg (z l),if_neg (z n),if_pos q]
     rw [<-this,y7 (by omega)];rfl
    ·have:atS y cs hs zs d c A t=evS y cs hs zs d c A (e+1) t:=by
      unfold evS;rw [if_neg (z l),if_neg (z n),if_neg (z G)]
     rw [<-this];exact Q3 (Y4z E h hp b) rfl
   | succ m ih=>
    intro f i J v;obtain ⟨f,rfl⟩:∃ g,f=g+1:=⟨f-1,by omega⟩
    show Q0o F (K3 F) p t (Z3 _ f) ((i:Nat):Int) _=_;have j:i<t.kids_.length:=by omega
    have o:=L _ (W9 j);have C:=Z8S h hp e x o (r.2 _ (W9 j))
    have H:=ih f (i+1) (by omega) (by omega);rw [J8 j,List.map_append,List.map_singleton] at H
    generalize Z3 (fun again (z:Int×(List Squares))=>Q0o F (K3 F) p t again z.1 z.2) f=ag at H ⊢;unfold Q0o
    have I:((i:Nat):Int).toNat=i:=Int.toNat_natCast i;have M:((t.kids_.take i).map fun k=>(tkS t.op_ (evS y cs hs zs d c A e k)).sqs A).length<=1000000:=by
     rw [List.length_map,List.length_take];omega
    refine Z5 (decide_eq_true (by omega)) (Q7 (by omega) (Q7 (by rw [I];exact o.op) (Q3 (by rw [I];exact C) ?_)));have k1:∀ s:TS,s=tkS t.op_ (evS y cs hs zs d c A e (gl t.kids_ i))->Q1O F (K3 F) ((i:Nat):Int) ((t.kids_.take i).map fun k=>(tkS t.op_ (evS y cs hs zs d c A e k)).sqs A) ag (s.sqs A).yes_ (s.sqs A).no_ (s.sqs A).open_=some ((evS y cs hs zs d c A (e+1) t).sqs A):=fun s hs=>by
     subst hs;unfold Q1O
     exact Q7 (by unfold LIM;simp only [List.length_singleton];omega) (Q7 (Z7 (by omega) (by omega)) H)
    refine Q9 (fun q=>?_) fun q=>?_
    ·have q:¬ t.op_=9:=fun e=>by rw [e] at q;simp at q
     refine Q3 (Y3P F A _) (k1 _ ?_);unfold tkS;rw [if_neg q]
    ·have q:t.op_=9:=by simpa using q
     refine k1 _ ?_;unfold tkS;rw [if_pos q]
  have:=w t.kids_.length F 0 (by omega) (by omega)
  simpa using this
end
end Go.Ab
end
section
namespace Go.Ab
set_option maxRecDepth 20000
noncomputable section
variable {F:Nat} {cs:List Crop} {hs:List Rg_} {zs:List A2_} {y c d:Int} {A:List Rect}
end
end Go.Ab
end
section
namespace Go.Ab
set_option maxRecDepth 20000
noncomputable section
variable {cs:List Crop} {hs:List Rg_} {zs:List A2_} {y c d:Int} {A:List Rect}
end
end Go.Ab
end
section
namespace Go.Ab
set_option maxRecDepth 20000
noncomputable section
def Q7u (cs:List Crop) (c:Int):Bool:=decide (c<0)||decide (((cs.length:Nat):Int)<=c)
def Z7y (e:Nat) (t:Term) (cs:List Crop) (c:Int) (hs:List Rg_) (y:Int) (zs:List A2_) (d:Int) (A:List Rect):Int:=
 if Q8A e t≠0 then Q8A e t else if crC cs≠0 then crC cs else if (Q7u cs c||hs.any fun r=>Q7u cs r.c_)=true then 13
 else if Q9n hs≠0 then Q9n hs else if y<0\/100<y then 18 else if Z0e zs≠0 then Z0e zs else if d<0\/36864<d then 9 else if Q3H A=true then 0 else 7
theorem Y4m (F:Nat) (k:Int) (p:TermPlace):Q1Q F k p=some (Q7u p.world_.crops_ k):=by
 unfold Q1Q Q2e Q7u;refine Q9 (fun h=>?_) (fun h=>?_)
 ·rw [h];rfl
 ·rw [h];rfl
theorem Y5c {F:Nat} (hF:BIG<=F) {l:List Rg_} (hl:l.length<=1000000) (p:TermPlace):Q0j F l p=some (l.any fun r=>Q7u p.world_.crops_ r.c_):=by
 have e:=hF;unfold BIG at e
 have:∃ i:Int,Q0N F l p=some i/\(decide (0<=i))=l.any fun r=>Q7u p.world_.crops_ r.c_:=by
  unfold Q0N;have b:∀ (m f i:Nat),i+m=l.length->m<f->∃ v:Int,Z3 (fun again (z:Int)=>U2 F l p again z) f ((i:Nat):Int)=some v/\(decide (0<=v))=(l.drop i).any fun r=>Q7u p.world_.crops_ r.c_:=by
   intro m
   induction m with
   | zero=>
    intro f i o s;obtain ⟨f,rfl⟩:∃ g,f=g+1:=⟨f-1,by omega⟩
    show ∃ v:Int,U2 F l p (Z3 _ f) ((i:Nat):Int)=some v/\_;unfold U2
    refine ⟨-1,Q8 (decide_eq_false (by omega)) rfl,?_⟩;rw [List.drop_eq_nil_of_le (by omega)];rfl
   | succ m ih=>
    intro f i o s;obtain ⟨f,rfl⟩:∃ g,f=g+1:=⟨f-1,by omega⟩
    have a:i<l.length:=by omega
    obtain ⟨v,k,n⟩:=ih f (i+1) (by omega) (by omega);show ∃ v:Int,U2 F l p (Z3 _ f) ((i:Nat):Int)=some v/\_
    generalize Z3 (fun again (z:Int)=>U2 F l p again z) f=ag at k ⊢;unfold U2
    have j:Q2w F (gl l ((i:Nat):Int).toNat) p=some (Q7u p.world_.crops_ (gl l i).c_):=by
     unfold Q2w;rw [Int.toNat_natCast]
     exact Q3 (Y4m F _ p) rfl
    have h:l.drop i=gl l i::l.drop (i+1):=by rw [List.drop_eq_getElem_cons a,y7 a]
    rw [h,List.any_cons]
    cases hw:Q7u p.world_.crops_ (gl l i).c_ with
    | true=>
     refine ⟨(i:Int),Z5 (decide_eq_true (by omega)) (Q7 (by omega) (Q3 (j.trans (by rw [hw])) (Z5 rfl rfl))),?_⟩;simp
    | false=>
     refine ⟨v,Z5 (decide_eq_true (by omega)) (Q7 (by omega) (Q3 (j.trans (by rw [hw])) (Q8 rfl (Q7 (Z7 (by omega) (by omega)) k)))),?_⟩;rw [n];rfl
  have:=b l.length F 0 (by omega) (by omega)
  simpa using this
 obtain ⟨i,t,q⟩:=this;unfold Q0j
 refine Q3 t ?_;rw [<-q]
theorem Y3v {e F:Nat} (hF:BIG+e<=F) {p:TermPlace} {t:Term} (ht:TD e t) (hl:p.world_.history_.length<=1000000) (hc:NmS p.world_.crops_):Q5D F p t=some (Z7y e t p.world_.crops_ p.line_.c_ p.world_.history_ p.world_.y_ p.world_.zones_ p.world_.day_ p.line_.g_.t_):=by
 have a:BIG<=F:=by omega
 unfold Q5D Z7y;refine Q3 (Z7F hF ht) (Q9 (fun q=>?_) fun q=>?_)
 ·rw [if_pos (by simpa using q)]
 rw [if_neg (by simpa using q)];refine Q3 (Z6E a hc) (Q9 (fun q=>?_) fun q=>?_)
 ·rw [if_pos (by simpa using q)]
 rw [if_neg (by simpa using q)];have k1:∀ b:Bool,Q1y F p b=some (if b=true then 18 else if Z0e p.world_.zones_≠0 then Z0e p.world_.zones_ else if p.world_.day_<0\/36864<p.world_.day_ then 9 else if Q3H p.line_.g_.t_=true then 0 else 7):=fun b=>by
  unfold Q1y;cases b
  ·simp only [Bool.false_eq_true,if_false]
   refine Q8 rfl (Q3 (Z7Z a _ _) ?_)
   by_cases h1:Z0e p.world_.zones_≠0
   ·rw [if_pos h1,if_pos h1]
    exact Z5 (by simpa using h1) rfl
   rw [if_neg h1,if_neg h1]
   by_cases h2:p.world_.day_<0\/36864<p.world_.day_
   ·rw [if_pos h2,if_pos h2]
    exact Z5 rfl rfl
   rw [if_neg h2,if_neg h2];refine Q8 rfl (Q3 (Q0k a _) ?_)
   cases Q3H p.line_.g_.t_ <;> rfl
  ·exact Z5 rfl rfl
 have f:∀ b:Bool,Q1z F p b=some (if b=true then 13 else if Q9n p.world_.history_≠0 then Q9n p.world_.history_ else if p.world_.y_<0\/100<p.world_.y_ then 18 else if Z0e p.world_.zones_≠0 then Z0e p.world_.zones_ else if p.world_.day_<0\/36864<p.world_.day_ then 9 else if Q3H p.line_.g_.t_=true then 0 else 7):=fun b=>by
  unfold Q1z;cases b
  ·simp only [Bool.false_eq_true,if_false]
   refine Q8 rfl (Q3 (Y0B a _) ?_);refine Q9 (fun q=>?_) fun q=>?_
   ·rw [if_pos (by simpa using q)]
   rw [if_neg (by simpa using q)];refine Q9 (fun q=>?_) fun q=>?_
   ·rw [k1,if_pos rfl,if_pos (.inl (of_decide_eq_true q))]
   ·rw [k1]
    by_cases h1:100<p.world_.y_
    ·rw [if_pos (decide_eq_true h1),if_pos (.inr h1)]
    ·have g:¬ decide (100<p.world_.y_)=true:=by simpa using h1
     have h:¬ (p.world_.y_<0\/100<p.world_.y_):=by have:=of_decide_eq_false q;omega
     rw [if_neg g,if_neg h]
  ·exact Z5 rfl rfl
 refine Q3 (Y4m F _ p) (Q9 (fun q=>?_) fun q=>?_)
 ·rw [f,q];rfl
 ·refine Q3 (Y5c a hl p) ?_
  rw [f,q];rfl
end
end Go.Ab
end
section
namespace Go.Ab
set_option maxRecDepth 20000
noncomputable section
def noT:Truth:=⟨⟨[]⟩,⟨[]⟩,⟨[]⟩⟩
def TS.t3 (A:List Rect) (s:TS):Truth:=⟨⟨cn s.Y⟩,⟨cn s.N⟩,⟨cn (s.O A)⟩⟩
def Z8a (e:Nat) (t:Term) (l:Line) (y:Int) (cs:List Crop) (hs:List Rg_) (zs:List A2_) (d:Int):Truth×Int:=
 if Z7y e t cs l.c_ hs y zs d l.g_.t_≠0 then (noT,Z7y e t cs l.c_ hs y zs d l.g_.t_) else ((evS y cs hs zs d l.c_ l.g_.t_ e t).t3 l.g_.t_,0)
theorem W0C {e:Nat} {t:Term} {cs:List Crop} {c:Int} {hs:List Rg_} {y:Int} {zs:List A2_} {d:Int} {A:List Rect} (ht:TD e t) (h:Z7y e t cs c hs y zs d A=0):Q6y e t=true:=by
 have a:Q8A e t=0:=Classical.byContradiction fun b=>by
  unfold Z7y at h;rw [if_pos b] at h
  exact b h
 unfold Q8A at a
 by_cases hz:40<szD e t
 ·rw [if_pos hz] at a;cases a
 ·rw [if_neg hz] at a
  by_cases hr:Q6a e 8 t=true
  ·rw [Z6S e 8 t ht,Bool.and_eq_true] at hr
   exact hr.2
  ·rw [if_neg hr] at a;cases a
variable {F:Nat} {cs:List Crop} {hs:List Rg_} {zs:List A2_} {y d:Int}
theorem Y4A {e:Nat} (hF:BIG+e<=F) {t:Term} (ht:TD e t) {l:Line} (hl:hs.length<=1000000) (hc:NmS cs) (hev:Z7y e t cs l.c_ hs y zs d l.g_.t_=0->EV y cs hs zs l.c_ l.g_.t_):Z6Q F t l y cs hs zs d=some (Z8a e t l y cs hs zs d):=by
 have j:BIG<=F:=by omega
 unfold Z6Q Z8a;refine Q3 (Y3v (p:=⟨⟨y,cs,hs,zs,d⟩,l,l.g_.t_⟩) hF ht hl hc) (Q9 (fun q=>?_) fun q=>?_)
 ·rw [if_pos (by simpa using q)];rfl
 have q:Z7y e t cs l.c_ hs y zs d l.g_.t_=0:=by simpa using q
 rw [if_neg (by rw [q];simp)];have h:=hev q
 have b:=Y3a (y:=y) (cs:=cs) (hs:=hs) (zs:=zs) (d:=d) (c:=l.c_) (A:=l.g_.t_) e t;refine Q3 (Z8S (p:=⟨⟨y,cs,hs,zs,d⟩,l,l.g_.t_⟩) h ⟨rfl,rfl,rfl,rfl,rfl,rfl,rfl⟩ e hF ht (W0C ht q)) ?_
 have g:=(b.vY h.tr).1;have i:=(b.vN h.tr).1
 have f:=(b.vO h.tr).1;generalize evS y cs hs zs d l.c_ l.g_.t_ e t=s at g i f ⊢
 have a:∀ m:List Rect,m.length<=120->Q7l F m=some ⟨m⟩:=fun m k=>by
  unfold Q7l;refine Q3 (Q9U (by unfold LIM;omega)) rfl
 refine Q8 (decide_eq_false ?_) (Q3 (a _ g) (Q3 (a _ i) (Q3 (a _ f) rfl)));show ¬ (120:Int)<Q0x (Q0x ((cn s.Y).length:Int) ((cn s.N).length:Int)) ((cn (s.O l.g_.t_)).length:Int)
 unfold Q0x;split <;> split <;> omega
end
end Go.Ab
end
section
namespace Go.Ab
set_option maxRecDepth 20000
noncomputable section
theorem Z3S (F:Nat) (u v:Bool):Q6D F u v=some (u&&v):=by
 unfold Q6D Q5Y;cases u <;> rfl
theorem Z7v (F:Nat) (u v:Bool):Q5X F u v=some (u && !v):=by
 unfold Q5X Q3f;cases u <;> rfl
theorem Z8z {F:Nat} (hF:BIG<=F) {l:List Rect} (h:Val l):Q0z F l=some (⟨l⟩,0):=by
 have a:=h.1;refine (Q5G hF (by omega) h.pos).trans ?_
 rw [Y7t h,if_neg (by omega)]
theorem Z6m {F:Nat} (hF:BIG<=F) {a b c:List Rect} (ha:Val a) (hb:Val b) (hc:Val c):z8 F ⟨a,b,c⟩=some (⟨⟨a⟩,⟨b⟩,⟨c⟩⟩,0):=by
 unfold z8;exact Q3 (Z8z hF ha) (Q8 rfl (Q7 (Z7 (by omega) (by omega)) (Q3 (Z8z hF hb) (Q8 rfl (Q7 (Z7 (by omega) (by omega)) (Q3 (Z8z hF hc) (Q8 rfl (Q7 (Z7 (by omega) (by omega)) rfl))))))))
end
end Go.Ab
end
section
namespace Go.Ab
set_option maxRecDepth 20000
noncomputable section
def Z7n (A:List Rect) (s:TS) (G:Sq):TS:=⟨fun u v=>s.Y u v&&G u v,fun u v=>inR A u v && !((s.Y u v&&G u v)||(s.O A u v&&G u v))⟩
theorem W3k {A:List Rect} {s:TS} (h:TIn A s) (G:Sq):(Z7n A s G).O A=fun u v=>s.O A u v&&G u v:=by
 funext u v
 simp only [Z7n,TS.O];have:=h.sY u v
 have:=h.sN u v
 cases hA:inR A u v <;> cases hY:s.Y u v <;> cases hN:s.N u v <;> cases G u v <;> simp_all
theorem Y9X {A:List Rect} {s:TS} (h:TIn A s) {G:Sq} (hG:Fin G):TIn A (Z7n A s G):=by
 refine ⟨Z4H h.fY hG,Z7c (K2 A) (Y7n (Z4H h.fY hG) (Z4H h.fO hG)),fun u v a=>?_,fun u v a=>?_⟩
 ·simp only [Z7n,Bool.and_eq_true] at a
  exact h.sY u v a.1
 ·simp only [Z7n,Bool.and_eq_true] at a
  exact a.1
end
end Go.Ab
end
section
namespace Go.Ab
set_option maxRecDepth 20000
noncomputable section
theorem Q5b {F:Nat} (hF:BIG<=F) {l:List Scheme} {q:Scheme->Option Bool} (p:Scheme->Bool) (hl:l.length<=1000000000) (hq:∀ r ∈ l,q r=some (p r)):Q0s F l q=some (Q4i p l):=by
 unfold BIG at hF;unfold Q0s
 refine Y7 (fun z:Int=>∃ i:Nat,z=i/\i<=l.length/\∀ j,j<i->p (gl l j)=false) (fun z=>l.length-z.toNat) (fun b z m n=>?_) ⟨0,rfl,by omega,fun j o=>by omega⟩ (by simp;omega);obtain ⟨i,rfl,s,e⟩:=m
 unfold Q5d;refine Q9 (fun h=>?_) (fun h=>?_)
 ·have h:i<l.length:=by simpa using h
  refine Z4 (k:=?_);refine Q3 (hq _ (W9 h)) ?_
  simp only [Int.toNat_natCast];refine Q9 (fun a=>?_) (fun a=>?_)
  ·have f:l.any p=true:=List.any_eq_true.2 ⟨_,W9 h,a⟩
   rw [Q4i,if_pos f,Q9j h e a]
  ·refine Z4 (k:=?_)
   refine n _ ⟨i+1,by omega,h,fun j o=>?_⟩ (by omega);rcases Nat.lt_or_ge j i with g|g
   ·exact e j g
   ·have:j=i:=by omega
    subst this;exact a
 ·have h:¬ i<l.length:=by simpa using h
  have:i=l.length:=by omega
  subst this;have f:=Q2Y e
  rw [Q4i,f];rfl
theorem Q3C {F:Nat} (hF:BIG<=F) {l:List Scheme} {q:Scheme->Option Bool} (p:Scheme->Bool) (hl:l.length<=1000000000) (hq:∀ r ∈ l,q r=some (p r)):U5 F l q=some (l.any p):=by
 unfold U5;refine Q3 (Q5b hF p hl hq) ?_
 unfold Q4i
 cases l.any p with
 | true=>rw [if_pos rfl,decide_eq_true (by omega)]
 | false=>rw [if_neg (by simp)];rfl
theorem Z2X {F:Nat} (hF:BIG<=F) {l:List Line} {q:Line->Option Bool} (p:Line->Bool) (hl:l.length<=1000000000) (hq:∀ r ∈ l,q r=some (p r)):Q2g F l q=some (Q4i p l):=by
 unfold BIG at hF;unfold Q2g
 refine Y7 (fun z:Int=>∃ i:Nat,z=i/\i<=l.length/\∀ j,j<i->p (gl l j)=false) (fun z=>l.length-z.toNat) (fun b z m n=>?_) ⟨0,rfl,by omega,fun j o=>by omega⟩ (by simp;omega);obtain ⟨i,rfl,s,e⟩:=m
 unfold Q6o;refine Q9 (fun h=>?_) (fun h=>?_)
 ·have h:i<l.length:=by simpa using h
  refine Z4 (k:=?_);refine Q3 (hq _ (W9 h)) ?_
  simp only [Int.toNat_natCast];refine Q9 (fun a=>?_) (fun a=>?_)
  ·have f:l.any p=true:=List.any_eq_true.2 ⟨_,W9 h,a⟩
   rw [Q4i,if_pos f,Q9j h e a]
  ·refine Z4 (k:=?_)
   refine n _ ⟨i+1,by omega,h,fun j o=>?_⟩ (by omega);rcases Nat.lt_or_ge j i with g|g
   ·exact e j g
   ·have:j=i:=by omega
    subst this;exact a
 ·have h:¬ i<l.length:=by simpa using h
  have:i=l.length:=by omega
  subst this;have f:=Q2Y e
  rw [Q4i,f];rfl
theorem Z1a {F:Nat} (hF:BIG<=F) {l:List Line} {q:Line->Option Bool} (p:Line->Bool) (hl:l.length<=1000000000) (hq:∀ r ∈ l,q r=some (p r)):Q0h F l q=some (l.any p):=by
 unfold Q0h;refine Q3 (Z2X hF p hl hq) ?_
 unfold Q4i
 cases l.any p with
 | true=>rw [if_pos rfl,decide_eq_true (by omega)]
 | false=>rw [if_neg (by simp)];rfl
def Q6E (e n:Int):Bool:=Q3A .i64 (e.fdiv (2 ^ (min n.toNat (IntKind.bits .i64)))) 1==1
theorem W0I (x:Int):Q3A .i64 x 1=0\/Q3A .i64 x 1=1:=by
 unfold Q3A;have h:(BitVec.ofInt 64 x &&& BitVec.ofInt 64 1).toNat<=1:=by
  rw [BitVec.toNat_and];exact Nat.le_trans Nat.and_le_right (by decide)
 show IntKind.wrap .i64 ((BitVec.ofInt 64 x &&& BitVec.ofInt 64 1).toNat:Nat)=0\/IntKind.wrap .i64 ((BitVec.ofInt 64 x &&& BitVec.ofInt 64 1).toNat:Nat)=1;have a:(BitVec.ofInt 64 x &&& BitVec.ofInt 64 1).toNat=0\/(BitVec.ofInt 64 x &&& BitVec.ofInt 64 1).toNat=1:=by omega
 rcases a with a|a <;> rw [a]
 ·left;rfl
 ·right;rfl
theorem Q4j (e n:Int):(Q3A .i64 (e.fdiv (2 ^ (min n.toNat (IntKind.bits .i64)))) 1==0)=!Q6E e n:=by
 unfold Q6E;rcases W0I (e.fdiv (2 ^ (min n.toNat (IntKind.bits .i64)))) with h|h <;> rw [h] <;> rfl
def Z5l (p:Int) (b:Bracket):Bool:=decide (p<b.up_)&&(decide (b.up_<=268435456)&&(decide (0<=b.rate_)&&decide (b.rate_<=1048576)))
def Q9Z (l:List Bracket) (i:Nat):Int:=if i=0 then 0 else (gl l (i-1)).up_
def brB (l:List Bracket):Bool:=decide (1<=l.length)&&(decide (l.length<=6) && !(List.range l.length).any fun i=> !Z5l (Q9Z l i) (gl l i))
theorem Y5C {R:Type} {body:(Int->Option R)->Int->Option R} {c y:Option R} (N:Nat) (p:Nat->Bool)
  (bad:∀ again (i:Nat),i<N->(∀ j,j<i->p j=false)->p i=true->body again (i:Int)=c) (good:∀ again (i:Nat) z,i<N->(∀ j,j<i->p j=false)->p i=false->again ((i:Int)+1)=z->body again (i:Int)=z)
  (stop:∀ again,body again (N:Int)=y) {F:Nat} (hF:N<F):Z3 body F 0=if (List.range N).any p=true then c else y:=by
 refine Y7 (fun z:Int=>∃ i:Nat,z=i/\i<=N/\∀ j,j<i->p j=false) (fun z=>N-z.toNat) (fun again z e f=>?_) ⟨0,rfl,Nat.zero_le _,fun j h=>absurd h (Nat.not_lt_zero j)⟩ (by simp;omega);obtain ⟨i,rfl,g,a⟩:=e
 rcases Nat.lt_or_ge i N with h|h
 ·cases hpi:p i with
  | true=>
   rw [if_pos (List.any_eq_true.2 ⟨i,List.mem_range.2 h,hpi⟩)];exact bad again i h a hpi
  | false=>
   refine good again i _ h a hpi (f _ ⟨i+1,by omega,h,fun j b=>?_⟩ (by omega))
   by_cases hji:j=i
   ·rw [hji];exact hpi
   ·exact a j (by omega)
 ·have:i=N:=by omega
  subst this;rw [if_neg (by rw [Bool.not_eq_true,List.any_eq_false];intro j b;rw [a j (List.mem_range.1 b)];simp)]
  exact stop again
theorem Z8j {F:Nat} {l:List Bracket} (hF:l.length<F) (hl:l.length<=1000000):Q6I F l=some (brB l):=by
 unfold Q6I;refine (Y5C (c:=some false) (y:=some (decide (1<=l.length)&&decide (l.length<=6))) l.length (fun i=> !Z5l (Q9Z l i) (gl l i)) (fun a i r n o=>?_) (fun a i z r n o t=>?_) (fun a=>?_) hF).trans ?_
 all_goals try (
  have e:i=0\/(1<=i/\1<=(gl l (i-1)).up_):=by
   rcases Nat.eq_zero_or_pos i with h|h
   ·exact .inl h
   ·refine .inr ⟨h,?_⟩
    have w:∀ j,j<i->1<=(gl l j).up_:=by
     intro j
     induction j with
     | zero=>
      intro s;have:=n 0 s
      rw [Bool.not_eq_false'] at this;unfold Z5l Q9Z at this
      rw [if_pos rfl] at this;simp only [Bool.and_eq_true,decide_eq_true_eq] at this;omega
     | succ j ih=>
      intro v;have f:=ih (by omega)
      have:=n (j+1) v
      rw [Bool.not_eq_false'] at this;unfold Z5l Q9Z at this
      rw [if_neg (by omega),Nat.add_sub_cancel] at this;simp only [Bool.and_eq_true,decide_eq_true_eq] at this;omega
    exact w (i-1) (by omega)
  have q:(((i:Nat):Int)-1).toNat=i-1:=by omega)
 ·show Q0p F l a (i:Int)=_
  unfold Q0p;have k1:J9 F (i:Int) a true=some false:=rfl
  refine Z5 (decide_eq_true (by omega)) (Q7 (by omega) (Q9 (fun _=>k1) (fun f=>Q9 (fun _=>k1) (fun m=>Q9 (fun _=>k1) (fun k=>Q9 (fun _=>k1) (fun g=>?_))))));have f:=of_decide_eq_false f
  have m:=of_decide_eq_false m;have k:=of_decide_eq_false k
  have g:=of_decide_eq_false g;simp only [Int.toNat_natCast] at f m k g
  have b : Z5l (Q9Z l i) (gl l i)=false:=by simpa using o
  unfold Z5l Q9Z at b;rcases e with h|⟨h,u⟩
  ·subst h
   rw [if_pos rfl,decide_eq_true (by omega),decide_eq_true (by omega),decide_eq_true (by omega),decide_eq_true (by omega)] at b;simp at b
  ·rw [if_neg (by omega)] at b
   refine Z5 (decide_eq_true (by omega)) (Q7 (Z7 (by omega) (by omega)) (Q7 (by omega) ?_));rw [q,decide_eq_true (p:=(gl l ((i:Nat):Int).toNat).up_<=_)]
   ·exact k1
   ·simp only [Int.toNat_natCast]
    by_cases h6:(gl l (i-1)).up_<(gl l i).up_
    ·rw [decide_eq_true h6,decide_eq_true (by omega),decide_eq_true (by omega),decide_eq_true (by omega)] at b
     simp at b
    ·omega
 ·show Q0p F l a (i:Int)=_
  unfold Q0p;have b : Z5l (Q9Z l i) (gl l i)=true:=by simpa using o
  unfold Z5l Q9Z at b;simp only [Bool.and_eq_true,decide_eq_true_eq] at b
  obtain ⟨f,m,k,g⟩:=b;have k1:J9 F (i:Int) a false=z:=Q8 rfl (Q7 (Z7 (by omega) (by omega)) t)
  have x:1<=(gl l i).up_:=by
   rcases e with h|⟨h,u⟩
   ·rw [if_pos h] at f;omega
   ·rw [if_neg (by omega)] at f;omega
  refine Z5 (decide_eq_true (by omega)) (Q7 (by omega) (Q8 (decide_eq_false (by simp only [Int.toNat_natCast];omega)) (Q8 (decide_eq_false (by simp only [Int.toNat_natCast];omega)) (Q8 (decide_eq_false (by simp only [Int.toNat_natCast];omega)) (Q8 (decide_eq_false (by simp only [Int.toNat_natCast];omega)) ?_)))));refine Q9 (fun h=>?_) (fun _=>k1)
  have h:=of_decide_eq_true h;refine Q7 (Z7 (by omega) (by omega)) (Q7 (by omega) ?_)
  rw [q,decide_eq_false]
  ·exact k1
  ·rw [if_neg (by omega)] at f
   simp only [Int.toNat_natCast];omega
 ·show Q0p F l a (l.length:Int)=_
  unfold Q0p Q7b Q3J;refine Q8 (decide_eq_false (by omega)) ?_
  rw [show decide ((1:Int)<=((l.length:Nat):Int))=decide (1<=l.length) from decide_eq_decide.2 (by omega),show decide (((l.length:Nat):Int)<=(6:Int))=decide (l.length<=6) from decide_eq_decide.2 (by omega)]
  cases decide (1<=l.length) <;> rfl
 ·unfold brB
  cases (List.range l.length).any fun i=> !Z5l (Q9Z l i) (gl l i) <;> simp
theorem Z9f {F:Nat} {l:List Bracket} (hF:l.length<F) (hl:l.length<=1000000):Q7J F l=some (brB l):=by
 unfold Q7J brB;have e:Q2B F l true=some false:=rfl
 by_cases h1:1<=l.length
 ·refine Q8 (decide_eq_false (by omega)) ?_
  by_cases h2:l.length<=6
  ·rw [decide_eq_true h1,decide_eq_true h2,decide_eq_false (by omega)]
   unfold Q2B;refine Q8 rfl ?_
   suffices hs:∀ (n i:Nat),l.length-i<n->i<=l.length->Z3 (fun again (z:Int×Int)=>Q1o F l again z.1 z.2) n (Q9Z l i,(i:Int))=some (!((List.range l.length).drop i).any fun i=> !Z5l (Q9Z l i) (gl l i)) by
    have:=hs F 0 (by omega) (by omega)
    simpa [Q9Z] using this
   intro n
   induction n with
   | zero=>intro i h;omega
   | succ n ih=>
    intro i j g;have b:=ih (i+1)
    revert b
    show _->Q1o F l (Z3 (fun again (z:Int×Int)=>Q1o F l again z.1 z.2) n) (Q9Z l i) (i:Int)=_;generalize Z3 (fun again (z:Int×Int)=>Q1o F l again z.1 z.2) n=ag
    intro b;unfold Q1o
    by_cases hil:i<l.length
    ·rw [show (List.range l.length).drop i=i::(List.range l.length).drop (i+1) by rw [List.drop_eq_getElem_cons (by simpa using hil),List.getElem_range]]
     rw [List.any_cons];refine Z5 (decide_eq_true (by omega)) (Q7 (by omega) ?_)
     simp only [Int.toNat_natCast];have a:Q0c F l (i:Int) ag true=some false:=rfl
     have f:Q0c F l (i:Int) ag false=some (!((List.range l.length).drop (i+1)).any fun i=> !Z5l (Q9Z l i) (gl l i)):=by
      unfold Q0c;refine Q8 rfl (Q7 (Z7 (by omega) (by omega)) ?_)
      rw [<-b (by omega) (by omega)];congr 1
     rw [show Z5l (Q9Z l i) (gl l i)=(decide (Q9Z l i<(gl l i).up_)&&(decide ((gl l i).up_<=268435456)&&(decide (0<=(gl l i).rate_)&&decide ((gl l i).rate_<=1048576)))) from rfl]
     by_cases g1:Q9Z l i<(gl l i).up_
     ·rw [decide_eq_true g1]
      refine Q8 (decide_eq_false (by omega)) ?_
      by_cases g2:(gl l i).up_<=268435456
      ·rw [decide_eq_true g2]
       refine Q8 (decide_eq_false (by omega)) ?_
       by_cases g3:0<=(gl l i).rate_
       ·rw [decide_eq_true g3]
        refine Q8 (decide_eq_false (by omega)) ?_
        by_cases g4:(gl l i).rate_<=1048576
        ·rw [decide_eq_true g4,decide_eq_false (by omega),f];simp
        ·rw [decide_eq_false g4,decide_eq_true (by omega),a];simp
       ·rw [decide_eq_false g3]
        exact Z5 (decide_eq_true (by omega)) a
      ·rw [decide_eq_false g2]
       exact Z5 (decide_eq_true (by omega)) a
     ·rw [decide_eq_false g1]
      exact Z5 (decide_eq_true (by omega)) a
    ·have:i=l.length:=by omega
     subst this;refine Q8 (decide_eq_false (by omega)) ?_
     rw [List.drop_eq_nil_of_le (by simp)];rfl
  ·rw [decide_eq_false h2,decide_eq_true (by omega),Bool.false_and,Bool.and_false];exact e
 ·rw [decide_eq_false h1]
  exact Z5 (decide_eq_true (by omega)) e
structure SD (d:Nat) (s:Scheme):Prop where
 cond:TD d s.cond_
 name:s.n_.size<=4294967296
 brl:s.brackets_.length<=1000000
def Q7t (d:Nat) (s:Scheme):Int:=
 if s.N_<0\/15<s.N_\/s.least_<0\/268435456<s.least_ then 2 else if Q2G s.n_=false then 5 else if Q8A d s.cond_≠0 then Q8A d s.cond_
 else if brB s.brackets_=false\/s.excludes_<0\/65536<=s.excludes_\/Q6E s.excludes_ s.N_=true then 3 else 0
theorem Z0q {d F:Nat} (hd:d<=2000000) (hF:BIG+d<=F) {s:Scheme} (h:SD d s):Q7F F s=some (Q7t d s):=by
 have f:BIG<=F:=by omega
 have e:=f;unfold BIG at e
 unfold Q7F Q7t;have a:Q1r F s true=some 2:=rfl
 by_cases h1:s.N_<0
 ·rw [if_pos (.inl h1)];exact Z5 (decide_eq_true h1) a
 refine Q8 (decide_eq_false h1) ?_
 by_cases h2:15<s.N_
 ·rw [if_pos (.inr (.inl h2))];exact Z5 (decide_eq_true h2) a
 refine Q8 (decide_eq_false h2) ?_
 by_cases h3:s.least_<0
 ·rw [if_pos (.inr (.inr (.inl h3)))];exact Z5 (decide_eq_true h3) a
 refine Q8 (decide_eq_false h3) ?_
 by_cases h4:268435456<s.least_
 ·rw [if_pos (.inr (.inr (.inr h4))),decide_eq_true h4];exact a
 rw [if_neg (by omega),decide_eq_false h4];unfold Q1r
 refine Q8 rfl (Q3 (Z2S (by have:=h.name;omega) h.name) ?_)
 cases hn:Q2G s.n_ with
 | false=>rfl
 | true=>
  rw [if_neg (by simp)];refine Q8 rfl (Q3 (Z7F hF h.cond) ?_)
  by_cases h5:Q8A d s.cond_=0
  ·rw [if_neg (by simpa using h5)]
   refine Q8 (by simp [h5]) (Q3 (Z8j (by have:=h.brl;omega) h.brl) ?_);have b:Q1q F true=some 3:=rfl
   cases hbr:brB s.brackets_ with
   | false=>rw [if_pos (.inl rfl)];exact Z5 rfl b
   | true=>
    refine Q8 rfl ?_
    by_cases h6:s.excludes_<0
    ·rw [if_pos (.inr (.inl h6))];exact Z5 (decide_eq_true h6) b
    refine Q8 (decide_eq_false h6) ?_
    by_cases h7:65536<=s.excludes_
    ·rw [if_pos (.inr (.inr (.inl h7)))];exact Z5 (decide_eq_true h7) b
    refine Q8 (decide_eq_false h7) (Q7 (by omega) ?_);show Q1q F (Q6E s.excludes_ s.N_)=_
    cases Q6E s.excludes_ s.N_ with
    | true=>rw [if_pos (.inr (.inr (.inr rfl)))];exact b
    | false=>rw [if_neg (by simp;omega)];rfl
  ·rw [if_pos h5]
   exact Z5 (by simpa using h5) rfl
theorem Z9g {d F:Nat} (hd:d<=2000000) (hF:BIG+d<=F) {s:Scheme} (h:SD d s):Z6T F s=some (Q7t d s):=by
 have f:BIG<=F:=by omega
 have e:=f;unfold BIG at e
 unfold Z6T Q7t;have a:Q3N F s true=some 2:=rfl
 by_cases h1:s.N_<0
 ·rw [if_pos (.inl h1)];exact Z5 (decide_eq_true h1) a
 refine Q8 (decide_eq_false h1) ?_
 by_cases h2:15<s.N_
 ·rw [if_pos (.inr (.inl h2))];exact Z5 (decide_eq_true h2) a
 refine Q8 (decide_eq_false h2) ?_
 by_cases h3:s.least_<0
 ·rw [if_pos (.inr (.inr (.inl h3)))];exact Z5 (decide_eq_true h3) a
 refine Q8 (decide_eq_false h3) ?_
 by_cases h4:268435456<s.least_
 ·rw [if_pos (.inr (.inr (.inr h4))),decide_eq_true h4];exact a
 rw [if_neg (by omega),decide_eq_false h4];unfold Q3N
 refine Q8 rfl (Q3 (Y2C f _) ?_)
 cases hn:Q2G s.n_ with
 | false=>rfl
 | true=>
  rw [if_neg (by simp)];refine Q8 rfl (Q3 (Y2s hd hF h.cond) ?_)
  by_cases h5:Q8A d s.cond_=0
  ·rw [if_neg (by simpa using h5)]
   refine Q8 (by simp [h5]) (Q3 (Z9f (by have:=h.brl;omega) h.brl) ?_);have b:Q3M F true=some 3:=rfl
   cases hbr:brB s.brackets_ with
   | false=>rw [if_pos (.inl rfl)];exact Z5 rfl b
   | true=>
    refine Q8 rfl ?_
    by_cases h6:s.excludes_<0
    ·rw [if_pos (.inr (.inl h6))];exact Z5 (decide_eq_true h6) b
    refine Q8 (decide_eq_false h6) ?_
    by_cases h7:65536<=s.excludes_
    ·rw [if_pos (.inr (.inr (.inl h7)))];exact Z5 (decide_eq_true h7) b
    refine Q8 (decide_eq_false h7) (Q7 (by omega) ?_);show Q3M F (Q6E s.excludes_ s.N_)=_
    cases Q6E s.excludes_ s.N_ with
    | true=>rw [if_pos (.inr (.inr (.inr rfl)))];exact b
    | false=>rw [if_neg (by simp;omega)];rfl
  ·rw [if_pos h5]
   exact Z5 (by simpa using h5) rfl
end
end Go.Ab
end
section
namespace Go.Ab
set_option maxRecDepth 20000
noncomputable section
theorem Z9a (F:Nat) (u v:Bool):Q6L F u v=some (u && !v):=by
 unfold Q6L Q3L;cases u <;> rfl
theorem Y0h {F:Nat} (hF:BIG<=F) (a b:Re_):Q9u F a b=some (Z7B a b):=by
 unfold Q9u Z7B Q3j;refine Q3 (Q0k hF a) (Q9 (fun h=>?_) fun h=>?_)
 ·rw [h,Bool.true_and]
  refine Q3 (Q0k hF b) (Q9 (fun e=>?_) fun e=>?_)
  ·rw [e,Bool.true_and]
   have f:=(Q0P _).1 h;have vb:=(Q0P _).1 e
   refine Q3 (Q3z hF f.le8 vb.le8 f.pos vb.pos rfl rfl (k:=fun u v=>u && !v) rfl (Z9a F)) ?_;congr 1
   show _=decide (cn (fun x y=>inR a.t_ x y && !inR b.t_ x y)=[])
   cases cn fun x y=>inR a.t_ x y && !inR b.t_ x y with
   | nil=>rfl
   | cons r l=>simp;omega
  ·rw [e];rfl
 ·rw [h];rfl
theorem Y2k {e:Nat} {s:Scheme} (h:Q7t e s=0):0<=s.N_:=by
 unfold Q7t at h
 by_cases hn:s.N_<0\/15<s.N_\/s.least_<0\/268435456<s.least_
 ·rw [if_pos hn] at h;cases h
 ·omega
def Y9W (e:Nat) (l:Line) (parcel:Re_) (s:Scheme) (w:World) (v:Re_×Int):Truth×Int:=
 if Q3H parcel.t_=false then (noT,7)
 else if (Z8a e s.cond_ l w.y_ w.crops_ w.history_ w.zones_ w.day_).2≠0 then (noT,(Z8a e s.cond_ l w.y_ w.crops_ w.history_ w.zones_ w.day_).2)
 else if Q7t e s≠0 then (noT,17)
 else if v.2≠0 then (noT,v.2)
 else if Z7B l.g_ parcel=false then (noT,12)
 else if Q6E l.s_ s.N_=false then (⟨⟨[]⟩,l.g_,⟨[]⟩⟩,0)
 else ((Z7n l.g_.t_ (evS w.y_ w.crops_ w.history_ w.zones_ w.day_ l.c_ l.g_.t_ e s.cond_) (inR v.1.t_)).t3 l.g_.t_,0)
theorem Y8Z {e:Nat} {t:Term} {l:Line} {y:Int} {cs:List Crop} {hs:List Rg_} {zs:List A2_} {d:Int} (h:(Z8a e t l y cs hs zs d).2=0):Z7y e t cs l.c_ hs y zs d l.g_.t_=0/\Z8a e t l y cs hs zs d=((evS y cs hs zs d l.c_ l.g_.t_ e t).t3 l.g_.t_,0):=by
 unfold Z8a at h ⊢
 by_cases hz:Z7y e t cs l.c_ hs y zs d l.g_.t_=0
 ·rw [if_neg (by rw [hz];simp)]
  exact ⟨hz,rfl⟩
 ·rw [if_pos hz] at h
  exact (hz h).elim
theorem Y0K {e F:Nat} (he:e<=2000000) (hF:BIG+e<=F) {l:Line} {parcel:Re_} {s:Scheme} {w:World} (hs:SD e s) (hl:w.history_.length<=1000000) (hc:NmS w.crops_) (hev:Z7y e s.cond_ w.crops_ l.c_ w.history_ w.y_ w.zones_ w.day_ l.g_.t_=0->EV w.y_ w.crops_ w.history_ w.zones_ l.c_ l.g_.t_)
  {v:Re_×Int} (hv:Q6f F parcel w.zones_ w.day_ w.most_=some v) (hval:v.2=0->Val v.1.t_):Q1e F l parcel s w=some (Y9W e l parcel s w v):=by
 have g:BIG<=F:=by omega
 unfold Q1e Y9W;refine Q3 (Q0k g _) (Q9 (fun q=>?_) fun q=>?_)
 ·rw [if_pos (by simpa using q)];rfl
 rw [if_neg (by simpa using q)];refine Q3 (Y4A hF hs.cond hl hc hev) (Q9 (fun q=>?_) fun q=>?_)
 ·rw [if_pos (by simpa using q)];rfl
 have q:(Z8a e s.cond_ l w.y_ w.crops_ w.history_ w.zones_ w.day_).2=0:=by simpa using q
 rw [if_neg (by rw [q];simp)];obtain ⟨H,hE⟩:=Y8Z q
 have h:=hev H;rw [hE]
 refine Q3 (Z0q he hF hs) (Q9 (fun q=>?_) fun o=>?_)
 ·rw [if_pos (by simpa using q)];rfl
 have o:Q7t e s=0:=by simpa using o
 rw [if_neg (by rw [o];simp)];refine Q3 hv (Q9 (fun q=>?_) fun q=>?_)
 ·rw [if_pos (by simpa using q)];rfl
 have q:v.2=0:=by simpa using q
 rw [if_neg (by rw [q];simp)];have j:=hval q
 refine Q3 (Y0h g _ _) (Q9 (fun q=>?_) fun q=>?_)
 ·rw [if_pos (by simpa using q)];rfl
 rw [if_neg (by simpa using q)];have f:=Y3a (y:=w.y_) (cs:=w.crops_) (hs:=w.history_) (zs:=w.zones_) (d:=w.day_) (c:=l.c_) (A:=l.g_.t_) e s.cond_
 generalize evS w.y_ w.crops_ w.history_ w.zones_ w.day_ l.c_ l.g_.t_ e s.cond_=T at f ⊢;have n:=Y9X f (K2 v.1.t_)
 have x:=W3k f (inR v.1.t_);have p:=n.vY h.tr
 have E:=n.vN h.tr;have m:=n.vO h.tr
 refine Q7 (Y2k o) (Q9 (fun q=>?_) fun q=>?_)
 ·rw [Q4j] at q
  rw [if_pos (by simpa using q)];exact Q3 (Z6m g Val.nil h.tr.val Val.nil) rfl
 ·rw [Q4j] at q
  rw [if_neg (by simpa using q)];have G:=p.1
  have t:=m.1;rw [x] at m t
  have D:=Q3z g (a:=cn T.Y) (b:=v.1.t_) (f.vY h.tr).le8 j.le8 (f.vY h.tr).pos j.pos (Q0n f.fY) rfl (k:=fun u v=>u&&v) rfl (Z3S F);have I:=Q3z g (a:=cn (T.O l.g_.t_)) (b:=v.1.t_) (f.vO h.tr).le8 j.le8 (f.vO h.tr).pos j.pos (Q0n f.fO) rfl (k:=fun u v=>u&&v) rfl (Z3S F)
  have B:inR (cn (Z7n l.g_.t_ T (inR v.1.t_)).Y++cn fun u w=>T.O l.g_.t_ u w&&inR v.1.t_ u w)=fun u w=>(T.Y u w&&inR v.1.t_ u w)||(T.O l.g_.t_ u w&&inR v.1.t_ u w):=by
   funext u w
   rw [Z2g,Q1w n.fY,Q1w (Z4H f.fO (K2 _))];rfl
  have z:=Q3z g (a:=l.g_.t_) (b:=cn (Z7n l.g_.t_ T (inR v.1.t_)).Y++cn fun u w=>T.O l.g_.t_ u w&&inR v.1.t_ u w) h.tr.val.le8 (by rw [List.length_append];omega) h.tr.val.pos (fun r i=>by
   rcases List.mem_append.1 i with i|i
   ·exact p.pos r i
   ·exact m.pos r i) rfl B (k:=fun u v=>u && !v) rfl (Z7v F)
  have C:=Z6m g p E m;unfold TS.t3
  rw [x];exact Q3 D (Q3 I (Q3 (Q7C g (by exact Nat.le_trans G (by omega)) (by exact Nat.le_trans t (by omega))) (Q3 z (Q3 C rfl))))
end
end Go.Ab
end
