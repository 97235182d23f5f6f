/- Abstract states over the model. -/
import Derived.Test.YtgfmopdbhjcpfaaGreatLwB
import Derived.Test.YtgfmopdbhjcpfaaGreatLwA
set_option linter.unusedVariables false
set_option linter.unusedSimpArgs false
section
namespace Go.Ab
set_option maxRecDepth 20000
noncomputable section
theorem Q2Q.half2 {l:List Rect} (hc:Q2Q l) {x0:Int} {w h:Nat} (hb:∀ r ∈ l,x0<=r.L_/\r.R_<=x0+w/\0<=r.w_/\r.H_<=h):l.length<=h*((w+1) / 2):=by
 obtain ⟨b,f,rfl⟩:=hc;have g:∀ c ∈ b,∃ s,s ∈ c.v:=fun c hc=>List.exists_mem_of_ne_nil _ (f.ne c hc)
 have d:∀ c ∈ b,∀ s ∈ c.v,(⟨s.L_,c.lo,s.R_,c.hi⟩:Rect) ∈ flat b:=fun c hc s e=>List.mem_flatMap.2 ⟨c,hc,List.mem_map.2 ⟨s,e,rfl⟩⟩
 have m:(b.length:Int)<=h-0:=f.runs.len (by omega) fun c hc=>by
  obtain ⟨s,e⟩:=g c hc;have:=hb _ (d c hc s e)
  simp only at this;omega
 have i:∀ c ∈ b,c.v.length<=(w+1) / 2:=fun c hc=>by
  have:=(f.sp c hc).half (n:=x0+w) (a:=x0) (by omega) fun s e=>by
   have:=hb _ (d c hc s e)
   simp only at this ⊢;omega
  omega
 have k:=Y6r i;have j:b.length*((w+1) / 2)<=h*((w+1) / 2):=Nat.mul_le_mul_right _ (by omega)
 omega
def PlB (d:Int) (S:Int->Int->Bool):Prop:=∀ u v,S u v=true->d<=u/\u<d+9/\0<=v/\v<9
theorem W0I {S:Int->Int->Bool} (hf:Fin S) {d:Int} (h0:0<=d/\d<=100) (hb:PlB d S):Val (cn S)/\∀ r ∈ cn S,d<=r.L_/\r.R_<=d+9/\0<=r.w_/\r.H_<=9:=by
 have e:=Q2Q.cn hf;have c:∀ r ∈ cn S,d<=r.L_/\r.R_<=d+9/\0<=r.w_/\r.H_<=9:=by
  intro r c;obtain ⟨g,f⟩:=e.pos c
  have a:=hb r.L_ r.w_ (by rw [<-Q1b hf];exact Y0n c ((y5 _ _ _).2 (by omega)));have b:=hb (r.R_-1) (r.H_-1) (by rw [<-Q1b hf];exact Y0n c ((y5 _ _ _).2 (by omega)))
  omega
 have i:=e.half2 (x0:=d) (w:=9) (h:=9) fun r h=>by have:=c r h;omega
 refine ⟨⟨by omega,fun r h=>?_,e⟩,c⟩;obtain ⟨g,f⟩:=e.pos h
 have:=c r h
 rw [Q0g];omega
theorem Z6c (F:Nat) (t:Tape) (n m:Int):Q5M F t n m=Q1l F t n m:=rfl
def shR (d:Int) (r:Rect):Rect:=⟨r.L_+d,r.w_,r.R_+d,r.H_⟩
theorem Y7U (d:Int) (l:List Rect) (u v:Int):inR (l.map (shR d)) u v=inR l (u-d) v:=by
 unfold inR;rw [List.any_map]
 congr 1
 funext r
 show (shR d r).has u v=r.has (u-d) v;rw [Bool.eq_iff_iff,y5,y5]
 show r.L_+d<=u/\u<r.R_+d/\r.w_<=v/\v<r.H_↔r.L_<=u-d/\u-d<r.R_/\r.w_<=v/\v<r.H_;omega
theorem Y8z {α:Type} [Emb α] (l:List α) (i j:Nat) (x:α) (hj:j<l.length):gl (l.set i x) j=if i=j then x else gl l j:=by
 unfold gl;rw [List.getD_eq_getElem?_getD,List.getElem?_set]
 by_cases h:i=j
 ·subst h;rw [if_pos rfl,if_pos rfl,if_pos hj];rfl
 ·rw [if_neg h,if_neg h, <-List.getD_eq_getElem?_getD]
theorem Y4m {α:Type} [Emb α] (l:List α) (i:Nat) (h:i<l.length):gl l i=l[i]:=by
 unfold gl;rw [List.getD_eq_getElem?_getD,List.getElem?_eq_getElem h];rfl
theorem W1i {α:Type} [Emb α] {l m:List α} (h:l.length=m.length) (hg:∀ i,i<l.length->gl l i=gl m i):l=m:=by
 apply List.ext_getElem h;intro i a b
 have:=hg i a
 rwa [Y4m l i a,Y4m m i b] at this
theorem W0d {α β:Type} [Emb α] [Emb β] (f:α->β) (l:List α) (i:Nat) (h:i<l.length):gl (l.map f) i=f (gl l i):=by
 rw [Y4m _ i (by simpa using h),Y4m l i h];simp
def W0r (q r:Rect):Rect:=⟨max q.L_ r.L_,max q.w_ r.w_,min q.R_ r.R_,min q.H_ r.H_⟩
theorem W0q (q:Rect) (l:List Rect) (u v:Int):inR (l.map (W0r q)) u v=(inR l u v&&inR [q] u v):=by
 rw [Bool.eq_iff_iff,Bool.and_eq_true,Q5P,Q5P,Q5P];constructor
 ·rintro ⟨r,a,h⟩
  obtain ⟨s,b,rfl⟩:=List.mem_map.1 a;rw [y5] at h
  simp only [W0r] at h;exact ⟨⟨s,b,(y5 _ _ _).2 (by omega)⟩,q,by simp,(y5 _ _ _).2 (by omega)⟩
 ·rintro ⟨⟨s,b,d⟩,r,a,c⟩
  rw [List.mem_singleton] at a;subst a
  rw [y5] at d c;refine ⟨_,List.mem_map.2 ⟨s,b,rfl⟩,(y5 _ _ _).2 ?_⟩
  simp only [W0r];omega
theorem Y8B {α:Type} [Emb α] (l m:List α) {i:Nat} (h:i<l.length):gl (l++m) i=gl l i:=by
 unfold gl;rw [List.getD_eq_getElem?_getD,List.getElem?_append_left h, <-List.getD_eq_getElem?_getD]
theorem Y8A {α:Type} [Emb α] (l:List α) (x:α):gl (l++[x]) l.length=x:=by
 unfold gl;rw [List.getD_eq_getElem?_getD,List.getElem?_append_right (Nat.le_refl _)];simp
structure ParT (rs:List Re_):Prop where
 len:1<=rs.length/\rs.length<=3
 one:∀ i,i<rs.length->∃ w h:Int,2<=w/\w<=9/\2<=h/\h<=9/\gl rs i=⟨[⟨10*i,0,10*i+w,h⟩]⟩
theorem ParT.pl {rs:List Re_} (h:ParT rs) {i:Nat} (hi:i<rs.length):PlB (10*i) (inR (gl rs i).t_):=by
 intro u v a;obtain ⟨w,k,j,g,f,e,d⟩:=h.one i hi
 rw [d,Q5P] at a;obtain ⟨r,b,c⟩:=a
 rw [List.mem_singleton] at b;subst b
 rw [y5] at c;simp only at c
 omega
theorem ParT.val {rs:List Re_} (h:ParT rs) {i:Nat} (hi:i<rs.length):Val (gl rs i).t_:=by
 obtain ⟨w,k,e,c,b,d,a⟩:=h.one i hi;have:=h.len
 rw [a];exact val_one ((Q0g _).2 (by simp only;omega))
structure LinO (K:Int) (rs:List Re_) (x:Line):Prop where
 crop:0<=x.c_/\x.c_<K
 par:1<=x.p_/\x.p_<=rs.length
 sch:1<=x.s_/\x.s_<=15
 val:Val x.g_.t_
 ne:x.g_.t_.length≠0
 sub:∀ u v,inR x.g_.t_ u v=true->inR (gl rs (x.p_-1).toNat).t_ u v=true
def W1P (a b:Line):Prop:=∀ u v,inR a.g_.t_ u v=true->inR b.g_.t_ u v=true->False
structure LinT (K:Int) (rs:List Re_) (l:List Line):Prop where
 one:∀ x ∈ l,LinO K rs x
 apart:l.Pairwise W1P
 two:∀ i,i<l.length->∃ R:List Rect,R.length<=2/\∀ u v,inR (gl l i).g_.t_ u v=(inR R u v && !(l.take i).any fun x=>inR x.g_.t_ u v)
theorem LinO.pl {K:Int} {rs:List Re_} (hp:ParT rs) {x:Line} (h:LinO K rs x):PlB (10*(x.p_-1)) (inR x.g_.t_):=by
 intro u v a;have:=h.par
 have b:=hp.pl (i:=(x.p_-1).toNat) (by omega) u v (h.sub u v a);omega
theorem LinT.nil (K:Int) (rs:List Re_):LinT K rs []:=⟨fun x a=>by simp at a,.nil,fun i b=>by simp at b⟩
theorem Z7g {F:Nat} (hF:BIG<=F) {t:Tape} (ht:TOk t) {cs:List Crop} (hcs:1<=cs.length/\cs.length<=100) {most:Int} (m1:0<=most) (m2:most<=10) :
  ∃ t' l ns rs,Q2t F t cs most=some (t',l,ns,rs)/\TOk t' /\ ParT rs/\LinT (cs.length:Nat) rs l/\(l.length:Int)<=most:=by
 have O:=hF;unfold BIG at hF
 obtain ⟨t1,c,e1,o1,c1,c2⟩:=V3 (F:=F) ht (lo:=1) (hi:=3) (by omega) (by omega) (by omega);have P:∀ (rs:List Re_) (ns:List Int) (tl:List Int) (W:Int),ParT rs->ns.length=rs.length->TOk ⟨tl,W⟩->∃ t' l,Q3T F cs most tl W ns rs=some (t',l,ns,rs)/\TOk t' /\ LinT (cs.length:Nat) rs l/\(l.length:Int)<=most:=by
  intro rs ns tl W I A hT;have e7:=I.len
  obtain ⟨G,k,e2,o2,k1,k2⟩:=Z7 (F:=F) hT (n:=most+1) (by omega) (by omega);have X:∀ (k f:Nat) (t:Tape) (l:List Line),k<f->(l.length:Int)+k<=most->TOk t->LinT (cs.length:Nat) rs l ->
    ∃ t' l',Z6 (fun d (z:Int×List Int×Int×List Line)=>Q0X F cs ns rs d z.1 z.2.1 z.2.2.1 z.2.2.2) f ((k:Int),t.l_,t.at_,l)=some (t',l',ns,rs)/\TOk t' /\ LinT (cs.length:Nat) rs l' /\ (l'.length:Int)<=most:=by
   intro k
   induction k with
   | zero=>
    intro f t l hf b5 ht U
    cases f with
    | zero=>omega
    | succ f=>exact ⟨⟨t.l_,t.at_⟩,l,rfl,ht,U,by omega⟩
   | succ k ih=>
    intro f t l hf b5 ht U
    cases f with
    | zero=>omega
    | succ f=>
     obtain ⟨W,p,ea,oa,p1,p2⟩:=Z7 (F:=F) ht (n:=(ns.length:Nat)) (by omega) (by omega);obtain ⟨tb,a,R0,eb,ob,ha,d4,e4,b9⟩:=Z7j O oa (n:=9) (most:=2) (by omega) (by omega) (by omega) (by omega)
     obtain ⟨tc,c,ec,oc,c1,c2⟩:=Z7 (F:=F) ob (n:=(cs.length:Nat)) (by omega) (by omega);obtain ⟨td,s,ed,od,s1,s2⟩:=Z7 (F:=F) oc (n:=15) (by omega) (by omega)
     have H:p.toNat<rs.length:=by omega
     have e3:=ha.val.1
     let S:Nat->Int->Int->Bool:=fun n u v=>(inR (a.t_.map (shR (10*p))) u v&&inR (gl rs p.toNat).t_ u v) && !((l.take n).any fun x=>inR x.g_.t_ u v)
     have c3:∀ n,PlB (10*p) (S n):=fun n u v h=>by
      have h1:inR (gl rs p.toNat).t_ u v=true:=by
       simp only [S,Bool.and_eq_true] at h;exact h.1.2
      have:=I.pl H u v h1
      omega
     have a3:S 0=fun u v=>G3 (inR (a.t_.map (shR (10*p))) u v) (inR (gl rs p.toNat).t_ u v) 2:=by
      funext u v
      simp [S,G3]
     have a4:∀ r ∈ a.t_,0<=r.L_/\r.L_<r.R_/\r.R_<=9/\0<=r.w_/\r.w_<r.H_/\r.H_<=9:=ha.box;have c4:∀ r ∈ a.t_.map (shR (10*p)),Q3a r=true:=fun r hr=>by
      obtain ⟨q,hq,rfl⟩:=List.mem_map.1 hr;have:=a4 q hq
      rw [Q0g];simp only [shR]
      omega
     have g:∀ n,n<=l.length->Fin (S n):=by
      intro n
      induction n with
      | zero=>intro _;rw [a3];exact Q4l _ _ 2
      | succ n ihn=>
       intro J;have h0:=ihn (by omega)
       have e:S (n+1)=fun u v=>G3 (inR (cn (S n)) u v) (inR (gl l n).g_.t_ u v) 3:=by
        funext u v
        rw [Q1b h0];simp only [S,G3]
        rw [y3 (by omega),List.any_append];simp [Bool.and_assoc]
       rw [e];exact Q4l _ _ 3
     have Q:∀ n,n<l.length->(cn fun u v=>G3 (inR (cn (S n)) u v) (inR (gl l n).g_.t_ u v) 3)=cn (S (n+1)):=fun n J=>by
      congr 1
      funext u v
      rw [Q1b (g n (by omega))];simp only [S,G3]
      rw [y3 J,List.any_append];simp [Bool.and_assoc]
     have C:∀ n,n<=l.length->Val (cn (S n)):=fun n J=>(W0I (g n J) (by omega) (c3 n)).1
     have a2:∃ t' l',Q3S F cs rs ((k+1:Nat):Int) l (W,p) (tb,a) (Z6 (fun d (z:Int×List Int×Int×List Line)=>Q0X F cs ns rs d z.1 z.2.1 z.2.2.1 z.2.2.2) f) (a.t_.map (shR (10*p)))=some (t',l',ns,rs)/\TOk t' /\ LinT (cs.length:Nat) rs l' /\ (l'.length:Int)<=most:=by
      have b6:∃ t' l',Q2d F cs ((k+1:Nat):Int) l (W,p) (tb,a) (Z6 (fun d (z:Int×List Int×Int×List Line)=>Q0X F cs ns rs d z.1 z.2.1 z.2.2.1 z.2.2.2) f) (cn (S l.length))=some (t',l',ns,rs)/\TOk t' /\ LinT (cs.length:Nat) rs l' /\ (l'.length:Int)<=most:=by
       have ek:((k+1:Nat):Int)-1=(k:Int):=by omega
       by_cases Z:(cn (S l.length)).length=0
       ·obtain ⟨G,L,m,o,E⟩:=ih f tb l (by omega) (by omega) ob U
        refine ⟨G,L,?_,o,E⟩;unfold Q2d
        refine Q9 (by simp [Z]) ?_;unfold Q2c
        simp only
        rw [ek];exact Z3 (Y3 (by omega) (by omega)) m
       ·have hx:LinO (cs.length:Nat) rs ⟨p+1,⟨cn (S l.length)⟩,c,1+s⟩:=by
         refine ⟨⟨c1,c2⟩,by simp only;omega,by simp only;omega,C _ (Nat.le_refl _),Z,fun u v D=>?_⟩;have D:inR (cn (S l.length)) u v=true:=D
         rw [Q1b (g _ (Nat.le_refl _))] at D;simp only [S,Bool.and_eq_true] at D
         have e5:(p+1-1:Int)=p:=by omega
         simp only [e5];exact D.1.2
        have c5:LinT (cs.length:Nat) rs (l++[⟨p+1,⟨cn (S l.length)⟩,c,1+s⟩]):=by
         refine ⟨fun x h=>?_,?_,fun i hi=>?_⟩
         ·rcases List.mem_append.1 h with h|h
          ·exact U.one x h
          ·rw [List.mem_singleton] at h;subst h;exact hx
         ·rw [List.pairwise_append]
          refine ⟨U.apart,List.pairwise_singleton _ _,fun x h y hy u v h1 h2=>?_⟩;rw [List.mem_singleton] at hy
          subst hy;have h2:inR (cn (S l.length)) u v=true:=h2
          rw [Q1b (g _ (Nat.le_refl _))] at h2;simp only [S,Bool.and_eq_true,Bool.not_eq_true',List.take_length] at h2
          have:=List.any_eq_false.1 h2.2 x h
          exact this h1
         ·rcases Nat.lt_or_ge i l.length with N|N
          ·obtain ⟨R,r1,r2⟩:=U.two i N
           refine ⟨R,r1,fun u v=>?_⟩;rw [Y8B _ _ N,List.take_append_of_le_length (by omega)]
           exact r2 u v
          ·have h6:i=l.length:=by simp at hi;omega
           subst h6;obtain ⟨w,k2,_,_,_,_,e5⟩:=I.one p.toNat H
           refine ⟨(R0.map (shR (10*p))).map (W0r ⟨10*(p.toNat:Int),0,10*(p.toNat:Int)+w,k2⟩),by simp;omega,fun u v=>?_⟩;rw [Y8A,List.take_left' rfl,W0q,Y7U]
           show inR (cn (S l.length)) u v=_;rw [Q1b (g _ (Nat.le_refl _))]
           simp only [S,List.take_length];rw [Y7U,e5,b9]
        obtain ⟨G,L,m,o,E⟩:=ih f td (l++[⟨p+1,⟨cn (S l.length)⟩,c,1+s⟩]) (by omega) (by simp;omega) od c5;refine ⟨G,L,?_,o,E⟩
        unfold Q2d;refine Z8 (decide_eq_true (by omega)) ?_
        refine Z3 (Y3 (by simp only;omega) (by simp only;omega)) (Q4 ec (Q4 ed ?_));refine Z3 (Y3 (by simp only;omega) (by simp only;omega)) (Z3 (by simp [LIM];omega) ?_)
        unfold Q2c;simp only
        rw [ek];exact Z3 (Y3 (by omega) (by omega)) m
      obtain ⟨G,L,m,o,E⟩:=b6;refine ⟨G,L,?_,o,E⟩
      unfold Q3S;refine Z3 (by simp only;omega) ?_
      refine Q4 ((Q3P O (a:=a.t_.map (shR (10*p))) (b:=(gl rs p.toNat).t_) (how:=2) (by simp;omega) (by have:=(I.val H).1;omega) c4 (I.val H).2.1).trans (congrArg some (congrArg cn a3.symm))) ?_;refine Y7 (fun z:List Rect×Int=>∃ n:Nat,z.2=n/\n<=l.length/\z.1=cn (S n)) (fun z=>l.length-z.2.toNat) (fun d z Z M=>?_) ⟨0,rfl,by omega,rfl⟩ (by simp only;omega)
      obtain ⟨V,n0⟩:=z;obtain ⟨n,rfl,J,rfl⟩:=Z
      simp only at J ⊢;unfold Z1t
      refine Q8 (fun h=>?_) (fun h=>?_)
      ·have h:n<l.length:=by simpa using h
       refine Z3 (by omega) ?_;simp only [Int.toNat_natCast]
       have hx:=U.one _ (V6 h);refine Q4 ((Q3P O (a:=cn (S n)) (b:=(gl l n).g_.t_) (how:=3) (by have:=(C n J).1;omega) (by have:=hx.val.1;omega) (C n J).2.1 hx.val.2.1).trans (congrArg some (Q n h))) ?_
       refine Z3 (Y3 (by omega) (by omega)) (M _ ⟨n+1,by simp,h,rfl⟩ (by simp only;omega))
      ·have h:n=l.length:=by
        have:¬ n<l.length:=by simpa using h
        omega
       subst h;exact m
     obtain ⟨G,L,m,o,E⟩:=a2;refine ⟨G,L,?_,o,E⟩
     show Q0X F cs ns rs _ ((k+1:Nat):Int) t.l_ t.at_ l=_;unfold Q0X
     refine Z8 (by simp) (Q4 ea ?_);rw [Z6c]
     refine Q4 eb ?_;refine Y7 (fun z:Int×List Rect=>∃ i:Nat,z.1=i/\i<=a.t_.length/\z.2.length=a.t_.length/\∀ j,j<a.t_.length->gl z.2 j=if j<i then shR (10*p) (gl a.t_ j) else gl a.t_ j) (fun z=>a.t_.length-z.1.toNat) (fun d z Z M=>?_)
      ⟨0,rfl,by omega,rfl,fun j _=>by rw [if_neg (by omega)]⟩ (by simp only;omega)
     obtain ⟨i0,V⟩:=z;obtain ⟨i,rfl,hi,T,hV⟩:=Z
     simp only at T hV ⊢;unfold Z1u
     simp only [Int.toNat_natCast];refine Q8 (fun h=>?_) (fun h=>?_)
     ·have h:i<a.t_.length:=by simpa using h
      have b2:gl V i=gl a.t_ i:=by rw [hV i h,if_neg (by omega)]
      have hb:=a4 _ (V6 h);have a6:∀ x,gl (V.set i x) i=x:=fun x=>by rw [Y8z V i i x (by omega),if_pos rfl]
      simp only [b2,a6];refine Z3 (by omega) (Z3 (Y3 (by omega) (by omega)) (Z3 (Y3 (by omega) (by omega)) (Z3 (by omega) (Z3 (Y3 (by omega) (by omega)) (Z3 (Y3 (by omega) (by omega)) (Z3 (by omega) (Z3 (by rw [List.length_set];omega) (Z3 (Y3 (by omega) (by omega)) ?_))))))))
      refine M _ ⟨i+1,by simp,h,by simp [T],fun j hj=>?_⟩ (by simp only;omega);rw [Y8z _ i j _ (by simp;omega)]
      by_cases hij:i=j
      ·subst hij
       rw [if_pos rfl,if_pos (by omega)];rfl
      ·rw [if_neg hij,Y8z V i j _ (by omega),if_neg hij,hV j hj]
       by_cases h6:j<i
       ·rw [if_pos h6,if_pos (by omega)]
       ·rw [if_neg h6,if_neg (by omega)]
     ·have h:i=a.t_.length:=by
       have:¬ i<a.t_.length:=by simpa using h
       omega
      have b4:V=a.t_.map (shR (10*p)):=W1i (by simp [T]) fun j hj=>by
       rw [hV j (by omega),if_pos (by omega),W0d _ _ _ (by omega)]
      rw [b4];exact m
  obtain ⟨t',l,m,o,E,q4⟩:=X k.toNat F G [] (by omega) (by simp;omega) o2 (LinT.nil _ _);refine ⟨t',l,?_,o,E,q4⟩
  unfold Q3T;refine Z3 (Y3 (by omega) (by omega)) (Q4 e2 ?_)
  have:(k.toNat:Int)=k:=by omega
  rw [this] at m;exact m
 have X:∀ (k f:Nat) (t:Tape) (ns:List Int) (rs:List Re_),k<f->TOk t->ns.length=rs.length->rs.length+k=c.toNat->(∀ i,i<rs.length->∃ w h:Int,2<=w/\w<=9/\2<=h/\h<=9/\gl rs i=⟨[⟨10*i,0,10*i+w,h⟩]⟩) ->
   ∃ t' l K B,Z6 (fun d (z:Int×List Int×Int×List Int×List Re_)=>Q0Y F cs most d z.1 z.2.1 z.2.2.1 z.2.2.2.1 z.2.2.2.2) f ((k:Int),t.l_,t.at_,ns,rs)=some (t',l,K,B)/\TOk t' /\ ParT B /\ LinT (cs.length:Nat) B l/\(l.length:Int)<=most:=by
  intro k
  induction k with
  | zero=>
   intro f t ns rs hf ht A hk Y
   cases f with
   | zero=>omega
   | succ f=>
    have I:ParT rs:=⟨by omega,Y⟩;obtain ⟨t',l,m,o,E,q4⟩:=P rs ns t.l_ t.at_ I A ht
    refine ⟨t',l,ns,rs,?_,o,I,E,q4⟩;show Q0Y F cs most _ 0 t.l_ t.at_ ns rs=_
    unfold Q0Y;exact Q9 rfl m
  | succ k ih=>
   intro f t ns rs hf ht A hk Y
   cases f with
   | zero=>omega
   | succ f=>
    obtain ⟨W,w,ea,oa,w1,w2⟩:=V3 (F:=F) ht (lo:=2) (hi:=9) (by omega) (by omega) (by omega);obtain ⟨tb,h,eb,ob,h1,h2⟩:=V3 (F:=F) oa (lo:=2) (hi:=9) (by omega) (by omega) (by omega)
    obtain ⟨t',l,K,B,m,o⟩:=ih f tb (ns++[((ns.length:Nat):Int)+1]) (rs++[⟨[⟨10*((ns.length:Nat):Int),0,10*((ns.length:Nat):Int)+w,h⟩]⟩]) (by omega) ob (by simp [A]) (by simp;omega) (fun i hi=>by
     rcases Nat.lt_or_ge i rs.length with N|N
     ·have e:gl (rs++[(⟨[⟨10*((ns.length:Nat):Int),0,10*((ns.length:Nat):Int)+w,h⟩]⟩:Re_)]) i=gl rs i:=by
       unfold gl;rw [List.getD_eq_getElem?_getD,List.getElem?_append_left N, <-List.getD_eq_getElem?_getD]
      rw [e];exact Y i N
     ·have h6:i=rs.length:=by simp at hi;omega
      subst h6;refine ⟨w,h,by omega,by omega,by omega,by omega,?_⟩
      unfold gl;rw [List.getD_eq_getElem?_getD,List.getElem?_append_right (Nat.le_refl _),A]
      simp)
    refine ⟨t',l,K,B,?_,o⟩;show Q0Y F cs most _ ((k+1:Nat):Int) t.l_ t.at_ ns rs=_
    unfold Q0Y;have ek:((k+1:Nat):Int)-1=(k:Int):=by omega
    refine Z8 (by simp) (Z3 (Y3 (by omega) (by omega)) (Z3 (by simp [LIM];omega) (Z3 (Y3 (by omega) (by omega)) (Z3 (Y3 (by omega) (by omega)) (Q4 ea (Z3 (Y3 (by omega) (by omega)) (Q4 eb (Z3 (by simp [LIM];omega) (Z3 (Y3 (by omega) (by omega)) ?_)))))))));rw [ek]
    exact m
 obtain ⟨t',l,ns,rs,m,o⟩:=X c.toNat F t1 [] [] (by omega) o1 rfl (by simp) (fun i hi=>by simp at hi);refine ⟨t',l,ns,rs,?_,o⟩
 unfold Q2t;refine Q4 e1 ?_
 have:(c.toNat:Int)=c:=by omega
 rw [this] at m;exact m
end
end Go.Ab
end
section
namespace Go.Ab
set_option maxRecDepth 20000
noncomputable section
abbrev Sq:=Int->Int->Bool
structure TR (A:List Rect):Prop where
 val:Val A
 sub:∀ {S:Sq},Fin S->(∀ x y,S x y=true->inR A x y=true)->Val (cn S)
theorem TR.of_pl {A:List Rect} (hv:Val A) {d:Int} (h0:0<=d/\d<=100) (hb:PlB d (inR A)):TR A:=⟨hv,fun b a=>(W0I b h0 fun x y h=>hb x y (a x y h)).1⟩
theorem Val.pos {l:List Rect} (h:Val l):∀ r ∈ l,r.L_<r.R_:=fun _ a=>(h.2.2.pos a).1
theorem Y5G {A:List Rect} (h:Val A):cn (inR A)=A:=(Z0T A).1 h.2.2
theorem Y6v:Fin fun _ _=>false:=by
 have:=G5 []
 exact this
theorem Y2j:cn (fun _ _=>false)=[]:=(Z0T []).1 Y2P
theorem Q3y {F:Nat} (hF:BIG<=F) {a b:List Rect} (la:a.length<=8000) (lb:b.length<=8000) (pa:∀ r ∈ a,r.L_<r.R_) (pb:∀ r ∈ b,r.L_<r.R_) {S T:Sq} (ea:inR a=S) (eb:inR b=T) {k:Bool->Bool->Bool} (hk:k false false=false) {q:Bool->Bool->Option Bool} (hq:∀ u v,q u v=some (k u v)) :
  V2 F a b q=some (cn fun x y=>k (S x y) (T x y)):=by
 subst ea eb;exact Q8O hF (by omega) pa pb hk hq
theorem Y8F {a b:List Rect} {S T:Sq} (ea:inR a=S) (eb:inR b=T) (how:Int):Fin fun x y=>G3 (S x y) (T x y) how:=by
 subst ea eb;exact Q4l a b how
theorem Q0y {S:Sq} (h:Fin S):inR (cn S)=S:=by
 funext x y;exact Q1b h x y
theorem Z3G {S T:Sq} (hS:Fin S) (hT:Fin T):Fin fun x y=>S x y&&T x y:=Y8F (Q0y hS) (Q0y hT) 2
theorem Y5A {S T:Sq} (hS:Fin S) (hT:Fin T):Fin fun x y=>S x y||T x y:=Y8F (Q0y hS) (Q0y hT) 1
theorem Z5P {S T:Sq} (hS:Fin S) (hT:Fin T):Fin fun x y=>S x y && !T x y:=Y8F (Q0y hS) (Q0y hT) 3
theorem Z0E (F:Nat) (u v:Bool):Q7g F u v=some (u&&v):=by
 unfold Q7g Z0F;cases u <;> rfl
theorem Z4x (F:Nat) (u v:Bool):Q7f F u v=some (u||v):=by
 unfold Q7f Q7B;cases u <;> rfl
theorem Q9Y (F:Nat) (u v:Bool):Q3E F u v=some (u && !v):=by
 unfold Q3E Q6B;cases u <;> rfl
structure TS where
 Y:Sq
 N:Sq
def TS.O (A:List Rect) (s:TS):Sq:=fun x y=>(inR A x y && !s.Y x y) && !s.N x y
structure TIn (A:List Rect) (s:TS):Prop where
 fY:Fin s.Y
 fN:Fin s.N
 sY:∀ x y,s.Y x y=true->inR A x y=true
 sN:∀ x y,s.N x y=true->inR A x y=true
theorem TIn.fO {A:List Rect} {s:TS} (h:TIn A s):Fin (s.O A):=Z5P (Z5P (G5 A) h.fY) h.fN
theorem TIn.vY {A:List Rect} (ht:TR A) {s:TS} (h:TIn A s):Val (cn s.Y):=ht.sub h.fY h.sY
theorem TIn.vN {A:List Rect} (ht:TR A) {s:TS} (h:TIn A s):Val (cn s.N):=ht.sub h.fN h.sN
theorem TIn.vO {A:List Rect} (ht:TR A) {s:TS} (h:TIn A s):Val (cn (s.O A)):=ht.sub h.fO fun x y a=>by
 unfold TS.O at a
 cases hA:inR A x y with
 | true=>rfl
 | false=>rw [hA] at a;cases a
def TS.sqs (A:List Rect) (s:TS):Squares:=⟨cn s.Y,cn s.N,cn (s.O A)⟩
theorem Val.le8 {l:List Rect} (h:Val l):l.length<=8000:=by have:=h.1;omega
theorem Z3h {F:Nat} (hF:BIG<=F) {p:TermPlace} {A:List Rect} (hp:p.t_=A) (ht:TR A) {s:TS} (h:TIn A s):Q1s F p (cn s.Y) (cn s.N)=some (s.sqs A):=by
 unfold Q1s;subst hp
 have a:Val (cn fun x y=>inR p.t_ x y && !s.Y x y):=ht.sub (Z5P (G5 _) h.fY) fun x y b=>by
  cases hA:inR p.t_ x y with
  | true=>rfl
  | false=>rw [hA] at b;cases b
 refine Q4 (Q3y hF ht.val.le8 (h.vY ht).le8 ht.val.pos (h.vY ht).pos rfl (Q0y h.fY) (k:=fun u v=>u && !v) rfl (Q9Y F)) (Q4 (Q3y hF a.le8 (h.vN ht).le8 a.pos (h.vN ht).pos (Q0y (Z5P (G5 _) h.fY)) (Q0y h.fN) (k:=fun u v=>u && !v) rfl (Q9Y F)) rfl)
end
end Go.Ab
end
section
namespace Go.Ab
set_option maxRecDepth 20000
noncomputable section
structure EV (y:Int) (cs:List Crop) (hs:List Rg_) (zs:List A2_) (c:Int) (A:List Rect):Prop where
 tr:TR A
 crop:0<=c/\c<(cs.length:Nat)
 fam:0<=(gl cs c.toNat).f_
 mrk:0<=(gl cs c.toNat).m_/\(gl cs c.toNat).m_<=31
 few:FewR hs
 hb:∀ f ∈ hs,Box (15:Nat) f.g_.t_
 hc:∀ f ∈ hs,0<=f.c_/\f.c_<(cs.length:Nat)
 yr:0<=y/\y<=100
 zs:LB 15 zs
theorem W0U {l:List Rg_} (hb:∀ f ∈ l,Box (15:Nat) f.g_.t_) (y:Int) (p:Int->Bool):Box (15:Nat) (yrs l y p):=fun r a=>by
 unfold yrs at a;obtain ⟨f,b,h⟩:=List.mem_flatMap.1 a
 exact hb f (List.mem_filter.1 b).1 r h
theorem Y9A (a b:List Rg_) (y:Int) (p:Int->Bool):yrs (a++b) y p=yrs a y p++yrs b y p:=by simp [yrs]
theorem W0i {l:List Rg_} (h:FewR l) (y:Int) (p:Int->Bool):(yrs l y p).length<=420:=by
 by_cases h0:l.length=0
 ·rw [List.eq_nil_of_length_eq_zero h0];simp [yrs]
 ·have d:=h.few y p (l.length-1) (by omega)
  have e:l=l.take (l.length-1)++[gl l (l.length-1)]:=by
   have:=y3 (l:=l) (i:=l.length-1) (by omega)
   rw [<-this,show l.length-1+1=l.length by omega,List.take_length]
  have c:(yrs [gl l (l.length-1)] y p).length<=120:=by
   have b:=((Q8W _).1 (h.hl.one _ (V6 (l:=l) (i:=l.length-1) (by omega)))).2.2.2.2.2;have:=b.1
   unfold yrs;rw [List.filter_cons]
   split
   ·simpa using this
   ·simp
  have a:=congrArg (fun m=>(yrs m y p).length) e;simp only [Y9A,List.length_append] at a
  omega
def knS (A:List Rect) (hs:List Rg_) (y:Int) (p:Int->Bool):Sq:=fun u v=>inR A u v&&inR (yrs hs y p) u v
theorem Z3F (A:List Rect) (hs:List Rg_) (y:Int) (p:Int->Bool):Fin (knS A hs y p):=Z3G (G5 A) (G5 _)
theorem Z8Z {A:List Rect} {hs:List Rg_} {y:Int} {p:Int->Bool} {u v:Int} (h:knS A hs y p u v=true):inR A u v=true:=by
 unfold knS at h;rw [Bool.and_eq_true] at h
 exact h.1
variable {F:Nat} {cs:List Crop} {hs:List Rg_} {zs:List A2_} {y c d:Int} {A:List Rect}
theorem Q6g (hF:BIG<=F) (h:EV y cs hs zs c A) {p:TermPlace} (e1:p.world_.history_=hs) (e2:p.world_.y_=y) (e3:p.t_=A) {n:Int} (n0:0<=n) (n1:n<=1000) {q:Int->Option Bool} (s:Int->Bool) (hq:∀ f ∈ hs,q f.c_=some (s f.c_)):z8 F p n q=some (cn (knS A hs (y-n) s)):=by
 subst e1 e2 e3;have e:=h.yr
 unfold z8;have a:=W0U h.hb (p.world_.y_-n) s
 have:=W0i h.few (p.world_.y_-n) s
 exact Z3 (Y3 (by omega) (by omega)) (Q4 (Z9d hF h.few.hl _ s hq) (Q4 (Q3y hF h.tr.val.le8 (by omega) h.tr.val.pos (fun r b=>(a r b).2.1) rfl rfl (k:=fun u v=>u&&v) rfl (Z0E F)) rfl))
end
end Go.Ab
end
section
namespace Go.Ab
set_option maxRecDepth 20000
noncomputable section
def W1k (cs:List Crop) (f:Int) (k:Int):Bool:=(gl cs k.toNat).f_==f
def Y8h (cs:List Crop) (f:Int) (k:Int):Bool:=(gl cs k.toNat).f_ != f
def smS (A:List Rect) (hs:List Rg_) (cs:List Crop) (y f:Int):Nat->TS
 | 0=>⟨inR A,fun _ _=>false⟩
 | k+1=>⟨fun u v=>(smS A hs cs y f k).Y u v&&knS A hs (y-((k+1:Nat):Int)) (W1k cs f) u v,fun u v=>(smS A hs cs y f k).N u v||knS A hs (y-((k+1:Nat):Int)) (Y8h cs f) u v⟩
theorem Y6a (A:List Rect) (hs:List Rg_) (cs:List Crop) (y f:Int):∀ k,TIn A (smS A hs cs y f k)
 | 0=>⟨G5 A,Y6v,fun _ _ h=>h,fun _ _ h=>by cases h⟩
 | k+1=>by
  have a:=Y6a A hs cs y f k;refine ⟨Z3G a.fY (Z3F _ _ _ _),Y5A a.fN (Z3F _ _ _ _),fun u v h=>?_,fun u v h=>?_⟩
  ·unfold smS at h
   simp only [Bool.and_eq_true] at h;exact a.sY u v h.1
  ·unfold smS at h
   simp only [Bool.or_eq_true] at h;rcases h with h|h
   ·exact a.sN u v h
   ·exact Z8Z h
variable {F:Nat} {cs:List Crop} {hs:List Rg_} {zs:List A2_} {y c d:Int} {A:List Rect}
theorem EV.kn_val (h:EV y cs hs zs c A) (k:Int) (p:Int->Bool):Val (cn (knS A hs k p)):=h.tr.sub (Z3F _ _ _ _) fun _ _ h=>Z8Z h
theorem Y2Z (hF:BIG<=F) (h:EV y cs hs zs c A) {p:TermPlace} (e1:p.world_.history_=hs) (e2:p.world_.y_=y) (e3:p.t_=A) (e4:p.world_.crops_=cs) (e5:p.line_.c_=c) {n:Nat} (n0:1<=n) (n1:n<=100) :
  Q3W F p (n:Int)=some ((smS A hs cs y (gl cs c.toNat).f_ (n-1)).sqs A):=by
 have i:=hF;unfold BIG at i
 have b:=h.crop;unfold Q3W
 have e:∀ (m f k:Nat),k+m=n-1->m<f->Z6 (fun again (z:(List Rect)×(List Rect)×Int)=>Q0R F p (n:Int) again z.1 z.2.1 z.2.2) f (cn (smS A hs cs y (gl cs c.toNat).f_ k).Y,cn (smS A hs cs y (gl cs c.toNat).f_ k).N,((k:Nat):Int)+1)=some ((smS A hs cs y (gl cs c.toNat).f_ (n-1)).sqs A):=by
  intro m
  induction m with
  | zero=>
   intro f k r q;obtain ⟨f,rfl⟩:∃ g,f=g+1:=⟨f-1,by omega⟩
   show Q0R F p (n:Int) (Z6 _ f) _ _ (((k:Nat):Int)+1)=_;unfold Q0R
   refine Q9 (decide_eq_false (by omega)) ?_;unfold Q6P
   rw [show n-1=k by omega];exact Q4 (Z3h hF e3 h.tr (Y6a _ _ _ _ _ k)) rfl
  | succ m ih=>
   intro f k r q;obtain ⟨f,rfl⟩:∃ g,f=g+1:=⟨f-1,by omega⟩
   show Q0R F p (n:Int) (Z6 _ f) _ _ (((k:Nat):Int)+1)=_;unfold Q0R
   have a:=Y6a A hs cs y (gl cs c.toNat).f_ k;have w:∀ g ∈ hs,Q2y F g.c_ p (gl p.world_.crops_ p.line_.c_.toNat).f_=some (W1k cs (gl cs c.toNat).f_ g.c_):=fun g j=>by
    unfold Q2y;rw [e4,e5]
    exact Z3 (h.hc g j) rfl
   have t:∀ g ∈ hs,Q2x F g.c_ p (gl p.world_.crops_ p.line_.c_.toNat).f_=some (Y8h cs (gl cs c.toNat).f_ g.c_):=fun g j=>by
    unfold Q2x;rw [e4,e5]
    exact Z3 (h.hc g j) rfl
   have l:=h.kn_val (y-(((k:Nat):Int)+1)) (W1k cs (gl cs c.toNat).f_);have o:=h.kn_val (y-(((k:Nat):Int)+1)) (Y8h cs (gl cs c.toNat).f_)
   have s:=ih f (k+1) (by omega) (by omega);refine Z8 (decide_eq_true (by omega)) (Q4 (Q6g hF h e1 e2 e3 (by omega) (by omega) _ w) (Q4 (Q6g hF h e1 e2 e3 (by omega) (by omega) _ t) (Q4 (Q3y hF (a.vY h.tr).le8 l.le8 (a.vY h.tr).pos l.pos (Q0y a.fY) (Q0y (Z3F _ _ _ _)) (k:=fun u v=>u&&v) rfl (Z0E F)) (Q4 (Q3y hF (a.vN h.tr).le8 o.le8 (a.vN h.tr).pos o.pos (Q0y a.fN) (Q0y (Z3F _ _ _ _)) (k:=fun u v=>u||v) rfl (Z4x F)) (Z3 (Y3 (by omega) (by omega)) ?_)))))
   exact s
 refine Z3 (by rw [e4,e5];exact b) ?_;have:=e (n-1) F 0 (by omega) (by omega)
 show Z6 _ F (p.t_,[],(1:Int))=_;rw [e3]
 rw [show (smS A hs cs y (gl cs c.toNat).f_ 0)=⟨inR A,fun _ _=>false⟩ from rfl] at this;simp only [Y5G h.tr.val,Y2j] at this
 exact this
def Z6m (A:List Rect) (b:Bool):TS:=if b then ⟨inR A,fun _ _=>false⟩ else ⟨fun _ _=>false,inR A⟩
theorem Z9v (A:List Rect) (b:Bool):TIn A (Z6m A b):=by
 cases b
 ·exact ⟨Y6v,G5 A,fun _ _ h=>(by cases h),fun _ _ h=>h⟩
 ·exact ⟨G5 A,Y6v,fun _ _ h=>h,fun _ _ h=>by cases h⟩
theorem Y9i (A:List Rect) (b:Bool):(Z6m A b).O A=fun _ _=>false:=by
 funext u v
 cases b <;> simp [Z6m,TS.O]
theorem Q9l {p:TermPlace} (e3:p.t_=A) (hv:Val A) (b:Bool):Q0s F p b=some ((Z6m A b).sqs A):=by
 unfold Q0s TS.sqs;rw [Y9i,Y2j,e3]
 cases b
 ·refine Q9 rfl ?_
  show some _=some (Squares.mk (cn fun _ _=>false) (cn (inR A)) []);rw [Y2j,Y5G hv]
 ·refine Z8 rfl ?_
  show some _=some (Squares.mk (cn (inR A)) (cn fun _ _=>false) []);rw [Y2j,Y5G hv]
def Z9p (A:List Rect) (S:Sq):TS:=⟨fun u v=>inR A u v&&S u v,fun u v=>inR A u v && !S u v⟩
theorem Y8L {A:List Rect} {S:Sq} (h:Fin S):TIn A (Z9p A S):=by
 refine ⟨Z3G (G5 A) h,Z5P (G5 A) h,fun u v a=>?_,fun u v a=>?_⟩
 ·simp only [Z9p,Bool.and_eq_true] at a
  exact a.1
 ·simp only [Z9p,Bool.and_eq_true] at a
  exact a.1
theorem W1E (A:List Rect) (S:Sq):(Z9p A S).O A=fun _ _=>false:=by
 funext u v
 simp only [Z9p,TS.O]
 cases inR A u v <;> cases S u v <;> rfl
theorem Z3M (hF:BIG<=F) {p:TermPlace} (e3:p.t_=A) (ht:TR A) {S:Sq} (h:Fin S):Q0S F p (cn fun u v=>inR A u v&&S u v)=some ((Z9p A S).sqs A):=by
 unfold Q0S TS.sqs;have a:=Z3G (G5 A) h
 have b:=ht.sub a fun u v e=>by
  simp only [Bool.and_eq_true] at e;exact e.1
 rw [W1E,Y2j,e3];refine Q4 (Q3y hF ht.val.le8 b.le8 ht.val.pos b.pos rfl (Q0y a) (k:=fun u v=>u && !v) rfl (Q9Y F)) ?_
 rw [show (fun u v=>inR A u v && !(inR A u v&&S u v))=(Z9p A S).N from ?_]
 ·rfl
 ·funext u v
  simp only [Z9p]
  cases inR A u v <;> cases S u v <;> rfl
end
end Go.Ab
end
section
namespace Go.Ab
set_option maxRecDepth 20000
noncomputable section
theorem Y6c {R:Type} {body:(Int->Option R)->Int->Option R} {c y:Option R} (N:Nat) (p:Nat->Bool)
  (bad:∀ again (i:Nat),i<N->p i=true->body again (i:Int)=c) (good:∀ again (i:Nat) z,i<N->p i=false->again ((i:Int)+1)=z->body again (i:Int)=z)
  (stop:∀ again,body again (N:Int)=y) {F:Nat} (hF:N<F):Z6 body F 0=if (List.range N).any p=true then c else y:=by
 refine Y7 (fun z:Int=>∃ i:Nat,z=i/\i<=N/\∀ j,j<i->p j=false) (fun z=>N-z.toNat) (fun again z e f=>?_) ⟨0,rfl,Nat.zero_le _,fun j h=>absurd h (Nat.not_lt_zero j)⟩ (by simp;omega);obtain ⟨i,rfl,g,a⟩:=e
 rcases Nat.lt_or_ge i N with h|h
 ·cases hpi:p i with
  | true=>
   rw [if_pos (List.any_eq_true.2 ⟨i,List.mem_range.2 h,hpi⟩)];exact bad again i h hpi
  | false=>
   refine good again i _ h hpi (f _ ⟨i+1,by omega,h,fun j b=>?_⟩ (by omega))
   by_cases hji:j=i
   ·rw [hji];exact hpi
   ·exact a j (by omega)
 ·have:i=N:=by omega
  subst this;rw [if_neg (by rw [Bool.not_eq_true,List.any_eq_false];intro j b;rw [a j (List.mem_range.1 b)];simp)]
  exact stop again
end
end Go.Ab
end
section
namespace Go.Ab
set_option maxRecDepth 20000
noncomputable section
end
end Go.Ab
end
section
namespace Go.Ab
set_option maxRecDepth 20000
noncomputable section
theorem Y1e {F:Nat} (hF:BIG<=F) (s:ByteArray):Z1o F s=some (Q2H s):=by
 unfold BIG at hF;unfold Z1o
 have g:Q2H s=false->Q1L F s true=some (Q2H s):=fun h=>by unfold Q1L;rw [h];exact Z8 rfl rfl
 refine Q8 (fun h=>g ?_) (fun h=>?_)
 ·have h:=of_decide_eq_true h
  unfold Q2H;rw [decide_eq_false (by omega:¬ 1<=s.size)];rfl
 have t:1<=s.size:=by have:=of_decide_eq_false h;omega
 refine Q8 (fun h=>g ?_) (fun h=>?_)
 ·have h:=of_decide_eq_true h
  unfold Q2H;rw [decide_eq_false (by omega:¬ s.size<=12)];simp
 have r:s.size<=12:=by have:=of_decide_eq_false h;omega
 have m:Q2H s=decide (∀ i,i<s.size->(Z4i (sAt s (i:Nat))||(!decide (i=0)&&Y2g (sAt s (i:Nat))))=true):=by
  unfold Q2H;rw [decide_eq_true t,decide_eq_true r];simp
 have j:Z4i (sAt s (0:Int))=false->Q2H s=false:=fun h=>by
  rw [m,decide_eq_false_iff_not];intro f
  have:=f 0 (by omega)
  rw [show (((0:Nat):Int))=0 from rfl,h] at this;simp at this
 refine Z3 (by omega) (Q8 (fun h=>g (j ?_)) (fun h=>?_))
 ·have h:=of_decide_eq_true h
  unfold Z4i;rw [decide_eq_false (by omega)];rfl
 have u:=of_decide_eq_false h;refine Z3 (by omega) ?_
 by_cases h4:122<sAt s (0:Int)
 ·rw [decide_eq_true h4]
  refine g (j ?_);unfold Z4i;rw [decide_eq_false (by omega:¬ sAt s (0:Int)<=122)];simp
 rw [decide_eq_false h4];have o:Z4i (sAt s (0:Int))=true:=by
  unfold Z4i;rw [decide_eq_true (by omega),decide_eq_true (by omega)];rfl
 unfold Q1L;refine Q9 rfl ?_
 refine (Y6c (c:=some false) (y:=some true) s.size (fun i=> !(Z4i (sAt s (i:Nat))||Y2g (sAt s (i:Nat)))) (fun a i l b=>?_) (fun a i z l b m=>?_) (fun a=>?_) (by omega)).trans ?_
 ·rw [Bool.not_eq_true',Bool.or_eq_false_iff] at b
  unfold Z4i Y2g at b;unfold Q9p
  have k2:z6 F (i:Int) a true=some false:=by unfold z6;exact Z8 rfl rfl
  refine Z8 (decide_eq_true (by omega)) (Z3 (by omega) ?_);have q:gd (0<=(i:Int)/\(i:Int)<((s.size:Nat):Int)) (br (decide (sAt s (i:Nat)<48)) (z6 F (i:Int) a true) (gd (0<=(i:Int)/\(i:Int)<((s.size:Nat):Int)) (z6 F (i:Int) a (decide (57<sAt s (i:Nat))))))=some false:=by
   refine Z3 (by omega) (Q8 (fun _=>k2) (fun e=>Z3 (by omega) ?_));have e:=of_decide_eq_false e
   rw [decide_eq_true (p:=57<sAt s (i:Nat))]
   ·exact k2
   ·have k:=b.2
    rw [decide_eq_true (by omega:48<=sAt s (i:Nat)),Bool.true_and,decide_eq_false_iff_not] at k;omega
  refine Q8 (fun _=>q) (fun e=>Z3 (by omega) ?_);refine Z8 ?_ q
  have e:=of_decide_eq_false e;have k:=b.1
  rw [decide_eq_true (by omega:97<=sAt s (i:Nat)),Bool.true_and,decide_eq_false_iff_not] at k;exact decide_eq_true (by omega)
 ·rw [Bool.not_eq_false',Bool.or_eq_true] at b
  unfold Z4i Y2g at b;rw [Bool.and_eq_true,Bool.and_eq_true,decide_eq_true_eq,decide_eq_true_eq,decide_eq_true_eq,decide_eq_true_eq] at b
  unfold Q9p;have k2:z6 F (i:Int) a false=z:=by unfold z6;exact Q9 rfl (Z3 (Y3 (by omega) (by omega)) m)
  refine Z8 (decide_eq_true (by omega)) (Z3 (by omega) ?_);refine Q8 (fun e=>?_) (fun e=>?_)
  ·have e:=of_decide_eq_true e
   refine Z3 (by omega) (Q9 (decide_eq_false (by omega)) (Z3 (by omega) ?_));rw [decide_eq_false (p:=57<sAt s (i:Nat)) (by omega)];exact k2
  ·have e:=of_decide_eq_false e
   refine Z3 (by omega) (Q8 (fun k=>?_) (fun k=>k2));have k:=of_decide_eq_true k
   refine Z3 (by omega) (Q9 (decide_eq_false (by omega)) (Z3 (by omega) ?_));rw [decide_eq_false (p:=57<sAt s (i:Nat)) (by omega)];exact k2
 ·unfold Q9p
  exact Q9 (decide_eq_false (by omega)) rfl
 ·rw [m]
  split
  ·rename_i n
   congr 1
   symm
   rw [decide_eq_false_iff_not];intro f
   obtain ⟨i,l,b⟩:=List.any_eq_true.1 n;have:=f i (List.mem_range.1 l)
   rw [Bool.not_eq_true',Bool.or_eq_false_iff] at b;rw [b.1,b.2] at this
   simp at this
  ·rename_i n
   congr 1
   symm
   rw [decide_eq_true_eq];intro i l
   rw [Bool.not_eq_true,List.any_eq_false] at n;have:=n i (List.mem_range.2 l)
   rw [Bool.not_eq_true,Bool.not_eq_false'] at this
   by_cases h0:i=0
   ·subst h0;rw [show (((0:Nat):Int))=0 from rfl,o];rfl
   ·rw [decide_eq_false h0];simpa using this
theorem Y7V {body:(Int->Option Int)->Int->Option Int} (N:Nat) (p:Nat->Int)
  (bad:∀ again (i:Nat),i<N->p i≠0->body again (i:Int)=some (p i)) (good:∀ again (i:Nat) z,i<N->p i=0->again ((i:Int)+1)=z->body again (i:Int)=z)
  (stop:∀ again,body again (N:Int)=some 0) {F:Nat} (hF:N<F):Z6 body F 0=some ((((List.range N).map p).find? fun c=>c != 0).getD 0):=by
 refine Y7 (fun z:Int=>∃ i:Nat,z=i/\i<=N/\∀ j,j<i->p j=0) (fun z=>N-z.toNat) (fun again z l m=>?_) ⟨0,rfl,Nat.zero_le _,fun j h=>absurd h (Nat.not_lt_zero j)⟩ (by simp;omega);obtain ⟨i,rfl,o,b⟩:=l
 rcases Nat.lt_or_ge i N with h|h
 ·by_cases hpi:p i=0
  ·refine good again i _ h hpi (m _ ⟨i+1,by omega,h,fun j a=>?_⟩ (by omega))
   by_cases hji:j=i
   ·rw [hji];exact hpi
   ·exact b j (by omega)
  ·rw [bad again i h hpi]
   congr 1
   have e:List.range N=List.range i++i::(List.range N).drop (i+1):=by
    have n:(List.range N).take i=List.range i:=by rw [List.take_range];congr 1;omega
    have k:=List.take_append_drop i (List.range N);rw [n,List.drop_eq_getElem_cons (by simpa using h)] at k
    rw [List.getElem_range] at k;exact k.symm
   have g:(((List.range i).map p).find? fun c=>c != 0)=none:=List.find?_eq_none.2 fun c f=>by
    obtain ⟨j,a,rfl⟩:=List.mem_map.1 f;rw [b j (List.mem_range.1 a)];simp
   rw [e,List.map_append,List.find?_append,g,Option.none_or,List.map_cons,List.find?_cons];have:(p i != 0)=true:=by simpa using hpi
   rw [this];rfl
 ·have:i=N:=by omega
  subst this;rw [stop again]
  congr 1
  have g:(((List.range i).map p).find? fun c=>c != 0)=none:=List.find?_eq_none.2 fun c f=>by
   obtain ⟨j,a,rfl⟩:=List.mem_map.1 f;rw [b j (List.mem_range.1 a)];simp
  rw [g];rfl
def crE (l:List Crop) (i:Nat):Int:=
 if Q2H (gl l i).n_=false then 5 else if (gl l i).f_<0\/40<(gl l i).f_ then 2 else if (gl l i).m_<0\/31<(gl l i).m_ then 14
 else if 0<i/\(sLt (gl l i).n_ (gl l (i-1)).n_||sEq (gl l i).n_ (gl l (i-1)).n_)=true then 6 else 0
def crC (l:List Crop):Int:=if 40<l.length then 1 else (((List.range l.length).map (crE l)).find? fun c=>c != 0).getD 0
def NmS (l:List Crop):Prop:=∀ x ∈ l,x.n_.size<=4294967296
theorem W1W {l:List Crop} {i:Nat} (h:Q2H (gl l i).n_=false):crE l i=5:=by unfold crE;rw [if_pos h]
theorem W1X {l:List Crop} {i:Nat} (h:Q2H (gl l i).n_=true) (h2:(gl l i).f_<0\/40<(gl l i).f_):crE l i=2:=by
 unfold crE;rw [if_neg (by rw [h];simp),if_pos h2]
theorem W1F {l:List Crop} {i:Nat} (h:Q2H (gl l i).n_=true) (h2:¬ ((gl l i).f_<0\/40<(gl l i).f_)) (h3:(gl l i).m_<0\/31<(gl l i).m_):crE l i=14:=by
 unfold crE;rw [if_neg (by rw [h];simp),if_neg h2,if_pos h3]
theorem W1V {l:List Crop} {i:Nat} (h:Q2H (gl l i).n_=true) (h2:¬ ((gl l i).f_<0\/40<(gl l i).f_)) (h3:¬ ((gl l i).m_<0\/31<(gl l i).m_))
  (h4:0<i/\(sLt (gl l i).n_ (gl l (i-1)).n_||sEq (gl l i).n_ (gl l (i-1)).n_)=true):crE l i=6:=by
 unfold crE;rw [if_neg (by rw [h];simp),if_neg h2,if_neg h3,if_pos h4]
theorem W1G {l:List Crop} {i:Nat} (h:Q2H (gl l i).n_=true) (h2:¬ ((gl l i).f_<0\/40<(gl l i).f_)) (h3:¬ ((gl l i).m_<0\/31<(gl l i).m_))
  (h4:¬ (0<i/\(sLt (gl l i).n_ (gl l (i-1)).n_||sEq (gl l i).n_ (gl l (i-1)).n_)=true)):crE l i=0:=by
 unfold crE;rw [if_neg (by rw [h];simp),if_neg h2,if_neg h3,if_neg h4]
theorem Z5A {F:Nat} (hF:BIG<=F) {l:List Crop} (hn:NmS l):Q6Z F l=some (crC l):=by
 have v:=hF;unfold BIG at hF
 unfold Q6Z crC;refine Q8 (fun h=>?_) (fun h=>?_)
 ·rw [if_pos (by have:=of_decide_eq_true h;omega)]
 have w:l.length<=40:=by have:=of_decide_eq_false h;omega
 rw [if_neg (by omega)];have e:∀ (a:Int->Option Int) (i:Nat),i<l.length->Q4D F l a (i:Int)=if crE l i=0 then a ((i:Int)+1) else some (crE l i):=by
  intro a i j;unfold Q4D
  simp only [Int.toNat_natCast];have hs:=hn _ (V6 j)
  refine Z8 (decide_eq_true (by omega)) (Z3 (by omega) (Q4 (Z1S (by omega) hs) ?_));refine Q8 (fun b=>?_) (fun b=>?_)
  ·have b:Q2H (gl l i).n_=false:=by simpa using b
   rw [W1W b,if_neg (by decide)]
  have b:Q2H (gl l i).n_=true:=by simpa using b
  have k:(gl l i).f_<0\/40<(gl l i).f_->Q2Y F l (i:Int) a true=if crE l i=0 then a ((i:Int)+1) else some (crE l i):=fun h=>by
   rw [W1X b h,if_neg (by decide)];unfold Q2Y
   exact Z8 rfl rfl
  refine Q8 (fun p=>k (.inl (of_decide_eq_true p))) (fun p=>?_);have p:=of_decide_eq_false p
  by_cases h3:40<(gl l i).f_
  ·rw [decide_eq_true h3];exact k (.inr h3)
  have m:¬ ((gl l i).f_<0\/40<(gl l i).f_):=by omega
  rw [decide_eq_false h3];unfold Q2Y
  simp only [Int.toNat_natCast];refine Q9 rfl ?_
  have g:(gl l i).m_<0\/31<(gl l i).m_->Q2X F l (i:Int) a true=if crE l i=0 then a ((i:Int)+1) else some (crE l i):=fun h=>by
   rw [W1F b m h,if_neg (by decide)];unfold Q2X
   exact Z8 rfl rfl
  refine Q8 (fun n=>g (.inl (of_decide_eq_true n))) (fun n=>?_);have n:=of_decide_eq_false n
  by_cases h5:31<(gl l i).m_
  ·rw [decide_eq_true h5];exact g (.inr h5)
  have s:¬ ((gl l i).m_<0\/31<(gl l i).m_):=by omega
  rw [decide_eq_false h5];unfold Q2X
  simp only [Int.toNat_natCast];refine Q9 rfl ?_
  refine Q8 (fun f=>?_) (fun f=>?_)
  ·have f:0<i:=by have:=of_decide_eq_true f;omega
   have t:((i:Int)-1).toNat=i-1:=by omega
   refine Z3 (Y3 (by omega) (by omega)) (Z3 (by omega) ?_);rw [t]
   unfold Q2W;refine Q8 (fun o=>?_) (fun o=>?_)
   ·rw [W1V b m s ⟨f,o⟩,if_neg (by decide)]
   ·rw [W1G b m s (fun r=>by rw [r.2] at o;cases o),if_pos rfl]
    exact Z3 (Y3 (by omega) (by omega)) rfl
  ·have f:¬ 0<i:=by have:=of_decide_eq_false f;omega
   rw [W1G b m s (fun r=>f r.1),if_pos rfl];unfold Q2W
   exact Q9 rfl (Z3 (Y3 (by omega) (by omega)) rfl)
 refine Y7V l.length (crE l) (fun a i j q=>?_) (fun a i z j q u=>?_) (fun a=>?_) (by omega)
 ·rw [e a i j,if_neg q]
 ·rw [e a i j,if_pos q];exact u
 ·unfold Q4D
  exact Q9 (decide_eq_false (by omega)) rfl
theorem CropT.nm {l:List Crop} (h:CropT l):NmS l:=fun x e=>by
 obtain ⟨i,b,rfl⟩:=List.getElem_of_mem e;have a:=(h.one i b).1
 have:=h.len
 rw [Y4m l i b] at a;rw [a]
 have:=(Y1D i (by omega)).2
 omega
theorem CropT.crC {l:List Crop} (h:CropT l):crC l=0:=by
 have a:=Y2i (F:=BIG) (Nat.le_refl _) h;rw [Z5A (Nat.le_refl _) h.nm] at a
 exact Option.some.inj a
end
end Go.Ab
end
section
end
section
namespace Go.Ab
set_option maxRecDepth 20000
noncomputable section
def TD:Nat->Term->Prop
 | 0,_=>False
 | d+1,t=>I64 t.op_/\I64 t.num_/\t.kids_.length<=1000000/\∀ k ∈ t.kids_,TD d k
theorem TD.op {d:Nat} {t:Term} (h:TD d t):I64 t.op_:=by
 cases d with
 | zero=>exact h.elim
 | succ d=>exact h.1
def szD:Nat->Term->Nat
 | 0,_=>0
 | d+1,t=>1+(t.kids_.map (szD d)).sum
theorem Y9F {d:Nat} {t:Term} (h:TD d t):1<=szD d t:=by
 cases d with
 | zero=>exact h.elim
 | succ d=>unfold szD;omega
def Z7E (d:Nat) (t:Term) (i:Nat):Nat:=1+((t.kids_.take i).map (szD d)).sum
theorem Z8D {d i:Nat} {t:Term} (h:i<t.kids_.length):Z7E d t (i+1)=Z7E d t i+szD d (gl t.kids_ i):=by
 unfold Z7E;rw [y3 h,List.map_append,List.sum_append];simp;omega
theorem Z8E {d i:Nat} {t:Term}:Z7E d t i<=szD (d+1) t:=by
 unfold Z7E szD;have:(t.kids_.map (szD d)).sum=((t.kids_.take i).map (szD d)).sum+((t.kids_.drop i).map (szD d)).sum:=by
  rw [<-List.sum_append, <-List.map_append,List.take_append_drop]
 omega
theorem Y3J {d:Nat} {t:Term}:Z7E d t t.kids_.length=szD (d+1) t:=by unfold Z7E szD;rw [List.take_length]
theorem Z6q:∀ (d:Nat) {F:Nat} (_:BIG+d<=F) {t:Term} (_:TD d t) {m:Int} (_:0<=m) (_:m<=40),∃ v,Q4Z F t m=some v/\1<=v/\v<=m+1/\(m<v↔m<(szD d t:Int))/\((szD d t:Int)<=m->v=szD d t)
 | 0,_,_,_,h,_,_,_=>h.elim
 | d+1,0,hF,_,_,_,_,_=>by unfold BIG at hF;omega
 | d+1,F+1,hF,t,h,m,m0,m1=>by
  obtain ⟨_,_,J,E⟩:=h;show ∃ v,Q7C F (Q4Z F) t m=some v/\_
  unfold Q7C;have f : BIG+d<=F:=by omega
  have s:=f;unfold BIG at s
  suffices hs:∀ (n:Nat) (i:Nat) (v:Int),t.kids_.length-i<n->i<=t.kids_.length->1<=v->v<=m+1->(v<=m->v=(Z7E d t i:Int))->(m<v->m<(Z7E d t i:Int)) ->
    ∃ u,Z6 (fun again (z:Int×Int)=>Q9m F (Q4Z F) t m again z.1 z.2) n (v,(i:Int))=some u/\1<=u/\u<=m+1/\(m<u↔m<(szD (d+1) t:Int))/\((szD (d+1) t:Int)<=m->u=szD (d+1) t) by
   refine hs F 0 1 (by omega) (by omega) (by omega) (by omega) (fun _=>by simp [Z7E]) (fun h=>?_);simp [Z7E];omega
  intro n
  induction n with
  | zero=>intro i v h;omega
  | succ n ih=>
   intro i v I H p l g a;show ∃ u,Q9m F (Q4Z F) t m (Z6 _ n) v (i:Int)=some u/\_
   unfold Q9m
   by_cases hil:i<t.kids_.length
   ·rw [show decide ((i:Int)<((t.kids_.length:Nat):Int))=true from decide_eq_true (by omega)]
    have e:=E _ (V6 hil);have b:=e.op
    by_cases hv:m<v
    ·refine ⟨v,?_,p,l,?_,fun h=>?_⟩
     ·refine Z8 rfl (Z3 (by omega) (Z3 b (Z8 (decide_eq_true hv) rfl)))
     ·exact ⟨fun _=>by have:=a hv;have:=Z8E (d:=d) (i:=i) (t:=t);omega,fun _=>hv⟩
     ·have:=a hv;have:=Z8E (d:=d) (i:=i) (t:=t);omega
    ·obtain ⟨w,x,K,G,o,r⟩:=Z6q d f e (m:=m-v) (by omega) (by omega)
     have q:=Z8D (d:=d) hil;have D:=g (by omega)
     have j:=ih (i+1) (v+w) (by omega) (by omega) (by omega) (by omega) (fun h=>by
      have:=r (by
       have:¬ m-v<w:=by omega
       have:=mt o.2 this
       omega)
      omega) (fun h=>by
      have:=o.1 (by omega)
      omega)
     obtain ⟨u,C,B⟩:=j;refine ⟨u,?_,B⟩
     refine Z8 rfl (Z3 (by omega) (Z3 b (Q9 (decide_eq_false hv) (Z3 (Y3 (by omega) (by omega)) (Q4 x (Z3 (Y3 (by omega) (by omega)) (Z3 (Y3 (by omega) (by omega)) ?_)))))));rw [<-C];congr 1
   ·have k:i=t.kids_.length:=by omega
    subst k;rw [Y3J] at g a
    refine ⟨v,Q9 (decide_eq_false (by omega)) rfl,p,l,⟨a,fun h=>?_⟩,fun h=>?_⟩
    ·by_cases hv:m<v
     ·exact hv
     ·have:=g (by omega);omega
    ·by_cases hv:m<v
     ·have:=a hv;omega
     ·exact g (by omega)
theorem Z4Q:∀ (d:Nat) (_:d<=2000000) {F:Nat} (_:BIG+d<=F) {t:Term} (_:TD d t),∃ v,Q3B F t=some v/\1<=v/\v<=41*d/\(40<v↔40<(szD d t:Int))/\((szD d t:Int)<=40->v=szD d t)
 | 0,_,_,_,_,h=>h.elim
 | d+1,_,0,hF,_,_=>by unfold BIG at hF;omega
 | d+1,hd,F+1,hF,t,h=>by
  obtain ⟨_,_,H,C⟩:=h;show ∃ v,Q6q F (Q3B F) t=some v/\_
  unfold Q6q;have e : BIG+d<=F:=by omega
  have s:=e;unfold BIG at s
  suffices hs:∀ (n:Nat) (i:Nat) (v:Int),t.kids_.length-i<n->i<=t.kids_.length->1<=v->v<=41*((d+1:Nat):Int)->(v<=40->v=(Z7E d t i:Int))->(40<v->40<(Z7E d t i:Int)) ->
    ∃ u,Z6 (fun again (z:Int×Int)=>Q7V F (Q3B F) t again z.1 z.2) n (v,(i:Int))=some u/\1<=u/\u<=41*((d+1:Nat):Int)/\(40<u↔40<(szD (d+1) t:Int))/\((szD (d+1) t:Int)<=40->u=szD (d+1) t) by
   exact hs F 0 1 (by omega) (by omega) (by omega) (by omega) (fun _=>by simp [Z7E]) (fun h=>by omega)
  intro n
  induction n with
  | zero=>intro i v h;omega
  | succ n ih=>
   intro i v G E q o g f;show ∃ u,Q7V F (Q3B F) t (Z6 _ n) v (i:Int)=some u/\_
   unfold Q7V
   by_cases hil:i<t.kids_.length
   ·rw [show decide ((i:Int)<((t.kids_.length:Nat):Int))=true from decide_eq_true (by omega)]
    have b:=C _ (V6 hil);have a:=b.op
    have r:=Z8D (d:=d) hil
    by_cases hv:v<=40
    ·obtain ⟨w,x,I,D,k,p⟩:=Z4Q d (by omega) e b
     have B:=g hv;obtain ⟨u,l,j⟩:=ih (i+1) (v+w) (by omega) (by omega) (by omega) (by omega) (fun h=>by
      have:=p (by
       have:¬ 40<w:=by omega
       have:=mt k.2 this
       omega)
      omega) (fun h=>by
      by_cases h40:40<w
      ·have:=k.1 h40;omega
      ·have:=p (by have:=mt k.2 h40;omega);omega)
     refine ⟨u,?_,j⟩;refine Z8 rfl (Z3 (by omega) (Z3 a (Z8 (decide_eq_true hv) (Q4 x (Z3 (Y3 (by omega) (by omega)) ?_)))))
     unfold Q5i;refine Z3 (Y3 (by omega) (by omega)) ?_
     rw [<-l];congr 1
    ·obtain ⟨u,l,j⟩:=ih (i+1) v (by omega) (by omega) q o (fun h=>by omega) (fun h=>by have:=f h;omega)
     refine ⟨u,?_,j⟩;refine Z8 rfl (Z3 (by omega) (Z3 a (Q9 (decide_eq_false hv) ?_)))
     unfold Q5i;refine Z3 (Y3 (by omega) (by omega)) ?_
     rw [<-l];congr 1
   ·have m:i=t.kids_.length:=by omega
    subst m;rw [Y3J] at g f
    refine ⟨v,Q9 (decide_eq_false (by omega)) rfl,q,o,⟨f,fun h=>?_⟩,fun h=>?_⟩
    ·by_cases hv:40<v
     ·exact hv
     ·have:=g (by omega);omega
    ·by_cases hv:40<v
     ·have:=f hv;omega
     ·exact g (by omega)
def Q5q (n:Int):Bool:=n==1||(n==2||(n==4||(n==8||n==16)))
theorem Z0m (F:Nat) (n:Int):Q3M F n=some (Q5q n):=by
 unfold Q3M Q1x Q5q
 cases h1:(n==(1:Int)) <;> cases h2:(n==(2:Int)) <;> cases h3:(n==(4:Int)) <;> cases h4:(n==(8:Int)) <;> rfl
theorem Z4u (F:Nat) (n:Int):Q2w F n=some (Q5q n):=by
 unfold Q2w
 by_cases h:1<=n/\n<=16
 ·have e:n=1\/n=2\/n=3\/n=4\/n=5\/n=6\/n=7\/n=8\/n=9\/n=10\/n=11\/n=12\/n=13\/n=14\/n=15\/n=16:=by omega
  rcases e with rfl|rfl|rfl|rfl|rfl|rfl|rfl|rfl|rfl|rfl|rfl|rfl|rfl|rfl|rfl|rfl <;> rfl
 ·have a:Q5q n=false:=by
   unfold Q5q;simp only [Bool.or_eq_false_iff,beq_eq_false_iff_ne]
   omega
  rw [a];refine Q8 (fun f=>Q8 (fun b=>?_) (fun _=>rfl)) (fun _=>rfl)
  exact absurd ⟨of_decide_eq_true f,of_decide_eq_true b⟩ h
end
end Go.Ab
end
section
namespace Go.Ab
set_option maxRecDepth 20000
noncomputable section
def Z0z (t:Term):Bool:=
 if t.op_=1 then t.num_==0&&(t.more_==0&&t.kids_.length==0)
 else if t.op_=2 then (decide (0<=t.num_)&&decide (t.num_<=39))&&(t.more_==0&&t.kids_.length==0)
 else if t.op_=3 then (decide (0<=t.num_)&&decide (t.num_<=40))&&(t.more_==0&&t.kids_.length==0)
 else if t.op_=4 then Q5q t.num_&&(t.more_==0&&t.kids_.length==0)
 else if t.op_=5 then (decide (0<=t.num_)&&decide (t.num_<=15))&&(t.more_==0&&t.kids_.length==0)
 else if t.op_=6 then (decide (2<=t.num_)&&decide (t.num_<=10))&&(t.more_==0&&t.kids_.length==0)
 else if t.op_=7 then (decide (1<=t.num_)&&decide (t.num_<=10))&&(Q5q t.more_&&t.kids_.length==0)
 else if t.op_=8 then (decide (1<=t.num_)&&decide (t.num_<=10))&&(t.more_==0&&t.kids_.length==0)
 else if t.op_=9\/t.op_=10 then t.num_==0&&(t.more_==0&&decide (1<=t.kids_.length))
 else if t.op_=11 then t.num_==0&&(t.more_==0&&t.kids_.length==1)
 else false
def Q6w:Nat->Term->Bool
 | 0,_=>false
 | d+1,t=>Z0z t&&t.kids_.all (Q6w d)
def Z5x:Nat->Term->Nat
 | 0,_=>0
 | d+1,t=>1+t.kids_.foldl (fun n k=>max n (Z5x d k)) 0
def Q5Y:Nat->Nat->Term->Bool
 | 0,_,_=>false
 | d+1,n,t=> !decide (n=0)&&(Z0z t&&t.kids_.all (Q5Y d (n-1)))
theorem Z9i {α:Type} (f:α->Nat):∀ (l:List α) (a n:Nat),l.foldl (fun n k=>max n (f k)) a<=n↔a<=n/\∀ k ∈ l,f k<=n
 | [],a,n=>by simp
 | x::l,a,n=>by
  rw [List.foldl_cons,Z9i f l];simp only [List.mem_cons,forall_eq_or_imp]
  constructor
  ·rintro ⟨g,b⟩;exact ⟨by omega,by omega,b⟩
  ·rintro ⟨g,b,e⟩;exact ⟨by omega,e⟩
theorem Z5I:∀ (d n:Nat) (t:Term),TD d t->Q5Y d n t=(decide (Z5x d t<=n)&&Q6w d t)
 | 0,_,_,h=>h.elim
 | d+1,n,t,h=>by
  unfold Q5Y Z5x Q6w;have b:=h.2.2.2
  cases n with
  | zero=>simp
  | succ n=>
   have e:t.kids_.all (Q5Y d (n+1-1))=(t.kids_.all (fun k=>decide (Z5x d k<=n))&&t.kids_.all (Q6w d)):=by
    rw [Bool.eq_iff_iff,Bool.and_eq_true,List.all_eq_true,List.all_eq_true,List.all_eq_true];constructor
    ·intro h
     refine ⟨fun k a=>?_,fun k a=>?_⟩ <;> (have:=h k a;rw [Nat.add_sub_cancel,Z5I d n k (b k a),Bool.and_eq_true] at this)
     ·exact this.1
     ·exact this.2
    ·rintro ⟨i,g⟩ k a
     rw [Nat.add_sub_cancel,Z5I d n k (b k a),i k a,g k a];rfl
   have f:decide (1+t.kids_.foldl (fun n k=>max n (Z5x d k)) 0<=n+1)=t.kids_.all (fun k=>decide (Z5x d k<=n)):=by
    rw [Bool.eq_iff_iff,decide_eq_true_eq,List.all_eq_true];have:=Z9i (Z5x d) t.kids_ 0 n
    simp only [decide_eq_true_eq];constructor
    ·intro h;exact (this.1 (by omega)).2
    ·intro h;have:=this.2 ⟨by omega,h⟩;omega
   rw [e,f]
   cases Z0z t <;> cases t.kids_.all (fun k=>decide (Z5x d k<=n)) <;> cases t.kids_.all (Q6w d) <;> simp
theorem Z1h:∀ (d:Nat) (_:d<=2000000) {F:Nat} (_:BIG+d<=F) {t:Term} (_:TD d t),Q3A F t=some (Z5x d t:Int)/\Z5x d t<=d
 | 0,_,_,_,_,h=>h.elim
 | d+1,_,0,hF,_,_=>by unfold BIG at hF;omega
 | d+1,hd,F+1,hF,t,h=>by
  obtain ⟨_,_,w,l⟩:=h;have a : BIG+d<=F:=by omega
  have m:=a;unfold BIG at m
  have o:t.kids_.foldl (fun n k=>max n (Z5x d k)) 0<=d:=(Z9i _ _ _ _).2 ⟨by omega,fun k g=>(Z1h d (by omega) a (l k g)).2⟩;refine ⟨?_,by unfold Z5x;omega⟩
  show Q6p F (Q3A F) t=_;unfold Q6p
  suffices hs:∀ (n:Nat) (i:Nat) (v:Nat),t.kids_.length-i<n->i<=t.kids_.length->(t.kids_.drop i).foldl (fun n k=>max n (Z5x d k)) v=t.kids_.foldl (fun n k=>max n (Z5x d k)) 0->v<=d ->
    Z6 (fun again (z:Int×Int)=>Q7U F (Q3A F) t again z.1 z.2) n ((v:Int),(i:Int))=some ((Z5x (d+1) t:Nat):Int) by
   exact hs F 0 0 (by omega) (by omega) rfl (by omega)
  intro n
  induction n with
  | zero=>intro i v h;omega
  | succ n ih=>
   intro i v u r e q;show Q7U F (Q3A F) t (Z6 _ n) (v:Int) (i:Int)=_
   unfold Q7U
   by_cases hil:i<t.kids_.length
   ·have b:=l _ (V6 hil)
    obtain ⟨p,s⟩:=Z1h d (by omega) a b;rw [Q1I hil,List.foldl_cons] at e
    have f:=ih (i+1) (max v (Z5x d (gl t.kids_ i))) (by omega) (by omega) e (by omega);refine Z8 (decide_eq_true (by omega)) (Z3 (by omega) (Z3 b.op (Q4 p (Z3 (Y3 (by omega) (by omega)) ?_))))
    rw [<-f];congr 1
    refine Prod.ext ?_ rfl;show Q0A _ _=_
    unfold Q0A;split <;> omega
   ·have j:i=t.kids_.length:=by omega
    subst j;rw [List.drop_length,List.foldl_nil] at e
    refine Q9 (decide_eq_false (by omega)) ?_;unfold Z1i
    refine Z3 (Y3 (by omega) (by omega)) ?_;unfold Z5x
    rw [<-e];congr 1;omega
theorem Z6w:∀ (d:Nat) {F:Nat} (_:BIG+d<=F) {t:Term} (_:TD d t),Q0b F t=some (Q6w d t)
 | 0,_,_,_,h=>h.elim
 | d+1,0,hF,_,_=>by unfold BIG at hF;omega
 | d+1,F+1,hF,t,h=>by
  obtain ⟨_,_,D,B⟩:=h;have p : BIG+d<=F:=by omega
  have v:=p;unfold BIG at v
  show Q7T F (Q0b F) t=_;have k:Z6 (fun f (z:Int)=>Q4v F (Q0b F) t f z) F (0:Int)=some (t.kids_.all (Q6w d)):=by
   refine Y3Y (fun l=>some (l.all (Q6w d))) (fun f i q r=>?_) (fun f=>?_) (by omega)
   ·show Q4v F (Q0b F) t f (i:Int)=_
    unfold Q4v;have o:=B _ (V6 q)
    refine Z8 (decide_eq_true (by omega)) (Z3 (by omega) (Z3 o.op (Q4 (Z6w d p o) ?_)));show br (!Q6w d (gl t.kids_ i)) _ _=some (Q6w d (gl t.kids_ i)&&_)
    cases Q6w d (gl t.kids_ i) with
    | false=>rfl
    | true=>exact Q9 rfl (Z3 (Y3 (by omega) (by omega)) r)
   ·show Q4v F (Q0b F) t f (t.kids_.length:Int)=_
    unfold Q4v;exact Q9 (decide_eq_false (by omega)) rfl
  have k2:∀ b,Q4t F (Q0b F) t b=some (!b&&t.kids_.all (Q6w d)):=fun b=>by
   unfold Q4t
   cases b with
   | true=>rfl
   | false=>exact Q9 rfl k
  have k1:∀ (n:Int) (a b:Bool),Y8 F (Q0b F) t n a b=some ((b&&(a&&((t.kids_.length:Nat):Int)==n))&&t.kids_.all (Q6w d)):=fun n a b=>by
   unfold Y8
   cases b <;> cases a
   ·rw [k2];rfl
   ·rw [k2];rfl
   ·exact Q9 rfl (Z8 rfl (k2 _))
   ·refine Q9 rfl (Q9 rfl ((k2 _).trans ?_))
    congr 2
    rw [bne,Bool.not_not];rfl
  have s:∀ (n:Nat),(((t.kids_.length:Nat):Int)==(n:Int))=(t.kids_.length==n):=fun n=>by
   rw [Bool.eq_iff_iff,beq_iff_eq,beq_iff_eq];omega
  have u:(((t.kids_.length:Nat):Int)==((t.kids_.length:Nat):Int))=true:=by simp
  have C:(decide ((0:Int)<((t.kids_.length:Nat):Int)))=decide (1<=t.kids_.length):=by rw [Bool.eq_iff_iff,decide_eq_true_eq,decide_eq_true_eq];omega
  have g:(((t.kids_.length:Nat):Int)==0)=(t.kids_.length==0):=s 0;have w:(((t.kids_.length:Nat):Int)==1)=(t.kids_.length==1):=s 1
  unfold Q7T Q6w Z0z;have K:∀ {x:Option Bool} {n:Int} {a b c:Bool},x=Y8 F (Q0b F) t n a b->(b&&(a&&((t.kids_.length:Nat):Int)==n))=c->x=some (c&&t.kids_.all (Q6w d)):=fun h e=>by rw [h,k1,e]
  have R:∀ {lo q:Int} {a:Bool} {c:Bool},(Y8 F (Q0b F) t 0 a (decide (lo<=t.num_)&&decide (t.num_<=q)))=some c->br (decide (lo<=t.num_)) (Y8 F (Q0b F) t 0 a (decide (t.num_<=q))) (Y8 F (Q0b F) t 0 a false)=some c:=fun h=>by
   rw [<-h];cases decide (_<=t.num_) <;> rfl
  by_cases h1:t.op_=1
  ·rw [if_pos h1]
   exact Z8 (by simp [h1]) (K rfl (by rw [g]))
  rw [if_neg h1];refine Q9 (by simp [h1]) ?_
  by_cases h2:t.op_=2
  ·rw [if_pos h2]
   refine Z8 (by simp [h2]) ?_;rw [show decide (t.num_<40)=decide (t.num_<=39) from decide_eq_decide.2 (by omega)]
   exact R (K rfl (by rw [g]))
  rw [if_neg h2];refine Q9 (by simp [h2]) ?_
  by_cases h3:t.op_=3
  ·rw [if_pos h3]
   exact Z8 (by simp [h3]) (R (K rfl (by rw [g])))
  rw [if_neg h3];refine Q9 (by simp [h3]) ?_
  by_cases h4:t.op_=4
  ·rw [if_pos h4]
   exact Z8 (by simp [h4]) (Q4 (Z0m F _) (K rfl (by rw [g])))
  rw [if_neg h4];refine Q9 (by simp [h4]) ?_
  by_cases h5:t.op_=5
  ·rw [if_pos h5]
   exact Z8 (by simp [h5]) (R (K rfl (by rw [g])))
  rw [if_neg h5];refine Q9 (by simp [h5]) ?_
  by_cases h6:t.op_=6
  ·rw [if_pos h6]
   exact Z8 (by simp [h6]) (R (K rfl (by rw [g])))
  rw [if_neg h6];refine Q9 (by simp [h6]) ?_
  by_cases h7:t.op_=7
  ·rw [if_pos h7]
   refine Z8 (by simp [h7]) ?_;refine Q8 (fun j=>Q4 (Z0m F _) (K rfl ?_)) (fun j=>Q4 (Z0m F _) (K rfl ?_))
   ·rw [g,j,Bool.true_and]
   ·rw [j];rfl
  rw [if_neg h7];refine Q9 (by simp [h7]) ?_
  by_cases j:t.op_=8
  ·rw [if_pos j]
   exact Z8 (by simp [j]) (R (K rfl (by rw [g])))
  rw [if_neg j];refine Q9 (by simp [j]) ?_
  have m:Q4u F (Q0b F) t true=some ((t.num_==0&&(t.more_==0&&decide (1<=t.kids_.length)))&&t.kids_.all (Q6w d)):=by
   unfold Q4u;refine Z8 rfl (Q8 (fun h=>K rfl ?_) (fun h=>K rfl ?_))
   ·rw [u,C,h,Bool.true_and,Bool.and_true,Bool.and_comm]
   ·rw [h];rfl
  by_cases h9:t.op_=9\/t.op_=10
  ·rw [if_pos h9]
   refine Q8 (fun h=>?_) (fun h=>?_)
   ·rw [h];exact m
   ·have:t.op_=10:=by simp at h;omega
    rw [this];exact m
  rw [if_neg h9];refine Q9 (by simp;omega) ?_
  rw [show (t.op_==(10:Int))=false by simp;omega];unfold Q4u
  refine Q9 rfl ?_
  by_cases h11:t.op_=11
  ·rw [if_pos h11]
   exact Z8 (by simp [h11]) (K rfl (by rw [w]))
  ·rw [if_neg h11]
   exact Q9 (by simp [h11]) (K rfl rfl)
end
end Go.Ab
end
section
namespace Go.Ab
set_option maxRecDepth 20000
noncomputable section
theorem Z1V {F:Nat} {l:List Term} {q:Term->Option Bool} (p:Term->Bool) (hF:l.length<F) (hl:l.length<=1000000000) (ho:∀ r ∈ l,I64 r.op_) (hq:∀ r ∈ l,q r=some (p r)):∃ i:Int,Q0Q F l q=some i/\(0<=i↔l.any p=true):=by
 unfold Q0Q
 suffices hs:∀ (n i:Nat),l.length-i<n->i<=l.length->∃ j:Int,Z6 (fun again (z:Int)=>Q1d F l q again z) n (i:Int)=some j/\(0<=j↔(l.drop i).any p=true) by
  simpa using hs F 0 (by omega) (by omega)
 intro n
 induction n with
 | zero=>intro i h;omega
 | succ n ih=>
  intro i f g;show ∃ j:Int,Q1d F l q (Z6 _ n) (i:Int)=some j/\_
  unfold Q1d
  by_cases hil:i<l.length
  ·have a:=V6 hil
   rw [Y1K hil]
   cases hp:p (gl l i) with
   | true=>exact ⟨i,Z8 (decide_eq_true (by omega)) (Z3 (by omega) (Z3 (ho _ a) (Q4 (hq _ a) (Z8 hp rfl)))),by simp⟩
   | false=>
    obtain ⟨j,b,e⟩:=ih (i+1) (by omega) (by omega);refine ⟨j,Z8 (decide_eq_true (by omega)) (Z3 (by omega) (Z3 (ho _ a) (Q4 (hq _ a) (Q9 hp (Z3 (Y3 (by omega) (by omega)) ?_))))),by simpa using e⟩
    rw [<-b];congr 1
  ·refine ⟨-1,Q9 (decide_eq_false (by omega)) rfl,?_⟩
   rw [List.drop_eq_nil_of_le (by omega)];simp
theorem Z0I {F:Nat} {l:List Term} {q:Term->Option Bool} (p:Term->Bool) (hF:l.length<F) (hl:l.length<=1000000000) (ho:∀ r ∈ l,I64 r.op_) (hq:∀ r ∈ l,q r=some (p r)):Q0k F l q=some (l.any p):=by
 obtain ⟨i,b,a⟩:=Z1V p hF hl ho hq;unfold Q0k
 refine Q4 b ?_;rw [Option.some.injEq,Bool.eq_iff_iff,decide_eq_true_eq];exact a
def Z8X (n:Int):Int×Int×Bool:=if n=2 then (0,39,true) else if n=3 then (0,40,true) else if n=4 then (1,16,true) else if n=5 then (0,15,true) else if n=6 then (2,10,true) else if n=7\/n=8 then (1,10,true) else (0,0,false)
def Z2k (n:Int):Int×Int:=if n=9\/n=10 then (1,40) else if n=11 then (1,1) else (0,0)
theorem Y0C (F:Nat) (n:Int):Q9s F n=some (Z8X n):=by
 unfold Q9s Z8X Q7A
 by_cases h2:n=2
 ·subst h2;rfl
 by_cases h3:n=3
 ·subst h3;rfl
 by_cases h4:n=4
 ·subst h4;rfl
 by_cases h5:n=5
 ·subst h5;rfl
 by_cases h6:n=6
 ·subst h6;rfl
 by_cases h7:n=7
 ·subst h7;rfl
 by_cases h8:n=8
 ·subst h8;rfl
 have e:∀ m:Int,n≠m->(n==m)=false:=fun m h=>by simpa using h
 rw [e 2 h2,e 3 h3,e 4 h4,e 5 h5,e 6 h6,e 7 h7,e 8 h8,if_neg h2,if_neg h3,if_neg h4,if_neg h5,if_neg h6,if_neg (by omega)];rfl
theorem Y3a (F:Nat) (n:Int):Z2t F n=some (Z2k n):=by
 unfold Z2t Z2k Z0D;have e:∀ m:Int,n≠m->(n==m)=false:=fun m h=>by simpa using h
 by_cases h2:n=9
 ·subst h2;rfl
 by_cases h3:n=10
 ·subst h3;rfl
 by_cases h4:n=11
 ·subst h4;rfl
 rw [e 9 h2,e 10 h3,e 11 h4,if_neg (by omega),if_neg h4];rfl
def Y9b (t:Term):Bool:=((Z8X t.op_).2.2&&(decide (t.num_<(Z8X t.op_).1)||decide ((Z8X t.op_).2.1<t.num_)))||(!(Z8X t.op_).2.2&&t.num_ != 0)
def Y5M (t:Term):Bool:=(t.op_==4 && !Q5q t.num_)||((t.op_==7 && !Q5q t.more_)||(t.op_ != 7&&t.more_ != 0))
def Y4D (t:Term):Bool:=decide (((t.kids_.length:Nat):Int)<(Z2k t.op_).1)||decide ((Z2k t.op_).2<((t.kids_.length:Nat):Int))
theorem Y8g {t:Term} (hl:t.kids_.length<=40):(!(decide (t.op_<1)||decide (11<t.op_))&&(!Y9b t&&(!Y5M t && !Y4D t)))=Z0z t:=by
 have f:∀ n:Int,Q5q n=true->1<=n/\n<=16:=fun n h=>by
  unfold Q5q at h;simp only [Bool.or_eq_true,beq_iff_eq] at h;omega
 have k:∀ n:Nat,(t.kids_.length==n)=decide (t.kids_.length=n):=fun n=>by rw [Bool.eq_iff_iff,beq_iff_eq,decide_eq_true_eq]
 rw [Bool.eq_iff_iff];unfold Y9b Y5M Y4D Z8X Z2k Z0z
 generalize t.op_=o,t.num_=n,t.more_=m at *;have i:∀ {p q:Prop},(p↔q)->(p↔q):=fun h=>h
 by_cases h:o<1\/11<o
 ·rw [show (decide (o<1)||decide (11<o))=true by simpa using h]
  have e:∀ m:Int,1<=m->m<=11->¬ o=m:=fun m _ _=>by omega
  simp [e 1,e 2,e 3,e 4,e 5,e 6,e 7,e 8,e 9,e 10,e 11]
 have j:o=1\/o=2\/o=3\/o=4\/o=5\/o=6\/o=7\/o=8\/o=9\/o=10\/o=11:=by omega
 rcases j with rfl|rfl|rfl|rfl|rfl|rfl|rfl|rfl|rfl|rfl|rfl <;> simp <;> (try omega)
 constructor
 ·rintro ⟨_,⟨a,b⟩,g⟩;exact ⟨a,b,g⟩
 ·rintro ⟨a,b,g⟩;exact ⟨f _ a,⟨a,b⟩,g⟩
theorem Z6p:∀ (d:Nat) {F:Nat} (_:BIG+d<=F) {t:Term} (_:TD d t) (_:szD d t<=40) (n:Nat) (_:n<=8),V9 F t (n:Int)=some (Q5Y d n t)
 | 0,_,_,_,h,_,_,_=>h.elim
 | d+1,0,hF,_,_,_,_,_=>by unfold BIG at hF;omega
 | d+1,F+1,hF,t,h,hs,n,hn=>by
  obtain ⟨_,_,E,f⟩:=h;have g : BIG+d<=F:=by omega
  have v:=g;unfold BIG at v
  have p:t.kids_.length<=39:=by
   have:t.kids_.length<=(t.kids_.map (szD d)).sum:=by
    have:∀ l:List Term,(∀ k ∈ l,TD d k)->l.length<=(l.map (szD d)).sum:=by
     intro l
     induction l with
     | nil=>intro _;simp
     | cons x l ih=>intro q;have:=Y9F (q x (by simp));have:=ih fun k f=>q k (by simp [f]);simp;omega
    exact this _ f
   unfold szD at hs;omega
  have o:∀ k ∈ t.kids_,szD d k<=40:=fun k a=>by
   obtain ⟨i,r,rfl⟩:=List.getElem_of_mem a;have D:=Z8D (d:=d) r
   have G:=Z8E (d:=d) (i:=i+1) (t:=t);rw [z7 r] at D;omega
  show Q7x F (V9 F) t (n:Int)=_;unfold Q7x
  refine Q4 (Y0C F _) (Q4 (Y3a F _) ?_);have C:∀ b,n≠0->Q4o F (V9 F) t (n:Int) b=some (!b&&t.kids_.all (Q5Y d (n-1))):=fun b e=>by
   unfold Q4o
   cases b with
   | true=>rfl
   | false=>
    refine Q9 rfl (Q4 (Z0I (fun k=> !Q5Y d (n-1) k) (by omega) (by omega) (fun k a=>(f k a).op) fun k a=>?_) ?_)
    ·unfold Z0C
     refine Z3 (Y3 (by omega) (by omega)) ?_;rw [show ((n:Int)-1)=((n-1:Nat):Int) by omega]
     exact Q4 (Z6p d g (f k a) (o k a) (n-1) (by omega)) rfl
    ·rw [Bool.not_false,Bool.true_and,List.not_any_eq_all_not];simp
  have k2:∀ b,n≠0->W3 F (V9 F) t (n:Int) (Z2k t.op_) b=some (!b&&(!Y4D t&&t.kids_.all (Q5Y d (n-1)))):=fun b e=>by
   unfold W3 Y4D
   cases b with
   | true=>rfl
   | false=>
    refine Q9 rfl ?_;rw [Q7n (fun b=>Q4o F (V9 F) t (n:Int) b),C _ e];rfl
  have k1:∀ b,n≠0->Q0B F (V9 F) t (n:Int) (Z2k t.op_) b=some (!b&&(!Y5M t&&(!Y4D t&&t.kids_.all (Q5Y d (n-1))))):=fun b e=>by
   unfold Q0B Y5M
   cases b with
   | true=>rfl
   | false=>
    refine Q9 rfl ?_;have B:(Q2w F t.more_).bind (fun z=>br (!z) (W3 F (V9 F) t (n:Int) (Z2k t.op_) true) (br (t.op_ != (7:Int)) (W3 F (V9 F) t (n:Int) (Z2k t.op_) (t.more_ != (0:Int))) (W3 F (V9 F) t (n:Int) (Z2k t.op_) false)))=W3 F (V9 F) t (n:Int) (Z2k t.op_) (!Q5q t.more_||(t.op_ != 7&&t.more_ != 0)):=by
     refine Q4 (Z4u F _) ?_
     cases Q5q t.more_ <;> cases (t.op_ != (7:Int)) <;> rfl
    have s:(br (t.op_==(7:Int)) ((Q2w F t.more_).bind (fun z=>br (!z) (W3 F (V9 F) t (n:Int) (Z2k t.op_) true) (br (t.op_ != (7:Int)) (W3 F (V9 F) t (n:Int) (Z2k t.op_) (t.more_ != (0:Int))) (W3 F (V9 F) t (n:Int) (Z2k t.op_) false)))) (br (t.op_ != (7:Int)) (W3 F (V9 F) t (n:Int) (Z2k t.op_) (t.more_ != (0:Int))) (W3 F (V9 F) t (n:Int) (Z2k t.op_) false)))
      = W3 F (V9 F) t (n:Int) (Z2k t.op_) ((t.op_==7 && !Q5q t.more_)||(t.op_ != 7&&t.more_ != 0)):=by
     rw [B]
     cases h7:(t.op_==(7:Int)) with
     | true=>rw [show (t.op_ != (7:Int))=false by rw [bne,h7];rfl];cases Q5q t.more_ <;> rfl
     | false=>rw [show (t.op_ != (7:Int))=true by rw [bne,h7];rfl];rfl
    rw [s];refine Q8 (fun j=>Q4 (Z4u F _) ?_) (fun j=>?_)
    ·rw [j,Bool.true_and]
     cases Q5q t.num_ with
     | false=>refine Z8 rfl ((k2 _ e).trans ?_);rfl
     | true=>refine Q9 rfl ((k2 _ e).trans ?_);rfl
    ·rw [j];exact k2 _ e
  have w:∀ b,(b=false->n≠0)->Q1K F (V9 F) t (n:Int) (Z8X t.op_) (Z2k t.op_) b=some (!b&&(!Y9b t&&(!Y5M t&&(!Y4D t&&t.kids_.all (Q5Y d (n-1)))))):=fun b u=>by
   unfold Q1K Y9b
   cases b with
   | true=>rfl
   | false=>
    have e:=u rfl;refine Q9 rfl ?_
    have k1:=fun b=>k1 b e
    generalize hK:Q0B F (V9 F) t (n:Int) (Z2k t.op_)=K at k1 ⊢;generalize (!Y5M t&&(!Y4D t&&t.kids_.all (Q5Y d (n-1))))=rest at k1 ⊢
    generalize (t.num_ != 0)=nz
    cases (Z8X t.op_).2.2 <;> cases decide (t.num_<(Z8X t.op_).1) <;> cases decide ((Z8X t.op_).2.1<t.num_) <;> cases nz <;> simp only [br,k1] <;> rfl
  have m:(((n:Int))==0)=decide (n=0):=by rw [Bool.eq_iff_iff,beq_iff_eq,decide_eq_true_eq];omega
  rw [m];rw [Q7n (fun b=>Q1K F (V9 F) t (n:Int) (Z8X t.op_) (Z2k t.op_) b),Q7n (fun b=>Q1K F (V9 F) t (n:Int) (Z8X t.op_) (Z2k t.op_) b)]
  rw [w _ (fun h=>by simp only [Bool.or_eq_false_iff,decide_eq_false_iff_not] at h;exact h.2.2)];unfold Q5Y
  rw [<-Y8g (t:=t) (by omega)]
  cases decide (t.op_<1) <;> cases decide (11<t.op_) <;> cases decide (n=0) <;> cases Y9b t <;> cases Y5M t <;> cases Y4D t <;> rfl
def Q8z (d:Nat) (t:Term):Int:=if 40<szD d t then 1 else if Q5Y d 8 t=true then 0 else 16
theorem Z6r {d F:Nat} (hF:BIG+d<=F) {t:Term} (h:TD d t):Q8K F t=some (Q8z d t):=by
 unfold Q8K Q8z;obtain ⟨v,f,_,_,b,_⟩:=Z6q d hF h (m:=40) (by omega) (by omega)
 refine Q4 f (Q8 (fun a=>?_) (fun a=>?_))
 ·have:=b.1 (of_decide_eq_true a);rw [if_pos (by omega)]
 ·have e:¬ 40<szD d t:=fun h=>of_decide_eq_false a (b.2 (by omega))
  rw [if_neg e];refine Q4 (Z6p d hF h (by omega) 8 (by omega)) ?_
  cases Q5Y d 8 t <;> rfl
theorem Y0W {d F:Nat} (hd:d<=2000000) (hF:BIG+d<=F) {t:Term} (h:TD d t):Q9F F t=some (Q8z d t):=by
 unfold Q9F Q8z;obtain ⟨v,g,_,_,e,_⟩:=Z4Q d hd hF h
 refine Q4 g (Q8 (fun b=>?_) (fun b=>?_))
 ·have:=e.1 (of_decide_eq_true b);rw [if_pos (by omega)]
 ·have f:¬ 40<szD d t:=fun h=>of_decide_eq_false b (e.2 (by omega))
  rw [if_neg f,Z5I d 8 t h];refine Q4 (Z1h d hd hF h).1 (Q8 (fun a=>?_) (fun a=>?_))
  ·have a:=of_decide_eq_true a
   rw [decide_eq_false (by omega)];rfl
  ·have a:=of_decide_eq_false a
   rw [decide_eq_true (by omega)];refine Q4 (Z6w d hF h) ?_
   unfold Q7W
   cases Q6w d t <;> rfl
theorem Y0F (d:Nat):Q8z (d+1) ⟨1,0,0,[]⟩=0:=by
 unfold Q8z;rw [if_neg (by simp [szD]),if_pos]
 simp [Q5Y,Z0z]
end
end Go.Ab
end
section
namespace Go.Ab
set_option maxRecDepth 20000
noncomputable section
def atS (y:Int) (cs:List Crop) (hs:List Rg_) (zs:List A2_) (d c:Int) (A:List Rect) (t:Term):TS:=
 if t.op_=2 then Z6m A (c==t.num_)
 else if t.op_=3 then Z6m A ((gl cs c.toNat).f_==t.num_)
 else if t.op_=4 then Z6m A (Y1q cs c t.num_)
 else if t.op_=5 then Z9p A (inR (Q0D zs d fun k=>k==t.num_))
 else if t.op_=6 then smS A hs cs y (gl cs c.toNat).f_ (t.num_.toNat-1)
 else if t.op_=7 then ⟨knS A hs (y-t.num_) fun k=>Y1q cs k t.more_,knS A hs (y-t.num_) fun k=> !Y1q cs k t.more_⟩
 else if t.op_=8 then Z9p A (inR (yrs hs (y-t.num_) fun _=>true))
 else Z6m A true
def evS (y:Int) (cs:List Crop) (hs:List Rg_) (zs:List A2_) (d c:Int) (A:List Rect):Nat->Term->TS
 | 0,_=>Z6m A true
 | e+1,t=>
  if t.op_=9 then ⟨fun u v=>inR A u v&&t.kids_.all fun k=>(evS y cs hs zs d c A e k).Y u v,fun u v=>t.kids_.any fun k=>(evS y cs hs zs d c A e k).N u v⟩
  else if t.op_=10 then ⟨fun u v=>t.kids_.any fun k=>(evS y cs hs zs d c A e k).Y u v,fun u v=>inR A u v&&t.kids_.all fun k=>(evS y cs hs zs d c A e k).N u v⟩
  else if t.op_=11 then ⟨(evS y cs hs zs d c A e (gl t.kids_ 0)).N,(evS y cs hs zs d c A e (gl t.kids_ 0)).Y⟩
  else atS y cs hs zs d c A t
variable {F:Nat} {cs:List Crop} {hs:List Rg_} {zs:List A2_} {y c d:Int} {A:List Rect}
theorem TIn.turn {s:TS} (h:TIn A s):TIn A ⟨s.N,s.Y⟩:=⟨h.fN,h.fY,h.sN,h.sY⟩
theorem W1I (t:Term):TIn A (atS y cs hs zs d c A t):=by
 unfold atS
 repeat' split
 ·exact Z9v _ _
 ·exact Z9v _ _
 ·exact Z9v _ _
 ·exact Y8L (G5 _)
 ·exact Y6a _ _ _ _ _ _
 ·exact ⟨Z3F _ _ _ _,Z3F _ _ _ _,fun _ _ h=>Z8Z h,fun _ _ h=>Z8Z h⟩
 ·exact Y8L (G5 _)
 ·exact Z9v _ _
theorem Y6u {B:Sq} (hB:Fin B) {α:Type} (f:α->Sq):∀ (l:List α),(∀ k ∈ l,Fin (f k))->Fin fun u v=>B u v&&l.all fun k=>f k u v
 | [],_=>by simpa using hB
 | k::l,h=>by
  have b:=Z3G (Y6u hB f l fun j a=>h j (List.mem_cons_of_mem _ a)) (h k List.mem_cons_self);have e:(fun u v=>(B u v&&l.all fun k=>f k u v)&&f k u v)=fun u v=>B u v&&(k::l).all fun k=>f k u v:=by
   funext u v
   rw [List.all_cons]
   cases B u v <;> cases f k u v <;> simp
  rw [<-e];exact b
theorem Y6t {α:Type} (f:α->Sq):∀ (l:List α),(∀ k ∈ l,Fin (f k))->Fin fun u v=>l.any fun k=>f k u v
 | [],_=>by simpa using Y6v
 | k::l,h=>by
  have b:=Y5A (h k List.mem_cons_self) (Y6t f l fun j a=>h j (List.mem_cons_of_mem _ a));simpa using b
theorem Y5Q {α:Type} (f:α->TS) (l:List α) (h:∀ k ∈ l,TIn A (f k)):TIn A ⟨fun u v=>inR A u v&&l.all fun k=>(f k).Y u v,fun u v=>l.any fun k=>(f k).N u v⟩:=by
 refine ⟨Y6u (G5 A) (fun k=>(f k).Y) l fun k a=>(h k a).fY,Y6t (fun k=>(f k).N) l fun k a=>(h k a).fN,fun u v b=>?_,fun u v b=>?_⟩
 ·simp only [Bool.and_eq_true] at b
  exact b.1
 ·obtain ⟨k,a,e⟩:=List.any_eq_true.1 b
  exact (h k a).sN u v e
theorem Y1y:∀ (e:Nat) (t:Term),TIn A (evS y cs hs zs d c A e t)
 | 0,_=>Z9v _ _
 | e+1,t=>by
  unfold evS;split
  ·exact Y5Q _ _ fun k _=>Y1y e k
  split
  ·exact (Y5Q (fun k=>⟨(evS y cs hs zs d c A e k).N,(evS y cs hs zs d c A e k).Y⟩) t.kids_ fun k _=>(Y1y e k).turn).turn
  split
  ·exact (Y1y e _).turn
  ·exact W1I t
structure PL (p:TermPlace) (y:Int) (cs:List Crop) (hs:List Rg_) (zs:List A2_) (d c:Int) (A:List Rect):Prop where
 yr:p.world_.y_=y
 cs:p.world_.crops_=cs
 hs:p.world_.history_=hs
 zs:p.world_.zones_=zs
 dd:p.world_.day_=d
 cr:p.line_.c_=c
 re:p.t_=A
theorem Y5i {n:Nat} {L:List A2_} (h:∀ f ∈ L,Box n f.g_.t_) (d:Int) (p:Int->Bool):Box n (Q0D L d p):=fun r a=>by
 unfold Q0D at a;obtain ⟨f,b,e⟩:=List.mem_flatMap.1 a
 exact h f (List.mem_filter.1 b).1 r e
theorem W1A {t:Term} (hn:Z0z t=true) (q:t.op_=6):2<=t.num_/\t.num_<=10:=by
 unfold Z0z at hn;simp [q] at hn
 omega
theorem W1z {t:Term} (hn:Z0z t=true) (q:t.op_=7):(1<=t.num_/\t.num_<=10)/\Q5q t.more_=true:=by
 unfold Z0z at hn;simp [q] at hn
 exact ⟨by omega,hn.2.1⟩
theorem W1y {t:Term} (hn:Z0z t=true) (q:t.op_=8):1<=t.num_/\t.num_<=10:=by
 unfold Z0z at hn;simp [q] at hn
 omega
theorem Y8q {n:Nat} {L:List A2_} (h:LB n L) {f:A2_} (hf:f ∈ L):Val f.g_.t_:=((Z5J f).1 (h.vl.one f hf)).2.2.2.2.2.2.2.2
theorem LB.few' {n:Nat} {L:List A2_} (h:LB n L) (d:Int) (p:Int->Bool):(Q0D L d p).length<=7200:=by
 have e:=h.vl.len;have:∀ (M:List A2_),(∀ f ∈ M,f.g_.t_.length<=120)->(Q0D M d p).length<=120*M.length:=by
  intro M
  induction M with
  | nil=>intro _;simp [Q0D]
  | cons f M ih=>
   intro a;rw [Z5h]
   have k:=a f List.mem_cons_self;have j:=ih fun g i=>a g (List.mem_cons_of_mem _ i)
   rw [List.length_append,List.length_cons];split
   ·omega
   ·simp;omega
 have:=this L fun f b=>(Y8q h b).1
 omega
theorem Y3b (hF:BIG<=F) (h:EV y cs hs zs c A) {p:TermPlace} (hp:PL p y cs hs zs d c A) {t:Term} (hn:Z0z t=true):Q3X F p t=some ((atS y cs hs zs d c A t).sqs A):=by
 have b:=h.tr.val;have i:=h.crop
 unfold Q3X atS;refine Q8 (fun q=>?_) fun I=>Q8 (fun q=>?_) fun J=>Q8 (fun q=>?_) fun L=>Q8 (fun q=>?_) fun s=>Q8 (fun q=>?_) fun C=>Q8 (fun q=>?_) fun H=>Q8 (fun q=>?_) fun B=>?_
 ·have q:=eq_of_beq q
  rw [if_pos q,hp.cr];exact Q4 (Q9l hp.re b _) rfl
 ·have q:=eq_of_beq q
  rw [if_neg (by omega),if_pos q,hp.cr,hp.cs];exact Z3 i (Q4 (Q9l hp.re b _) rfl)
 ·have q:=eq_of_beq q
  rw [if_neg (by omega),if_neg (by omega),if_pos q,hp.cr,hp.cs];exact Q4 (Z5z F cs c t.num_) (Q4 (Q9l hp.re b _) rfl)
 ·have q:=eq_of_beq q
  rw [if_neg (by omega),if_neg (by omega),if_neg (by omega),if_pos q,hp.zs,hp.dd];have x:=Y5i h.zs.box d fun k=>k==t.num_
  refine Q4 (Z2V hF (by have:=h.zs.vl.len;omega) (fun f w=>(Y8q h.zs w).1) d (fun k=>k==t.num_) fun f _=>rfl) ?_;refine Q4 (Q3y hF (a:=p.t_) (by rw [hp.re];exact b.le8) (by have:=h.zs.few' d fun k=>k==t.num_;omega) (by rw [hp.re];exact b.pos) (fun r D=>(x r D).2.1) (S:=inR A) (by rw [hp.re]) rfl (k:=fun u v=>u&&v) rfl (Z0E F)) ?_
  exact Q4 (Z3M hF hp.re h.tr (G5 _)) rfl
 ·have q:=eq_of_beq q
  rw [if_neg (by omega),if_neg (by omega),if_neg (by omega),if_neg (by omega),if_pos q];have o:=W1A hn q
  have:=Y2Z hF h hp.hs hp.yr hp.re hp.cs hp.cr (n:=t.num_.toNat) (by omega) (by omega)
  rw [Int.toNat_of_nonneg (by omega)] at this;exact Q4 this rfl
 ·have q:=eq_of_beq q
  rw [if_neg (by omega),if_neg (by omega),if_neg (by omega),if_neg (by omega),if_neg (by omega),if_pos q];have o:=(W1z hn q).1
  have m:∀ f ∈ hs,Q1o F f.c_ p t=some (Y1q cs f.c_ t.more_):=fun f _=>by
   unfold Q1o;rw [hp.cs]
   exact Q4 (Z5z F cs _ _) rfl
  have K:∀ f ∈ hs,Q1n F f.c_ p t=some (!Y1q cs f.c_ t.more_):=fun f _=>by
   unfold Q1n;rw [hp.cs]
   exact Q4 (Z5z F cs _ _) rfl
  have G:TIn A ⟨knS A hs (y-t.num_) fun k=>Y1q cs k t.more_,knS A hs (y-t.num_) fun k=> !Y1q cs k t.more_⟩:=⟨Z3F _ _ _ _,Z3F _ _ _ _,fun _ _ h=>Z8Z h,fun _ _ h=>Z8Z h⟩;have j:=Q6g hF h hp.hs hp.yr hp.re (n:=t.num_) (q:=fun g=>Q1o F g p t) (by omega) (by omega) (fun k=>Y1q cs k t.more_) m
  have l:=Q6g hF h hp.hs hp.yr hp.re (n:=t.num_) (q:=fun g=>Q1n F g p t) (by omega) (by omega) (fun k=> !Y1q cs k t.more_) K;have E:=Z3h hF hp.re h.tr G
  exact Q4 j (Q4 l (Q4 E rfl))
 ·have q:=eq_of_beq q
  rw [if_neg (by omega),if_neg (by omega),if_neg (by omega),if_neg (by omega),if_neg (by omega),if_neg (by omega),if_pos q];have o:=W1y hn q
  have m:∀ f ∈ hs,Q9Q F f.c_=some true:=fun _ _=>rfl
  have j:=Q6g hF h hp.hs hp.yr hp.re (n:=t.num_) (q:=fun g=>Q9Q F g) (by omega) (by omega) (fun _=>true) m;have l:=Z3M hF hp.re h.tr (S:=inR (yrs hs (y-t.num_) fun _=>true)) (G5 _)
  exact Q4 j (Q4 l rfl)
 ·have z:∀ {k:Int},(t.op_==k)=false->¬ t.op_=k:=fun h e=>by rw [e] at h;simp at h
  rw [if_neg (z I),if_neg (z J),if_neg (z L),if_neg (z s),if_neg (z C),if_neg (z H),if_neg (z B)];exact Q4 (Q9l hp.re b _) rfl
def Z6j (A:List Rect) (l:List TS):TS:=⟨fun u v=>inR A u v&&l.all fun k=>k.Y u v,fun u v=>l.any fun k=>k.N u v⟩
theorem Y8M {l:List TS} (h:∀ s ∈ l,TIn A s):TIn A (Z6j A l):=Y5Q (fun k=>k) l h
theorem Y8N (l:List TS) (s:TS):Z6j A (l++[s])=⟨fun u v=>(Z6j A l).Y u v&&s.Y u v,fun u v=>(Z6j A l).N u v||s.N u v⟩:=by
 unfold Z6j;congr 1
 ·funext u v;simp [List.all_append,Bool.and_assoc]
 ·funext u v;simp [List.any_append]
theorem Y3G (hF:BIG<=F) {p:TermPlace} (e3:p.t_=A) (ht:TR A) {l:List TS} (hl:∀ s ∈ l,TIn A s) (hlen:l.length<=1000000):Q1U F p (l.map (TS.sqs A))=some ((Z6j A l).sqs A):=by
 have h:=hF;unfold BIG at h
 unfold Q1U;have e:∀ (m f k:Nat),k+m=l.length->m<f->Z6 (fun again (z:(List Rect)×(List Rect)×Int)=>Q1p F p (l.map (TS.sqs A)) again z.1 z.2.1 z.2.2) f (cn (Z6j A (l.take k)).Y,cn (Z6j A (l.take k)).N,((k:Nat):Int))=some ((Z6j A l).sqs A):=by
  intro m
  induction m with
  | zero=>
   intro f k o n;obtain ⟨f,rfl⟩:∃ g,f=g+1:=⟨f-1,by omega⟩
   show Q1p F p (l.map (TS.sqs A)) (Z6 _ f) _ _ ((k:Nat):Int)=_;unfold Q1p
   refine Q9 (decide_eq_false (by rw [List.length_map];omega)) ?_;unfold Q7z
   rw [show k=l.length by omega,List.take_length];exact Q4 (Z3h hF e3 ht (Y8M hl)) rfl
  | succ m ih=>
   intro f k o n;obtain ⟨f,rfl⟩:∃ g,f=g+1:=⟨f-1,by omega⟩
   show Q1p F p (l.map (TS.sqs A)) (Z6 _ f) _ _ ((k:Nat):Int)=_;unfold Q1p
   have a:k<l.length:=by omega
   have b:TIn A (Z6j A (l.take k)):=Y8M fun s hs=>hl s (List.mem_of_mem_take hs)
   have hs:=hl _ (List.getElem_mem a);have q:gl (l.map (TS.sqs A)) ((k:Nat):Int).toNat=(l[k]).sqs A:=by
    rw [Int.toNat_natCast,z7 (by simpa using a),List.getElem_map]
   have i:=ih f (k+1) (by omega) (by omega);have j:l.take (k+1)=l.take k++[l[k]]:=by rw [List.take_append_getElem a]
   rw [j,Y8N] at i;rw [q]
   refine Z8 (decide_eq_true (by rw [List.length_map];omega)) (Z3 (by rw [List.length_map];omega) (Q4 (Q3y hF (b.vY ht).le8 (hs.vY ht).le8 (b.vY ht).pos (hs.vY ht).pos (Q0y b.fY) (Q0y hs.fY) (k:=fun u v=>u&&v) rfl (Z0E F)) (Q4 (Q3y hF (b.vN ht).le8 (hs.vN ht).le8 (b.vN ht).pos (hs.vN ht).pos (Q0y b.fN) (Q0y hs.fN) (k:=fun u v=>u||v) rfl (Z4x F)) (Z3 (Y3 (by omega) (by omega)) ?_))));exact i
 have:=e l.length F 0 (by omega) (by omega)
 have r:Z6j A (l.take 0)=⟨inR A,fun _ _=>false⟩:=by unfold Z6j;simp
 rw [r] at this;simp only [Y5G ht.val,Y2j] at this
 rw [e3];exact this
end
end Go.Ab
end
section
namespace Go.Ab
set_option maxRecDepth 20000
noncomputable section
def TS.turn (s:TS):TS:=⟨s.N,s.Y⟩
theorem W0W (A:List Rect) (s:TS):s.turn.O A=s.O A:=by
 funext u v
 simp only [TS.turn,TS.O]
 cases inR A u v <;> cases s.Y u v <;> cases s.N u v <;> rfl
theorem Y2n (F:Nat) (A:List Rect) (s:TS):Q7d F (s.sqs A)=some (s.turn.sqs A):=by
 unfold Q7d TS.sqs;rw [W0W]
 rfl
def tkS (op:Int) (s:TS):TS:=if op=9 then s else s.turn
theorem W1v {A:List Rect} {s:TS} (h:TIn A s) (op:Int):TIn A (tkS op s):=by
 unfold tkS;split
 ·exact h
 ·exact h.turn
variable {cs:List Crop} {hs:List Rg_} {zs:List A2_} {y c d:Int} {A:List Rect}
theorem Z7B {p:TermPlace} (h:EV y cs hs zs c A) (hp:PL p y cs hs zs d c A):∀ (e:Nat) {F:Nat} (_:BIG+e<=F) {t:Term} (_:TD e t) (_:Q6w e t=true),J7 F p t=some ((evS y cs hs zs d c A e t).sqs A)
 | 0,_,_,_,ht,_=>ht.elim
 | e+1,0,hF,_,_,_=>by unfold BIG at hF;omega
 | e+1,F+1,hF,t,ht,l=>by
  have E : BIG+e<=F:=by omega
  have x:BIG<=F:=by omega
  have w:=x;unfold BIG at w
  obtain ⟨J,_,v,M⟩:=ht;have u:Z0z t=true/\∀ k ∈ t.kids_,Q6w e k=true:=by
   unfold Q6w at l;rw [Bool.and_eq_true,List.all_eq_true] at l
   exact l
  have b:=u.1;show Q2z F (J7 F) p t=_
  unfold Q2z;have G:∀ s ∈ t.kids_.map (fun k=>tkS t.op_ (evS y cs hs zs d c A e k)),TIn A s:=fun s hs=>by
   obtain ⟨k,_,rfl⟩:=List.mem_map.1 hs;exact W1v (Y1y e k) _
  have D:∀ (m f i:Nat),i+m=t.kids_.length->m<f->Z6 (fun again (z:Int×(List Squares))=>Q0q F (J7 F) p t again z.1 z.2) f (((i:Nat):Int),(t.kids_.take i).map fun k=>(tkS t.op_ (evS y cs hs zs d c A e k)).sqs A)=some ((evS y cs hs zs d c A (e+1) t).sqs A):=by
   intro m
   induction m with
   | zero=>
    intro f i L l;obtain ⟨f,rfl⟩:∃ g,f=g+1:=⟨f-1,by omega⟩
    show Q0q F (J7 F) p t (Z6 _ f) ((i:Nat):Int) _=_;unfold Q0q
    refine Q9 (decide_eq_false (by omega)) ?_;rw [show i=t.kids_.length by omega,List.take_length]
    unfold Q6Q;have a:=Y3G x hp.re h.tr G (by rw [List.length_map];exact v)
    rw [List.map_map] at a;have a:Q1U F p (t.kids_.map fun k=>(tkS t.op_ (evS y cs hs zs d c A e k)).sqs A)=_:=a
    have z:∀ {k:Int},(t.op_==k)=false->¬ t.op_=k:=fun h e=>by rw [e] at h;simp at h
    refine Q8 (fun q=>?_) fun r=>Q8 (fun q=>?_) fun n=>Q8 (fun q=>?_) fun B=>?_
    ·have q:=eq_of_beq q
     refine Q4 a ?_;have:Z6j A (t.kids_.map fun k=>tkS t.op_ (evS y cs hs zs d c A e k))=evS y cs hs zs d c A (e+1) t:=by
      conv=>rhs;unfold evS
      unfold Z6j tkS;rw [if_pos q]
      simp only [List.all_map,List.any_map,if_pos q];rfl
     rw [this]
    ·have q:=eq_of_beq q
     refine Q4 a (Q4 (Y2n F A _) ?_);have:(Z6j A (t.kids_.map fun k=>tkS t.op_ (evS y cs hs zs d c A e k))).turn=evS y cs hs zs d c A (e+1) t:=by
      conv=>rhs;unfold evS
      unfold Z6j tkS TS.turn;rw [if_neg (z r),if_pos q]
      simp only [List.all_map,List.any_map,if_neg (z r)];rfl
     rw [this]
    ·have q:=eq_of_beq q
     have N:t.kids_.length=1:=by
      unfold Z0z at b;simp [q] at b
      omega
     refine Z3 (by rw [List.length_map];omega) ?_;rw [z7 (by rw [List.length_map];show 0<_;omega),List.getElem_map]
     have:tkS t.op_ (evS y cs hs zs d c A e (gl t.kids_ 0))=evS y cs hs zs d c A (e+1) t:=by
      conv=>rhs;unfold evS
      unfold tkS TS.turn;rw [if_neg (z r),if_neg (z r),if_neg (z n),if_pos q]
     rw [<-this,z7 (by omega)];rfl
    ·have:atS y cs hs zs d c A t=evS y cs hs zs d c A (e+1) t:=by
      unfold evS;rw [if_neg (z r),if_neg (z n),if_neg (z B)]
     rw [<-this];exact Q4 (Y3b x h hp b) rfl
   | succ m ih=>
    intro f i L l;obtain ⟨f,rfl⟩:∃ g,f=g+1:=⟨f-1,by omega⟩
    show Q0q F (J7 F) p t (Z6 _ f) ((i:Nat):Int) _=_;have j:i<t.kids_.length:=by omega
    have o:=M _ (V6 j);have H:=Z7B h hp e E o (u.2 _ (V6 j))
    have C:=ih f (i+1) (by omega) (by omega);rw [y3 j,List.map_append,List.map_singleton] at C
    generalize Z6 (fun again (z:Int×(List Squares))=>Q0q F (J7 F) p t again z.1 z.2) f=ag at C ⊢;unfold Q0q
    have I:((i:Nat):Int).toNat=i:=Int.toNat_natCast i;have K:((t.kids_.take i).map fun k=>(tkS t.op_ (evS y cs hs zs d c A e k)).sqs A).length<=1000000:=by
     rw [List.length_map,List.length_take];omega
    refine Z8 (decide_eq_true (by omega)) (Z3 (by omega) (Z3 (by rw [I];exact o.op) (Q4 (by rw [I];exact H) ?_)));have k1:∀ s:TS,s=tkS t.op_ (evS y cs hs zs d c A e (gl t.kids_ i))->Q1T F (J7 F) ((i:Nat):Int) ((t.kids_.take i).map fun k=>(tkS t.op_ (evS y cs hs zs d c A e k)).sqs A) ag (s.sqs A).yes_ (s.sqs A).no_ (s.sqs A).open_=some ((evS y cs hs zs d c A (e+1) t).sqs A):=fun s hs=>by
     subst hs;unfold Q1T
     exact Z3 (by unfold LIM;simp only [List.length_singleton];omega) (Z3 (Y3 (by omega) (by omega)) C)
    refine Q8 (fun q=>?_) fun q=>?_
    ·have q:¬ t.op_=9:=fun e=>by rw [e] at q;simp at q
     refine Q4 (Y2n F A _) (k1 _ ?_);unfold tkS;rw [if_neg q]
    ·have q:t.op_=9:=by simpa using q
     refine k1 _ ?_;unfold tkS;rw [if_pos q]
  have:=D t.kids_.length F 0 (by omega) (by omega)
  simpa using this
end
end Go.Ab
end
section
namespace Go.Ab
set_option maxRecDepth 20000
noncomputable section
variable {F:Nat} {cs:List Crop} {hs:List Rg_} {zs:List A2_} {y c d:Int} {A:List Rect}
end
end Go.Ab
end
section
namespace Go.Ab
set_option maxRecDepth 20000
noncomputable section
variable {cs:List Crop} {hs:List Rg_} {zs:List A2_} {y c d:Int} {A:List Rect}
end
end Go.Ab
end
section
namespace Go.Ab
set_option maxRecDepth 20000
noncomputable section
def Q7u (cs:List Crop) (c:Int):Bool:=decide (c<0)||decide (((cs.length:Nat):Int)<=c)
def Z6k (e:Nat) (t:Term) (cs:List Crop) (c:Int) (hs:List Rg_) (y:Int) (zs:List A2_) (d:Int) (A:List Rect):Int:=
 if Q8z e t≠0 then Q8z e t else if crC cs≠0 then crC cs else if (Q7u cs c||hs.any fun r=>Q7u cs r.c_)=true then 13
 else if Q9j hs≠0 then Q9j hs else if y<0\/100<y then 18 else if Q9T zs≠0 then Q9T zs else if d<0\/36864<d then 9 else if Q3D A=true then 0 else 7
theorem Y2O (F:Nat) (k:Int) (p:TermPlace):Q0T F k p=some (Q7u p.world_.crops_ k):=by
 unfold Q0T Q2i Q7u;refine Q8 (fun h=>?_) (fun h=>?_)
 ·rw [h];rfl
 ·rw [h];rfl
theorem Y3w {F:Nat} (hF:BIG<=F) {l:List Rg_} (hl:l.length<=1000000) (p:TermPlace):J9 F l p=some (l.any fun r=>Q7u p.world_.crops_ r.c_):=by
 have e:=hF;unfold BIG at e
 have:∃ i:Int,y8 F l p=some i/\(decide (0<=i))=l.any fun r=>Q7u p.world_.crops_ r.c_:=by
  unfold y8;have b:∀ (m f i:Nat),i+m=l.length->m<f->∃ v:Int,Z6 (fun again (z:Int)=>V8 F l p again z) f ((i:Nat):Int)=some v/\(decide (0<=v))=(l.drop i).any fun r=>Q7u p.world_.crops_ r.c_:=by
   intro m
   induction m with
   | zero=>
    intro f i q n;obtain ⟨f,rfl⟩:∃ g,f=g+1:=⟨f-1,by omega⟩
    show ∃ v:Int,V8 F l p (Z6 _ f) ((i:Nat):Int)=some v/\_;unfold V8
    refine ⟨-1,Q9 (decide_eq_false (by omega)) rfl,?_⟩;rw [List.drop_eq_nil_of_le (by omega)];rfl
   | succ m ih=>
    intro f i q n;obtain ⟨f,rfl⟩:∃ g,f=g+1:=⟨f-1,by omega⟩
    have a:i<l.length:=by omega
    obtain ⟨v,j,o⟩:=ih f (i+1) (by omega) (by omega);show ∃ v:Int,V8 F l p (Z6 _ f) ((i:Nat):Int)=some v/\_
    generalize Z6 (fun again (z:Int)=>V8 F l p again z) f=ag at j ⊢;unfold V8
    have k:Q1f F (gl l ((i:Nat):Int).toNat) p=some (Q7u p.world_.crops_ (gl l i).c_):=by
     unfold Q1f;rw [Int.toNat_natCast]
     exact Q4 (Y2O F _ p) rfl
    have h:l.drop i=gl l i::l.drop (i+1):=by rw [List.drop_eq_getElem_cons a,z7 a]
    rw [h,List.any_cons]
    cases hw:Q7u p.world_.crops_ (gl l i).c_ with
    | true=>
     refine ⟨(i:Int),Z8 (decide_eq_true (by omega)) (Z3 (by omega) (Q4 (k.trans (by rw [hw])) (Z8 rfl rfl))),?_⟩;simp
    | false=>
     refine ⟨v,Z8 (decide_eq_true (by omega)) (Z3 (by omega) (Q4 (k.trans (by rw [hw])) (Q9 rfl (Z3 (Y3 (by omega) (by omega)) j)))),?_⟩;rw [o];rfl
  have:=b l.length F 0 (by omega) (by omega)
  simpa using this
 obtain ⟨i,t,s⟩:=this;unfold J9
 refine Q4 t ?_;rw [<-s]
theorem Y1S {e F:Nat} (hF:BIG+e<=F) {p:TermPlace} {t:Term} (ht:TD e t) (hl:p.world_.history_.length<=1000000) (hc:NmS p.world_.crops_):Q3f F p t=some (Z6k e t p.world_.crops_ p.line_.c_ p.world_.history_ p.world_.y_ p.world_.zones_ p.world_.day_ p.line_.g_.t_):=by
 have a:BIG<=F:=by omega
 unfold Q3f Z6k;refine Q4 (Z6r hF ht) (Q8 (fun q=>?_) fun q=>?_)
 ·rw [if_pos (by simpa using q)]
 rw [if_neg (by simpa using q)];refine Q4 (Z5A a hc) (Q8 (fun q=>?_) fun q=>?_)
 ·rw [if_pos (by simpa using q)]
 rw [if_neg (by simpa using q)];have k1:∀ b:Bool,Q1A F p b=some (if b=true then 18 else if Q9T p.world_.zones_≠0 then Q9T p.world_.zones_ else if p.world_.day_<0\/36864<p.world_.day_ then 9 else if Q3D p.line_.g_.t_=true then 0 else 7):=fun b=>by
  unfold Q1A;cases b
  ·simp only [Bool.false_eq_true,if_false]
   refine Q9 rfl (Q4 (Z6L a _ _) ?_)
   by_cases h1:Q9T p.world_.zones_≠0
   ·rw [if_pos h1,if_pos h1]
    exact Z8 (by simpa using h1) rfl
   rw [if_neg h1,if_neg h1]
   by_cases h2:p.world_.day_<0\/36864<p.world_.day_
   ·rw [if_pos h2,if_pos h2]
    exact Z8 rfl rfl
   rw [if_neg h2,if_neg h2];refine Q9 rfl (Q4 (Q0o a _) ?_)
   cases Q3D p.line_.g_.t_ <;> rfl
  ·exact Z8 rfl rfl
 have f:∀ b:Bool,Q1B F p b=some (if b=true then 13 else if Q9j p.world_.history_≠0 then Q9j p.world_.history_ else if p.world_.y_<0\/100<p.world_.y_ then 18 else if Q9T p.world_.zones_≠0 then Q9T p.world_.zones_ else if p.world_.day_<0\/36864<p.world_.day_ then 9 else if Q3D p.line_.g_.t_=true then 0 else 7):=fun b=>by
  unfold Q1B;cases b
  ·simp only [Bool.false_eq_true,if_false]
   refine Q9 rfl (Q4 (Z9e a _) ?_);refine Q8 (fun q=>?_) fun q=>?_
   ·rw [if_pos (by simpa using q)]
   rw [if_neg (by simpa using q)];refine Q8 (fun q=>?_) fun q=>?_
   ·rw [k1,if_pos rfl,if_pos (.inl (of_decide_eq_true q))]
   ·rw [k1]
    by_cases h1:100<p.world_.y_
    ·rw [if_pos (decide_eq_true h1),if_pos (.inr h1)]
    ·have g:¬ decide (100<p.world_.y_)=true:=by simpa using h1
     have h:¬ (p.world_.y_<0\/100<p.world_.y_):=by have:=of_decide_eq_false q;omega
     rw [if_neg g,if_neg h]
  ·exact Z8 rfl rfl
 refine Q4 (Y2O F _ p) (Q8 (fun q=>?_) fun q=>?_)
 ·rw [f,q];rfl
 ·refine Q4 (Y3w a hl p) ?_
  rw [f,q];rfl
end
end Go.Ab
end
section
namespace Go.Ab
set_option maxRecDepth 20000
noncomputable section
def noT:Truth:=⟨⟨[]⟩,⟨[]⟩,⟨[]⟩⟩
def TS.t3 (A:List Rect) (s:TS):Truth:=⟨⟨cn s.Y⟩,⟨cn s.N⟩,⟨cn (s.O A)⟩⟩
def Z6M (e:Nat) (t:Term) (l:Line) (y:Int) (cs:List Crop) (hs:List Rg_) (zs:List A2_) (d:Int):Truth×Int:=
 if Z6k e t cs l.c_ hs y zs d l.g_.t_≠0 then (noT,Z6k e t cs l.c_ hs y zs d l.g_.t_) else ((evS y cs hs zs d l.c_ l.g_.t_ e t).t3 l.g_.t_,0)
theorem Y8T {e:Nat} {t:Term} {cs:List Crop} {c:Int} {hs:List Rg_} {y:Int} {zs:List A2_} {d:Int} {A:List Rect} (ht:TD e t) (h:Z6k e t cs c hs y zs d A=0):Q6w e t=true:=by
 have a:Q8z e t=0:=Classical.byContradiction fun b=>by
  unfold Z6k at h;rw [if_pos b] at h
  exact b h
 unfold Q8z at a
 by_cases hz:40<szD e t
 ·rw [if_pos hz] at a;cases a
 ·rw [if_neg hz] at a
  by_cases hr:Q5Y e 8 t=true
  ·rw [Z5I e 8 t ht,Bool.and_eq_true] at hr
   exact hr.2
  ·rw [if_neg hr] at a;cases a
variable {F:Nat} {cs:List Crop} {hs:List Rg_} {zs:List A2_} {y d:Int}
theorem Y3c {e:Nat} (hF:BIG+e<=F) {t:Term} (ht:TD e t) {l:Line} (hl:hs.length<=1000000) (hc:NmS cs) (hev:Z6k e t cs l.c_ hs y zs d l.g_.t_=0->EV y cs hs zs l.c_ l.g_.t_):Z2v F t l y cs hs zs d=some (Z6M e t l y cs hs zs d):=by
 have j:BIG<=F:=by omega
 unfold Z2v Z6M;refine Q4 (Y1S (p:=⟨⟨y,cs,hs,zs,d⟩,l,l.g_.t_⟩) hF ht hl hc) (Q8 (fun q=>?_) fun q=>?_)
 ·rw [if_pos (by simpa using q)];rfl
 have q:Z6k e t cs l.c_ hs y zs d l.g_.t_=0:=by simpa using q
 rw [if_neg (by rw [q];simp)];have h:=hev q
 have b:=Y1y (y:=y) (cs:=cs) (hs:=hs) (zs:=zs) (d:=d) (c:=l.c_) (A:=l.g_.t_) e t;refine Q4 (Z7B (p:=⟨⟨y,cs,hs,zs,d⟩,l,l.g_.t_⟩) h ⟨rfl,rfl,rfl,rfl,rfl,rfl,rfl⟩ e hF ht (Y8T ht q)) ?_
 have f:=(b.vY h.tr).1;have i:=(b.vN h.tr).1
 have g:=(b.vO h.tr).1;generalize evS y cs hs zs d l.c_ l.g_.t_ e t=s at f i g ⊢
 have a:∀ m:List Rect,m.length<=120->Q5a F m=some ⟨m⟩:=fun m k=>by
  unfold Q5a;refine Q4 (Q9C (by unfold LIM;omega)) rfl
 refine Q9 (decide_eq_false ?_) (Q4 (a _ f) (Q4 (a _ i) (Q4 (a _ g) rfl)));show ¬ (120:Int)<Q0A (Q0A ((cn s.Y).length:Int) ((cn s.N).length:Int)) ((cn (s.O l.g_.t_)).length:Int)
 unfold Q0A;split <;> split <;> omega
end
end Go.Ab
end
section
namespace Go.Ab
set_option maxRecDepth 20000
noncomputable section
theorem Z2Y (F:Nat) (u v:Bool):Q4C F u v=some (u&&v):=by
 unfold Q4C Q5V;cases u <;> rfl
theorem Z6i (F:Nat) (u v:Bool):Q3x F u v=some (u && !v):=by
 unfold Q3x Q3e;cases u <;> rfl
theorem Z7l {F:Nat} (hF:BIG<=F) {l:List Rect} (h:Val l):Q0C F l=some (⟨l⟩,0):=by
 have a:=h.1;refine (Q8N hF (by omega) h.pos).trans ?_
 rw [Y5G h,if_neg (by omega)]
theorem Z5j {F:Nat} (hF:BIG<=F) {a b c:List Rect} (ha:Val a) (hb:Val b) (hc:Val c):Q0x F ⟨a,b,c⟩=some (⟨⟨a⟩,⟨b⟩,⟨c⟩⟩,0):=by
 unfold Q0x;exact Q4 (Z7l hF ha) (Q9 rfl (Z3 (Y3 (by omega) (by omega)) (Q4 (Z7l hF hb) (Q9 rfl (Z3 (Y3 (by omega) (by omega)) (Q4 (Z7l hF hc) (Q9 rfl (Z3 (Y3 (by omega) (by omega)) rfl))))))))
end
end Go.Ab
end
section
namespace Go.Ab
set_option maxRecDepth 20000
noncomputable section
def Z4j (A:List Rect) (s:TS) (G:Sq):TS:=⟨fun u v=>s.Y u v&&G u v,fun u v=>inR A u v && !((s.Y u v&&G u v)||(s.O A u v&&G u v))⟩
theorem W1B {A:List Rect} {s:TS} (h:TIn A s) (G:Sq):(Z4j A s G).O A=fun u v=>s.O A u v&&G u v:=by
 funext u v
 simp only [Z4j,TS.O];have:=h.sY u v
 have:=h.sN u v
 cases hA:inR A u v <;> cases hY:s.Y u v <;> cases hN:s.N u v <;> cases G u v <;> simp_all
theorem Y8p {A:List Rect} {s:TS} (h:TIn A s) {G:Sq} (hG:Fin G):TIn A (Z4j A s G):=by
 refine ⟨Z3G h.fY hG,Z5P (G5 A) (Y5A (Z3G h.fY hG) (Z3G h.fO hG)),fun u v a=>?_,fun u v a=>?_⟩
 ·simp only [Z4j,Bool.and_eq_true] at a
  exact h.sY u v a.1
 ·simp only [Z4j,Bool.and_eq_true] at a
  exact a.1
end
end Go.Ab
end
section
namespace Go.Ab
set_option maxRecDepth 20000
noncomputable section
def Z3e (e n:Int):Bool:=Q5W .i64 (e.fdiv (2 ^ (min n.toNat (IntKind.bits .i64)))) 1==1
theorem Y9a (x:Int):Q5W .i64 x 1=0\/Q5W .i64 x 1=1:=by
 unfold Q5W;have h:(BitVec.ofInt 64 x &&& BitVec.ofInt 64 1).toNat<=1:=by
  rw [BitVec.toNat_and];exact Nat.le_trans Nat.and_le_right (by decide)
 show IntKind.wrap .i64 ((BitVec.ofInt 64 x &&& BitVec.ofInt 64 1).toNat:Nat)=0\/IntKind.wrap .i64 ((BitVec.ofInt 64 x &&& BitVec.ofInt 64 1).toNat:Nat)=1;have a:(BitVec.ofInt 64 x &&& BitVec.ofInt 64 1).toNat=0\/(BitVec.ofInt 64 x &&& BitVec.ofInt 64 1).toNat=1:=by omega
 rcases a with a|a <;> rw [a]
 ·left;rfl
 ·right;rfl
theorem Z3d (e n:Int):(Q5W .i64 (e.fdiv (2 ^ (min n.toNat (IntKind.bits .i64)))) 1==0)=!Z3e e n:=by
 unfold Z3e;rcases Y9a (e.fdiv (2 ^ (min n.toNat (IntKind.bits .i64)))) with h|h <;> rw [h] <;> rfl
def Z4e (p:Int) (b:Bracket):Bool:=decide (p<b.up_)&&(decide (b.up_<=268435456)&&(decide (0<=b.rate_)&&decide (b.rate_<=1048576)))
def Q9K (l:List Bracket) (i:Nat):Int:=if i=0 then 0 else (gl l (i-1)).up_
def brB (l:List Bracket):Bool:=decide (1<=l.length)&&(decide (l.length<=6) && !(List.range l.length).any fun i=> !Z4e (Q9K l i) (gl l i))
theorem Y3T {R:Type} {body:(Int->Option R)->Int->Option R} {c y:Option R} (N:Nat) (p:Nat->Bool)
  (bad:∀ again (i:Nat),i<N->(∀ j,j<i->p j=false)->p i=true->body again (i:Int)=c) (good:∀ again (i:Nat) z,i<N->(∀ j,j<i->p j=false)->p i=false->again ((i:Int)+1)=z->body again (i:Int)=z)
  (stop:∀ again,body again (N:Int)=y) {F:Nat} (hF:N<F):Z6 body F 0=if (List.range N).any p=true then c else y:=by
 refine Y7 (fun z:Int=>∃ i:Nat,z=i/\i<=N/\∀ j,j<i->p j=false) (fun z=>N-z.toNat) (fun again z e f=>?_) ⟨0,rfl,Nat.zero_le _,fun j h=>absurd h (Nat.not_lt_zero j)⟩ (by simp;omega);obtain ⟨i,rfl,g,a⟩:=e
 rcases Nat.lt_or_ge i N with h|h
 ·cases hpi:p i with
  | true=>
   rw [if_pos (List.any_eq_true.2 ⟨i,List.mem_range.2 h,hpi⟩)];exact bad again i h a hpi
  | false=>
   refine good again i _ h a hpi (f _ ⟨i+1,by omega,h,fun j b=>?_⟩ (by omega))
   by_cases hji:j=i
   ·rw [hji];exact hpi
   ·exact a j (by omega)
 ·have:i=N:=by omega
  subst this;rw [if_neg (by rw [Bool.not_eq_true,List.any_eq_false];intro j b;rw [a j (List.mem_range.1 b)];simp)]
  exact stop again
theorem Z6U {F:Nat} {l:List Bracket} (hF:l.length<F) (hl:l.length<=1000000):Q4c F l=some (brB l):=by
 unfold Q4c;refine (Y3T (c:=some false) (y:=some (decide (1<=l.length)&&decide (l.length<=6))) l.length (fun i=> !Z4e (Q9K l i) (gl l i)) (fun a i v n o=>?_) (fun a i z v n o s=>?_) (fun a=>?_) hF).trans ?_
 all_goals try (
  have e:i=0\/(1<=i/\1<=(gl l (i-1)).up_):=by
   rcases Nat.eq_zero_or_pos i with h|h
   ·exact .inl h
   ·refine .inr ⟨h,?_⟩
    have w:∀ j,j<i->1<=(gl l j).up_:=by
     intro j
     induction j with
     | zero=>
      intro t;have:=n 0 t
      rw [Bool.not_eq_false'] at this;unfold Z4e Q9K at this
      rw [if_pos rfl] at this;simp only [Bool.and_eq_true,decide_eq_true_eq] at this;omega
     | succ j ih=>
      intro r;have f:=ih (by omega)
      have:=n (j+1) r
      rw [Bool.not_eq_false'] at this;unfold Z4e Q9K at this
      rw [if_neg (by omega),Nat.add_sub_cancel] at this;simp only [Bool.and_eq_true,decide_eq_true_eq] at this;omega
    exact w (i-1) (by omega)
  have q:(((i:Nat):Int)-1).toNat=i-1:=by omega)
 ·show Q0r F l a (i:Int)=_
  unfold Q0r;have k1:J6 F (i:Int) a true=some false:=rfl
  refine Z8 (decide_eq_true (by omega)) (Z3 (by omega) (Q8 (fun _=>k1) (fun f=>Q8 (fun _=>k1) (fun m=>Q8 (fun _=>k1) (fun k=>Q8 (fun _=>k1) (fun g=>?_))))));have f:=of_decide_eq_false f
  have m:=of_decide_eq_false m;have k:=of_decide_eq_false k
  have g:=of_decide_eq_false g;simp only [Int.toNat_natCast] at f m k g
  have b : Z4e (Q9K l i) (gl l i)=false:=by simpa using o
  unfold Z4e Q9K at b;rcases e with h|⟨h,u⟩
  ·subst h
   rw [if_pos rfl,decide_eq_true (by omega),decide_eq_true (by omega),decide_eq_true (by omega),decide_eq_true (by omega)] at b;simp at b
  ·rw [if_neg (by omega)] at b
   refine Z8 (decide_eq_true (by omega)) (Z3 (Y3 (by omega) (by omega)) (Z3 (by omega) ?_));rw [q,decide_eq_true (p:=(gl l ((i:Nat):Int).toNat).up_<=_)]
   ·exact k1
   ·simp only [Int.toNat_natCast]
    by_cases h6:(gl l (i-1)).up_<(gl l i).up_
    ·rw [decide_eq_true h6,decide_eq_true (by omega),decide_eq_true (by omega),decide_eq_true (by omega)] at b
     simp at b
    ·omega
 ·show Q0r F l a (i:Int)=_
  unfold Q0r;have b : Z4e (Q9K l i) (gl l i)=true:=by simpa using o
  unfold Z4e Q9K at b;simp only [Bool.and_eq_true,decide_eq_true_eq] at b
  obtain ⟨f,m,k,g⟩:=b;have k1:J6 F (i:Int) a false=z:=Q9 rfl (Z3 (Y3 (by omega) (by omega)) s)
  have x:1<=(gl l i).up_:=by
   rcases e with h|⟨h,u⟩
   ·rw [if_pos h] at f;omega
   ·rw [if_neg (by omega)] at f;omega
  refine Z8 (decide_eq_true (by omega)) (Z3 (by omega) (Q9 (decide_eq_false (by simp only [Int.toNat_natCast];omega)) (Q9 (decide_eq_false (by simp only [Int.toNat_natCast];omega)) (Q9 (decide_eq_false (by simp only [Int.toNat_natCast];omega)) (Q9 (decide_eq_false (by simp only [Int.toNat_natCast];omega)) ?_)))));refine Q8 (fun h=>?_) (fun _=>k1)
  have h:=of_decide_eq_true h;refine Z3 (Y3 (by omega) (by omega)) (Z3 (by omega) ?_)
  rw [q,decide_eq_false]
  ·exact k1
  ·rw [if_neg (by omega)] at f
   simp only [Int.toNat_natCast];omega
 ·show Q0r F l a (l.length:Int)=_
  unfold Q0r Q6S Q3G;refine Q9 (decide_eq_false (by omega)) ?_
  rw [show decide ((1:Int)<=((l.length:Nat):Int))=decide (1<=l.length) from decide_eq_decide.2 (by omega),show decide (((l.length:Nat):Int)<=(6:Int))=decide (l.length<=6) from decide_eq_decide.2 (by omega)]
  cases decide (1<=l.length) <;> rfl
 ·unfold brB
  cases (List.range l.length).any fun i=> !Z4e (Q9K l i) (gl l i) <;> simp
theorem Z7P {F:Nat} {l:List Bracket} (hF:l.length<F) (hl:l.length<=1000000):Q5h F l=some (brB l):=by
 unfold Q5h brB;have e:Q2D F l true=some false:=rfl
 by_cases h1:1<=l.length
 ·refine Q9 (decide_eq_false (by omega)) ?_
  by_cases h2:l.length<=6
  ·rw [decide_eq_true h1,decide_eq_true h2,decide_eq_false (by omega)]
   unfold Q2D;refine Q9 rfl ?_
   suffices hs:∀ (n i:Nat),l.length-i<n->i<=l.length->Z6 (fun again (z:Int×Int)=>Q1r F l again z.1 z.2) n (Q9K l i,(i:Int))=some (!((List.range l.length).drop i).any fun i=> !Z4e (Q9K l i) (gl l i)) by
    have:=hs F 0 (by omega) (by omega)
    simpa [Q9K] using this
   intro n
   induction n with
   | zero=>intro i h;omega
   | succ n ih=>
    intro i g j;have b:=ih (i+1)
    revert b
    show _->Q1r F l (Z6 (fun again (z:Int×Int)=>Q1r F l again z.1 z.2) n) (Q9K l i) (i:Int)=_;generalize Z6 (fun again (z:Int×Int)=>Q1r F l again z.1 z.2) n=ag
    intro b;unfold Q1r
    by_cases hil:i<l.length
    ·rw [show (List.range l.length).drop i=i::(List.range l.length).drop (i+1) by rw [List.drop_eq_getElem_cons (by simpa using hil),List.getElem_range]]
     rw [List.any_cons];refine Z8 (decide_eq_true (by omega)) (Z3 (by omega) ?_)
     simp only [Int.toNat_natCast];have a:Q0d F l (i:Int) ag true=some false:=rfl
     have f:Q0d F l (i:Int) ag false=some (!((List.range l.length).drop (i+1)).any fun i=> !Z4e (Q9K l i) (gl l i)):=by
      unfold Q0d;refine Q9 rfl (Z3 (Y3 (by omega) (by omega)) ?_)
      rw [<-b (by omega) (by omega)];congr 1
     rw [show Z4e (Q9K l i) (gl l i)=(decide (Q9K l i<(gl l i).up_)&&(decide ((gl l i).up_<=268435456)&&(decide (0<=(gl l i).rate_)&&decide ((gl l i).rate_<=1048576)))) from rfl]
     by_cases g1:Q9K l i<(gl l i).up_
     ·rw [decide_eq_true g1]
      refine Q9 (decide_eq_false (by omega)) ?_
      by_cases g2:(gl l i).up_<=268435456
      ·rw [decide_eq_true g2]
       refine Q9 (decide_eq_false (by omega)) ?_
       by_cases g3:0<=(gl l i).rate_
       ·rw [decide_eq_true g3]
        refine Q9 (decide_eq_false (by omega)) ?_
        by_cases g4:(gl l i).rate_<=1048576
        ·rw [decide_eq_true g4,decide_eq_false (by omega),f];simp
        ·rw [decide_eq_false g4,decide_eq_true (by omega),a];simp
       ·rw [decide_eq_false g3]
        exact Z8 (decide_eq_true (by omega)) a
      ·rw [decide_eq_false g2]
       exact Z8 (decide_eq_true (by omega)) a
     ·rw [decide_eq_false g1]
      exact Z8 (decide_eq_true (by omega)) a
    ·have:i=l.length:=by omega
     subst this;refine Q9 (decide_eq_false (by omega)) ?_
     rw [List.drop_eq_nil_of_le (by simp)];rfl
  ·rw [decide_eq_false h2,decide_eq_true (by omega),Bool.false_and,Bool.and_false];exact e
 ·rw [decide_eq_false h1]
  exact Z8 (decide_eq_true (by omega)) e
structure SD (d:Nat) (s:Scheme):Prop where
 cond:TD d s.cond_
 name:s.n_.size<=4294967296
 brl:s.brackets_.length<=1000000
def Q9L (d:Nat) (s:Scheme):Int:=
 if s.N_<0\/15<s.N_\/s.least_<0\/268435456<s.least_ then 2 else if Q2H s.n_=false then 5 else if Q8z d s.cond_≠0 then Q8z d s.cond_
 else if brB s.brackets_=false\/s.excludes_<0\/65536<=s.excludes_\/Z3e s.excludes_ s.N_=true then 3 else 0
theorem Z9P {d F:Nat} (hd:d<=2000000) (hF:BIG+d<=F) {s:Scheme} (h:SD d s):Q7J F s=some (Q9L d s):=by
 have f:BIG<=F:=by omega
 have e:=f;unfold BIG at e
 unfold Q7J Q9L;have a:Q1v F s true=some 2:=rfl
 by_cases h1:s.N_<0
 ·rw [if_pos (.inl h1)];exact Z8 (decide_eq_true h1) a
 refine Q9 (decide_eq_false h1) ?_
 by_cases h2:15<s.N_
 ·rw [if_pos (.inr (.inl h2))];exact Z8 (decide_eq_true h2) a
 refine Q9 (decide_eq_false h2) ?_
 by_cases h3:s.least_<0
 ·rw [if_pos (.inr (.inr (.inl h3)))];exact Z8 (decide_eq_true h3) a
 refine Q9 (decide_eq_false h3) ?_
 by_cases h4:268435456<s.least_
 ·rw [if_pos (.inr (.inr (.inr h4))),decide_eq_true h4];exact a
 rw [if_neg (by omega),decide_eq_false h4];unfold Q1v
 refine Q9 rfl (Q4 (Z1S (by have:=h.name;omega) h.name) ?_)
 cases hn:Q2H s.n_ with
 | false=>rfl
 | true=>
  rw [if_neg (by simp)];refine Q9 rfl (Q4 (Z6r hF h.cond) ?_)
  by_cases h5:Q8z d s.cond_=0
  ·rw [if_neg (by simpa using h5)]
   refine Q9 (by simp [h5]) (Q4 (Z6U (by have:=h.brl;omega) h.brl) ?_);have b:Q1u F true=some 3:=rfl
   cases hbr:brB s.brackets_ with
   | false=>rw [if_pos (.inl rfl)];exact Z8 rfl b
   | true=>
    refine Q9 rfl ?_
    by_cases h6:s.excludes_<0
    ·rw [if_pos (.inr (.inl h6))];exact Z8 (decide_eq_true h6) b
    refine Q9 (decide_eq_false h6) ?_
    by_cases h7:65536<=s.excludes_
    ·rw [if_pos (.inr (.inr (.inl h7)))];exact Z8 (decide_eq_true h7) b
    refine Q9 (decide_eq_false h7) (Z3 (by omega) ?_);show Q1u F (Z3e s.excludes_ s.N_)=_
    cases Z3e s.excludes_ s.N_ with
    | true=>rw [if_pos (.inr (.inr (.inr rfl)))];exact b
    | false=>rw [if_neg (by simp;omega)];rfl
  ·rw [if_pos h5]
   exact Z8 (by simpa using h5) rfl
theorem Z7Q {d F:Nat} (hd:d<=2000000) (hF:BIG+d<=F) {s:Scheme} (h:SD d s):Z2C F s=some (Q9L d s):=by
 have f:BIG<=F:=by omega
 have e:=f;unfold BIG at e
 unfold Z2C Q9L;have a:Q3L F s true=some 2:=rfl
 by_cases h1:s.N_<0
 ·rw [if_pos (.inl h1)];exact Z8 (decide_eq_true h1) a
 refine Q9 (decide_eq_false h1) ?_
 by_cases h2:15<s.N_
 ·rw [if_pos (.inr (.inl h2))];exact Z8 (decide_eq_true h2) a
 refine Q9 (decide_eq_false h2) ?_
 by_cases h3:s.least_<0
 ·rw [if_pos (.inr (.inr (.inl h3)))];exact Z8 (decide_eq_true h3) a
 refine Q9 (decide_eq_false h3) ?_
 by_cases h4:268435456<s.least_
 ·rw [if_pos (.inr (.inr (.inr h4))),decide_eq_true h4];exact a
 rw [if_neg (by omega),decide_eq_false h4];unfold Q3L
 refine Q9 rfl (Q4 (Y1e f _) ?_)
 cases hn:Q2H s.n_ with
 | false=>rfl
 | true=>
  rw [if_neg (by simp)];refine Q9 rfl (Q4 (Y0W hd hF h.cond) ?_)
  by_cases h5:Q8z d s.cond_=0
  ·rw [if_neg (by simpa using h5)]
   refine Q9 (by simp [h5]) (Q4 (Z7P (by have:=h.brl;omega) h.brl) ?_);have b:Q3K F true=some 3:=rfl
   cases hbr:brB s.brackets_ with
   | false=>rw [if_pos (.inl rfl)];exact Z8 rfl b
   | true=>
    refine Q9 rfl ?_
    by_cases h6:s.excludes_<0
    ·rw [if_pos (.inr (.inl h6))];exact Z8 (decide_eq_true h6) b
    refine Q9 (decide_eq_false h6) ?_
    by_cases h7:65536<=s.excludes_
    ·rw [if_pos (.inr (.inr (.inl h7)))];exact Z8 (decide_eq_true h7) b
    refine Q9 (decide_eq_false h7) (Z3 (by omega) ?_);show Q3K F (Z3e s.excludes_ s.N_)=_
    cases Z3e s.excludes_ s.N_ with
    | true=>rw [if_pos (.inr (.inr (.inr rfl)))];exact b
    | false=>rw [if_neg (by simp;omega)];rfl
  ·rw [if_pos h5]
   exact Z8 (by simpa using h5) rfl
end
end Go.Ab
end
section
namespace Go.Ab
set_option maxRecDepth 20000
noncomputable section
theorem Z7J (F:Nat) (u v:Bool):Q4f F u v=some (u && !v):=by
 unfold Q4f Q3J;cases u <;> rfl
theorem Z8K {F:Nat} (hF:BIG<=F) (a b:Re_):Q6l F a b=some (Y2m a b):=by
 unfold Q6l Y2m Q3h;refine Q4 (Q0o hF a) (Q8 (fun h=>?_) fun h=>?_)
 ·rw [h,Bool.true_and]
  refine Q4 (Q0o hF b) (Q8 (fun e=>?_) fun e=>?_)
  ·rw [e,Bool.true_and]
   have f:=(Q1z _).1 h;have vb:=(Q1z _).1 e
   refine Q4 (Q3y hF f.le8 vb.le8 f.pos vb.pos rfl rfl (k:=fun u v=>u && !v) rfl (Z7J F)) ?_;congr 1
   show _=decide (cn (fun x y=>inR a.t_ x y && !inR b.t_ x y)=[])
   cases cn fun x y=>inR a.t_ x y && !inR b.t_ x y with
   | nil=>rfl
   | cons r l=>simp;omega
  ·rw [e];rfl
 ·rw [h];rfl
theorem Y5b {e:Nat} {s:Scheme} (h:Q9L e s=0):0<=s.N_:=by
 unfold Q9L at h
 by_cases hn:s.N_<0\/15<s.N_\/s.least_<0\/268435456<s.least_
 ·rw [if_pos hn] at h;cases h
 ·omega
def Y8o (e:Nat) (l:Line) (parcel:Re_) (s:Scheme) (w:World) (v:Re_×Int):Truth×Int:=
 if Q3D parcel.t_=false then (noT,7)
 else if (Z6M e s.cond_ l w.y_ w.crops_ w.history_ w.zones_ w.day_).2≠0 then (noT,(Z6M e s.cond_ l w.y_ w.crops_ w.history_ w.zones_ w.day_).2)
 else if Q9L e s≠0 then (noT,17)
 else if v.2≠0 then (noT,v.2)
 else if Y2m l.g_ parcel=false then (noT,12)
 else if Z3e l.s_ s.N_=false then (⟨⟨[]⟩,l.g_,⟨[]⟩⟩,0)
 else ((Z4j l.g_.t_ (evS w.y_ w.crops_ w.history_ w.zones_ w.day_ l.c_ l.g_.t_ e s.cond_) (inR v.1.t_)).t3 l.g_.t_,0)
theorem Y7s {e:Nat} {t:Term} {l:Line} {y:Int} {cs:List Crop} {hs:List Rg_} {zs:List A2_} {d:Int} (h:(Z6M e t l y cs hs zs d).2=0):Z6k e t cs l.c_ hs y zs d l.g_.t_=0/\Z6M e t l y cs hs zs d=((evS y cs hs zs d l.c_ l.g_.t_ e t).t3 l.g_.t_,0):=by
 unfold Z6M at h ⊢
 by_cases hz:Z6k e t cs l.c_ hs y zs d l.g_.t_=0
 ·rw [if_neg (by rw [hz];simp)]
  exact ⟨hz,rfl⟩
 ·rw [if_pos hz] at h
  exact (hz h).elim
theorem Z9n {e F:Nat} (he:e<=2000000) (hF:BIG+e<=F) {l:Line} {parcel:Re_} {s:Scheme} {w:World} (hs:SD e s) (hl:w.history_.length<=1000000) (hc:NmS w.crops_) (hev:Z6k e s.cond_ w.crops_ l.c_ w.history_ w.y_ w.zones_ w.day_ l.g_.t_=0->EV w.y_ w.crops_ w.history_ w.zones_ l.c_ l.g_.t_)
  {v:Re_×Int} (hv:Q4m F parcel w.zones_ w.day_ w.most_=some v) (hval:v.2=0->Val v.1.t_):Q0l F l parcel s w=some (Y8o e l parcel s w v):=by
 have g:BIG<=F:=by omega
 unfold Q0l Y8o;refine Q4 (Q0o g _) (Q8 (fun q=>?_) fun q=>?_)
 ·rw [if_pos (by simpa using q)];rfl
 rw [if_neg (by simpa using q)];refine Q4 (Y3c hF hs.cond hl hc hev) (Q8 (fun q=>?_) fun q=>?_)
 ·rw [if_pos (by simpa using q)];rfl
 have q:(Z6M e s.cond_ l w.y_ w.crops_ w.history_ w.zones_ w.day_).2=0:=by simpa using q
 rw [if_neg (by rw [q];simp)];obtain ⟨B,hE⟩:=Y7s q
 have h:=hev B;rw [hE]
 refine Q4 (Z9P he hF hs) (Q8 (fun q=>?_) fun o=>?_)
 ·rw [if_pos (by simpa using q)];rfl
 have o:Q9L e s=0:=by simpa using o
 rw [if_neg (by rw [o];simp)];refine Q4 hv (Q8 (fun q=>?_) fun q=>?_)
 ·rw [if_pos (by simpa using q)];rfl
 have q:v.2=0:=by simpa using q
 rw [if_neg (by rw [q];simp)];have n:=hval q
 refine Q4 (Z8K g _ _) (Q8 (fun q=>?_) fun q=>?_)
 ·rw [if_pos (by simpa using q)];rfl
 rw [if_neg (by simpa using q)];have f:=Y1y (y:=w.y_) (cs:=w.crops_) (hs:=w.history_) (zs:=w.zones_) (d:=w.day_) (c:=l.c_) (A:=l.g_.t_) e s.cond_
 generalize evS w.y_ w.crops_ w.history_ w.zones_ w.day_ l.c_ l.g_.t_ e s.cond_=T at f ⊢;have m:=Y8p f (G5 v.1.t_)
 have x:=W1B f (inR v.1.t_);have p:=m.vY h.tr
 have I:=m.vN h.tr;have j:=m.vO h.tr
 refine Z3 (Y5b o) (Q8 (fun q=>?_) fun q=>?_)
 ·rw [Z3d] at q
  rw [if_pos (by simpa using q)];exact Q4 (Z5j g Val.nil h.tr.val Val.nil) rfl
 ·rw [Z3d] at q
  rw [if_neg (by simpa using q)];have G:=p.1
  have t:=j.1;rw [x] at j t
  have C:=Q3y g (a:=cn T.Y) (b:=v.1.t_) (f.vY h.tr).le8 n.le8 (f.vY h.tr).pos n.pos (Q0y f.fY) rfl (k:=fun u v=>u&&v) rfl (Z2Y F);have E:=Q3y g (a:=cn (T.O l.g_.t_)) (b:=v.1.t_) (f.vO h.tr).le8 n.le8 (f.vO h.tr).pos n.pos (Q0y f.fO) rfl (k:=fun u v=>u&&v) rfl (Z2Y F)
  have z:inR (cn (Z4j l.g_.t_ T (inR v.1.t_)).Y++cn fun u w=>T.O l.g_.t_ u w&&inR v.1.t_ u w)=fun u w=>(T.Y u w&&inR v.1.t_ u w)||(T.O l.g_.t_ u w&&inR v.1.t_ u w):=by
   funext u w
   rw [Z3A,Q1b m.fY,Q1b (Z3G f.fO (G5 _))];rfl
  have D:=Q3y g (a:=l.g_.t_) (b:=cn (Z4j l.g_.t_ T (inR v.1.t_)).Y++cn fun u w=>T.O l.g_.t_ u w&&inR v.1.t_ u w) h.tr.val.le8 (by rw [List.length_append];omega) h.tr.val.pos (fun r i=>by
   rcases List.mem_append.1 i with i|i
   ·exact p.pos r i
   ·exact j.pos r i) rfl z (k:=fun u v=>u && !v) rfl (Z6i F)
  have H:=Z5j g p I j;unfold TS.t3
  rw [x];exact Q4 C (Q4 E (Q4 (Q7E g (by exact Nat.le_trans G (by omega)) (by exact Nat.le_trans t (by omega))) (Q4 D (Q4 H rfl))))
end
end Go.Ab
end
