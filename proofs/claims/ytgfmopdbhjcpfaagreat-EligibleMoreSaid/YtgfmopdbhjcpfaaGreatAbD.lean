/- Abstract states over the model. -/
import Derived.Test.YtgfmopdbhjcpfaaGreatLwB
import Derived.Test.YtgfmopdbhjcpfaaGreatLwA
set_option linter.unusedVariables false
set_option linter.unusedSimpArgs false
section
namespace Go.Ab
set_option maxRecDepth 20000
noncomputable section
theorem Q2R.half2 {l:List Rect} (hc:Q2R l) {x0:Int} {w h:Nat} (hb:∀ r ∈ l,x0<=r.L_/\r.R_<=x0+w/\0<=r.w_/\r.H_<=h):l.length<=h*((w+1) / 2):=by
 obtain ⟨b,f,rfl⟩:=hc;have g:∀ c ∈ b,∃ s,s ∈ c.v:=fun c hc=>List.exists_mem_of_ne_nil _ (f.ne c hc)
 have d:∀ c ∈ b,∀ s ∈ c.v,(⟨s.L_,c.lo,s.R_,c.hi⟩:Rect) ∈ flat b:=fun c hc s e=>List.mem_flatMap.2 ⟨c,hc,List.mem_map.2 ⟨s,e,rfl⟩⟩
 have k:(b.length:Int)<=h-0:=f.runs.len (by omega) fun c hc=>by
  obtain ⟨s,e⟩:=g c hc;have:=hb _ (d c hc s e)
  simp only at this;omega
 have i:∀ c ∈ b,c.v.length<=(w+1) / 2:=fun c hc=>by
  have:=(f.sp c hc).half (n:=x0+w) (a:=x0) (by omega) fun s e=>by
   have:=hb _ (d c hc s e)
   simp only at this ⊢;omega
  omega
 have j:=Y6b i;have m:b.length*((w+1) / 2)<=h*((w+1) / 2):=Nat.mul_le_mul_right _ (by omega)
 omega
def PlB (d:Int) (S:Int->Int->Bool):Prop:=∀ u v,S u v=true->d<=u/\u<d+9/\0<=v/\v<9
theorem W0q {S:Int->Int->Bool} (hf:Fin S) {d:Int} (h0:0<=d/\d<=100) (hb:PlB d S):Val (cn S)/\∀ r ∈ cn S,d<=r.L_/\r.R_<=d+9/\0<=r.w_/\r.H_<=9:=by
 have e:=Q2R.cn hf;have c:∀ r ∈ cn S,d<=r.L_/\r.R_<=d+9/\0<=r.w_/\r.H_<=9:=by
  intro r c;obtain ⟨f,g⟩:=e.pos c
  have a:=hb r.L_ r.w_ (by rw [<-Q1I hf];exact Z7X c ((y6 _ _ _).2 (by omega)));have b:=hb (r.R_-1) (r.H_-1) (by rw [<-Q1I hf];exact Z7X c ((y6 _ _ _).2 (by omega)))
  omega
 have i:=e.half2 (x0:=d) (w:=9) (h:=9) fun r h=>by have:=c r h;omega
 refine ⟨⟨by omega,fun r h=>?_,e⟩,c⟩;obtain ⟨f,g⟩:=e.pos h
 have:=c r h
 rw [Q0v];omega
theorem Z5T (F:Nat) (t:Tape) (n m:Int):Q5K F t n m=Q1n F t n m:=rfl
def shR (d:Int) (r:Rect):Rect:=⟨r.L_+d,r.w_,r.R_+d,r.H_⟩
theorem Y7D (d:Int) (l:List Rect) (u v:Int):inR (l.map (shR d)) u v=inR l (u-d) v:=by
 unfold inR;rw [List.any_map]
 congr 1
 funext r
 show (shR d r).has u v=r.has (u-d) v;rw [Bool.eq_iff_iff,y6,y6]
 show r.L_+d<=u/\u<r.R_+d/\r.w_<=v/\v<r.H_↔r.L_<=u-d/\u-d<r.R_/\r.w_<=v/\v<r.H_;omega
theorem Y8j {α:Type} [Emb α] (l:List α) (i j:Nat) (x:α) (hj:j<l.length):gl (l.set i x) j=if i=j then x else gl l j:=by
 unfold gl;rw [List.getD_eq_getElem?_getD,List.getElem?_set]
 by_cases h:i=j
 ·subst h;rw [if_pos rfl,if_pos rfl,if_pos hj];rfl
 ·rw [if_neg h,if_neg h, <-List.getD_eq_getElem?_getD]
theorem Y4a {α:Type} [Emb α] (l:List α) (i:Nat) (h:i<l.length):gl l i=l[i]:=by
 unfold gl;rw [List.getD_eq_getElem?_getD,List.getElem?_eq_getElem h];rfl
theorem W0N {α:Type} [Emb α] {l m:List α} (h:l.length=m.length) (hg:∀ i,i<l.length->gl l i=gl m i):l=m:=by
 apply List.ext_getElem h;intro i a b
 have:=hg i a
 rwa [Y4a l i a,Y4a m i b] at this
theorem Y9L {α β:Type} [Emb α] [Emb β] (f:α->β) (l:List α) (i:Nat) (h:i<l.length):gl (l.map f) i=f (gl l i):=by
 rw [Y4a _ i (by simpa using h),Y4a l i h];simp
def W0a (q r:Rect):Rect:=⟨max q.L_ r.L_,max q.w_ r.w_,min q.R_ r.R_,min q.H_ r.H_⟩
theorem Y9Z (q:Rect) (l:List Rect) (u v:Int):inR (l.map (W0a q)) u v=(inR l u v&&inR [q] u v):=by
 rw [Bool.eq_iff_iff,Bool.and_eq_true,Q4T,Q4T,Q4T];constructor
 ·rintro ⟨r,a,h⟩
  obtain ⟨s,b,rfl⟩:=List.mem_map.1 a;rw [y6] at h
  simp only [W0a] at h;exact ⟨⟨s,b,(y6 _ _ _).2 (by omega)⟩,q,by simp,(y6 _ _ _).2 (by omega)⟩
 ·rintro ⟨⟨s,b,c⟩,r,a,d⟩
  rw [List.mem_singleton] at a;subst a
  rw [y6] at c d;refine ⟨_,List.mem_map.2 ⟨s,b,rfl⟩,(y6 _ _ _).2 ?_⟩
  simp only [W0a];omega
theorem Y8l {α:Type} [Emb α] (l m:List α) {i:Nat} (h:i<l.length):gl (l++m) i=gl l i:=by
 unfold gl;rw [List.getD_eq_getElem?_getD,List.getElem?_append_left h, <-List.getD_eq_getElem?_getD]
theorem Y8k {α:Type} [Emb α] (l:List α) (x:α):gl (l++[x]) l.length=x:=by
 unfold gl;rw [List.getD_eq_getElem?_getD,List.getElem?_append_right (Nat.le_refl _)];simp
structure ParT (rs:List Re_):Prop where
 len:1<=rs.length/\rs.length<=3
 one:∀ i,i<rs.length->∃ w h:Int,2<=w/\w<=9/\2<=h/\h<=9/\gl rs i=⟨[⟨10*i,0,10*i+w,h⟩]⟩
theorem ParT.pl {rs:List Re_} (h:ParT rs) {i:Nat} (hi:i<rs.length):PlB (10*i) (inR (gl rs i).t_):=by
 intro u v a;obtain ⟨w,k,f,j,g,e,d⟩:=h.one i hi
 rw [d,Q4T] at a;obtain ⟨r,b,c⟩:=a
 rw [List.mem_singleton] at b;subst b
 rw [y6] at c;simp only at c
 omega
theorem ParT.val {rs:List Re_} (h:ParT rs) {i:Nat} (hi:i<rs.length):Val (gl rs i).t_:=by
 obtain ⟨w,k,e,c,b,d,a⟩:=h.one i hi;have:=h.len
 rw [a];exact val_one ((Q0v _).2 (by simp only;omega))
structure LinO (K:Int) (rs:List Re_) (x:Line):Prop where
 crop:0<=x.c_/\x.c_<K
 par:1<=x.p_/\x.p_<=rs.length
 sch:1<=x.s_/\x.s_<=15
 val:Val x.g_.t_
 ne:x.g_.t_.length≠0
 sub:∀ u v,inR x.g_.t_ u v=true->inR (gl rs (x.p_-1).toNat).t_ u v=true
def W1r (a b:Line):Prop:=∀ u v,inR a.g_.t_ u v=true->inR b.g_.t_ u v=true->False
structure LinT (K:Int) (rs:List Re_) (l:List Line):Prop where
 one:∀ x ∈ l,LinO K rs x
 apart:l.Pairwise W1r
 two:∀ i,i<l.length->∃ R:List Rect,R.length<=2/\∀ u v,inR (gl l i).g_.t_ u v=(inR R u v && !(l.take i).any fun x=>inR x.g_.t_ u v)
theorem LinO.pl {K:Int} {rs:List Re_} (hp:ParT rs) {x:Line} (h:LinO K rs x):PlB (10*(x.p_-1)) (inR x.g_.t_):=by
 intro u v a;have:=h.par
 have b:=hp.pl (i:=(x.p_-1).toNat) (by omega) u v (h.sub u v a);omega
theorem LinT.nil (K:Int) (rs:List Re_):LinT K rs []:=⟨fun x a=>by simp at a,.nil,fun i b=>by simp at b⟩
theorem Z6W {F:Nat} (hF:BIG<=F) {t:Tape} (ht:TOk t) {cs:List Crop} (hcs:1<=cs.length/\cs.length<=100) {most:Int} (m1:0<=most) (m2:most<=10) :
  ∃ t' l ns rs,Q2u F t cs most=some (t',l,ns,rs)/\TOk t' /\ ParT rs/\LinT (cs.length:Nat) rs l/\(l.length:Int)<=most:=by
 have N:=hF;unfold BIG at hF
 obtain ⟨t1,c,e1,o1,c1,c2⟩:=V5 (F:=F) ht (lo:=1) (hi:=3) (by omega) (by omega) (by omega);have M:∀ (rs:List Re_) (ns:List Int) (tl:List Int) (T:Int),ParT rs->ns.length=rs.length->TOk ⟨tl,T⟩->∃ t' l,Q3R F cs most tl T ns rs=some (t',l,ns,rs)/\TOk t' /\ LinT (cs.length:Nat) rs l/\(l.length:Int)<=most:=by
  intro rs ns tl T J E hT;have d4:=J.len
  obtain ⟨G,k,e2,o2,k1,k2⟩:=Z9 (F:=F) hT (n:=most+1) (by omega) (by omega);have O:∀ (k f:Nat) (t:Tape) (l:List Line),k<f->(l.length:Int)+k<=most->TOk t->LinT (cs.length:Nat) rs l ->
    ∃ t' l',Z8 (fun d (z:Int×List Int×Int×List Line)=>Q1a F cs ns rs d z.1 z.2.1 z.2.2.1 z.2.2.2) f ((k:Int),t.l_,t.at_,l)=some (t',l',ns,rs)/\TOk t' /\ LinT (cs.length:Nat) rs l' /\ (l'.length:Int)<=most:=by
   intro k
   induction k with
   | zero=>
    intro f t l hf c6 ht K
    cases f with
    | zero=>omega
    | succ f=>exact ⟨⟨t.l_,t.at_⟩,l,rfl,ht,K,by omega⟩
   | succ k ih=>
    intro f t l hf c6 ht K
    cases f with
    | zero=>omega
    | succ f=>
     obtain ⟨T,p,ea,oa,p1,p2⟩:=Z9 (F:=F) ht (n:=(ns.length:Nat)) (by omega) (by omega);obtain ⟨tb,a,R0,eb,ob,ha,f7,f4,b6⟩:=Z6Z N oa (n:=9) (most:=2) (by omega) (by omega) (by omega) (by omega)
     obtain ⟨tc,c,ec,oc,c1,c2⟩:=Z9 (F:=F) ob (n:=(cs.length:Nat)) (by omega) (by omega);obtain ⟨td,s,ed,od,s1,s2⟩:=Z9 (F:=F) oc (n:=15) (by omega) (by omega)
     have H:p.toNat<rs.length:=by omega
     have e7:=ha.val.1
     let S:Nat->Int->Int->Bool:=fun n u v=>(inR (a.t_.map (shR (10*p))) u v&&inR (gl rs p.toNat).t_ u v) && !((l.take n).any fun x=>inR x.g_.t_ u v)
     have b7:∀ n,PlB (10*p) (S n):=fun n u v h=>by
      have h1:inR (gl rs p.toNat).t_ u v=true:=by
       simp only [S,Bool.and_eq_true] at h;exact h.1.2
      have:=J.pl H u v h1
      omega
     have a6:S 0=fun u v=>Q0w (inR (a.t_.map (shR (10*p))) u v) (inR (gl rs p.toNat).t_ u v) 2:=by
      funext u v
      simp [S,Q0w]
     have a3:∀ r ∈ a.t_,0<=r.L_/\r.L_<r.R_/\r.R_<=9/\0<=r.w_/\r.w_<r.H_/\r.H_<=9:=ha.box;have c0:∀ r ∈ a.t_.map (shR (10*p)),Q3a r=true:=fun r hr=>by
      obtain ⟨q,hq,rfl⟩:=List.mem_map.1 hr;have:=a3 q hq
      rw [Q0v];simp only [shR]
      omega
     have g:∀ n,n<=l.length->Fin (S n):=by
      intro n
      induction n with
      | zero=>intro _;rw [a6];exact Q6u _ _ 2
      | succ n ihn=>
       intro I;have h0:=ihn (by omega)
       have e:S (n+1)=fun u v=>Q0w (inR (cn (S n)) u v) (inR (gl l n).g_.t_ u v) 3:=by
        funext u v
        rw [Q1I h0];simp only [S,Q0w]
        rw [y4 (by omega),List.any_append];simp [Bool.and_assoc]
       rw [e];exact Q6u _ _ 3
     have U:∀ n,n<l.length->(cn fun u v=>Q0w (inR (cn (S n)) u v) (inR (gl l n).g_.t_ u v) 3)=cn (S (n+1)):=fun n I=>by
      congr 1
      funext u v
      rw [Q1I (g n (by omega))];simp only [S,Q0w]
      rw [y4 I,List.any_append];simp [Bool.and_assoc]
     have D:∀ n,n<=l.length->Val (cn (S n)):=fun n I=>(W0q (g n I) (by omega) (b7 n)).1
     have a4:∃ t' l',Q3Q F cs rs ((k+1:Nat):Int) l (T,p) (tb,a) (Z8 (fun d (z:Int×List Int×Int×List Line)=>Q1a F cs ns rs d z.1 z.2.1 z.2.2.1 z.2.2.2) f) (a.t_.map (shR (10*p)))=some (t',l',ns,rs)/\TOk t' /\ LinT (cs.length:Nat) rs l' /\ (l'.length:Int)<=most:=by
      have c5:∃ t' l',Q2e F cs ((k+1:Nat):Int) l (T,p) (tb,a) (Z8 (fun d (z:Int×List Int×Int×List Line)=>Q1a F cs ns rs d z.1 z.2.1 z.2.2.1 z.2.2.2) f) (cn (S l.length))=some (t',l',ns,rs)/\TOk t' /\ LinT (cs.length:Nat) rs l' /\ (l'.length:Int)<=most:=by
       have ek:((k+1:Nat):Int)-1=(k:Int):=by omega
       by_cases Z:(cn (S l.length)).length=0
       ·obtain ⟨G,L,m,o,B⟩:=ih f tb l (by omega) (by omega) ob K
        refine ⟨G,L,?_,o,B⟩;unfold Q2e
        refine Q9 (by simp [Z]) ?_;unfold Q2d
        simp only
        rw [ek];exact Z3 (Y5 (by omega) (by omega)) m
       ·have hx:LinO (cs.length:Nat) rs ⟨p+1,⟨cn (S l.length)⟩,c,1+s⟩:=by
         refine ⟨⟨c1,c2⟩,by simp only;omega,by simp only;omega,D _ (Nat.le_refl _),Z,fun u v C=>?_⟩;have C:inR (cn (S l.length)) u v=true:=C
         rw [Q1I (g _ (Nat.le_refl _))] at C;simp only [S,Bool.and_eq_true] at C
         have e5:(p+1-1:Int)=p:=by omega
         simp only [e5];exact C.1.2
        have b3:LinT (cs.length:Nat) rs (l++[⟨p+1,⟨cn (S l.length)⟩,c,1+s⟩]):=by
         refine ⟨fun x h=>?_,?_,fun i hi=>?_⟩
         ·rcases List.mem_append.1 h with h|h
          ·exact K.one x h
          ·rw [List.mem_singleton] at h;subst h;exact hx
         ·rw [List.pairwise_append]
          refine ⟨K.apart,List.pairwise_singleton _ _,fun x h y hy u v h1 h2=>?_⟩;rw [List.mem_singleton] at hy
          subst hy;have h2:inR (cn (S l.length)) u v=true:=h2
          rw [Q1I (g _ (Nat.le_refl _))] at h2;simp only [S,Bool.and_eq_true,Bool.not_eq_true',List.take_length] at h2
          have:=List.any_eq_false.1 h2.2 x h
          exact this h1
         ·rcases Nat.lt_or_ge i l.length with X|X
          ·obtain ⟨R,r1,r2⟩:=K.two i X
           refine ⟨R,r1,fun u v=>?_⟩;rw [Y8l _ _ X,List.take_append_of_le_length (by omega)]
           exact r2 u v
          ·have h6:i=l.length:=by simp at hi;omega
           subst h6;obtain ⟨w,k2,_,_,_,_,e5⟩:=J.one p.toNat H
           refine ⟨(R0.map (shR (10*p))).map (W0a ⟨10*(p.toNat:Int),0,10*(p.toNat:Int)+w,k2⟩),by simp;omega,fun u v=>?_⟩;rw [Y8k,List.take_left' rfl,Y9Z,Y7D]
           show inR (cn (S l.length)) u v=_;rw [Q1I (g _ (Nat.le_refl _))]
           simp only [S,List.take_length];rw [Y7D,e5,b6]
        obtain ⟨G,L,m,o,B⟩:=ih f td (l++[⟨p+1,⟨cn (S l.length)⟩,c,1+s⟩]) (by omega) (by simp;omega) od b3;refine ⟨G,L,?_,o,B⟩
        unfold Q2e;refine Y2 (decide_eq_true (by omega)) ?_
        refine Z3 (Y5 (by simp only;omega) (by simp only;omega)) (Q4 ec (Q4 ed ?_));refine Z3 (Y5 (by simp only;omega) (by simp only;omega)) (Z3 (by simp [LIM];omega) ?_)
        unfold Q2d;simp only
        rw [ek];exact Z3 (Y5 (by omega) (by omega)) m
      obtain ⟨G,L,m,o,B⟩:=c5;refine ⟨G,L,?_,o,B⟩
      unfold Q3Q;refine Z3 (by simp only;omega) ?_
      refine Q4 ((Q3P N (a:=a.t_.map (shR (10*p))) (b:=(gl rs p.toNat).t_) (how:=2) (by simp;omega) (by have:=(J.val H).1;omega) c0 (J.val H).2.1).trans (congrArg some (congrArg cn a6.symm))) ?_;refine Y9 (fun z:List Rect×Int=>∃ n:Nat,z.2=n/\n<=l.length/\z.1=cn (S n)) (fun z=>l.length-z.2.toNat) (fun d z Z Q=>?_) ⟨0,rfl,by omega,rfl⟩ (by simp only;omega)
      obtain ⟨V,n0⟩:=z;obtain ⟨n,rfl,I,rfl⟩:=Z
      simp only at I ⊢;unfold Z1r
      refine Q8 (fun h=>?_) (fun h=>?_)
      ·have h:n<l.length:=by simpa using h
       refine Z3 (by omega) ?_;simp only [Int.toNat_natCast]
       have hx:=K.one _ (V7 h);refine Q4 ((Q3P N (a:=cn (S n)) (b:=(gl l n).g_.t_) (how:=3) (by have:=(D n I).1;omega) (by have:=hx.val.1;omega) (D n I).2.1 hx.val.2.1).trans (congrArg some (U n h))) ?_
       refine Z3 (Y5 (by omega) (by omega)) (Q _ ⟨n+1,by simp,h,rfl⟩ (by simp only;omega))
      ·have h:n=l.length:=by
        have:¬ n<l.length:=by simpa using h
        omega
       subst h;exact m
     obtain ⟨G,L,m,o,B⟩:=a4;refine ⟨G,L,?_,o,B⟩
     show Q1a F cs ns rs _ ((k+1:Nat):Int) t.l_ t.at_ l=_;unfold Q1a
     refine Y2 (by simp) (Q4 ea ?_);rw [Z5T]
     refine Q4 eb ?_;refine Y9 (fun z:Int×List Rect=>∃ i:Nat,z.1=i/\i<=a.t_.length/\z.2.length=a.t_.length/\∀ j,j<a.t_.length->gl z.2 j=if j<i then shR (10*p) (gl a.t_ j) else gl a.t_ j) (fun z=>a.t_.length-z.1.toNat) (fun d z Z Q=>?_)
      ⟨0,rfl,by omega,rfl,fun j _=>by rw [if_neg (by omega)]⟩ (by simp only;omega)
     obtain ⟨i0,V⟩:=z;obtain ⟨i,rfl,hi,Y,hV⟩:=Z
     simp only at Y hV ⊢;unfold Z1s
     simp only [Int.toNat_natCast];refine Q8 (fun h=>?_) (fun h=>?_)
     ·have h:i<a.t_.length:=by simpa using h
      have c8:gl V i=gl a.t_ i:=by rw [hV i h,if_neg (by omega)]
      have hb:=a3 _ (V7 h);have a5:∀ x,gl (V.set i x) i=x:=fun x=>by rw [Y8j V i i x (by omega),if_pos rfl]
      simp only [c8,a5];refine Z3 (by omega) (Z3 (Y5 (by omega) (by omega)) (Z3 (Y5 (by omega) (by omega)) (Z3 (by omega) (Z3 (Y5 (by omega) (by omega)) (Z3 (Y5 (by omega) (by omega)) (Z3 (by omega) (Z3 (by rw [List.length_set];omega) (Z3 (Y5 (by omega) (by omega)) ?_))))))))
      refine Q _ ⟨i+1,by simp,h,by simp [Y],fun j hj=>?_⟩ (by simp only;omega);rw [Y8j _ i j _ (by simp;omega)]
      by_cases hij:i=j
      ·subst hij
       rw [if_pos rfl,if_pos (by omega)];rfl
      ·rw [if_neg hij,Y8j V i j _ (by omega),if_neg hij,hV j hj]
       by_cases h6:j<i
       ·rw [if_pos h6,if_pos (by omega)]
       ·rw [if_neg h6,if_neg (by omega)]
     ·have h:i=a.t_.length:=by
       have:¬ i<a.t_.length:=by simpa using h
       omega
      have c3:V=a.t_.map (shR (10*p)):=W0N (by simp [Y]) fun j hj=>by
       rw [hV j (by omega),if_pos (by omega),Y9L _ _ _ (by omega)]
      rw [c3];exact m
  obtain ⟨t',l,m,o,B,q4⟩:=O k.toNat F G [] (by omega) (by simp;omega) o2 (LinT.nil _ _);refine ⟨t',l,?_,o,B,q4⟩
  unfold Q3R;refine Z3 (Y5 (by omega) (by omega)) (Q4 e2 ?_)
  have:(k.toNat:Int)=k:=by omega
  rw [this] at m;exact m
 have O:∀ (k f:Nat) (t:Tape) (ns:List Int) (rs:List Re_),k<f->TOk t->ns.length=rs.length->rs.length+k=c.toNat->(∀ i,i<rs.length->∃ w h:Int,2<=w/\w<=9/\2<=h/\h<=9/\gl rs i=⟨[⟨10*i,0,10*i+w,h⟩]⟩) ->
   ∃ t' l W A,Z8 (fun d (z:Int×List Int×Int×List Int×List Re_)=>Q1b F cs most d z.1 z.2.1 z.2.2.1 z.2.2.2.1 z.2.2.2.2) f ((k:Int),t.l_,t.at_,ns,rs)=some (t',l,W,A)/\TOk t' /\ ParT A /\ LinT (cs.length:Nat) A l/\(l.length:Int)<=most:=by
  intro k
  induction k with
  | zero=>
   intro f t ns rs hf ht E hk P
   cases f with
   | zero=>omega
   | succ f=>
    have J:ParT rs:=⟨by omega,P⟩;obtain ⟨t',l,m,o,B,q4⟩:=M rs ns t.l_ t.at_ J E ht
    refine ⟨t',l,ns,rs,?_,o,J,B,q4⟩;show Q1b F cs most _ 0 t.l_ t.at_ ns rs=_
    unfold Q1b;exact Q9 rfl m
  | succ k ih=>
   intro f t ns rs hf ht E hk P
   cases f with
   | zero=>omega
   | succ f=>
    obtain ⟨T,w,ea,oa,w1,w2⟩:=V5 (F:=F) ht (lo:=2) (hi:=9) (by omega) (by omega) (by omega);obtain ⟨tb,h,eb,ob,h1,h2⟩:=V5 (F:=F) oa (lo:=2) (hi:=9) (by omega) (by omega) (by omega)
    obtain ⟨t',l,W,A,m,o⟩:=ih f tb (ns++[((ns.length:Nat):Int)+1]) (rs++[⟨[⟨10*((ns.length:Nat):Int),0,10*((ns.length:Nat):Int)+w,h⟩]⟩]) (by omega) ob (by simp [E]) (by simp;omega) (fun i hi=>by
     rcases Nat.lt_or_ge i rs.length with X|X
     ·have e:gl (rs++[(⟨[⟨10*((ns.length:Nat):Int),0,10*((ns.length:Nat):Int)+w,h⟩]⟩:Re_)]) i=gl rs i:=by
       unfold gl;rw [List.getD_eq_getElem?_getD,List.getElem?_append_left X, <-List.getD_eq_getElem?_getD]
      rw [e];exact P i X
     ·have h6:i=rs.length:=by simp at hi;omega
      subst h6;refine ⟨w,h,by omega,by omega,by omega,by omega,?_⟩
      unfold gl;rw [List.getD_eq_getElem?_getD,List.getElem?_append_right (Nat.le_refl _),E]
      simp)
    refine ⟨t',l,W,A,?_,o⟩;show Q1b F cs most _ ((k+1:Nat):Int) t.l_ t.at_ ns rs=_
    unfold Q1b;have ek:((k+1:Nat):Int)-1=(k:Int):=by omega
    refine Y2 (by simp) (Z3 (Y5 (by omega) (by omega)) (Z3 (by simp [LIM];omega) (Z3 (Y5 (by omega) (by omega)) (Z3 (Y5 (by omega) (by omega)) (Q4 ea (Z3 (Y5 (by omega) (by omega)) (Q4 eb (Z3 (by simp [LIM];omega) (Z3 (Y5 (by omega) (by omega)) ?_)))))))));rw [ek]
    exact m
 obtain ⟨t',l,ns,rs,m,o⟩:=O c.toNat F t1 [] [] (by omega) o1 rfl (by simp) (fun i hi=>by simp at hi);refine ⟨t',l,ns,rs,?_,o⟩
 unfold Q2u;refine Q4 e1 ?_
 have:(c.toNat:Int)=c:=by omega
 rw [this] at m;exact m
end
end Go.Ab
end
section
namespace Go.Ab
set_option maxRecDepth 20000
noncomputable section
abbrev Sq:=Int->Int->Bool
structure TR (A:List Rect):Prop where
 val:Val A
 sub:∀ {S:Sq},Fin S->(∀ x y,S x y=true->inR A x y=true)->Val (cn S)
theorem TR.of_pl {A:List Rect} (hv:Val A) {d:Int} (h0:0<=d/\d<=100) (hb:PlB d (inR A)):TR A:=⟨hv,fun b a=>(W0q b h0 fun x y h=>hb x y (a x y h)).1⟩
theorem Val.pos {l:List Rect} (h:Val l):∀ r ∈ l,r.L_<r.R_:=fun _ a=>(h.2.2.pos a).1
theorem Y5u {A:List Rect} (h:Val A):cn (inR A)=A:=(Z0Q A).1 h.2.2
theorem Y6f:Fin fun _ _=>false:=by
 have:=G6 []
 exact this
theorem Y1Z:cn (fun _ _=>false)=[]:=(Z0Q []).1 Y2D
theorem Q3z {F:Nat} (hF:BIG<=F) {a b:List Rect} (la:a.length<=8000) (lb:b.length<=8000) (pa:∀ r ∈ a,r.L_<r.R_) (pb:∀ r ∈ b,r.L_<r.R_) {S T:Sq} (ea:inR a=S) (eb:inR b=T) {k:Bool->Bool->Bool} (hk:k false false=false) {q:Bool->Bool->Option Bool} (hq:∀ u v,q u v=some (k u v)) :
  V4 F a b q=some (cn fun x y=>k (S x y) (T x y)):=by
 subst ea eb;exact Q8L hF (by omega) pa pb hk hq
theorem Y8p {a b:List Rect} {S T:Sq} (ea:inR a=S) (eb:inR b=T) (how:Int):Fin fun x y=>Q0w (S x y) (T x y) how:=by
 subst ea eb;exact Q6u a b how
theorem Q0z {S:Sq} (h:Fin S):inR (cn S)=S:=by
 funext x y;exact Q1I h x y
theorem Z3z {S T:Sq} (hS:Fin S) (hT:Fin T):Fin fun x y=>S x y&&T x y:=Y8p (Q0z hS) (Q0z hT) 2
theorem Y5o {S T:Sq} (hS:Fin S) (hT:Fin T):Fin fun x y=>S x y||T x y:=Y8p (Q0z hS) (Q0z hT) 1
theorem Z5H {S T:Sq} (hS:Fin S) (hT:Fin T):Fin fun x y=>S x y && !T x y:=Y8p (Q0z hS) (Q0z hT) 3
theorem Z0A (F:Nat) (u v:Bool):Q7e F u v=some (u&&v):=by
 unfold Q7e Z0B;cases u <;> rfl
theorem Z4s (F:Nat) (u v:Bool):Q7d F u v=some (u||v):=by
 unfold Q7d Q7w;cases u <;> rfl
theorem Q9V (F:Nat) (u v:Bool):Q3E F u v=some (u && !v):=by
 unfold Q3E Q6z;cases u <;> rfl
structure TS where
 Y:Sq
 N:Sq
def TS.O (A:List Rect) (s:TS):Sq:=fun x y=>(inR A x y && !s.Y x y) && !s.N x y
structure TIn (A:List Rect) (s:TS):Prop where
 fY:Fin s.Y
 fN:Fin s.N
 sY:∀ x y,s.Y x y=true->inR A x y=true
 sN:∀ x y,s.N x y=true->inR A x y=true
theorem TIn.fO {A:List Rect} {s:TS} (h:TIn A s):Fin (s.O A):=Z5H (Z5H (G6 A) h.fY) h.fN
theorem TIn.vY {A:List Rect} (ht:TR A) {s:TS} (h:TIn A s):Val (cn s.Y):=ht.sub h.fY h.sY
theorem TIn.vN {A:List Rect} (ht:TR A) {s:TS} (h:TIn A s):Val (cn s.N):=ht.sub h.fN h.sN
theorem TIn.vO {A:List Rect} (ht:TR A) {s:TS} (h:TIn A s):Val (cn (s.O A)):=ht.sub h.fO fun x y a=>by
 unfold TS.O at a
 cases hA:inR A x y with
 | true=>rfl
 | false=>rw [hA] at a;cases a
def TS.sqs (A:List Rect) (s:TS):Squares:=⟨cn s.Y,cn s.N,cn (s.O A)⟩
theorem Val.le8 {l:List Rect} (h:Val l):l.length<=8000:=by have:=h.1;omega
theorem Z3b {F:Nat} (hF:BIG<=F) {p:TermPlace} {A:List Rect} (hp:p.t_=A) (ht:TR A) {s:TS} (h:TIn A s):Q1u F p (cn s.Y) (cn s.N)=some (s.sqs A):=by
 unfold Q1u;subst hp
 have a:Val (cn fun x y=>inR p.t_ x y && !s.Y x y):=ht.sub (Z5H (G6 _) h.fY) fun x y b=>by
  cases hA:inR p.t_ x y with
  | true=>rfl
  | false=>rw [hA] at b;cases b
 refine Q4 (Q3z hF ht.val.le8 (h.vY ht).le8 ht.val.pos (h.vY ht).pos rfl (Q0z h.fY) (k:=fun u v=>u && !v) rfl (Q9V F)) (Q4 (Q3z hF a.le8 (h.vN ht).le8 a.pos (h.vN ht).pos (Q0z (Z5H (G6 _) h.fY)) (Q0z h.fN) (k:=fun u v=>u && !v) rfl (Q9V F)) rfl)
end
end Go.Ab
end
section
namespace Go.Ab
set_option maxRecDepth 20000
noncomputable section
structure EV (y:Int) (cs:List Crop) (hs:List Rg_) (zs:List A2_) (c:Int) (A:List Rect):Prop where
 tr:TR A
 crop:0<=c/\c<(cs.length:Nat)
 fam:0<=(gl cs c.toNat).f_
 mrk:0<=(gl cs c.toNat).m_/\(gl cs c.toNat).m_<=31
 few:FewR hs
 hb:∀ f ∈ hs,Box (15:Nat) f.g_.t_
 hc:∀ f ∈ hs,0<=f.c_/\f.c_<(cs.length:Nat)
 yr:0<=y/\y<=100
 zs:LB 15 zs
theorem W0A {l:List Rg_} (hb:∀ f ∈ l,Box (15:Nat) f.g_.t_) (y:Int) (p:Int->Bool):Box (15:Nat) (yrs l y p):=fun r a=>by
 unfold yrs at a;obtain ⟨f,b,h⟩:=List.mem_flatMap.1 a
 exact hb f (List.mem_filter.1 b).1 r h
theorem Y9i (a b:List Rg_) (y:Int) (p:Int->Bool):yrs (a++b) y p=yrs a y p++yrs b y p:=by simp [yrs]
theorem Y9Q {l:List Rg_} (h:FewR l) (y:Int) (p:Int->Bool):(yrs l y p).length<=420:=by
 by_cases h0:l.length=0
 ·rw [List.eq_nil_of_length_eq_zero h0];simp [yrs]
 ·have c:=h.few y p (l.length-1) (by omega)
  have e:l=l.take (l.length-1)++[gl l (l.length-1)]:=by
   have:=y4 (l:=l) (i:=l.length-1) (by omega)
   rw [<-this,show l.length-1+1=l.length by omega,List.take_length]
  have d:(yrs [gl l (l.length-1)] y p).length<=120:=by
   have b:=((Q8R _).1 (h.hl.one _ (V7 (l:=l) (i:=l.length-1) (by omega)))).2.2.2.2.2;have:=b.1
   unfold yrs;rw [List.filter_cons]
   split
   ·simpa using this
   ·simp
  have a:=congrArg (fun m=>(yrs m y p).length) e;simp only [Y9i,List.length_append] at a
  omega
def knS (A:List Rect) (hs:List Rg_) (y:Int) (p:Int->Bool):Sq:=fun u v=>inR A u v&&inR (yrs hs y p) u v
theorem Z3y (A:List Rect) (hs:List Rg_) (y:Int) (p:Int->Bool):Fin (knS A hs y p):=Z3z (G6 A) (G6 _)
theorem Z8S {A:List Rect} {hs:List Rg_} {y:Int} {p:Int->Bool} {u v:Int} (h:knS A hs y p u v=true):inR A u v=true:=by
 unfold knS at h;rw [Bool.and_eq_true] at h
 exact h.1
variable {F:Nat} {cs:List Crop} {hs:List Rg_} {zs:List A2_} {y c d:Int} {A:List Rect}
theorem Q6d (hF:BIG<=F) (h:EV y cs hs zs c A) {p:TermPlace} (e1:p.world_.history_=hs) (e2:p.world_.y_=y) (e3:p.t_=A) {n:Int} (n0:0<=n) (n1:n<=1000) {q:Int->Option Bool} (s:Int->Bool) (hq:∀ f ∈ hs,q f.c_=some (s f.c_)):y3 F p n q=some (cn (knS A hs (y-n) s)):=by
 subst e1 e2 e3;have e:=h.yr
 unfold y3;have a:=W0A h.hb (p.world_.y_-n) s
 have:=Y9Q h.few (p.world_.y_-n) s
 exact Z3 (Y5 (by omega) (by omega)) (Q4 (Z8W hF h.few.hl _ s hq) (Q4 (Q3z hF h.tr.val.le8 (by omega) h.tr.val.pos (fun r b=>(a r b).2.1) rfl rfl (k:=fun u v=>u&&v) rfl (Z0A F)) rfl))
end
end Go.Ab
end
section
namespace Go.Ab
set_option maxRecDepth 20000
noncomputable section
def W0P (cs:List Crop) (f:Int) (k:Int):Bool:=(gl cs k.toNat).f_==f
def Y7Q (cs:List Crop) (f:Int) (k:Int):Bool:=(gl cs k.toNat).f_ != f
def smS (A:List Rect) (hs:List Rg_) (cs:List Crop) (y f:Int):Nat->TS
 | 0=>⟨inR A,fun _ _=>false⟩
 | k+1=>⟨fun u v=>(smS A hs cs y f k).Y u v&&knS A hs (y-((k+1:Nat):Int)) (W0P cs f) u v,fun u v=>(smS A hs cs y f k).N u v||knS A hs (y-((k+1:Nat):Int)) (Y7Q cs f) u v⟩
theorem Y5M (A:List Rect) (hs:List Rg_) (cs:List Crop) (y f:Int):∀ k,TIn A (smS A hs cs y f k)
 | 0=>⟨G6 A,Y6f,fun _ _ h=>h,fun _ _ h=>by cases h⟩
 | k+1=>by
  have a:=Y5M A hs cs y f k;refine ⟨Z3z a.fY (Z3y _ _ _ _),Y5o a.fN (Z3y _ _ _ _),fun u v h=>?_,fun u v h=>?_⟩
  ·unfold smS at h
   simp only [Bool.and_eq_true] at h;exact a.sY u v h.1
  ·unfold smS at h
   simp only [Bool.or_eq_true] at h;rcases h with h|h
   ·exact a.sN u v h
   ·exact Z8S h
variable {F:Nat} {cs:List Crop} {hs:List Rg_} {zs:List A2_} {y c d:Int} {A:List Rect}
theorem EV.kn_val (h:EV y cs hs zs c A) (k:Int) (p:Int->Bool):Val (cn (knS A hs k p)):=h.tr.sub (Z3y _ _ _ _) fun _ _ h=>Z8S h
theorem Y2N (hF:BIG<=F) (h:EV y cs hs zs c A) {p:TermPlace} (e1:p.world_.history_=hs) (e2:p.world_.y_=y) (e3:p.t_=A) (e4:p.world_.crops_=cs) (e5:p.line_.c_=c) {n:Nat} (n0:1<=n) (n1:n<=100) :
  Q3T F p (n:Int)=some ((smS A hs cs y (gl cs c.toNat).f_ (n-1)).sqs A):=by
 have b:=hF;unfold BIG at b
 have j:=h.crop;unfold Q3T
 have e:∀ (m f k:Nat),k+m=n-1->m<f->Z8 (fun again (z:(List Rect)×(List Rect)×Int)=>Q0U F p (n:Int) again z.1 z.2.1 z.2.2) f (cn (smS A hs cs y (gl cs c.toNat).f_ k).Y,cn (smS A hs cs y (gl cs c.toNat).f_ k).N,((k:Nat):Int)+1)=some ((smS A hs cs y (gl cs c.toNat).f_ (n-1)).sqs A):=by
  intro m
  induction m with
  | zero=>
   intro f k r s;obtain ⟨f,rfl⟩:∃ g,f=g+1:=⟨f-1,by omega⟩
   show Q0U F p (n:Int) (Z8 _ f) _ _ (((k:Nat):Int)+1)=_;unfold Q0U
   refine Q9 (decide_eq_false (by omega)) ?_;unfold Q6O
   rw [show n-1=k by omega];exact Q4 (Z3b hF e3 h.tr (Y5M _ _ _ _ _ k)) rfl
  | succ m ih=>
   intro f k r s;obtain ⟨f,rfl⟩:∃ g,f=g+1:=⟨f-1,by omega⟩
   show Q0U F p (n:Int) (Z8 _ f) _ _ (((k:Nat):Int)+1)=_;unfold Q0U
   have a:=Y5M A hs cs y (gl cs c.toNat).f_ k;have t:∀ g ∈ hs,Q2z F g.c_ p (gl p.world_.crops_ p.line_.c_.toNat).f_=some (W0P cs (gl cs c.toNat).f_ g.c_):=fun g i=>by
    unfold Q2z;rw [e4,e5]
    exact Z3 (h.hc g i) rfl
   have q:∀ g ∈ hs,Q2y F g.c_ p (gl p.world_.crops_ p.line_.c_.toNat).f_=some (Y7Q cs (gl cs c.toNat).f_ g.c_):=fun g i=>by
    unfold Q2y;rw [e4,e5]
    exact Z3 (h.hc g i) rfl
   have o:=h.kn_val (y-(((k:Nat):Int)+1)) (W0P cs (gl cs c.toNat).f_);have l:=h.kn_val (y-(((k:Nat):Int)+1)) (Y7Q cs (gl cs c.toNat).f_)
   have w:=ih f (k+1) (by omega) (by omega);refine Y2 (decide_eq_true (by omega)) (Q4 (Q6d hF h e1 e2 e3 (by omega) (by omega) _ t) (Q4 (Q6d hF h e1 e2 e3 (by omega) (by omega) _ q) (Q4 (Q3z hF (a.vY h.tr).le8 o.le8 (a.vY h.tr).pos o.pos (Q0z a.fY) (Q0z (Z3y _ _ _ _)) (k:=fun u v=>u&&v) rfl (Z0A F)) (Q4 (Q3z hF (a.vN h.tr).le8 l.le8 (a.vN h.tr).pos l.pos (Q0z a.fN) (Q0z (Z3y _ _ _ _)) (k:=fun u v=>u||v) rfl (Z4s F)) (Z3 (Y5 (by omega) (by omega)) ?_)))))
   exact w
 refine Z3 (by rw [e4,e5];exact j) ?_;have:=e (n-1) F 0 (by omega) (by omega)
 show Z8 _ F (p.t_,[],(1:Int))=_;rw [e3]
 rw [show (smS A hs cs y (gl cs c.toNat).f_ 0)=⟨inR A,fun _ _=>false⟩ from rfl] at this;simp only [Y5u h.tr.val,Y1Z] at this
 exact this
def Z8l (A:List Rect) (b:Bool):TS:=if b then ⟨inR A,fun _ _=>false⟩ else ⟨fun _ _=>false,inR A⟩
theorem Z9n (A:List Rect) (b:Bool):TIn A (Z8l A b):=by
 cases b
 ·exact ⟨Y6f,G6 A,fun _ _ h=>(by cases h),fun _ _ h=>h⟩
 ·exact ⟨G6 A,Y6f,fun _ _ h=>h,fun _ _ h=>by cases h⟩
theorem Y8R (A:List Rect) (b:Bool):(Z8l A b).O A=fun _ _=>false:=by
 funext u v
 cases b <;> simp [Z8l,TS.O]
theorem Q9g {p:TermPlace} (e3:p.t_=A) (hv:Val A) (b:Bool):Q0r F p b=some ((Z8l A b).sqs A):=by
 unfold Q0r TS.sqs;rw [Y8R,Y1Z,e3]
 cases b
 ·refine Q9 rfl ?_
  show some _=some (Squares.mk (cn fun _ _=>false) (cn (inR A)) []);rw [Y1Z,Y5u hv]
 ·refine Y2 rfl ?_
  show some _=some (Squares.mk (cn (inR A)) (cn fun _ _=>false) []);rw [Y1Z,Y5u hv]
def Y1W (A:List Rect) (S:Sq):TS:=⟨fun u v=>inR A u v&&S u v,fun u v=>inR A u v && !S u v⟩
theorem Y8u {A:List Rect} {S:Sq} (h:Fin S):TIn A (Y1W A S):=by
 refine ⟨Z3z (G6 A) h,Z5H (G6 A) h,fun u v a=>?_,fun u v a=>?_⟩
 ·simp only [Y1W,Bool.and_eq_true] at a
  exact a.1
 ·simp only [Y1W,Bool.and_eq_true] at a
  exact a.1
theorem W1j (A:List Rect) (S:Sq):(Y1W A S).O A=fun _ _=>false:=by
 funext u v
 simp only [Y1W,TS.O]
 cases inR A u v <;> cases S u v <;> rfl
theorem Z3F (hF:BIG<=F) {p:TermPlace} (e3:p.t_=A) (ht:TR A) {S:Sq} (h:Fin S):Q0V F p (cn fun u v=>inR A u v&&S u v)=some ((Y1W A S).sqs A):=by
 unfold Q0V TS.sqs;have e:=Z3z (G6 A) h
 have b:=ht.sub e fun u v a=>by
  simp only [Bool.and_eq_true] at a;exact a.1
 rw [W1j,Y1Z,e3];refine Q4 (Q3z hF ht.val.le8 b.le8 ht.val.pos b.pos rfl (Q0z e) (k:=fun u v=>u && !v) rfl (Q9V F)) ?_
 rw [show (fun u v=>inR A u v && !(inR A u v&&S u v))=(Y1W A S).N from ?_]
 ·rfl
 ·funext u v
  simp only [Y1W]
  cases inR A u v <;> cases S u v <;> rfl
end
end Go.Ab
end
section
namespace Go.Ab
set_option maxRecDepth 20000
noncomputable section
theorem Y5O {R:Type} {body:(Int->Option R)->Int->Option R} {c y:Option R} (N:Nat) (p:Nat->Bool)
  (bad:∀ again (i:Nat),i<N->p i=true->body again (i:Int)=c) (good:∀ again (i:Nat) z,i<N->p i=false->again ((i:Int)+1)=z->body again (i:Int)=z)
  (stop:∀ again,body again (N:Int)=y) {F:Nat} (hF:N<F):Z8 body F 0=if (List.range N).any p=true then c else y:=by
 refine Y9 (fun z:Int=>∃ i:Nat,z=i/\i<=N/\∀ j,j<i->p j=false) (fun z=>N-z.toNat) (fun again z f e=>?_) ⟨0,rfl,Nat.zero_le _,fun j h=>absurd h (Nat.not_lt_zero j)⟩ (by simp;omega);obtain ⟨i,rfl,g,a⟩:=f
 rcases Nat.lt_or_ge i N with h|h
 ·cases hpi:p i with
  | true=>
   rw [if_pos (List.any_eq_true.2 ⟨i,List.mem_range.2 h,hpi⟩)];exact bad again i h hpi
  | false=>
   refine good again i _ h hpi (e _ ⟨i+1,by omega,h,fun j b=>?_⟩ (by omega))
   by_cases hji:j=i
   ·rw [hji];exact hpi
   ·exact a j (by omega)
 ·have:i=N:=by omega
  subst this;rw [if_neg (by rw [Bool.not_eq_true,List.any_eq_false];intro j b;rw [a j (List.mem_range.1 b)];simp)]
  exact stop again
end
end Go.Ab
end
section
namespace Go.Ab
set_option maxRecDepth 20000
noncomputable section
end
end Go.Ab
end
section
namespace Go.Ab
set_option maxRecDepth 20000
noncomputable section
theorem Y0U {F:Nat} (hF:BIG<=F) (s:ByteArray):Z1m F s=some (Q2I s):=by
 unfold BIG at hF;unfold Z1m
 have g:Q2I s=false->Q1M F s true=some (Q2I s):=fun h=>by unfold Q1M;rw [h];exact Y2 rfl rfl
 refine Q8 (fun h=>g ?_) (fun h=>?_)
 ·have h:=of_decide_eq_true h
  unfold Q2I;rw [decide_eq_false (by omega:¬ 1<=s.size)];rfl
 have t:1<=s.size:=by have:=of_decide_eq_false h;omega
 refine Q8 (fun h=>g ?_) (fun h=>?_)
 ·have h:=of_decide_eq_true h
  unfold Q2I;rw [decide_eq_false (by omega:¬ s.size<=12)];simp
 have r:s.size<=12:=by have:=of_decide_eq_false h;omega
 have m:Q2I s=decide (∀ i,i<s.size->(Z4c (sAt s (i:Nat))||(!decide (i=0)&&Y1V (sAt s (i:Nat))))=true):=by
  unfold Q2I;rw [decide_eq_true t,decide_eq_true r];simp
 have j:Z4c (sAt s (0:Int))=false->Q2I s=false:=fun h=>by
  rw [m,decide_eq_false_iff_not];intro f
  have:=f 0 (by omega)
  rw [show (((0:Nat):Int))=0 from rfl,h] at this;simp at this
 refine Z3 (by omega) (Q8 (fun h=>g (j ?_)) (fun h=>?_))
 ·have h:=of_decide_eq_true h
  unfold Z4c;rw [decide_eq_false (by omega)];rfl
 have u:=of_decide_eq_false h;refine Z3 (by omega) ?_
 by_cases h4:122<sAt s (0:Int)
 ·rw [decide_eq_true h4]
  refine g (j ?_);unfold Z4c;rw [decide_eq_false (by omega:¬ sAt s (0:Int)<=122)];simp
 rw [decide_eq_false h4];have o:Z4c (sAt s (0:Int))=true:=by
  unfold Z4c;rw [decide_eq_true (by omega),decide_eq_true (by omega)];rfl
 unfold Q1M;refine Q9 rfl ?_
 refine (Y5O (c:=some false) (y:=some true) s.size (fun i=> !(Z4c (sAt s (i:Nat))||Y1V (sAt s (i:Nat)))) (fun a i l b=>?_) (fun a i z l b m=>?_) (fun a=>?_) (by omega)).trans ?_
 ·rw [Bool.not_eq_true',Bool.or_eq_false_iff] at b
  unfold Z4c Y1V at b;unfold Q9k
  have k2:z7 F (i:Int) a true=some false:=by unfold z7;exact Y2 rfl rfl
  refine Y2 (decide_eq_true (by omega)) (Z3 (by omega) ?_);have q:gd (0<=(i:Int)/\(i:Int)<((s.size:Nat):Int)) (br (decide (sAt s (i:Nat)<48)) (z7 F (i:Int) a true) (gd (0<=(i:Int)/\(i:Int)<((s.size:Nat):Int)) (z7 F (i:Int) a (decide (57<sAt s (i:Nat))))))=some false:=by
   refine Z3 (by omega) (Q8 (fun _=>k2) (fun e=>Z3 (by omega) ?_));have e:=of_decide_eq_false e
   rw [decide_eq_true (p:=57<sAt s (i:Nat))]
   ·exact k2
   ·have k:=b.2
    rw [decide_eq_true (by omega:48<=sAt s (i:Nat)),Bool.true_and,decide_eq_false_iff_not] at k;omega
  refine Q8 (fun _=>q) (fun e=>Z3 (by omega) ?_);refine Y2 ?_ q
  have e:=of_decide_eq_false e;have k:=b.1
  rw [decide_eq_true (by omega:97<=sAt s (i:Nat)),Bool.true_and,decide_eq_false_iff_not] at k;exact decide_eq_true (by omega)
 ·rw [Bool.not_eq_false',Bool.or_eq_true] at b
  unfold Z4c Y1V at b;rw [Bool.and_eq_true,Bool.and_eq_true,decide_eq_true_eq,decide_eq_true_eq,decide_eq_true_eq,decide_eq_true_eq] at b
  unfold Q9k;have k2:z7 F (i:Int) a false=z:=by unfold z7;exact Q9 rfl (Z3 (Y5 (by omega) (by omega)) m)
  refine Y2 (decide_eq_true (by omega)) (Z3 (by omega) ?_);refine Q8 (fun e=>?_) (fun e=>?_)
  ·have e:=of_decide_eq_true e
   refine Z3 (by omega) (Q9 (decide_eq_false (by omega)) (Z3 (by omega) ?_));rw [decide_eq_false (p:=57<sAt s (i:Nat)) (by omega)];exact k2
  ·have e:=of_decide_eq_false e
   refine Z3 (by omega) (Q8 (fun k=>?_) (fun k=>k2));have k:=of_decide_eq_true k
   refine Z3 (by omega) (Q9 (decide_eq_false (by omega)) (Z3 (by omega) ?_));rw [decide_eq_false (p:=57<sAt s (i:Nat)) (by omega)];exact k2
 ·unfold Q9k
  exact Q9 (decide_eq_false (by omega)) rfl
 ·rw [m]
  split
  ·rename_i n
   congr 1
   symm
   rw [decide_eq_false_iff_not];intro f
   obtain ⟨i,l,b⟩:=List.any_eq_true.1 n;have:=f i (List.mem_range.1 l)
   rw [Bool.not_eq_true',Bool.or_eq_false_iff] at b;rw [b.1,b.2] at this
   simp at this
  ·rename_i n
   congr 1
   symm
   rw [decide_eq_true_eq];intro i l
   rw [Bool.not_eq_true,List.any_eq_false] at n;have:=n i (List.mem_range.2 l)
   rw [Bool.not_eq_true,Bool.not_eq_false'] at this
   by_cases h0:i=0
   ·subst h0;rw [show (((0:Nat):Int))=0 from rfl,o];rfl
   ·rw [decide_eq_false h0];simpa using this
theorem Y7E {body:(Int->Option Int)->Int->Option Int} (N:Nat) (p:Nat->Int)
  (bad:∀ again (i:Nat),i<N->p i≠0->body again (i:Int)=some (p i)) (good:∀ again (i:Nat) z,i<N->p i=0->again ((i:Int)+1)=z->body again (i:Int)=z)
  (stop:∀ again,body again (N:Int)=some 0) {F:Nat} (hF:N<F):Z8 body F 0=some ((((List.range N).map p).find? fun c=>c != 0).getD 0):=by
 refine Y9 (fun z:Int=>∃ i:Nat,z=i/\i<=N/\∀ j,j<i->p j=0) (fun z=>N-z.toNat) (fun again z m l=>?_) ⟨0,rfl,Nat.zero_le _,fun j h=>absurd h (Nat.not_lt_zero j)⟩ (by simp;omega);obtain ⟨i,rfl,o,b⟩:=m
 rcases Nat.lt_or_ge i N with h|h
 ·by_cases hpi:p i=0
  ·refine good again i _ h hpi (l _ ⟨i+1,by omega,h,fun j a=>?_⟩ (by omega))
   by_cases hji:j=i
   ·rw [hji];exact hpi
   ·exact b j (by omega)
  ·rw [bad again i h hpi]
   congr 1
   have e:List.range N=List.range i++i::(List.range N).drop (i+1):=by
    have n:(List.range N).take i=List.range i:=by rw [List.take_range];congr 1;omega
    have f:=List.take_append_drop i (List.range N);rw [n,List.drop_eq_getElem_cons (by simpa using h)] at f
    rw [List.getElem_range] at f;exact f.symm
   have k:(((List.range i).map p).find? fun c=>c != 0)=none:=List.find?_eq_none.2 fun c g=>by
    obtain ⟨j,a,rfl⟩:=List.mem_map.1 g;rw [b j (List.mem_range.1 a)];simp
   rw [e,List.map_append,List.find?_append,k,Option.none_or,List.map_cons,List.find?_cons];have:(p i != 0)=true:=by simpa using hpi
   rw [this];rfl
 ·have:i=N:=by omega
  subst this;rw [stop again]
  congr 1
  have k:(((List.range i).map p).find? fun c=>c != 0)=none:=List.find?_eq_none.2 fun c g=>by
   obtain ⟨j,a,rfl⟩:=List.mem_map.1 g;rw [b j (List.mem_range.1 a)];simp
  rw [k];rfl
def crE (l:List Crop) (i:Nat):Int:=
 if Q2I (gl l i).n_=false then 5 else if (gl l i).f_<0\/40<(gl l i).f_ then 2 else if (gl l i).m_<0\/31<(gl l i).m_ then 14
 else if 0<i/\(sLt (gl l i).n_ (gl l (i-1)).n_||sEq (gl l i).n_ (gl l (i-1)).n_)=true then 6 else 0
def crC (l:List Crop):Int:=if 40<l.length then 1 else (((List.range l.length).map (crE l)).find? fun c=>c != 0).getD 0
def NmS (l:List Crop):Prop:=∀ x ∈ l,x.n_.size<=4294967296
theorem W1y {l:List Crop} {i:Nat} (h:Q2I (gl l i).n_=false):crE l i=5:=by unfold crE;rw [if_pos h]
theorem W1z {l:List Crop} {i:Nat} (h:Q2I (gl l i).n_=true) (h2:(gl l i).f_<0\/40<(gl l i).f_):crE l i=2:=by
 unfold crE;rw [if_neg (by rw [h];simp),if_pos h2]
theorem W1k {l:List Crop} {i:Nat} (h:Q2I (gl l i).n_=true) (h2:¬ ((gl l i).f_<0\/40<(gl l i).f_)) (h3:(gl l i).m_<0\/31<(gl l i).m_):crE l i=14:=by
 unfold crE;rw [if_neg (by rw [h];simp),if_neg h2,if_pos h3]
theorem W1x {l:List Crop} {i:Nat} (h:Q2I (gl l i).n_=true) (h2:¬ ((gl l i).f_<0\/40<(gl l i).f_)) (h3:¬ ((gl l i).m_<0\/31<(gl l i).m_))
  (h4:0<i/\(sLt (gl l i).n_ (gl l (i-1)).n_||sEq (gl l i).n_ (gl l (i-1)).n_)=true):crE l i=6:=by
 unfold crE;rw [if_neg (by rw [h];simp),if_neg h2,if_neg h3,if_pos h4]
theorem W1l {l:List Crop} {i:Nat} (h:Q2I (gl l i).n_=true) (h2:¬ ((gl l i).f_<0\/40<(gl l i).f_)) (h3:¬ ((gl l i).m_<0\/31<(gl l i).m_))
  (h4:¬ (0<i/\(sLt (gl l i).n_ (gl l (i-1)).n_||sEq (gl l i).n_ (gl l (i-1)).n_)=true)):crE l i=0:=by
 unfold crE;rw [if_neg (by rw [h];simp),if_neg h2,if_neg h3,if_neg h4]
theorem Z5s {F:Nat} (hF:BIG<=F) {l:List Crop} (hn:NmS l):Q6X F l=some (crC l):=by
 have t:=hF;unfold BIG at hF
 unfold Q6X crC;refine Q8 (fun h=>?_) (fun h=>?_)
 ·rw [if_pos (by have:=of_decide_eq_true h;omega)]
 have w:l.length<=40:=by have:=of_decide_eq_false h;omega
 rw [if_neg (by omega)];have e:∀ (a:Int->Option Int) (i:Nat),i<l.length->Q4y F l a (i:Int)=if crE l i=0 then a ((i:Int)+1) else some (crE l i):=by
  intro a i g;unfold Q4y
  simp only [Int.toNat_natCast];have hs:=hn _ (V7 g)
  refine Y2 (decide_eq_true (by omega)) (Z3 (by omega) (Q4 (Z1Q (by omega) hs) ?_));refine Q8 (fun b=>?_) (fun b=>?_)
  ·have b:Q2I (gl l i).n_=false:=by simpa using b
   rw [W1y b,if_neg (by decide)]
  have b:Q2I (gl l i).n_=true:=by simpa using b
  have k:(gl l i).f_<0\/40<(gl l i).f_->Q2Y F l (i:Int) a true=if crE l i=0 then a ((i:Int)+1) else some (crE l i):=fun h=>by
   rw [W1z b h,if_neg (by decide)];unfold Q2Y
   exact Y2 rfl rfl
  refine Q8 (fun n=>k (.inl (of_decide_eq_true n))) (fun n=>?_);have n:=of_decide_eq_false n
  by_cases h3:40<(gl l i).f_
  ·rw [decide_eq_true h3];exact k (.inr h3)
  have m:¬ ((gl l i).f_<0\/40<(gl l i).f_):=by omega
  rw [decide_eq_false h3];unfold Q2Y
  simp only [Int.toNat_natCast];refine Q9 rfl ?_
  have j:(gl l i).m_<0\/31<(gl l i).m_->Q2X F l (i:Int) a true=if crE l i=0 then a ((i:Int)+1) else some (crE l i):=fun h=>by
   rw [W1k b m h,if_neg (by decide)];unfold Q2X
   exact Y2 rfl rfl
  refine Q8 (fun p=>j (.inl (of_decide_eq_true p))) (fun p=>?_);have p:=of_decide_eq_false p
  by_cases h5:31<(gl l i).m_
  ·rw [decide_eq_true h5];exact j (.inr h5)
  have r:¬ ((gl l i).m_<0\/31<(gl l i).m_):=by omega
  rw [decide_eq_false h5];unfold Q2X
  simp only [Int.toNat_natCast];refine Q9 rfl ?_
  refine Q8 (fun f=>?_) (fun f=>?_)
  ·have f:0<i:=by have:=of_decide_eq_true f;omega
   have v:((i:Int)-1).toNat=i-1:=by omega
   refine Z3 (Y5 (by omega) (by omega)) (Z3 (by omega) ?_);rw [v]
   unfold Q2W;refine Q8 (fun o=>?_) (fun o=>?_)
   ·rw [W1x b m r ⟨f,o⟩,if_neg (by decide)]
   ·rw [W1l b m r (fun s=>by rw [s.2] at o;cases o),if_pos rfl]
    exact Z3 (Y5 (by omega) (by omega)) rfl
  ·have f:¬ 0<i:=by have:=of_decide_eq_false f;omega
   rw [W1l b m r (fun s=>f s.1),if_pos rfl];unfold Q2W
   exact Q9 rfl (Z3 (Y5 (by omega) (by omega)) rfl)
 refine Y7E l.length (crE l) (fun a i g q=>?_) (fun a i z g q u=>?_) (fun a=>?_) (by omega)
 ·rw [e a i g,if_neg q]
 ·rw [e a i g,if_pos q];exact u
 ·unfold Q4y
  exact Q9 (decide_eq_false (by omega)) rfl
theorem CropT.nm {l:List Crop} (h:CropT l):NmS l:=fun x e=>by
 obtain ⟨i,b,rfl⟩:=List.getElem_of_mem e;have a:=(h.one i b).1
 have:=h.len
 rw [Y4a l i b] at a;rw [a]
 have:=(Y1t i (by omega)).2
 omega
theorem CropT.crC {l:List Crop} (h:CropT l):crC l=0:=by
 have a:=Y1Y (F:=BIG) (Nat.le_refl _) h;rw [Z5s (Nat.le_refl _) h.nm] at a
 exact Option.some.inj a
end
end Go.Ab
end
section
end
section
namespace Go.Ab
set_option maxRecDepth 20000
noncomputable section
def TD:Nat->Term->Prop
 | 0,_=>False
 | d+1,t=>I64 t.op_/\I64 t.num_/\t.kids_.length<=1000000/\∀ k ∈ t.kids_,TD d k
theorem TD.op {d:Nat} {t:Term} (h:TD d t):I64 t.op_:=by
 cases d with
 | zero=>exact h.elim
 | succ d=>exact h.1
def szD:Nat->Term->Nat
 | 0,_=>0
 | d+1,t=>1+(t.kids_.map (szD d)).sum
theorem Y9n {d:Nat} {t:Term} (h:TD d t):1<=szD d t:=by
 cases d with
 | zero=>exact h.elim
 | succ d=>unfold szD;omega
def Z7u (d:Nat) (t:Term) (i:Nat):Nat:=1+((t.kids_.take i).map (szD d)).sum
theorem Z8w {d i:Nat} {t:Term} (h:i<t.kids_.length):Z7u d t (i+1)=Z7u d t i+szD d (gl t.kids_ i):=by
 unfold Z7u;rw [y4 h,List.map_append,List.sum_append];simp;omega
theorem Z8x {d i:Nat} {t:Term}:Z7u d t i<=szD (d+1) t:=by
 unfold Z7u szD;have:(t.kids_.map (szD d)).sum=((t.kids_.take i).map (szD d)).sum+((t.kids_.drop i).map (szD d)).sum:=by
  rw [<-List.sum_append, <-List.map_append,List.take_append_drop]
 omega
theorem Y3x {d:Nat} {t:Term}:Z7u d t t.kids_.length=szD (d+1) t:=by unfold Z7u szD;rw [List.take_length]
theorem Z6h:∀ (d:Nat) {F:Nat} (_:BIG+d<=F) {t:Term} (_:TD d t) {m:Int} (_:0<=m) (_:m<=40),∃ v,Q4X F t m=some v/\1<=v/\v<=m+1/\(m<v↔m<(szD d t:Int))/\((szD d t:Int)<=m->v=szD d t)
 | 0,_,_,_,h,_,_,_=>h.elim
 | d+1,0,hF,_,_,_,_,_=>by unfold BIG at hF;omega
 | d+1,F+1,hF,t,h,m,m0,m1=>by
  obtain ⟨_,_,G,r⟩:=h;show ∃ v,Q7x F (Q4X F) t m=some v/\_
  unfold Q7x;have a : BIG+d<=F:=by omega
  have E:=a;unfold BIG at E
  suffices hs:∀ (n:Nat) (i:Nat) (v:Int),t.kids_.length-i<n->i<=t.kids_.length->1<=v->v<=m+1->(v<=m->v=(Z7u d t i:Int))->(m<v->m<(Z7u d t i:Int)) ->
    ∃ u,Z8 (fun again (z:Int×Int)=>Q9h F (Q4X F) t m again z.1 z.2) n (v,(i:Int))=some u/\1<=u/\u<=m+1/\(m<u↔m<(szD (d+1) t:Int))/\((szD (d+1) t:Int)<=m->u=szD (d+1) t) by
   refine hs F 0 1 (by omega) (by omega) (by omega) (by omega) (fun _=>by simp [Z7u]) (fun h=>?_);simp [Z7u];omega
  intro n
  induction n with
  | zero=>intro i v h;omega
  | succ n ih=>
   intro i v I H o p g f;show ∃ u,Q9h F (Q4X F) t m (Z8 _ n) v (i:Int)=some u/\_
   unfold Q9h
   by_cases hil:i<t.kids_.length
   ·rw [show decide ((i:Int)<((t.kids_.length:Nat):Int))=true from decide_eq_true (by omega)]
    have b:=r _ (V7 hil);have e:=b.op
    by_cases hv:m<v
    ·refine ⟨v,?_,o,p,?_,fun h=>?_⟩
     ·refine Y2 rfl (Z3 (by omega) (Z3 e (Y2 (decide_eq_true hv) rfl)))
     ·exact ⟨fun _=>by have:=f hv;have:=Z8x (d:=d) (i:=i) (t:=t);omega,fun _=>hv⟩
     ·have:=f hv;have:=Z8x (d:=d) (i:=i) (t:=t);omega
    ·obtain ⟨w,x,K,J,l,B⟩:=Z6h d a b (m:=m-v) (by omega) (by omega)
     have q:=Z8w (d:=d) hil;have D:=g (by omega)
     have k:=ih (i+1) (v+w) (by omega) (by omega) (by omega) (by omega) (fun h=>by
      have:=B (by
       have:¬ m-v<w:=by omega
       have:=mt l.2 this
       omega)
      omega) (fun h=>by
      have:=l.1 (by omega)
      omega)
     obtain ⟨u,C,s⟩:=k;refine ⟨u,?_,s⟩
     refine Y2 rfl (Z3 (by omega) (Z3 e (Q9 (decide_eq_false hv) (Z3 (Y5 (by omega) (by omega)) (Q4 x (Z3 (Y5 (by omega) (by omega)) (Z3 (Y5 (by omega) (by omega)) ?_)))))));rw [<-C];congr 1
   ·have j:i=t.kids_.length:=by omega
    subst j;rw [Y3x] at g f
    refine ⟨v,Q9 (decide_eq_false (by omega)) rfl,o,p,⟨f,fun h=>?_⟩,fun h=>?_⟩
    ·by_cases hv:m<v
     ·exact hv
     ·have:=g (by omega);omega
    ·by_cases hv:m<v
     ·have:=f hv;omega
     ·exact g (by omega)
theorem Z4L:∀ (d:Nat) (_:d<=2000000) {F:Nat} (_:BIG+d<=F) {t:Term} (_:TD d t),∃ v,Q3C F t=some v/\1<=v/\v<=41*d/\(40<v↔40<(szD d t:Int))/\((szD d t:Int)<=40->v=szD d t)
 | 0,_,_,_,_,h=>h.elim
 | d+1,_,0,hF,_,_=>by unfold BIG at hF;omega
 | d+1,hd,F+1,hF,t,h=>by
  obtain ⟨_,_,D,s⟩:=h;show ∃ v,Q6n F (Q3C F) t=some v/\_
  unfold Q6n;have a : BIG+d<=F:=by omega
  have B:=a;unfold BIG at B
  suffices hs:∀ (n:Nat) (i:Nat) (v:Int),t.kids_.length-i<n->i<=t.kids_.length->1<=v->v<=41*((d+1:Nat):Int)->(v<=40->v=(Z7u d t i:Int))->(40<v->40<(Z7u d t i:Int)) ->
    ∃ u,Z8 (fun again (z:Int×Int)=>Q7Q F (Q3C F) t again z.1 z.2) n (v,(i:Int))=some u/\1<=u/\u<=41*((d+1:Nat):Int)/\(40<u↔40<(szD (d+1) t:Int))/\((szD (d+1) t:Int)<=40->u=szD (d+1) t) by
   exact hs F 0 1 (by omega) (by omega) (by omega) (by omega) (fun _=>by simp [Z7u]) (fun h=>by omega)
  intro n
  induction n with
  | zero=>intro i v h;omega
  | succ n ih=>
   intro i v G E p q f g;show ∃ u,Q7Q F (Q3C F) t (Z8 _ n) v (i:Int)=some u/\_
   unfold Q7Q
   by_cases hil:i<t.kids_.length
   ·rw [show decide ((i:Int)<((t.kids_.length:Nat):Int))=true from decide_eq_true (by omega)]
    have b:=s _ (V7 hil);have e:=b.op
    have r:=Z8w (d:=d) hil
    by_cases hv:v<=40
    ·obtain ⟨w,x,I,H,k,o⟩:=Z4L d (by omega) a b
     have C:=f hv;obtain ⟨u,m,j⟩:=ih (i+1) (v+w) (by omega) (by omega) (by omega) (by omega) (fun h=>by
      have:=o (by
       have:¬ 40<w:=by omega
       have:=mt k.2 this
       omega)
      omega) (fun h=>by
      by_cases h40:40<w
      ·have:=k.1 h40;omega
      ·have:=o (by have:=mt k.2 h40;omega);omega)
     refine ⟨u,?_,j⟩;refine Y2 rfl (Z3 (by omega) (Z3 e (Y2 (decide_eq_true hv) (Q4 x (Z3 (Y5 (by omega) (by omega)) ?_)))))
     unfold Q5g;refine Z3 (Y5 (by omega) (by omega)) ?_
     rw [<-m];congr 1
    ·obtain ⟨u,m,j⟩:=ih (i+1) v (by omega) (by omega) p q (fun h=>by omega) (fun h=>by have:=g h;omega)
     refine ⟨u,?_,j⟩;refine Y2 rfl (Z3 (by omega) (Z3 e (Q9 (decide_eq_false hv) ?_)))
     unfold Q5g;refine Z3 (Y5 (by omega) (by omega)) ?_
     rw [<-m];congr 1
   ·have l:i=t.kids_.length:=by omega
    subst l;rw [Y3x] at f g
    refine ⟨v,Q9 (decide_eq_false (by omega)) rfl,p,q,⟨g,fun h=>?_⟩,fun h=>?_⟩
    ·by_cases hv:40<v
     ·exact hv
     ·have:=f (by omega);omega
    ·by_cases hv:40<v
     ·have:=g hv;omega
     ·exact f (by omega)
def Q5o (n:Int):Bool:=n==1||(n==2||(n==4||(n==8||n==16)))
theorem Z0j (F:Nat) (n:Int):Q3M F n=some (Q5o n):=by
 unfold Q3M Q1z Q5o
 cases h1:(n==(1:Int)) <;> cases h2:(n==(2:Int)) <;> cases h3:(n==(4:Int)) <;> cases h4:(n==(8:Int)) <;> rfl
theorem Z4p (F:Nat) (n:Int):Q2x F n=some (Q5o n):=by
 unfold Q2x
 by_cases h:1<=n/\n<=16
 ·have f:n=1\/n=2\/n=3\/n=4\/n=5\/n=6\/n=7\/n=8\/n=9\/n=10\/n=11\/n=12\/n=13\/n=14\/n=15\/n=16:=by omega
  rcases f with rfl|rfl|rfl|rfl|rfl|rfl|rfl|rfl|rfl|rfl|rfl|rfl|rfl|rfl|rfl|rfl <;> rfl
 ·have a:Q5o n=false:=by
   unfold Q5o;simp only [Bool.or_eq_false_iff,beq_eq_false_iff_ne]
   omega
  rw [a];refine Q8 (fun e=>Q8 (fun b=>?_) (fun _=>rfl)) (fun _=>rfl)
  exact absurd ⟨of_decide_eq_true e,of_decide_eq_true b⟩ h
end
end Go.Ab
end
section
namespace Go.Ab
set_option maxRecDepth 20000
noncomputable section
def Z0v (t:Term):Bool:=
 if t.op_=1 then t.num_==0&&(t.more_==0&&t.kids_.length==0)
 else if t.op_=2 then (decide (0<=t.num_)&&decide (t.num_<=39))&&(t.more_==0&&t.kids_.length==0)
 else if t.op_=3 then (decide (0<=t.num_)&&decide (t.num_<=40))&&(t.more_==0&&t.kids_.length==0)
 else if t.op_=4 then Q5o t.num_&&(t.more_==0&&t.kids_.length==0)
 else if t.op_=5 then (decide (0<=t.num_)&&decide (t.num_<=15))&&(t.more_==0&&t.kids_.length==0)
 else if t.op_=6 then (decide (2<=t.num_)&&decide (t.num_<=10))&&(t.more_==0&&t.kids_.length==0)
 else if t.op_=7 then (decide (1<=t.num_)&&decide (t.num_<=10))&&(Q5o t.more_&&t.kids_.length==0)
 else if t.op_=8 then (decide (1<=t.num_)&&decide (t.num_<=10))&&(t.more_==0&&t.kids_.length==0)
 else if t.op_=9\/t.op_=10 then t.num_==0&&(t.more_==0&&decide (1<=t.kids_.length))
 else if t.op_=11 then t.num_==0&&(t.more_==0&&t.kids_.length==1)
 else false
def Q6t:Nat->Term->Bool
 | 0,_=>false
 | d+1,t=>Z0v t&&t.kids_.all (Q6t d)
def Z5p:Nat->Term->Nat
 | 0,_=>0
 | d+1,t=>1+t.kids_.foldl (fun n k=>max n (Z5p d k)) 0
def Q5V:Nat->Nat->Term->Bool
 | 0,_,_=>false
 | d+1,n,t=> !decide (n=0)&&(Z0v t&&t.kids_.all (Q5V d (n-1)))
theorem Z9b {α:Type} (f:α->Nat):∀ (l:List α) (a n:Nat),l.foldl (fun n k=>max n (f k)) a<=n↔a<=n/\∀ k ∈ l,f k<=n
 | [],a,n=>by simp
 | x::l,a,n=>by
  rw [List.foldl_cons,Z9b f l];simp only [List.mem_cons,forall_eq_or_imp]
  constructor
  ·rintro ⟨g,b⟩;exact ⟨by omega,by omega,b⟩
  ·rintro ⟨g,b,e⟩;exact ⟨by omega,e⟩
theorem Z5A:∀ (d n:Nat) (t:Term),TD d t->Q5V d n t=(decide (Z5p d t<=n)&&Q6t d t)
 | 0,_,_,h=>h.elim
 | d+1,n,t,h=>by
  unfold Q5V Z5p Q6t;have b:=h.2.2.2
  cases n with
  | zero=>simp
  | succ n=>
   have e:t.kids_.all (Q5V d (n+1-1))=(t.kids_.all (fun k=>decide (Z5p d k<=n))&&t.kids_.all (Q6t d)):=by
    rw [Bool.eq_iff_iff,Bool.and_eq_true,List.all_eq_true,List.all_eq_true,List.all_eq_true];constructor
    ·intro h
     refine ⟨fun k a=>?_,fun k a=>?_⟩ <;> (have:=h k a;rw [Nat.add_sub_cancel,Z5A d n k (b k a),Bool.and_eq_true] at this)
     ·exact this.1
     ·exact this.2
    ·rintro ⟨f,i⟩ k a
     rw [Nat.add_sub_cancel,Z5A d n k (b k a),f k a,i k a];rfl
   have g:decide (1+t.kids_.foldl (fun n k=>max n (Z5p d k)) 0<=n+1)=t.kids_.all (fun k=>decide (Z5p d k<=n)):=by
    rw [Bool.eq_iff_iff,decide_eq_true_eq,List.all_eq_true];have:=Z9b (Z5p d) t.kids_ 0 n
    simp only [decide_eq_true_eq];constructor
    ·intro h;exact (this.1 (by omega)).2
    ·intro h;have:=this.2 ⟨by omega,h⟩;omega
   rw [e,g]
   cases Z0v t <;> cases t.kids_.all (fun k=>decide (Z5p d k<=n)) <;> cases t.kids_.all (Q6t d) <;> simp
theorem Z1f:∀ (d:Nat) (_:d<=2000000) {F:Nat} (_:BIG+d<=F) {t:Term} (_:TD d t),Q3B F t=some (Z5p d t:Int)/\Z5p d t<=d
 | 0,_,_,_,_,h=>h.elim
 | d+1,_,0,hF,_,_=>by unfold BIG at hF;omega
 | d+1,hd,F+1,hF,t,h=>by
  obtain ⟨_,_,q,l⟩:=h;have a : BIG+d<=F:=by omega
  have p:=a;unfold BIG at p
  have m:t.kids_.foldl (fun n k=>max n (Z5p d k)) 0<=d:=(Z9b _ _ _ _).2 ⟨by omega,fun k j=>(Z1f d (by omega) a (l k j)).2⟩;refine ⟨?_,by unfold Z5p;omega⟩
  show Q6m F (Q3B F) t=_;unfold Q6m
  suffices hs:∀ (n:Nat) (i:Nat) (v:Nat),t.kids_.length-i<n->i<=t.kids_.length->(t.kids_.drop i).foldl (fun n k=>max n (Z5p d k)) v=t.kids_.foldl (fun n k=>max n (Z5p d k)) 0->v<=d ->
    Z8 (fun again (z:Int×Int)=>Q7P F (Q3B F) t again z.1 z.2) n ((v:Int),(i:Int))=some ((Z5p (d+1) t:Nat):Int) by
   exact hs F 0 0 (by omega) (by omega) rfl (by omega)
  intro n
  induction n with
  | zero=>intro i v h;omega
  | succ n ih=>
   intro i v s r e w;show Q7P F (Q3B F) t (Z8 _ n) (v:Int) (i:Int)=_
   unfold Q7P
   by_cases hil:i<t.kids_.length
   ·have b:=l _ (V7 hil)
    obtain ⟨o,u⟩:=Z1f d (by omega) a b;rw [Q1J hil,List.foldl_cons] at e
    have g:=ih (i+1) (max v (Z5p d (gl t.kids_ i))) (by omega) (by omega) e (by omega);refine Y2 (decide_eq_true (by omega)) (Z3 (by omega) (Z3 b.op (Q4 o (Z3 (Y5 (by omega) (by omega)) ?_))))
    rw [<-g];congr 1
    refine Prod.ext ?_ rfl;show Q0B _ _=_
    unfold Q0B;split <;> omega
   ·have f:i=t.kids_.length:=by omega
    subst f;rw [List.drop_length,List.foldl_nil] at e
    refine Q9 (decide_eq_false (by omega)) ?_;unfold Z1g
    refine Z3 (Y5 (by omega) (by omega)) ?_;unfold Z5p
    rw [<-e];congr 1;omega
theorem Z6n:∀ (d:Nat) {F:Nat} (_:BIG+d<=F) {t:Term} (_:TD d t),Q0c F t=some (Q6t d t)
 | 0,_,_,_,h=>h.elim
 | d+1,0,hF,_,_=>by unfold BIG at hF;omega
 | d+1,F+1,hF,t,h=>by
  obtain ⟨_,_,D,v⟩:=h;have m : BIG+d<=F:=by omega
  have B:=m;unfold BIG at B
  show Q7O F (Q0c F) t=_;have k:Z8 (fun f (z:Int)=>Q4r F (Q0c F) t f z) F (0:Int)=some (t.kids_.all (Q6t d)):=by
   refine Y3M (fun l=>some (l.all (Q6t d))) (fun f i q r=>?_) (fun f=>?_) (by omega)
   ·show Q4r F (Q0c F) t f (i:Int)=_
    unfold Q4r;have o:=v _ (V7 q)
    refine Y2 (decide_eq_true (by omega)) (Z3 (by omega) (Z3 o.op (Q4 (Z6n d m o) ?_)));show br (!Q6t d (gl t.kids_ i)) _ _=some (Q6t d (gl t.kids_ i)&&_)
    cases Q6t d (gl t.kids_ i) with
    | false=>rfl
    | true=>exact Q9 rfl (Z3 (Y5 (by omega) (by omega)) r)
   ·show Q4r F (Q0c F) t f (t.kids_.length:Int)=_
    unfold Q4r;exact Q9 (decide_eq_false (by omega)) rfl
  have k2:∀ b,Q4p F (Q0c F) t b=some (!b&&t.kids_.all (Q6t d)):=fun b=>by
   unfold Q4p
   cases b with
   | true=>rfl
   | false=>exact Q9 rfl k
  have k1:∀ (n:Int) (a b:Bool),W2 F (Q0c F) t n a b=some ((b&&(a&&((t.kids_.length:Nat):Int)==n))&&t.kids_.all (Q6t d)):=fun n a b=>by
   unfold W2
   cases b <;> cases a
   ·rw [k2];rfl
   ·rw [k2];rfl
   ·exact Q9 rfl (Y2 rfl (k2 _))
   ·refine Q9 rfl (Q9 rfl ((k2 _).trans ?_))
    congr 2
    rw [bne,Bool.not_not];rfl
  have s:∀ (n:Nat),(((t.kids_.length:Nat):Int)==(n:Int))=(t.kids_.length==n):=fun n=>by
   rw [Bool.eq_iff_iff,beq_iff_eq,beq_iff_eq];omega
  have w:(((t.kids_.length:Nat):Int)==((t.kids_.length:Nat):Int))=true:=by simp
  have u:(decide ((0:Int)<((t.kids_.length:Nat):Int)))=decide (1<=t.kids_.length):=by rw [Bool.eq_iff_iff,decide_eq_true_eq,decide_eq_true_eq];omega
  have g:(((t.kids_.length:Nat):Int)==0)=(t.kids_.length==0):=s 0;have C:(((t.kids_.length:Nat):Int)==1)=(t.kids_.length==1):=s 1
  unfold Q7O Q6t Z0v;have K:∀ {x:Option Bool} {n:Int} {a b c:Bool},x=W2 F (Q0c F) t n a b->(b&&(a&&((t.kids_.length:Nat):Int)==n))=c->x=some (c&&t.kids_.all (Q6t d)):=fun h e=>by rw [h,k1,e]
  have R:∀ {lo q:Int} {a:Bool} {c:Bool},(W2 F (Q0c F) t 0 a (decide (lo<=t.num_)&&decide (t.num_<=q)))=some c->br (decide (lo<=t.num_)) (W2 F (Q0c F) t 0 a (decide (t.num_<=q))) (W2 F (Q0c F) t 0 a false)=some c:=fun h=>by
   rw [<-h];cases decide (_<=t.num_) <;> rfl
  by_cases h1:t.op_=1
  ·rw [if_pos h1]
   exact Y2 (by simp [h1]) (K rfl (by rw [g]))
  rw [if_neg h1];refine Q9 (by simp [h1]) ?_
  by_cases h2:t.op_=2
  ·rw [if_pos h2]
   refine Y2 (by simp [h2]) ?_;rw [show decide (t.num_<40)=decide (t.num_<=39) from decide_eq_decide.2 (by omega)]
   exact R (K rfl (by rw [g]))
  rw [if_neg h2];refine Q9 (by simp [h2]) ?_
  by_cases h3:t.op_=3
  ·rw [if_pos h3]
   exact Y2 (by simp [h3]) (R (K rfl (by rw [g])))
  rw [if_neg h3];refine Q9 (by simp [h3]) ?_
  by_cases h4:t.op_=4
  ·rw [if_pos h4]
   exact Y2 (by simp [h4]) (Q4 (Z0j F _) (K rfl (by rw [g])))
  rw [if_neg h4];refine Q9 (by simp [h4]) ?_
  by_cases h5:t.op_=5
  ·rw [if_pos h5]
   exact Y2 (by simp [h5]) (R (K rfl (by rw [g])))
  rw [if_neg h5];refine Q9 (by simp [h5]) ?_
  by_cases h6:t.op_=6
  ·rw [if_pos h6]
   exact Y2 (by simp [h6]) (R (K rfl (by rw [g])))
  rw [if_neg h6];refine Q9 (by simp [h6]) ?_
  by_cases h7:t.op_=7
  ·rw [if_pos h7]
   refine Y2 (by simp [h7]) ?_;refine Q8 (fun j=>Q4 (Z0j F _) (K rfl ?_)) (fun j=>Q4 (Z0j F _) (K rfl ?_))
   ·rw [g,j,Bool.true_and]
   ·rw [j];rfl
  rw [if_neg h7];refine Q9 (by simp [h7]) ?_
  by_cases j:t.op_=8
  ·rw [if_pos j]
   exact Y2 (by simp [j]) (R (K rfl (by rw [g])))
  rw [if_neg j];refine Q9 (by simp [j]) ?_
  have p:Q4q F (Q0c F) t true=some ((t.num_==0&&(t.more_==0&&decide (1<=t.kids_.length)))&&t.kids_.all (Q6t d)):=by
   unfold Q4q;refine Y2 rfl (Q8 (fun h=>K rfl ?_) (fun h=>K rfl ?_))
   ·rw [w,u,h,Bool.true_and,Bool.and_true,Bool.and_comm]
   ·rw [h];rfl
  by_cases h9:t.op_=9\/t.op_=10
  ·rw [if_pos h9]
   refine Q8 (fun h=>?_) (fun h=>?_)
   ·rw [h];exact p
   ·have:t.op_=10:=by simp at h;omega
    rw [this];exact p
  rw [if_neg h9];refine Q9 (by simp;omega) ?_
  rw [show (t.op_==(10:Int))=false by simp;omega];unfold Q4q
  refine Q9 rfl ?_
  by_cases h11:t.op_=11
  ·rw [if_pos h11]
   exact Y2 (by simp [h11]) (K rfl (by rw [C]))
  ·rw [if_neg h11]
   exact Q9 (by simp [h11]) (K rfl rfl)
end
end Go.Ab
end
section
namespace Go.Ab
set_option maxRecDepth 20000
noncomputable section
theorem Z1T {F:Nat} {l:List Term} {q:Term->Option Bool} (p:Term->Bool) (hF:l.length<F) (hl:l.length<=1000000000) (ho:∀ r ∈ l,I64 r.op_) (hq:∀ r ∈ l,q r=some (p r)):∃ i:Int,Q0R F l q=some i/\(0<=i↔l.any p=true):=by
 unfold Q0R
 suffices hs:∀ (n i:Nat),l.length-i<n->i<=l.length->∃ j:Int,Z8 (fun again (z:Int)=>Q1f F l q again z) n (i:Int)=some j/\(0<=j↔(l.drop i).any p=true) by
  simpa using hs F 0 (by omega) (by omega)
 intro n
 induction n with
 | zero=>intro i h;omega
 | succ n ih=>
  intro i g f;show ∃ j:Int,Q1f F l q (Z8 _ n) (i:Int)=some j/\_
  unfold Q1f
  by_cases hil:i<l.length
  ·have a:=V7 hil
   rw [Y1A hil]
   cases hp:p (gl l i) with
   | true=>exact ⟨i,Y2 (decide_eq_true (by omega)) (Z3 (by omega) (Z3 (ho _ a) (Q4 (hq _ a) (Y2 hp rfl)))),by simp⟩
   | false=>
    obtain ⟨j,e,b⟩:=ih (i+1) (by omega) (by omega);refine ⟨j,Y2 (decide_eq_true (by omega)) (Z3 (by omega) (Z3 (ho _ a) (Q4 (hq _ a) (Q9 hp (Z3 (Y5 (by omega) (by omega)) ?_))))),by simpa using b⟩
    rw [<-e];congr 1
  ·refine ⟨-1,Q9 (decide_eq_false (by omega)) rfl,?_⟩
   rw [List.drop_eq_nil_of_le (by omega)];simp
theorem Z0E {F:Nat} {l:List Term} {q:Term->Option Bool} (p:Term->Bool) (hF:l.length<F) (hl:l.length<=1000000000) (ho:∀ r ∈ l,I64 r.op_) (hq:∀ r ∈ l,q r=some (p r)):Q0k F l q=some (l.any p):=by
 obtain ⟨i,b,a⟩:=Z1T p hF hl ho hq;unfold Q0k
 refine Q4 b ?_;rw [Option.some.injEq,Bool.eq_iff_iff,decide_eq_true_eq];exact a
def Z8Q (n:Int):Int×Int×Bool:=if n=2 then (0,39,true) else if n=3 then (0,40,true) else if n=4 then (1,16,true) else if n=5 then (0,15,true) else if n=6 then (2,10,true) else if n=7\/n=8 then (1,10,true) else (0,0,false)
def Z2h (n:Int):Int×Int:=if n=9\/n=10 then (1,40) else if n=11 then (1,1) else (0,0)
theorem Y0r (F:Nat) (n:Int):Q9n F n=some (Z8Q n):=by
 unfold Q9n Z8Q Q7v
 by_cases h2:n=2
 ·subst h2;rfl
 by_cases h3:n=3
 ·subst h3;rfl
 by_cases h4:n=4
 ·subst h4;rfl
 by_cases h5:n=5
 ·subst h5;rfl
 by_cases h6:n=6
 ·subst h6;rfl
 by_cases h7:n=7
 ·subst h7;rfl
 by_cases h8:n=8
 ·subst h8;rfl
 have e:∀ m:Int,n≠m->(n==m)=false:=fun m h=>by simpa using h
 rw [e 2 h2,e 3 h3,e 4 h4,e 5 h5,e 6 h6,e 7 h7,e 8 h8,if_neg h2,if_neg h3,if_neg h4,if_neg h5,if_neg h6,if_neg (by omega)];rfl
theorem Y2O (F:Nat) (n:Int):Z2q F n=some (Z2h n):=by
 unfold Z2q Z2h Z0z;have e:∀ m:Int,n≠m->(n==m)=false:=fun m h=>by simpa using h
 by_cases h2:n=9
 ·subst h2;rfl
 by_cases h3:n=10
 ·subst h3;rfl
 by_cases h4:n=11
 ·subst h4;rfl
 rw [e 9 h2,e 10 h3,e 11 h4,if_neg (by omega),if_neg h4];rfl
def Y8K (t:Term):Bool:=((Z8Q t.op_).2.2&&(decide (t.num_<(Z8Q t.op_).1)||decide ((Z8Q t.op_).2.1<t.num_)))||(!(Z8Q t.op_).2.2&&t.num_ != 0)
def Y5A (t:Term):Bool:=(t.op_==4 && !Q5o t.num_)||((t.op_==7 && !Q5o t.more_)||(t.op_ != 7&&t.more_ != 0))
def Y4r (t:Term):Bool:=decide (((t.kids_.length:Nat):Int)<(Z2h t.op_).1)||decide ((Z2h t.op_).2<((t.kids_.length:Nat):Int))
theorem Y7P {t:Term} (hl:t.kids_.length<=40):(!(decide (t.op_<1)||decide (11<t.op_))&&(!Y8K t&&(!Y5A t && !Y4r t)))=Z0v t:=by
 have f:∀ n:Int,Q5o n=true->1<=n/\n<=16:=fun n h=>by
  unfold Q5o at h;simp only [Bool.or_eq_true,beq_iff_eq] at h;omega
 have k:∀ n:Nat,(t.kids_.length==n)=decide (t.kids_.length=n):=fun n=>by rw [Bool.eq_iff_iff,beq_iff_eq,decide_eq_true_eq]
 rw [Bool.eq_iff_iff];unfold Y8K Y5A Y4r Z8Q Z2h Z0v
 generalize t.op_=o,t.num_=n,t.more_=m at *;have i:∀ {p q:Prop},(p↔q)->(p↔q):=fun h=>h
 by_cases h:o<1\/11<o
 ·rw [show (decide (o<1)||decide (11<o))=true by simpa using h]
  have e:∀ m:Int,1<=m->m<=11->¬ o=m:=fun m _ _=>by omega
  simp [e 1,e 2,e 3,e 4,e 5,e 6,e 7,e 8,e 9,e 10,e 11]
 have j:o=1\/o=2\/o=3\/o=4\/o=5\/o=6\/o=7\/o=8\/o=9\/o=10\/o=11:=by omega
 rcases j with rfl|rfl|rfl|rfl|rfl|rfl|rfl|rfl|rfl|rfl|rfl <;> simp <;> (try omega)
 constructor
 ·rintro ⟨_,⟨a,g⟩,b⟩;exact ⟨a,g,b⟩
 ·rintro ⟨a,g,b⟩;exact ⟨f _ a,⟨a,g⟩,b⟩
theorem Z6g:∀ (d:Nat) {F:Nat} (_:BIG+d<=F) {t:Term} (_:TD d t) (_:szD d t<=40) (n:Nat) (_:n<=8),V9 F t (n:Int)=some (Q5V d n t)
 | 0,_,_,_,h,_,_,_=>h.elim
 | d+1,0,hF,_,_,_,_,_=>by unfold BIG at hF;omega
 | d+1,F+1,hF,t,h,hs,n,hn=>by
  obtain ⟨_,_,E,f⟩:=h;have g : BIG+d<=F:=by omega
  have D:=g;unfold BIG at D
  have r:t.kids_.length<=39:=by
   have:t.kids_.length<=(t.kids_.map (szD d)).sum:=by
    have:∀ l:List Term,(∀ k ∈ l,TD d k)->l.length<=(l.map (szD d)).sum:=by
     intro l
     induction l with
     | nil=>intro _;simp
     | cons x l ih=>intro p;have:=Y9n (p x (by simp));have:=ih fun k f=>p k (by simp [f]);simp;omega
    exact this _ f
   unfold szD at hs;omega
  have j:∀ k ∈ t.kids_,szD d k<=40:=fun k a=>by
   obtain ⟨i,q,rfl⟩:=List.getElem_of_mem a;have w:=Z8w (d:=d) q
   have G:=Z8x (d:=d) (i:=i+1) (t:=t);rw [z8 q] at w;omega
  show Q7s F (V9 F) t (n:Int)=_;unfold Q7s
  refine Q4 (Y0r F _) (Q4 (Y2O F _) ?_);have B:∀ b,n≠0->Q4k F (V9 F) t (n:Int) b=some (!b&&t.kids_.all (Q5V d (n-1))):=fun b e=>by
   unfold Q4k
   cases b with
   | true=>rfl
   | false=>
    refine Q9 rfl (Q4 (Z0E (fun k=> !Q5V d (n-1) k) (by omega) (by omega) (fun k a=>(f k a).op) fun k a=>?_) ?_)
    ·unfold Z0y
     refine Z3 (Y5 (by omega) (by omega)) ?_;rw [show ((n:Int)-1)=((n-1:Nat):Int) by omega]
     exact Q4 (Z6g d g (f k a) (j k a) (n-1) (by omega)) rfl
    ·rw [Bool.not_false,Bool.true_and,List.not_any_eq_all_not];simp
  have k2:∀ b,n≠0->W4 F (V9 F) t (n:Int) (Z2h t.op_) b=some (!b&&(!Y4r t&&t.kids_.all (Q5V d (n-1)))):=fun b e=>by
   unfold W4 Y4r
   cases b with
   | true=>rfl
   | false=>
    refine Q9 rfl ?_;rw [Q7j (fun b=>Q4k F (V9 F) t (n:Int) b),B _ e];rfl
  have k1:∀ b,n≠0->Q0C F (V9 F) t (n:Int) (Z2h t.op_) b=some (!b&&(!Y5A t&&(!Y4r t&&t.kids_.all (Q5V d (n-1))))):=fun b e=>by
   unfold Q0C Y5A
   cases b with
   | true=>rfl
   | false=>
    refine Q9 rfl ?_;have v:(Q2x F t.more_).bind (fun z=>br (!z) (W4 F (V9 F) t (n:Int) (Z2h t.op_) true) (br (t.op_ != (7:Int)) (W4 F (V9 F) t (n:Int) (Z2h t.op_) (t.more_ != (0:Int))) (W4 F (V9 F) t (n:Int) (Z2h t.op_) false)))=W4 F (V9 F) t (n:Int) (Z2h t.op_) (!Q5o t.more_||(t.op_ != 7&&t.more_ != 0)):=by
     refine Q4 (Z4p F _) ?_
     cases Q5o t.more_ <;> cases (t.op_ != (7:Int)) <;> rfl
    have s:(br (t.op_==(7:Int)) ((Q2x F t.more_).bind (fun z=>br (!z) (W4 F (V9 F) t (n:Int) (Z2h t.op_) true) (br (t.op_ != (7:Int)) (W4 F (V9 F) t (n:Int) (Z2h t.op_) (t.more_ != (0:Int))) (W4 F (V9 F) t (n:Int) (Z2h t.op_) false)))) (br (t.op_ != (7:Int)) (W4 F (V9 F) t (n:Int) (Z2h t.op_) (t.more_ != (0:Int))) (W4 F (V9 F) t (n:Int) (Z2h t.op_) false)))
      = W4 F (V9 F) t (n:Int) (Z2h t.op_) ((t.op_==7 && !Q5o t.more_)||(t.op_ != 7&&t.more_ != 0)):=by
     rw [v]
     cases h7:(t.op_==(7:Int)) with
     | true=>rw [show (t.op_ != (7:Int))=false by rw [bne,h7];rfl];cases Q5o t.more_ <;> rfl
     | false=>rw [show (t.op_ != (7:Int))=true by rw [bne,h7];rfl];rfl
    rw [s];refine Q8 (fun o=>Q4 (Z4p F _) ?_) (fun o=>?_)
    ·rw [o,Bool.true_and]
     cases Q5o t.num_ with
     | false=>refine Y2 rfl ((k2 _ e).trans ?_);rfl
     | true=>refine Q9 rfl ((k2 _ e).trans ?_);rfl
    ·rw [o];exact k2 _ e
  have u:∀ b,(b=false->n≠0)->Q1L F (V9 F) t (n:Int) (Z8Q t.op_) (Z2h t.op_) b=some (!b&&(!Y8K t&&(!Y5A t&&(!Y4r t&&t.kids_.all (Q5V d (n-1)))))):=fun b C=>by
   unfold Q1L Y8K
   cases b with
   | true=>rfl
   | false=>
    have e:=C rfl;refine Q9 rfl ?_
    have k1:=fun b=>k1 b e
    generalize hK:Q0C F (V9 F) t (n:Int) (Z2h t.op_)=K at k1 ⊢;generalize (!Y5A t&&(!Y4r t&&t.kids_.all (Q5V d (n-1))))=rest at k1 ⊢
    generalize (t.num_ != 0)=nz
    cases (Z8Q t.op_).2.2 <;> cases decide (t.num_<(Z8Q t.op_).1) <;> cases decide ((Z8Q t.op_).2.1<t.num_) <;> cases nz <;> simp only [br,k1] <;> rfl
  have m:(((n:Int))==0)=decide (n=0):=by rw [Bool.eq_iff_iff,beq_iff_eq,decide_eq_true_eq];omega
  rw [m];rw [Q7j (fun b=>Q1L F (V9 F) t (n:Int) (Z8Q t.op_) (Z2h t.op_) b),Q7j (fun b=>Q1L F (V9 F) t (n:Int) (Z8Q t.op_) (Z2h t.op_) b)]
  rw [u _ (fun h=>by simp only [Bool.or_eq_false_iff,decide_eq_false_iff_not] at h;exact h.2.2)];unfold Q5V
  rw [<-Y7P (t:=t) (by omega)]
  cases decide (t.op_<1) <;> cases decide (11<t.op_) <;> cases decide (n=0) <;> cases Y8K t <;> cases Y5A t <;> cases Y4r t <;> rfl
def Q8w (d:Nat) (t:Term):Int:=if 40<szD d t then 1 else if Q5V d 8 t=true then 0 else 16
theorem Z6i {d F:Nat} (hF:BIG+d<=F) {t:Term} (h:TD d t):Q8H F t=some (Q8w d t):=by
 unfold Q8H Q8w;obtain ⟨v,f,_,_,b,_⟩:=Z6h d hF h (m:=40) (by omega) (by omega)
 refine Q4 f (Q8 (fun a=>?_) (fun a=>?_))
 ·have:=b.1 (of_decide_eq_true a);rw [if_pos (by omega)]
 ·have e:¬ 40<szD d t:=fun h=>of_decide_eq_false a (b.2 (by omega))
  rw [if_neg e];refine Q4 (Z6g d hF h (by omega) 8 (by omega)) ?_
  cases Q5V d 8 t <;> rfl
theorem Y0L {d F:Nat} (hd:d<=2000000) (hF:BIG+d<=F) {t:Term} (h:TD d t):Q9A F t=some (Q8w d t):=by
 unfold Q9A Q8w;obtain ⟨v,g,_,_,e,_⟩:=Z4L d hd hF h
 refine Q4 g (Q8 (fun b=>?_) (fun b=>?_))
 ·have:=e.1 (of_decide_eq_true b);rw [if_pos (by omega)]
 ·have f:¬ 40<szD d t:=fun h=>of_decide_eq_false b (e.2 (by omega))
  rw [if_neg f,Z5A d 8 t h];refine Q4 (Z1f d hd hF h).1 (Q8 (fun a=>?_) (fun a=>?_))
  ·have a:=of_decide_eq_true a
   rw [decide_eq_false (by omega)];rfl
  ·have a:=of_decide_eq_false a
   rw [decide_eq_true (by omega)];refine Q4 (Z6n d hF h) ?_
   unfold Q7R
   cases Q6t d t <;> rfl
theorem Y0u (d:Nat):Q8w (d+1) ⟨1,0,0,[]⟩=0:=by
 unfold Q8w;rw [if_neg (by simp [szD]),if_pos]
 simp [Q5V,Z0v]
end
end Go.Ab
end
section
namespace Go.Ab
set_option maxRecDepth 20000
noncomputable section
def atS (y:Int) (cs:List Crop) (hs:List Rg_) (zs:List A2_) (d c:Int) (A:List Rect) (t:Term):TS:=
 if t.op_=2 then Z8l A (c==t.num_)
 else if t.op_=3 then Z8l A ((gl cs c.toNat).f_==t.num_)
 else if t.op_=4 then Z8l A (Y1g cs c t.num_)
 else if t.op_=5 then Y1W A (inR (Q0F zs d fun k=>k==t.num_))
 else if t.op_=6 then smS A hs cs y (gl cs c.toNat).f_ (t.num_.toNat-1)
 else if t.op_=7 then ⟨knS A hs (y-t.num_) fun k=>Y1g cs k t.more_,knS A hs (y-t.num_) fun k=> !Y1g cs k t.more_⟩
 else if t.op_=8 then Y1W A (inR (yrs hs (y-t.num_) fun _=>true))
 else Z8l A true
def evS (y:Int) (cs:List Crop) (hs:List Rg_) (zs:List A2_) (d c:Int) (A:List Rect):Nat->Term->TS
 | 0,_=>Z8l A true
 | e+1,t=>
  if t.op_=9 then ⟨fun u v=>inR A u v&&t.kids_.all fun k=>(evS y cs hs zs d c A e k).Y u v,fun u v=>t.kids_.any fun k=>(evS y cs hs zs d c A e k).N u v⟩
  else if t.op_=10 then ⟨fun u v=>t.kids_.any fun k=>(evS y cs hs zs d c A e k).Y u v,fun u v=>inR A u v&&t.kids_.all fun k=>(evS y cs hs zs d c A e k).N u v⟩
  else if t.op_=11 then ⟨(evS y cs hs zs d c A e (gl t.kids_ 0)).N,(evS y cs hs zs d c A e (gl t.kids_ 0)).Y⟩
  else atS y cs hs zs d c A t
variable {F:Nat} {cs:List Crop} {hs:List Rg_} {zs:List A2_} {y c d:Int} {A:List Rect}
theorem TIn.turn {s:TS} (h:TIn A s):TIn A ⟨s.N,s.Y⟩:=⟨h.fN,h.fY,h.sN,h.sY⟩
theorem W1m (t:Term):TIn A (atS y cs hs zs d c A t):=by
 unfold atS
 repeat' split
 ·exact Z9n _ _
 ·exact Z9n _ _
 ·exact Z9n _ _
 ·exact Y8u (G6 _)
 ·exact Y5M _ _ _ _ _ _
 ·exact ⟨Z3y _ _ _ _,Z3y _ _ _ _,fun _ _ h=>Z8S h,fun _ _ h=>Z8S h⟩
 ·exact Y8u (G6 _)
 ·exact Z9n _ _
theorem Y6e {B:Sq} (hB:Fin B) {α:Type} (f:α->Sq):∀ (l:List α),(∀ k ∈ l,Fin (f k))->Fin fun u v=>B u v&&l.all fun k=>f k u v
 | [],_=>by simpa using hB
 | k::l,h=>by
  have a:=Z3z (Y6e hB f l fun j b=>h j (List.mem_cons_of_mem _ b)) (h k List.mem_cons_self);have e:(fun u v=>(B u v&&l.all fun k=>f k u v)&&f k u v)=fun u v=>B u v&&(k::l).all fun k=>f k u v:=by
   funext u v
   rw [List.all_cons]
   cases B u v <;> cases f k u v <;> simp
  rw [<-e];exact a
theorem Y6d {α:Type} (f:α->Sq):∀ (l:List α),(∀ k ∈ l,Fin (f k))->Fin fun u v=>l.any fun k=>f k u v
 | [],_=>by simpa using Y6f
 | k::l,h=>by
  have b:=Y5o (h k List.mem_cons_self) (Y6d f l fun j a=>h j (List.mem_cons_of_mem _ a));simpa using b
theorem Y5D {α:Type} (f:α->TS) (l:List α) (h:∀ k ∈ l,TIn A (f k)):TIn A ⟨fun u v=>inR A u v&&l.all fun k=>(f k).Y u v,fun u v=>l.any fun k=>(f k).N u v⟩:=by
 refine ⟨Y6e (G6 A) (fun k=>(f k).Y) l fun k a=>(h k a).fY,Y6d (fun k=>(f k).N) l fun k a=>(h k a).fN,fun u v b=>?_,fun u v b=>?_⟩
 ·simp only [Bool.and_eq_true] at b
  exact b.1
 ·obtain ⟨k,a,e⟩:=List.any_eq_true.1 b
  exact (h k a).sN u v e
theorem Y1o:∀ (e:Nat) (t:Term),TIn A (evS y cs hs zs d c A e t)
 | 0,_=>Z9n _ _
 | e+1,t=>by
  unfold evS;split
  ·exact Y5D _ _ fun k _=>Y1o e k
  split
  ·exact (Y5D (fun k=>⟨(evS y cs hs zs d c A e k).N,(evS y cs hs zs d c A e k).Y⟩) t.kids_ fun k _=>(Y1o e k).turn).turn
  split
  ·exact (Y1o e _).turn
  ·exact W1m t
structure PL (p:TermPlace) (y:Int) (cs:List Crop) (hs:List Rg_) (zs:List A2_) (d c:Int) (A:List Rect):Prop where
 yr:p.world_.y_=y
 cs:p.world_.crops_=cs
 hs:p.world_.history_=hs
 zs:p.world_.zones_=zs
 dd:p.world_.day_=d
 cr:p.line_.c_=c
 re:p.t_=A
theorem Y4W {n:Nat} {L:List A2_} (h:∀ f ∈ L,Box n f.g_.t_) (d:Int) (p:Int->Bool):Box n (Q0F L d p):=fun r a=>by
 unfold Q0F at a;obtain ⟨f,e,b⟩:=List.mem_flatMap.1 a
 exact h f (List.mem_filter.1 e).1 r b
theorem W1f {t:Term} (hn:Z0v t=true) (q:t.op_=6):2<=t.num_/\t.num_<=10:=by
 unfold Z0v at hn;simp [q] at hn
 omega
theorem W1e {t:Term} (hn:Z0v t=true) (q:t.op_=7):(1<=t.num_/\t.num_<=10)/\Q5o t.more_=true:=by
 unfold Z0v at hn;simp [q] at hn
 exact ⟨by omega,hn.2.1⟩
theorem W1d {t:Term} (hn:Z0v t=true) (q:t.op_=8):1<=t.num_/\t.num_<=10:=by
 unfold Z0v at hn;simp [q] at hn
 omega
theorem Y8a {n:Nat} {L:List A2_} (h:LB n L) {f:A2_} (hf:f ∈ L):Val f.g_.t_:=((Z5B f).1 (h.vl.one f hf)).2.2.2.2.2.2.2.2
theorem LB.few' {n:Nat} {L:List A2_} (h:LB n L) (d:Int) (p:Int->Bool):(Q0F L d p).length<=7200:=by
 have b:=h.vl.len;have:∀ (M:List A2_),(∀ f ∈ M,f.g_.t_.length<=120)->(Q0F M d p).length<=120*M.length:=by
  intro M
  induction M with
  | nil=>intro _;simp [Q0F]
  | cons f M ih=>
   intro a;rw [Z4Z]
   have j:=a f List.mem_cons_self;have k:=ih fun g i=>a g (List.mem_cons_of_mem _ i)
   rw [List.length_append,List.length_cons];split
   ·omega
   ·simp;omega
 have:=this L fun f e=>(Y8a h e).1
 omega
theorem Y2P (hF:BIG<=F) (h:EV y cs hs zs c A) {p:TermPlace} (hp:PL p y cs hs zs d c A) {t:Term} (hn:Z0v t=true):Q3U F p t=some ((atS y cs hs zs d c A t).sqs A):=by
 have b:=h.tr.val;have j:=h.crop
 unfold Q3U atS;refine Q8 (fun q=>?_) fun s=>Q8 (fun q=>?_) fun D=>Q8 (fun q=>?_) fun J=>Q8 (fun q=>?_) fun C=>Q8 (fun q=>?_) fun x=>Q8 (fun q=>?_) fun H=>Q8 (fun q=>?_) fun L=>?_
 ·have q:=eq_of_beq q
  rw [if_pos q,hp.cr];exact Q4 (Q9g hp.re b _) rfl
 ·have q:=eq_of_beq q
  rw [if_neg (by omega),if_pos q,hp.cr,hp.cs];exact Z3 j (Q4 (Q9g hp.re b _) rfl)
 ·have q:=eq_of_beq q
  rw [if_neg (by omega),if_neg (by omega),if_pos q,hp.cr,hp.cs];exact Q4 (Z5r F cs c t.num_) (Q4 (Q9g hp.re b _) rfl)
 ·have q:=eq_of_beq q
  rw [if_neg (by omega),if_neg (by omega),if_neg (by omega),if_pos q,hp.zs,hp.dd];have E:=Y4W h.zs.box d fun k=>k==t.num_
  refine Q4 (Z2P hF (by have:=h.zs.vl.len;omega) (fun f B=>(Y8a h.zs B).1) d (fun k=>k==t.num_) fun f _=>rfl) ?_;refine Q4 (Q3z hF (a:=p.t_) (by rw [hp.re];exact b.le8) (by have:=h.zs.few' d fun k=>k==t.num_;omega) (by rw [hp.re];exact b.pos) (fun r w=>(E r w).2.1) (S:=inR A) (by rw [hp.re]) rfl (k:=fun u v=>u&&v) rfl (Z0A F)) ?_
  exact Q4 (Z3F hF hp.re h.tr (G6 _)) rfl
 ·have q:=eq_of_beq q
  rw [if_neg (by omega),if_neg (by omega),if_neg (by omega),if_neg (by omega),if_pos q];have o:=W1f hn q
  have:=Y2N hF h hp.hs hp.yr hp.re hp.cs hp.cr (n:=t.num_.toNat) (by omega) (by omega)
  rw [Int.toNat_of_nonneg (by omega)] at this;exact Q4 this rfl
 ·have q:=eq_of_beq q
  rw [if_neg (by omega),if_neg (by omega),if_neg (by omega),if_neg (by omega),if_neg (by omega),if_pos q];have o:=(W1e hn q).1
  have i:∀ f ∈ hs,Q1q F f.c_ p t=some (Y1g cs f.c_ t.more_):=fun f _=>by
   unfold Q1q;rw [hp.cs]
   exact Q4 (Z5r F cs _ _) rfl
  have K:∀ f ∈ hs,Q1p F f.c_ p t=some (!Y1g cs f.c_ t.more_):=fun f _=>by
   unfold Q1p;rw [hp.cs]
   exact Q4 (Z5r F cs _ _) rfl
  have G:TIn A ⟨knS A hs (y-t.num_) fun k=>Y1g cs k t.more_,knS A hs (y-t.num_) fun k=> !Y1g cs k t.more_⟩:=⟨Z3y _ _ _ _,Z3y _ _ _ _,fun _ _ h=>Z8S h,fun _ _ h=>Z8S h⟩;have l:=Q6d hF h hp.hs hp.yr hp.re (n:=t.num_) (q:=fun g=>Q1q F g p t) (by omega) (by omega) (fun k=>Y1g cs k t.more_) i
  have m:=Q6d hF h hp.hs hp.yr hp.re (n:=t.num_) (q:=fun g=>Q1p F g p t) (by omega) (by omega) (fun k=> !Y1g cs k t.more_) K;have I:=Z3b hF hp.re h.tr G
  exact Q4 l (Q4 m (Q4 I rfl))
 ·have q:=eq_of_beq q
  rw [if_neg (by omega),if_neg (by omega),if_neg (by omega),if_neg (by omega),if_neg (by omega),if_neg (by omega),if_pos q];have o:=W1d hn q
  have i:∀ f ∈ hs,Q9N F f.c_=some true:=fun _ _=>rfl
  have l:=Q6d hF h hp.hs hp.yr hp.re (n:=t.num_) (q:=fun g=>Q9N F g) (by omega) (by omega) (fun _=>true) i;have m:=Z3F hF hp.re h.tr (S:=inR (yrs hs (y-t.num_) fun _=>true)) (G6 _)
  exact Q4 l (Q4 m rfl)
 ·have z:∀ {k:Int},(t.op_==k)=false->¬ t.op_=k:=fun h e=>by rw [e] at h;simp at h
  rw [if_neg (z s),if_neg (z D),if_neg (z J),if_neg (z C),if_neg (z x),if_neg (z H),if_neg (z L)];exact Q4 (Q9g hp.re b _) rfl
def Z6a (A:List Rect) (l:List TS):TS:=⟨fun u v=>inR A u v&&l.all fun k=>k.Y u v,fun u v=>l.any fun k=>k.N u v⟩
theorem Y8v {l:List TS} (h:∀ s ∈ l,TIn A s):TIn A (Z6a A l):=Y5D (fun k=>k) l h
theorem Y8w (l:List TS) (s:TS):Z6a A (l++[s])=⟨fun u v=>(Z6a A l).Y u v&&s.Y u v,fun u v=>(Z6a A l).N u v||s.N u v⟩:=by
 unfold Z6a;congr 1
 ·funext u v;simp [List.all_append,Bool.and_assoc]
 ·funext u v;simp [List.any_append]
theorem Y3u (hF:BIG<=F) {p:TermPlace} (e3:p.t_=A) (ht:TR A) {l:List TS} (hl:∀ s ∈ l,TIn A s) (hlen:l.length<=1000000):Q1U F p (l.map (TS.sqs A))=some ((Z6a A l).sqs A):=by
 have e:=hF;unfold BIG at e
 unfold Q1U;have h:∀ (m f k:Nat),k+m=l.length->m<f->Z8 (fun again (z:(List Rect)×(List Rect)×Int)=>Q1r F p (l.map (TS.sqs A)) again z.1 z.2.1 z.2.2) f (cn (Z6a A (l.take k)).Y,cn (Z6a A (l.take k)).N,((k:Nat):Int))=some ((Z6a A l).sqs A):=by
  intro m
  induction m with
  | zero=>
   intro f k j n;obtain ⟨f,rfl⟩:∃ g,f=g+1:=⟨f-1,by omega⟩
   show Q1r F p (l.map (TS.sqs A)) (Z8 _ f) _ _ ((k:Nat):Int)=_;unfold Q1r
   refine Q9 (decide_eq_false (by rw [List.length_map];omega)) ?_;unfold Q7u
   rw [show k=l.length by omega,List.take_length];exact Q4 (Z3b hF e3 ht (Y8v hl)) rfl
  | succ m ih=>
   intro f k j n;obtain ⟨f,rfl⟩:∃ g,f=g+1:=⟨f-1,by omega⟩
   show Q1r F p (l.map (TS.sqs A)) (Z8 _ f) _ _ ((k:Nat):Int)=_;unfold Q1r
   have a:k<l.length:=by omega
   have b:TIn A (Z6a A (l.take k)):=Y8v fun s hs=>hl s (List.mem_of_mem_take hs)
   have hs:=hl _ (List.getElem_mem a);have r:gl (l.map (TS.sqs A)) ((k:Nat):Int).toNat=(l[k]).sqs A:=by
    rw [Int.toNat_natCast,z8 (by simpa using a),List.getElem_map]
   have i:=ih f (k+1) (by omega) (by omega);have o:l.take (k+1)=l.take k++[l[k]]:=by rw [List.take_append_getElem a]
   rw [o,Y8w] at i;rw [r]
   refine Y2 (decide_eq_true (by rw [List.length_map];omega)) (Z3 (by rw [List.length_map];omega) (Q4 (Q3z hF (b.vY ht).le8 (hs.vY ht).le8 (b.vY ht).pos (hs.vY ht).pos (Q0z b.fY) (Q0z hs.fY) (k:=fun u v=>u&&v) rfl (Z0A F)) (Q4 (Q3z hF (b.vN ht).le8 (hs.vN ht).le8 (b.vN ht).pos (hs.vN ht).pos (Q0z b.fN) (Q0z hs.fN) (k:=fun u v=>u||v) rfl (Z4s F)) (Z3 (Y5 (by omega) (by omega)) ?_))));exact i
 have:=h l.length F 0 (by omega) (by omega)
 have q:Z6a A (l.take 0)=⟨inR A,fun _ _=>false⟩:=by unfold Z6a;simp
 rw [q] at this;simp only [Y5u ht.val,Y1Z] at this
 rw [e3];exact this
end
end Go.Ab
end
section
namespace Go.Ab
set_option maxRecDepth 20000
noncomputable section
def TS.turn (s:TS):TS:=⟨s.N,s.Y⟩
theorem W0C (A:List Rect) (s:TS):s.turn.O A=s.O A:=by
 funext u v
 simp only [TS.turn,TS.O]
 cases inR A u v <;> cases s.Y u v <;> cases s.N u v <;> rfl
theorem Y2c (F:Nat) (A:List Rect) (s:TS):Q7b F (s.sqs A)=some (s.turn.sqs A):=by
 unfold Q7b TS.sqs;rw [W0C]
 rfl
def tkS (op:Int) (s:TS):TS:=if op=9 then s else s.turn
theorem W1a {A:List Rect} {s:TS} (h:TIn A s) (op:Int):TIn A (tkS op s):=by
 unfold tkS;split
 ·exact h
 ·exact h.turn
variable {cs:List Crop} {hs:List Rg_} {zs:List A2_} {y c d:Int} {A:List Rect}
theorem Z7r {p:TermPlace} (h:EV y cs hs zs c A) (hp:PL p y cs hs zs d c A):∀ (e:Nat) {F:Nat} (_:BIG+e<=F) {t:Term} (_:TD e t) (_:Q6t e t=true),J7 F p t=some ((evS y cs hs zs d c A e t).sqs A)
 | 0,_,_,_,ht,_=>ht.elim
 | e+1,0,hF,_,_,_=>by unfold BIG at hF;omega
 | e+1,F+1,hF,t,ht,l=>by
  have E : BIG+e<=F:=by omega
  have B:BIG<=F:=by omega
  have D:=B;unfold BIG at D
  obtain ⟨K,_,v,L⟩:=ht;have n:Z0v t=true/\∀ k ∈ t.kids_,Q6t e k=true:=by
   unfold Q6t at l;rw [Bool.and_eq_true,List.all_eq_true] at l
   exact l
  have b:=n.1;show Q2A F (J7 F) p t=_
  unfold Q2A;have C:∀ s ∈ t.kids_.map (fun k=>tkS t.op_ (evS y cs hs zs d c A e k)),TIn A s:=fun s hs=>by
   obtain ⟨k,_,rfl⟩:=List.mem_map.1 hs;exact W1a (Y1o e k) _
  have G:∀ (m f i:Nat),i+m=t.kids_.length->m<f->Z8 (fun again (z:Int×(List Squares))=>Q0p F (J7 F) p t again z.1 z.2) f (((i:Nat):Int),(t.kids_.take i).map fun k=>(tkS t.op_ (evS y cs hs zs d c A e k)).sqs A)=some ((evS y cs hs zs d c A (e+1) t).sqs A):=by
   intro m
   induction m with
   | zero=>
    intro f i M l;obtain ⟨f,rfl⟩:∃ g,f=g+1:=⟨f-1,by omega⟩
    show Q0p F (J7 F) p t (Z8 _ f) ((i:Nat):Int) _=_;unfold Q0p
    refine Q9 (decide_eq_false (by omega)) ?_;rw [show i=t.kids_.length by omega,List.take_length]
    unfold Q6P;have a:=Y3u B hp.re h.tr C (by rw [List.length_map];exact v)
    rw [List.map_map] at a;have a:Q1U F p (t.kids_.map fun k=>(tkS t.op_ (evS y cs hs zs d c A e k)).sqs A)=_:=a
    have z:∀ {k:Int},(t.op_==k)=false->¬ t.op_=k:=fun h e=>by rw [e] at h;simp at h
    refine Q8 (fun q=>?_) fun r=>Q8 (fun q=>?_) fun o=>Q8 (fun q=>?_) fun x=>?_
    ·have q:=eq_of_beq q
     refine Q4 a ?_;have:Z6a A (t.kids_.map fun k=>tkS t.op_ (evS y cs hs zs d c A e k))=evS y cs hs zs d c A (e+1) t:=by
      conv=>rhs;unfold evS
      unfold Z6a tkS;rw [if_pos q]
      simp only [List.all_map,List.any_map,if_pos q];rfl
     rw [this]
    ·have q:=eq_of_beq q
     refine Q4 a (Q4 (Y2c F A _) ?_);have:(Z6a A (t.kids_.map fun k=>tkS t.op_ (evS y cs hs zs d c A e k))).turn=evS y cs hs zs d c A (e+1) t:=by
      conv=>rhs;unfold evS
      unfold Z6a tkS TS.turn;rw [if_neg (z r),if_pos q]
      simp only [List.all_map,List.any_map,if_neg (z r)];rfl
     rw [this]
    ·have q:=eq_of_beq q
     have N:t.kids_.length=1:=by
      unfold Z0v at b;simp [q] at b
      omega
     refine Z3 (by rw [List.length_map];omega) ?_;rw [z8 (by rw [List.length_map];show 0<_;omega),List.getElem_map]
     have:tkS t.op_ (evS y cs hs zs d c A e (gl t.kids_ 0))=evS y cs hs zs d c A (e+1) t:=by
      conv=>rhs;unfold evS
      unfold tkS TS.turn;rw [if_neg (z r),if_neg (z r),if_neg (z o),if_pos q]
     rw [<-this,z8 (by omega)];rfl
    ·have:atS y cs hs zs d c A t=evS y cs hs zs d c A (e+1) t:=by
      unfold evS;rw [if_neg (z r),if_neg (z o),if_neg (z x)]
     rw [<-this];exact Q4 (Y2P B h hp b) rfl
   | succ m ih=>
    intro f i M l;obtain ⟨f,rfl⟩:∃ g,f=g+1:=⟨f-1,by omega⟩
    show Q0p F (J7 F) p t (Z8 _ f) ((i:Nat):Int) _=_;have j:i<t.kids_.length:=by omega
    have u:=L _ (V7 j);have H:=Z7r h hp e E u (n.2 _ (V7 j))
    have w:=ih f (i+1) (by omega) (by omega);rw [y4 j,List.map_append,List.map_singleton] at w
    generalize Z8 (fun again (z:Int×(List Squares))=>Q0p F (J7 F) p t again z.1 z.2) f=ag at w ⊢;unfold Q0p
    have I:((i:Nat):Int).toNat=i:=Int.toNat_natCast i;have J:((t.kids_.take i).map fun k=>(tkS t.op_ (evS y cs hs zs d c A e k)).sqs A).length<=1000000:=by
     rw [List.length_map,List.length_take];omega
    refine Y2 (decide_eq_true (by omega)) (Z3 (by omega) (Z3 (by rw [I];exact u.op) (Q4 (by rw [I];exact H) ?_)));have k1:∀ s:TS,s=tkS t.op_ (evS y cs hs zs d c A e (gl t.kids_ i))->Q1T F (J7 F) ((i:Nat):Int) ((t.kids_.take i).map fun k=>(tkS t.op_ (evS y cs hs zs d c A e k)).sqs A) ag (s.sqs A).yes_ (s.sqs A).no_ (s.sqs A).open_=some ((evS y cs hs zs d c A (e+1) t).sqs A):=fun s hs=>by
     subst hs;unfold Q1T
     exact Z3 (by unfold LIM;simp only [List.length_singleton];omega) (Z3 (Y5 (by omega) (by omega)) w)
    refine Q8 (fun q=>?_) fun q=>?_
    ·have q:¬ t.op_=9:=fun e=>by rw [e] at q;simp at q
     refine Q4 (Y2c F A _) (k1 _ ?_);unfold tkS;rw [if_neg q]
    ·have q:t.op_=9:=by simpa using q
     refine k1 _ ?_;unfold tkS;rw [if_pos q]
  have:=G t.kids_.length F 0 (by omega) (by omega)
  simpa using this
end
end Go.Ab
end
section
namespace Go.Ab
set_option maxRecDepth 20000
noncomputable section
variable {F:Nat} {cs:List Crop} {hs:List Rg_} {zs:List A2_} {y c d:Int} {A:List Rect}
end
end Go.Ab
end
section
namespace Go.Ab
set_option maxRecDepth 20000
noncomputable section
variable {cs:List Crop} {hs:List Rg_} {zs:List A2_} {y c d:Int} {A:List Rect}
end
end Go.Ab
end
section
namespace Go.Ab
set_option maxRecDepth 20000
noncomputable section
def Q7p (cs:List Crop) (c:Int):Bool:=decide (c<0)||decide (((cs.length:Nat):Int)<=c)
def Z6b (e:Nat) (t:Term) (cs:List Crop) (c:Int) (hs:List Rg_) (y:Int) (zs:List A2_) (d:Int) (A:List Rect):Int:=
 if Q8w e t≠0 then Q8w e t else if crC cs≠0 then crC cs else if (Q7p cs c||hs.any fun r=>Q7p cs r.c_)=true then 13
 else if Q9e hs≠0 then Q9e hs else if y<0\/100<y then 18 else if Q9Q zs≠0 then Q9Q zs else if d<0\/36864<d then 9 else if Q3D A=true then 0 else 7
theorem Y2C (F:Nat) (k:Int) (p:TermPlace):Q0W F k p=some (Q7p p.world_.crops_ k):=by
 unfold Q0W Q2j Q7p;refine Q8 (fun h=>?_) (fun h=>?_)
 ·rw [h];rfl
 ·rw [h];rfl
theorem Y3k {F:Nat} (hF:BIG<=F) {l:List Rg_} (hl:l.length<=1000000) (p:TermPlace):J9 F l p=some (l.any fun r=>Q7p p.world_.crops_ r.c_):=by
 have b:=hF;unfold BIG at b
 have:∃ i:Int,y9 F l p=some i/\(decide (0<=i))=l.any fun r=>Q7p p.world_.crops_ r.c_:=by
  unfold y9;have e:∀ (m f i:Nat),i+m=l.length->m<f->∃ v:Int,Z8 (fun again (z:Int)=>V8 F l p again z) f ((i:Nat):Int)=some v/\(decide (0<=v))=(l.drop i).any fun r=>Q7p p.world_.crops_ r.c_:=by
   intro m
   induction m with
   | zero=>
    intro f i o n;obtain ⟨f,rfl⟩:∃ g,f=g+1:=⟨f-1,by omega⟩
    show ∃ v:Int,V8 F l p (Z8 _ f) ((i:Nat):Int)=some v/\_;unfold V8
    refine ⟨-1,Q9 (decide_eq_false (by omega)) rfl,?_⟩;rw [List.drop_eq_nil_of_le (by omega)];rfl
   | succ m ih=>
    intro f i o n;obtain ⟨f,rfl⟩:∃ g,f=g+1:=⟨f-1,by omega⟩
    have a:i<l.length:=by omega
    obtain ⟨v,k,t⟩:=ih f (i+1) (by omega) (by omega);show ∃ v:Int,V8 F l p (Z8 _ f) ((i:Nat):Int)=some v/\_
    generalize Z8 (fun again (z:Int)=>V8 F l p again z) f=ag at k ⊢;unfold V8
    have j:Q1h F (gl l ((i:Nat):Int).toNat) p=some (Q7p p.world_.crops_ (gl l i).c_):=by
     unfold Q1h;rw [Int.toNat_natCast]
     exact Q4 (Y2C F _ p) rfl
    have h:l.drop i=gl l i::l.drop (i+1):=by rw [List.drop_eq_getElem_cons a,z8 a]
    rw [h,List.any_cons]
    cases hw:Q7p p.world_.crops_ (gl l i).c_ with
    | true=>
     refine ⟨(i:Int),Y2 (decide_eq_true (by omega)) (Z3 (by omega) (Q4 (j.trans (by rw [hw])) (Y2 rfl rfl))),?_⟩;simp
    | false=>
     refine ⟨v,Y2 (decide_eq_true (by omega)) (Z3 (by omega) (Q4 (j.trans (by rw [hw])) (Q9 rfl (Z3 (Y5 (by omega) (by omega)) k)))),?_⟩;rw [t];rfl
  have:=e l.length F 0 (by omega) (by omega)
  simpa using this
 obtain ⟨i,s,q⟩:=this;unfold J9
 refine Q4 s ?_;rw [<-q]
theorem Y1I {e F:Nat} (hF:BIG+e<=F) {p:TermPlace} {t:Term} (ht:TD e t) (hl:p.world_.history_.length<=1000000) (hc:NmS p.world_.crops_):Q3g F p t=some (Z6b e t p.world_.crops_ p.line_.c_ p.world_.history_ p.world_.y_ p.world_.zones_ p.world_.day_ p.line_.g_.t_):=by
 have a:BIG<=F:=by omega
 unfold Q3g Z6b;refine Q4 (Z6i hF ht) (Q8 (fun q=>?_) fun q=>?_)
 ·rw [if_pos (by simpa using q)]
 rw [if_neg (by simpa using q)];refine Q4 (Z5s a hc) (Q8 (fun q=>?_) fun q=>?_)
 ·rw [if_pos (by simpa using q)]
 rw [if_neg (by simpa using q)];have k1:∀ b:Bool,Q1B F p b=some (if b=true then 18 else if Q9Q p.world_.zones_≠0 then Q9Q p.world_.zones_ else if p.world_.day_<0\/36864<p.world_.day_ then 9 else if Q3D p.line_.g_.t_=true then 0 else 7):=fun b=>by
  unfold Q1B;cases b
  ·simp only [Bool.false_eq_true,if_false]
   refine Q9 rfl (Q4 (Z6C a _ _) ?_)
   by_cases h1:Q9Q p.world_.zones_≠0
   ·rw [if_pos h1,if_pos h1]
    exact Y2 (by simpa using h1) rfl
   rw [if_neg h1,if_neg h1]
   by_cases h2:p.world_.day_<0\/36864<p.world_.day_
   ·rw [if_pos h2,if_pos h2]
    exact Y2 rfl rfl
   rw [if_neg h2,if_neg h2];refine Q9 rfl (Q4 (Q0n a _) ?_)
   cases Q3D p.line_.g_.t_ <;> rfl
  ·exact Y2 rfl rfl
 have f:∀ b:Bool,Q1C F p b=some (if b=true then 13 else if Q9e p.world_.history_≠0 then Q9e p.world_.history_ else if p.world_.y_<0\/100<p.world_.y_ then 18 else if Q9Q p.world_.zones_≠0 then Q9Q p.world_.zones_ else if p.world_.day_<0\/36864<p.world_.day_ then 9 else if Q3D p.line_.g_.t_=true then 0 else 7):=fun b=>by
  unfold Q1C;cases b
  ·simp only [Bool.false_eq_true,if_false]
   refine Q9 rfl (Q4 (Z8X a _) ?_);refine Q8 (fun q=>?_) fun q=>?_
   ·rw [if_pos (by simpa using q)]
   rw [if_neg (by simpa using q)];refine Q8 (fun q=>?_) fun q=>?_
   ·rw [k1,if_pos rfl,if_pos (.inl (of_decide_eq_true q))]
   ·rw [k1]
    by_cases h1:100<p.world_.y_
    ·rw [if_pos (decide_eq_true h1),if_pos (.inr h1)]
    ·have g:¬ decide (100<p.world_.y_)=true:=by simpa using h1
     have h:¬ (p.world_.y_<0\/100<p.world_.y_):=by have:=of_decide_eq_false q;omega
     rw [if_neg g,if_neg h]
  ·exact Y2 rfl rfl
 refine Q4 (Y2C F _ p) (Q8 (fun q=>?_) fun q=>?_)
 ·rw [f,q];rfl
 ·refine Q4 (Y3k a hl p) ?_
  rw [f,q];rfl
end
end Go.Ab
end
section
namespace Go.Ab
set_option maxRecDepth 20000
noncomputable section
def noT:Truth:=⟨⟨[]⟩,⟨[]⟩,⟨[]⟩⟩
def TS.t3 (A:List Rect) (s:TS):Truth:=⟨⟨cn s.Y⟩,⟨cn s.N⟩,⟨cn (s.O A)⟩⟩
def Z6D (e:Nat) (t:Term) (l:Line) (y:Int) (cs:List Crop) (hs:List Rg_) (zs:List A2_) (d:Int):Truth×Int:=
 if Z6b e t cs l.c_ hs y zs d l.g_.t_≠0 then (noT,Z6b e t cs l.c_ hs y zs d l.g_.t_) else ((evS y cs hs zs d l.c_ l.g_.t_ e t).t3 l.g_.t_,0)
theorem Y8C {e:Nat} {t:Term} {cs:List Crop} {c:Int} {hs:List Rg_} {y:Int} {zs:List A2_} {d:Int} {A:List Rect} (ht:TD e t) (h:Z6b e t cs c hs y zs d A=0):Q6t e t=true:=by
 have a:Q8w e t=0:=Classical.byContradiction fun b=>by
  unfold Z6b at h;rw [if_pos b] at h
  exact b h
 unfold Q8w at a
 by_cases hz:40<szD e t
 ·rw [if_pos hz] at a;cases a
 ·rw [if_neg hz] at a
  by_cases hr:Q5V e 8 t=true
  ·rw [Z5A e 8 t ht,Bool.and_eq_true] at hr
   exact hr.2
  ·rw [if_neg hr] at a;cases a
variable {F:Nat} {cs:List Crop} {hs:List Rg_} {zs:List A2_} {y d:Int}
theorem Y2Q {e:Nat} (hF:BIG+e<=F) {t:Term} (ht:TD e t) {l:Line} (hl:hs.length<=1000000) (hc:NmS cs) (hev:Z6b e t cs l.c_ hs y zs d l.g_.t_=0->EV y cs hs zs l.c_ l.g_.t_):Z2s F t l y cs hs zs d=some (Z6D e t l y cs hs zs d):=by
 have k:BIG<=F:=by omega
 unfold Z2s Z6D;refine Q4 (Y1I (p:=⟨⟨y,cs,hs,zs,d⟩,l,l.g_.t_⟩) hF ht hl hc) (Q8 (fun q=>?_) fun q=>?_)
 ·rw [if_pos (by simpa using q)];rfl
 have q:Z6b e t cs l.c_ hs y zs d l.g_.t_=0:=by simpa using q
 rw [if_neg (by rw [q];simp)];have h:=hev q
 have a:=Y1o (y:=y) (cs:=cs) (hs:=hs) (zs:=zs) (d:=d) (c:=l.c_) (A:=l.g_.t_) e t;refine Q4 (Z7r (p:=⟨⟨y,cs,hs,zs,d⟩,l,l.g_.t_⟩) h ⟨rfl,rfl,rfl,rfl,rfl,rfl,rfl⟩ e hF ht (Y8C ht q)) ?_
 have g:=(a.vY h.tr).1;have f:=(a.vN h.tr).1
 have i:=(a.vO h.tr).1;generalize evS y cs hs zs d l.c_ l.g_.t_ e t=s at g f i ⊢
 have b:∀ m:List Rect,m.length<=120->Q4Y F m=some ⟨m⟩:=fun m j=>by
  unfold Q4Y;refine Q4 (Q9x (by unfold LIM;omega)) rfl
 refine Q9 (decide_eq_false ?_) (Q4 (b _ g) (Q4 (b _ f) (Q4 (b _ i) rfl)));show ¬ (120:Int)<Q0B (Q0B ((cn s.Y).length:Int) ((cn s.N).length:Int)) ((cn (s.O l.g_.t_)).length:Int)
 unfold Q0B;split <;> split <;> omega
end
end Go.Ab
end
section
namespace Go.Ab
set_option maxRecDepth 20000
noncomputable section
theorem Z2S (F:Nat) (u v:Bool):Q4x F u v=some (u&&v):=by
 unfold Q4x Q5S;cases u <;> rfl
theorem Z5Z (F:Nat) (u v:Bool):Q3y F u v=some (u && !v):=by
 unfold Q3y Q3e;cases u <;> rfl
theorem Z7b {F:Nat} (hF:BIG<=F) {l:List Rect} (h:Val l):Q0D F l=some (⟨l⟩,0):=by
 have a:=h.1;refine (Q8K hF (by omega) h.pos).trans ?_
 rw [Y5u h,if_neg (by omega)]
theorem Z5b {F:Nat} (hF:BIG<=F) {a b c:List Rect} (ha:Val a) (hb:Val b) (hc:Val c):Q0y F ⟨a,b,c⟩=some (⟨⟨a⟩,⟨b⟩,⟨c⟩⟩,0):=by
 unfold Q0y;exact Q4 (Z7b hF ha) (Q9 rfl (Z3 (Y5 (by omega) (by omega)) (Q4 (Z7b hF hb) (Q9 rfl (Z3 (Y5 (by omega) (by omega)) (Q4 (Z7b hF hc) (Q9 rfl (Z3 (Y5 (by omega) (by omega)) rfl))))))))
end
end Go.Ab
end
section
namespace Go.Ab
set_option maxRecDepth 20000
noncomputable section
def Z4d (A:List Rect) (s:TS) (G:Sq):TS:=⟨fun u v=>s.Y u v&&G u v,fun u v=>inR A u v && !((s.Y u v&&G u v)||(s.O A u v&&G u v))⟩
theorem W1g {A:List Rect} {s:TS} (h:TIn A s) (G:Sq):(Z4d A s G).O A=fun u v=>s.O A u v&&G u v:=by
 funext u v
 simp only [Z4d,TS.O];have:=h.sY u v
 have:=h.sN u v
 cases hA:inR A u v <;> cases hY:s.Y u v <;> cases hN:s.N u v <;> cases G u v <;> simp_all
theorem Y7Z {A:List Rect} {s:TS} (h:TIn A s) {G:Sq} (hG:Fin G):TIn A (Z4d A s G):=by
 refine ⟨Z3z h.fY hG,Z5H (G6 A) (Y5o (Z3z h.fY hG) (Z3z h.fO hG)),fun u v a=>?_,fun u v a=>?_⟩
 ·simp only [Z4d,Bool.and_eq_true] at a
  exact h.sY u v a.1
 ·simp only [Z4d,Bool.and_eq_true] at a
  exact a.1
end
end Go.Ab
end
section
namespace Go.Ab
set_option maxRecDepth 20000
noncomputable section
def Z2Y (e n:Int):Bool:=Q5T .i64 (e.fdiv (2 ^ (min n.toNat (IntKind.bits .i64)))) 1==1
theorem Y8J (x:Int):Q5T .i64 x 1=0\/Q5T .i64 x 1=1:=by
 unfold Q5T;have h:(BitVec.ofInt 64 x &&& BitVec.ofInt 64 1).toNat<=1:=by
  rw [BitVec.toNat_and];exact Nat.le_trans Nat.and_le_right (by decide)
 show IntKind.wrap .i64 ((BitVec.ofInt 64 x &&& BitVec.ofInt 64 1).toNat:Nat)=0\/IntKind.wrap .i64 ((BitVec.ofInt 64 x &&& BitVec.ofInt 64 1).toNat:Nat)=1;have a:(BitVec.ofInt 64 x &&& BitVec.ofInt 64 1).toNat=0\/(BitVec.ofInt 64 x &&& BitVec.ofInt 64 1).toNat=1:=by omega
 rcases a with a|a <;> rw [a]
 ·left;rfl
 ·right;rfl
theorem Z2X (e n:Int):(Q5T .i64 (e.fdiv (2 ^ (min n.toNat (IntKind.bits .i64)))) 1==0)=!Z2Y e n:=by
 unfold Z2Y;rcases Y8J (e.fdiv (2 ^ (min n.toNat (IntKind.bits .i64)))) with h|h <;> rw [h] <;> rfl
def Z3Y (p:Int) (b:Bracket):Bool:=decide (p<b.up_)&&(decide (b.up_<=268435456)&&(decide (0<=b.rate_)&&decide (b.rate_<=1048576)))
def Q9H (l:List Bracket) (i:Nat):Int:=if i=0 then 0 else (gl l (i-1)).up_
def brB (l:List Bracket):Bool:=decide (1<=l.length)&&(decide (l.length<=6) && !(List.range l.length).any fun i=> !Z3Y (Q9H l i) (gl l i))
theorem Y3H {R:Type} {body:(Int->Option R)->Int->Option R} {c y:Option R} (N:Nat) (p:Nat->Bool)
  (bad:∀ again (i:Nat),i<N->(∀ j,j<i->p j=false)->p i=true->body again (i:Int)=c) (good:∀ again (i:Nat) z,i<N->(∀ j,j<i->p j=false)->p i=false->again ((i:Int)+1)=z->body again (i:Int)=z)
  (stop:∀ again,body again (N:Int)=y) {F:Nat} (hF:N<F):Z8 body F 0=if (List.range N).any p=true then c else y:=by
 refine Y9 (fun z:Int=>∃ i:Nat,z=i/\i<=N/\∀ j,j<i->p j=false) (fun z=>N-z.toNat) (fun again z f e=>?_) ⟨0,rfl,Nat.zero_le _,fun j h=>absurd h (Nat.not_lt_zero j)⟩ (by simp;omega);obtain ⟨i,rfl,g,a⟩:=f
 rcases Nat.lt_or_ge i N with h|h
 ·cases hpi:p i with
  | true=>
   rw [if_pos (List.any_eq_true.2 ⟨i,List.mem_range.2 h,hpi⟩)];exact bad again i h a hpi
  | false=>
   refine good again i _ h a hpi (e _ ⟨i+1,by omega,h,fun j b=>?_⟩ (by omega))
   by_cases hji:j=i
   ·rw [hji];exact hpi
   ·exact a j (by omega)
 ·have:i=N:=by omega
  subst this;rw [if_neg (by rw [Bool.not_eq_true,List.any_eq_false];intro j b;rw [a j (List.mem_range.1 b)];simp)]
  exact stop again
theorem Z6L {F:Nat} {l:List Bracket} (hF:l.length<F) (hl:l.length<=1000000):Q3Z F l=some (brB l):=by
 unfold Q3Z;refine (Y3H (c:=some false) (y:=some (decide (1<=l.length)&&decide (l.length<=6))) l.length (fun i=> !Z3Y (Q9H l i) (gl l i)) (fun a i s o n=>?_) (fun a i z s o n t=>?_) (fun a=>?_) hF).trans ?_
 all_goals try (
  have e:i=0\/(1<=i/\1<=(gl l (i-1)).up_):=by
   rcases Nat.eq_zero_or_pos i with h|h
   ·exact .inl h
   ·refine .inr ⟨h,?_⟩
    have r:∀ j,j<i->1<=(gl l j).up_:=by
     intro j
     induction j with
     | zero=>
      intro v;have:=o 0 v
      rw [Bool.not_eq_false'] at this;unfold Z3Y Q9H at this
      rw [if_pos rfl] at this;simp only [Bool.and_eq_true,decide_eq_true_eq] at this;omega
     | succ j ih=>
      intro u;have f:=ih (by omega)
      have:=o (j+1) u
      rw [Bool.not_eq_false'] at this;unfold Z3Y Q9H at this
      rw [if_neg (by omega),Nat.add_sub_cancel] at this;simp only [Bool.and_eq_true,decide_eq_true_eq] at this;omega
    exact r (i-1) (by omega)
  have q:(((i:Nat):Int)-1).toNat=i-1:=by omega)
 ·show Q0q F l a (i:Int)=_
  unfold Q0q;have k1:J6 F (i:Int) a true=some false:=rfl
  refine Y2 (decide_eq_true (by omega)) (Z3 (by omega) (Q8 (fun _=>k1) (fun f=>Q8 (fun _=>k1) (fun g=>Q8 (fun _=>k1) (fun k=>Q8 (fun _=>k1) (fun m=>?_))))));have f:=of_decide_eq_false f
  have g:=of_decide_eq_false g;have k:=of_decide_eq_false k
  have m:=of_decide_eq_false m;simp only [Int.toNat_natCast] at f g k m
  have b : Z3Y (Q9H l i) (gl l i)=false:=by simpa using n
  unfold Z3Y Q9H at b;rcases e with h|⟨h,w⟩
  ·subst h
   rw [if_pos rfl,decide_eq_true (by omega),decide_eq_true (by omega),decide_eq_true (by omega),decide_eq_true (by omega)] at b;simp at b
  ·rw [if_neg (by omega)] at b
   refine Y2 (decide_eq_true (by omega)) (Z3 (Y5 (by omega) (by omega)) (Z3 (by omega) ?_));rw [q,decide_eq_true (p:=(gl l ((i:Nat):Int).toNat).up_<=_)]
   ·exact k1
   ·simp only [Int.toNat_natCast]
    by_cases h6:(gl l (i-1)).up_<(gl l i).up_
    ·rw [decide_eq_true h6,decide_eq_true (by omega),decide_eq_true (by omega),decide_eq_true (by omega)] at b
     simp at b
    ·omega
 ·show Q0q F l a (i:Int)=_
  unfold Q0q;have b : Z3Y (Q9H l i) (gl l i)=true:=by simpa using n
  unfold Z3Y Q9H at b;simp only [Bool.and_eq_true,decide_eq_true_eq] at b
  obtain ⟨f,g,k,m⟩:=b;have k1:J6 F (i:Int) a false=z:=Q9 rfl (Z3 (Y5 (by omega) (by omega)) t)
  have x:1<=(gl l i).up_:=by
   rcases e with h|⟨h,w⟩
   ·rw [if_pos h] at f;omega
   ·rw [if_neg (by omega)] at f;omega
  refine Y2 (decide_eq_true (by omega)) (Z3 (by omega) (Q9 (decide_eq_false (by simp only [Int.toNat_natCast];omega)) (Q9 (decide_eq_false (by simp only [Int.toNat_natCast];omega)) (Q9 (decide_eq_false (by simp only [Int.toNat_natCast];omega)) (Q9 (decide_eq_false (by simp only [Int.toNat_natCast];omega)) ?_)))));refine Q8 (fun h=>?_) (fun _=>k1)
  have h:=of_decide_eq_true h;refine Z3 (Y5 (by omega) (by omega)) (Z3 (by omega) ?_)
  rw [q,decide_eq_false]
  ·exact k1
  ·rw [if_neg (by omega)] at f
   simp only [Int.toNat_natCast];omega
 ·show Q0q F l a (l.length:Int)=_
  unfold Q0q Q6R Q3G;refine Q9 (decide_eq_false (by omega)) ?_
  rw [show decide ((1:Int)<=((l.length:Nat):Int))=decide (1<=l.length) from decide_eq_decide.2 (by omega),show decide (((l.length:Nat):Int)<=(6:Int))=decide (l.length<=6) from decide_eq_decide.2 (by omega)]
  cases decide (1<=l.length) <;> rfl
 ·unfold brB
  cases (List.range l.length).any fun i=> !Z3Y (Q9H l i) (gl l i) <;> simp
theorem Z7F {F:Nat} {l:List Bracket} (hF:l.length<F) (hl:l.length<=1000000):Q5f F l=some (brB l):=by
 unfold Q5f brB;have e:Q2E F l true=some false:=rfl
 by_cases h1:1<=l.length
 ·refine Q9 (decide_eq_false (by omega)) ?_
  by_cases h2:l.length<=6
  ·rw [decide_eq_true h1,decide_eq_true h2,decide_eq_false (by omega)]
   unfold Q2E;refine Q9 rfl ?_
   suffices hs:∀ (n i:Nat),l.length-i<n->i<=l.length->Z8 (fun again (z:Int×Int)=>Q1t F l again z.1 z.2) n (Q9H l i,(i:Int))=some (!((List.range l.length).drop i).any fun i=> !Z3Y (Q9H l i) (gl l i)) by
    have:=hs F 0 (by omega) (by omega)
    simpa [Q9H] using this
   intro n
   induction n with
   | zero=>intro i h;omega
   | succ n ih=>
    intro i j g;have b:=ih (i+1)
    revert b
    show _->Q1t F l (Z8 (fun again (z:Int×Int)=>Q1t F l again z.1 z.2) n) (Q9H l i) (i:Int)=_;generalize Z8 (fun again (z:Int×Int)=>Q1t F l again z.1 z.2) n=ag
    intro b;unfold Q1t
    by_cases hil:i<l.length
    ·rw [show (List.range l.length).drop i=i::(List.range l.length).drop (i+1) by rw [List.drop_eq_getElem_cons (by simpa using hil),List.getElem_range]]
     rw [List.any_cons];refine Y2 (decide_eq_true (by omega)) (Z3 (by omega) ?_)
     simp only [Int.toNat_natCast];have a:Q0e F l (i:Int) ag true=some false:=rfl
     have f:Q0e F l (i:Int) ag false=some (!((List.range l.length).drop (i+1)).any fun i=> !Z3Y (Q9H l i) (gl l i)):=by
      unfold Q0e;refine Q9 rfl (Z3 (Y5 (by omega) (by omega)) ?_)
      rw [<-b (by omega) (by omega)];congr 1
     rw [show Z3Y (Q9H l i) (gl l i)=(decide (Q9H l i<(gl l i).up_)&&(decide ((gl l i).up_<=268435456)&&(decide (0<=(gl l i).rate_)&&decide ((gl l i).rate_<=1048576)))) from rfl]
     by_cases g1:Q9H l i<(gl l i).up_
     ·rw [decide_eq_true g1]
      refine Q9 (decide_eq_false (by omega)) ?_
      by_cases g2:(gl l i).up_<=268435456
      ·rw [decide_eq_true g2]
       refine Q9 (decide_eq_false (by omega)) ?_
       by_cases g3:0<=(gl l i).rate_
       ·rw [decide_eq_true g3]
        refine Q9 (decide_eq_false (by omega)) ?_
        by_cases g4:(gl l i).rate_<=1048576
        ·rw [decide_eq_true g4,decide_eq_false (by omega),f];simp
        ·rw [decide_eq_false g4,decide_eq_true (by omega),a];simp
       ·rw [decide_eq_false g3]
        exact Y2 (decide_eq_true (by omega)) a
      ·rw [decide_eq_false g2]
       exact Y2 (decide_eq_true (by omega)) a
     ·rw [decide_eq_false g1]
      exact Y2 (decide_eq_true (by omega)) a
    ·have:i=l.length:=by omega
     subst this;refine Q9 (decide_eq_false (by omega)) ?_
     rw [List.drop_eq_nil_of_le (by simp)];rfl
  ·rw [decide_eq_false h2,decide_eq_true (by omega),Bool.false_and,Bool.and_false];exact e
 ·rw [decide_eq_false h1]
  exact Y2 (decide_eq_true (by omega)) e
structure SD (d:Nat) (s:Scheme):Prop where
 cond:TD d s.cond_
 name:s.n_.size<=4294967296
 brl:s.brackets_.length<=1000000
def Q9I (d:Nat) (s:Scheme):Int:=
 if s.N_<0\/15<s.N_\/s.least_<0\/268435456<s.least_ then 2 else if Q2I s.n_=false then 5 else if Q8w d s.cond_≠0 then Q8w d s.cond_
 else if brB s.brackets_=false\/s.excludes_<0\/65536<=s.excludes_\/Z2Y s.excludes_ s.N_=true then 3 else 0
theorem Z9H {d F:Nat} (hd:d<=2000000) (hF:BIG+d<=F) {s:Scheme} (h:SD d s):Q7E F s=some (Q9I d s):=by
 have f:BIG<=F:=by omega
 have e:=f;unfold BIG at e
 unfold Q7E Q9I;have b:Q1x F s true=some 2:=rfl
 by_cases h1:s.N_<0
 ·rw [if_pos (.inl h1)];exact Y2 (decide_eq_true h1) b
 refine Q9 (decide_eq_false h1) ?_
 by_cases h2:15<s.N_
 ·rw [if_pos (.inr (.inl h2))];exact Y2 (decide_eq_true h2) b
 refine Q9 (decide_eq_false h2) ?_
 by_cases h3:s.least_<0
 ·rw [if_pos (.inr (.inr (.inl h3)))];exact Y2 (decide_eq_true h3) b
 refine Q9 (decide_eq_false h3) ?_
 by_cases h4:268435456<s.least_
 ·rw [if_pos (.inr (.inr (.inr h4))),decide_eq_true h4];exact b
 rw [if_neg (by omega),decide_eq_false h4];unfold Q1x
 refine Q9 rfl (Q4 (Z1Q (by have:=h.name;omega) h.name) ?_)
 cases hn:Q2I s.n_ with
 | false=>rfl
 | true=>
  rw [if_neg (by simp)];refine Q9 rfl (Q4 (Z6i hF h.cond) ?_)
  by_cases h5:Q8w d s.cond_=0
  ·rw [if_neg (by simpa using h5)]
   refine Q9 (by simp [h5]) (Q4 (Z6L (by have:=h.brl;omega) h.brl) ?_);have a:Q1w F true=some 3:=rfl
   cases hbr:brB s.brackets_ with
   | false=>rw [if_pos (.inl rfl)];exact Y2 rfl a
   | true=>
    refine Q9 rfl ?_
    by_cases h6:s.excludes_<0
    ·rw [if_pos (.inr (.inl h6))];exact Y2 (decide_eq_true h6) a
    refine Q9 (decide_eq_false h6) ?_
    by_cases h7:65536<=s.excludes_
    ·rw [if_pos (.inr (.inr (.inl h7)))];exact Y2 (decide_eq_true h7) a
    refine Q9 (decide_eq_false h7) (Z3 (by omega) ?_);show Q1w F (Z2Y s.excludes_ s.N_)=_
    cases Z2Y s.excludes_ s.N_ with
    | true=>rw [if_pos (.inr (.inr (.inr rfl)))];exact a
    | false=>rw [if_neg (by simp;omega)];rfl
  ·rw [if_pos h5]
   exact Y2 (by simpa using h5) rfl
theorem Z7G {d F:Nat} (hd:d<=2000000) (hF:BIG+d<=F) {s:Scheme} (h:SD d s):Z2y F s=some (Q9I d s):=by
 have f:BIG<=F:=by omega
 have e:=f;unfold BIG at e
 unfold Z2y Q9I;have b:Q3L F s true=some 2:=rfl
 by_cases h1:s.N_<0
 ·rw [if_pos (.inl h1)];exact Y2 (decide_eq_true h1) b
 refine Q9 (decide_eq_false h1) ?_
 by_cases h2:15<s.N_
 ·rw [if_pos (.inr (.inl h2))];exact Y2 (decide_eq_true h2) b
 refine Q9 (decide_eq_false h2) ?_
 by_cases h3:s.least_<0
 ·rw [if_pos (.inr (.inr (.inl h3)))];exact Y2 (decide_eq_true h3) b
 refine Q9 (decide_eq_false h3) ?_
 by_cases h4:268435456<s.least_
 ·rw [if_pos (.inr (.inr (.inr h4))),decide_eq_true h4];exact b
 rw [if_neg (by omega),decide_eq_false h4];unfold Q3L
 refine Q9 rfl (Q4 (Y0U f _) ?_)
 cases hn:Q2I s.n_ with
 | false=>rfl
 | true=>
  rw [if_neg (by simp)];refine Q9 rfl (Q4 (Y0L hd hF h.cond) ?_)
  by_cases h5:Q8w d s.cond_=0
  ·rw [if_neg (by simpa using h5)]
   refine Q9 (by simp [h5]) (Q4 (Z7F (by have:=h.brl;omega) h.brl) ?_);have a:Q3K F true=some 3:=rfl
   cases hbr:brB s.brackets_ with
   | false=>rw [if_pos (.inl rfl)];exact Y2 rfl a
   | true=>
    refine Q9 rfl ?_
    by_cases h6:s.excludes_<0
    ·rw [if_pos (.inr (.inl h6))];exact Y2 (decide_eq_true h6) a
    refine Q9 (decide_eq_false h6) ?_
    by_cases h7:65536<=s.excludes_
    ·rw [if_pos (.inr (.inr (.inl h7)))];exact Y2 (decide_eq_true h7) a
    refine Q9 (decide_eq_false h7) (Z3 (by omega) ?_);show Q3K F (Z2Y s.excludes_ s.N_)=_
    cases Z2Y s.excludes_ s.N_ with
    | true=>rw [if_pos (.inr (.inr (.inr rfl)))];exact a
    | false=>rw [if_neg (by simp;omega)];rfl
  ·rw [if_pos h5]
   exact Y2 (by simpa using h5) rfl
end
end Go.Ab
end
section
namespace Go.Ab
set_option maxRecDepth 20000
noncomputable section
theorem Z7z (F:Nat) (u v:Bool):Q4c F u v=some (u && !v):=by
 unfold Q4c Q3J;cases u <;> rfl
theorem Z8D {F:Nat} (hF:BIG<=F) (a b:Re_):Q6i F a b=some (Z6e a b):=by
 unfold Q6i Z6e Q3i;refine Q4 (Q0n hF a) (Q8 (fun h=>?_) fun h=>?_)
 ·rw [h,Bool.true_and]
  refine Q4 (Q0n hF b) (Q8 (fun e=>?_) fun e=>?_)
  ·rw [e,Bool.true_and]
   have f:=(Q0P _).1 h;have vb:=(Q0P _).1 e
   refine Q4 (Q3z hF f.le8 vb.le8 f.pos vb.pos rfl rfl (k:=fun u v=>u && !v) rfl (Z7z F)) ?_;congr 1
   show _=decide (cn (fun x y=>inR a.t_ x y && !inR b.t_ x y)=[])
   cases cn fun x y=>inR a.t_ x y && !inR b.t_ x y with
   | nil=>rfl
   | cons r l=>simp;omega
  ·rw [e];rfl
 ·rw [h];rfl
theorem Y4P {e:Nat} {s:Scheme} (h:Q9I e s=0):0<=s.N_:=by
 unfold Q9I at h
 by_cases hn:s.N_<0\/15<s.N_\/s.least_<0\/268435456<s.least_
 ·rw [if_pos hn] at h;cases h
 ·omega
def Y7Y (e:Nat) (l:Line) (parcel:Re_) (s:Scheme) (w:World) (v:Re_×Int):Truth×Int:=
 if Q3D parcel.t_=false then (noT,7)
 else if (Z6D e s.cond_ l w.y_ w.crops_ w.history_ w.zones_ w.day_).2≠0 then (noT,(Z6D e s.cond_ l w.y_ w.crops_ w.history_ w.zones_ w.day_).2)
 else if Q9I e s≠0 then (noT,17)
 else if v.2≠0 then (noT,v.2)
 else if Z6e l.g_ parcel=false then (noT,12)
 else if Z2Y l.s_ s.N_=false then (⟨⟨[]⟩,l.g_,⟨[]⟩⟩,0)
 else ((Z4d l.g_.t_ (evS w.y_ w.crops_ w.history_ w.zones_ w.day_ l.c_ l.g_.t_ e s.cond_) (inR v.1.t_)).t3 l.g_.t_,0)
theorem Y7b {e:Nat} {t:Term} {l:Line} {y:Int} {cs:List Crop} {hs:List Rg_} {zs:List A2_} {d:Int} (h:(Z6D e t l y cs hs zs d).2=0):Z6b e t cs l.c_ hs y zs d l.g_.t_=0/\Z6D e t l y cs hs zs d=((evS y cs hs zs d l.c_ l.g_.t_ e t).t3 l.g_.t_,0):=by
 unfold Z6D at h ⊢
 by_cases hz:Z6b e t cs l.c_ hs y zs d l.g_.t_=0
 ·rw [if_neg (by rw [hz];simp)]
  exact ⟨hz,rfl⟩
 ·rw [if_pos hz] at h
  exact (hz h).elim
theorem Z9g {e F:Nat} (he:e<=2000000) (hF:BIG+e<=F) {l:Line} {parcel:Re_} {s:Scheme} {w:World} (hs:SD e s) (hl:w.history_.length<=1000000) (hc:NmS w.crops_) (hev:Z6b e s.cond_ w.crops_ l.c_ w.history_ w.y_ w.zones_ w.day_ l.g_.t_=0->EV w.y_ w.crops_ w.history_ w.zones_ l.c_ l.g_.t_)
  {v:Re_×Int} (hv:Q4i F parcel w.zones_ w.day_ w.most_=some v) (hval:v.2=0->Val v.1.t_):Q0E F l parcel s w=some (Y7Y e l parcel s w v):=by
 have g:BIG<=F:=by omega
 unfold Q0E Y7Y;refine Q4 (Q0n g _) (Q8 (fun q=>?_) fun q=>?_)
 ·rw [if_pos (by simpa using q)];rfl
 rw [if_neg (by simpa using q)];refine Q4 (Y2Q hF hs.cond hl hc hev) (Q8 (fun q=>?_) fun q=>?_)
 ·rw [if_pos (by simpa using q)];rfl
 have q:(Z6D e s.cond_ l w.y_ w.crops_ w.history_ w.zones_ w.day_).2=0:=by simpa using q
 rw [if_neg (by rw [q];simp)];obtain ⟨C,hE⟩:=Y7b q
 have h:=hev C;rw [hE]
 refine Q4 (Z9H he hF hs) (Q8 (fun q=>?_) fun m=>?_)
 ·rw [if_pos (by simpa using q)];rfl
 have m:Q9I e s=0:=by simpa using m
 rw [if_neg (by rw [m];simp)];refine Q4 hv (Q8 (fun q=>?_) fun q=>?_)
 ·rw [if_pos (by simpa using q)];rfl
 have q:v.2=0:=by simpa using q
 rw [if_neg (by rw [q];simp)];have j:=hval q
 refine Q4 (Z8D g _ _) (Q8 (fun q=>?_) fun q=>?_)
 ·rw [if_pos (by simpa using q)];rfl
 rw [if_neg (by simpa using q)];have f:=Y1o (y:=w.y_) (cs:=w.crops_) (hs:=w.history_) (zs:=w.zones_) (d:=w.day_) (c:=l.c_) (A:=l.g_.t_) e s.cond_
 generalize evS w.y_ w.crops_ w.history_ w.zones_ w.day_ l.c_ l.g_.t_ e s.cond_=T at f ⊢;have n:=Y7Z f (G6 v.1.t_)
 have x:=W1g f (inR v.1.t_);have p:=n.vY h.tr
 have z:=n.vN h.tr;have o:=n.vO h.tr
 refine Z3 (Y4P m) (Q8 (fun q=>?_) fun q=>?_)
 ·rw [Z2X] at q
  rw [if_pos (by simpa using q)];exact Q4 (Z5b g Val.nil h.tr.val Val.nil) rfl
 ·rw [Z2X] at q
  rw [if_neg (by simpa using q)];have G:=p.1
  have t:=o.1;rw [x] at o t
  have H:=Q3z g (a:=cn T.Y) (b:=v.1.t_) (f.vY h.tr).le8 j.le8 (f.vY h.tr).pos j.pos (Q0z f.fY) rfl (k:=fun u v=>u&&v) rfl (Z2S F);have I:=Q3z g (a:=cn (T.O l.g_.t_)) (b:=v.1.t_) (f.vO h.tr).le8 j.le8 (f.vO h.tr).pos j.pos (Q0z f.fO) rfl (k:=fun u v=>u&&v) rfl (Z2S F)
  have E:inR (cn (Z4d l.g_.t_ T (inR v.1.t_)).Y++cn fun u w=>T.O l.g_.t_ u w&&inR v.1.t_ u w)=fun u w=>(T.Y u w&&inR v.1.t_ u w)||(T.O l.g_.t_ u w&&inR v.1.t_ u w):=by
   funext u w
   rw [Z3t,Q1I n.fY,Q1I (Z3z f.fO (G6 _))];rfl
  have B:=Q3z g (a:=l.g_.t_) (b:=cn (Z4d l.g_.t_ T (inR v.1.t_)).Y++cn fun u w=>T.O l.g_.t_ u w&&inR v.1.t_ u w) h.tr.val.le8 (by rw [List.length_append];omega) h.tr.val.pos (fun r i=>by
   rcases List.mem_append.1 i with i|i
   ·exact p.pos r i
   ·exact o.pos r i) rfl E (k:=fun u v=>u && !v) rfl (Z5Z F)
  have D:=Z5b g p z o;unfold TS.t3
  rw [x];exact Q4 H (Q4 I (Q4 (Q7z g (by exact Nat.le_trans G (by omega)) (by exact Nat.le_trans t (by omega))) (Q4 B (Q4 D rfl))))
end
end Go.Ab
end
