/- Abstract states over the model. -/
import Derived.Test.YtgfmopdbhjcpfaaGreatLwB
import Derived.Test.YtgfmopdbhjcpfaaGreatLwA
set_option linter.unusedVariables false
set_option linter.unusedSimpArgs false
section
namespace Go.Ab
set_option maxRecDepth 20000
noncomputable section
theorem Q1O.half2{l:List Rect}(hc:Q1O l){x0:Int}{w h:Nat}(hb:∀ r ∈ l,x0<=r.L_/\r.R_<=x0+w/\0<=r.w_/\r.H_<=h):l.length<=h*((w+1) / 2):=by
 obtain ⟨b,f,rfl⟩:=hc;have g:∀ c ∈ b,∃ s,s ∈ c.v:=fun c hc=>List.exists_mem_of_ne_nil _ (f.ne c hc)
 have d:∀ c ∈ b,∀ s ∈ c.v,(⟨s.L_,c.lo,s.R_,c.hi⟩:Rect) ∈ flat b:=fun c hc s e=>List.mem_flatMap.2 ⟨c,hc,List.mem_map.2 ⟨s,e,rfl⟩⟩
 have k:(b.length:Int)<=h-0:=f.runs.len (by omega) fun c hc=>by
  obtain ⟨s,e⟩:=g c hc;have:=hb _ (d c hc s e)
  simp only at this;omega
 have i:∀ c ∈ b,c.v.length<=(w+1) / 2:=fun c hc=>by
  have:=(f.sp c hc).half (n:=x0+w) (a:=x0) (by omega) fun s e=>by
   have:=hb _ (d c hc s e)
   simp only at this ⊢;omega
  omega
 have m:=Y4R i;have j:b.length*((w+1) / 2)<=h*((w+1) / 2):=Nat.mul_le_mul_right _ (by omega)
 omega
def PlB(d:Int)(S:Int->Int->Bool):Prop:=∀ u v,S u v=true->d<=u/\u<d+9/\0<=v/\v<9
theorem W2s{S:Int->Int->Bool}(hf:Fin S){d:Int}(h0:0<=d/\d<=100)(hb:PlB d S):Val (cn S)/\∀ r ∈ cn S,d<=r.L_/\r.R_<=d+9/\0<=r.w_/\r.H_<=9:=by
 have e:=Q1O.cn hf;have c:∀ r ∈ cn S,d<=r.L_/\r.R_<=d+9/\0<=r.w_/\r.H_<=9:=by
  intro r c;obtain ⟨g,f⟩:=e.pos c
  have a:=hb r.L_ r.w_ (by rw [<-Q2k hf];exact Z9x c ((y6 _ _ _).2 (by omega)));have b:=hb (r.R_-1) (r.H_-1) (by rw [<-Q2k hf];exact Z9x c ((y6 _ _ _).2 (by omega)))
  omega
 have i:=e.half2 (x0:=d) (w:=9) (h:=9) fun r h=>by have:=c r h;omega
 refine ⟨⟨by omega,fun r h=>?_,e⟩,c⟩;obtain ⟨g,f⟩:=e.pos h
 have:=c r h
 rw [Q0n];omega
theorem Z7n(F:Nat)(t:Tape)(n m:Int):Q9g F t n m=Q2j F t n m:=rfl
def shR(d:Int)(r:Rect):Rect:=⟨r.L_+d,r.w_,r.R_+d,r.H_⟩
theorem Y9C(d:Int)(l:List Rect)(u v:Int):inR (l.map (shR d)) u v=inR l (u-d) v:=by
 unfold inR;rw [List.any_map]
 congr 1
 funext r
 show (shR d r).has u v=r.has (u-d) v;rw [Bool.eq_iff_iff,y6,y6]
 show r.L_+d<=u/\u<r.R_+d/\r.w_<=v/\v<r.H_↔r.L_<=u-d/\u-d<r.R_/\r.w_<=v/\v<r.H_;omega
theorem W0j{α:Type}[Emb α](l:List α)(i j:Nat)(x:α)(hj:j<l.length):gl (l.set i x) j=if i=j then x else gl l j:=by
 unfold gl;rw [List.getD_eq_getElem?_getD,List.getElem?_set]
 by_cases h:i=j
 .subst h;rw [if_pos rfl,if_pos rfl,if_pos hj];rfl
 .rw [if_neg h,if_neg h, <-List.getD_eq_getElem?_getD]
theorem Y5W{α:Type}[Emb α](l:List α)(i:Nat)(h:i<l.length):gl l i=l[i]:=by
 unfold gl;rw [List.getD_eq_getElem?_getD,List.getElem?_eq_getElem h];rfl
theorem W2U{α:Type}[Emb α]{l m:List α}(h:l.length=m.length)(hg:∀ i,i<l.length->gl l i=gl m i):l=m:=by
 apply List.ext_getElem h;intro i a b
 have:=hg i a
 rwa [Y5W l i a,Y5W m i b] at this
theorem W1J{α β:Type}[Emb α][Emb β](f:α->β)(l:List α)(i:Nat)(h:i<l.length):gl (l.map f) i=f (gl l i):=by
 rw [Y5W _ i (by simpa using h),Y5W l i h];simp
def W1X(q r:Rect):Rect:=⟨max q.L_ r.L_,max q.w_ r.w_,min q.R_ r.R_,min q.H_ r.H_⟩
theorem W1W(q:Rect)(l:List Rect)(u v:Int):inR (l.map (W1X q)) u v=(inR l u v&&inR [q] u v):=by
 rw [Bool.eq_iff_iff,Bool.and_eq_true,Q3j,Q3j,Q3j];constructor
 .rintro ⟨r,a,h⟩
  obtain ⟨s,b,rfl⟩:=List.mem_map.1 a;rw [y6] at h
  simp only [W1X] at h;exact ⟨⟨s,b,(y6 _ _ _).2 (by omega)⟩,q,by simp,(y6 _ _ _).2 (by omega)⟩
 .rintro ⟨⟨s,b,d⟩,r,a,c⟩
  rw [List.mem_singleton] at a;subst a
  rw [y6] at d c;refine ⟨_,List.mem_map.2 ⟨s,b,rfl⟩,(y6 _ _ _).2 ?_⟩
  simp only [W1X];omega
theorem W0l{α:Type}[Emb α](l m:List α){i:Nat}(h:i<l.length):gl (l++m) i=gl l i:=by
 unfold gl;rw [List.getD_eq_getElem?_getD,List.getElem?_append_left h, <-List.getD_eq_getElem?_getD]
theorem W0k{α:Type}[Emb α](l:List α)(x:α):gl (l++[x]) l.length=x:=by
 unfold gl;rw [List.getD_eq_getElem?_getD,List.getElem?_append_right (Nat.le_refl _)];simp
structure ParT (rs:List Re_):Prop where
 len:1<=rs.length/\rs.length<=3
 one:∀ i,i<rs.length->∃ w h:Int,2<=w/\w<=9/\2<=h/\h<=9/\gl rs i=⟨[⟨10*i,0,10*i+w,h⟩]⟩
theorem ParT.pl{rs:List Re_}(h:ParT rs){i:Nat}(hi:i<rs.length):PlB (10*i) (inR (gl rs i).t_):=by
 intro u v a;obtain ⟨w,k,j,e,g,f,d⟩:=h.one i hi
 rw [d,Q3j] at a;obtain ⟨r,c,b⟩:=a
 rw [List.mem_singleton] at c;subst c
 rw [y6] at b;simp only at b
 omega
theorem ParT.val{rs:List Re_}(h:ParT rs){i:Nat}(hi:i<rs.length):Val (gl rs i).t_:=by
 obtain ⟨w,k,c,d,b,e,a⟩:=h.one i hi;have:=h.len
 rw [a];exact val_one ((Q0n _).2 (by simp only;omega))
structure LinO (K:Int) (rs:List Re_) (x:Line):Prop where
 crop:0<=x.c_/\x.c_<K
 par:1<=x.p_/\x.p_<=rs.length
 sch:1<=x.s_/\x.s_<=15
 val:Val x.g_.t_
 ne:x.g_.t_.length≠0
 sub:∀ u v,inR x.g_.t_ u v=true->inR (gl rs (x.p_-1).toNat).t_ u v=true
def W3C(a b:Line):Prop:=∀ u v,inR a.g_.t_ u v=true->inR b.g_.t_ u v=true->False
structure LinT (K:Int) (rs:List Re_) (l:List Line):Prop where
 one:∀ x ∈ l,LinO K rs x
 apart:l.Pairwise W3C
 two:∀ i,i<l.length->∃ R:List Rect,R.length<=2/\∀ u v,inR (gl l i).g_.t_ u v=(inR R u v && !(l.take i).any fun x=>inR x.g_.t_ u v)
theorem LinO.pl{K:Int}{rs:List Re_}(hp:ParT rs){x:Line}(h:LinO K rs x):PlB (10*(x.p_-1)) (inR x.g_.t_):=by
 intro u v a;have:=h.par
 have b:=hp.pl (i:=(x.p_-1).toNat) (by omega) u v (h.sub u v a);omega
theorem LinT.nil(K:Int)(rs:List Re_):LinT K rs []:=⟨fun x a=>by simp at a,.nil,fun i b=>by simp at b⟩
theorem Z8o{F:Nat}(hF:BIG<=F){t:Tape}(ht:TOk t){cs:List Crop}(hcs:1<=cs.length/\cs.length<=100){most:Int}(m1:0<=most)(m2:most<=10):
  ∃ t' l ns rs,Q4k F t cs most=some (t',l,ns,rs)/\TOk t' /\ ParT rs/\LinT (cs.length:Nat) rs l/\(l.length:Int)<=most:=by
 have X:=hF;unfold BIG at hF
 obtain ⟨t1,c,e1,o1,c1,c2⟩:=U3 (F:=F) ht (lo:=1) (hi:=3) (by omega) (by omega) (by omega);have Q:∀ (rs:List Re_) (ns:List Int) (tl:List Int) (T:Int),ParT rs->ns.length=rs.length->TOk ⟨tl,T⟩->∃ t' l,Q4a F cs most tl T ns rs=some (t',l,ns,rs)/\TOk t' /\ LinT (cs.length:Nat) rs l/\(l.length:Int)<=most:=by
  intro rs ns tl T J B hT;have e4:=J.len
  obtain ⟨G,k,e2,o2,k1,k2⟩:=Z5 (F:=F) hT (n:=most+1) (by omega) (by omega);have L:∀ (k f:Nat) (t:Tape) (l:List Line),k<f->(l.length:Int)+k<=most->TOk t->LinT (cs.length:Nat) rs l ->
    ∃ t' l',Q9 (fun d (z:Int×List Int×Int×List Line)=>Q0W F cs ns rs d z.1 z.2.1 z.2.2.1 z.2.2.2) f ((k:Int),t.l_,t.at_,l)=some (t',l',ns,rs)/\TOk t' /\ LinT (cs.length:Nat) rs l' /\ (l'.length:Int)<=most:=by
   intro k
   induction k with
   | zero=>
    intro f t l hf b4 ht K
    cases f with
    | zero=>omega
    | succ f=>exact ⟨⟨t.l_,t.at_⟩,l,rfl,ht,K,by omega⟩
   | succ k ih=>
    intro f t l hf b4 ht K
    cases f with
    | zero=>omega
    | succ f=>
     obtain ⟨T,p,ea,oa,p1,p2⟩:=Z5 (F:=F) ht (n:=(ns.length:Nat)) (by omega) (by omega);obtain ⟨tb,a,R0,eb,ob,ha,d7,e8,b7⟩:=Z8r X oa (n:=9) (most:=2) (by omega) (by omega) (by omega) (by omega)
     obtain ⟨tc,c,ec,oc,c1,c2⟩:=Z5 (F:=F) ob (n:=(cs.length:Nat)) (by omega) (by omega);obtain ⟨td,s,ed,od,s1,s2⟩:=Z5 (F:=F) oc (n:=15) (by omega) (by omega)
     have H:p.toNat<rs.length:=by omega
     have f4:=ha.val.1
     let S:Nat->Int->Int->Bool:=fun n u v=>(inR (a.t_.map (shR (10*p))) u v&&inR (gl rs p.toNat).t_ u v) && !((l.take n).any fun x=>inR x.g_.t_ u v)
     have b8:∀ n,PlB (10*p) (S n):=fun n u v h=>by
      have h1:inR (gl rs p.toNat).t_ u v=true:=by
       simp only [S,Bool.and_eq_true] at h;exact h.1.2
      have:=J.pl H u v h1
      omega
     have a3:S 0=fun u v=>z8 (inR (a.t_.map (shR (10*p))) u v) (inR (gl rs p.toNat).t_ u v) 2:=by
      funext u v
      simp [S,z8]
     have a2:∀ r ∈ a.t_,0<=r.L_/\r.L_<r.R_/\r.R_<=9/\0<=r.w_/\r.w_<r.H_/\r.H_<=9:=ha.box;have b6:∀ r ∈ a.t_.map (shR (10*p)),Q1y r=true:=fun r hr=>by
      obtain ⟨q,hq,rfl⟩:=List.mem_map.1 hr;have:=a2 q hq
      rw [Q0n];simp only [shR]
      omega
     have m:∀ n,n<=l.length->Fin (S n):=by
      intro n
      induction n with
      | zero=>intro _;rw [a3];exact Q6z _ _ 2
      | succ n ihn=>
       intro I;have h0:=ihn (by omega)
       have e:S (n+1)=fun u v=>z8 (inR (cn (S n)) u v) (inR (gl l n).g_.t_ u v) 3:=by
        funext u v
        rw [Q2k h0];simp only [S,z8]
        rw [J6 (by omega),List.any_append];simp [Bool.and_assoc]
       rw [e];exact Q6z _ _ 3
     have W:∀ n,n<l.length->(cn fun u v=>z8 (inR (cn (S n)) u v) (inR (gl l n).g_.t_ u v) 3)=cn (S (n+1)):=fun n I=>by
      congr 1
      funext u v
      rw [Q2k (m n (by omega))];simp only [S,z8]
      rw [J6 I,List.any_append];simp [Bool.and_assoc]
     have C:∀ n,n<=l.length->Val (cn (S n)):=fun n I=>(W2s (m n I) (by omega) (b8 n)).1
     have a4:∃ t' l',Q3Z F cs rs ((k+1:Nat):Int) l (T,p) (tb,a) (Q9 (fun d (z:Int×List Int×Int×List Line)=>Q0W F cs ns rs d z.1 z.2.1 z.2.2.1 z.2.2.2) f) (a.t_.map (shR (10*p)))=some (t',l',ns,rs)/\TOk t' /\ LinT (cs.length:Nat) rs l' /\ (l'.length:Int)<=most:=by
      have c4:∃ t' l',Q2h F cs ((k+1:Nat):Int) l (T,p) (tb,a) (Q9 (fun d (z:Int×List Int×Int×List Line)=>Q0W F cs ns rs d z.1 z.2.1 z.2.2.1 z.2.2.2) f) (cn (S l.length))=some (t',l',ns,rs)/\TOk t' /\ LinT (cs.length:Nat) rs l' /\ (l'.length:Int)<=most:=by
       have ek:((k+1:Nat):Int)-1=(k:Int):=by omega
       by_cases Z:(cn (S l.length)).length=0
       .obtain ⟨G,N,g,o,A⟩:=ih f tb l (by omega) (by omega) ob K
        refine ⟨G,N,?_,o,A⟩;unfold Q2h
        refine Q7 (by simp [Z]) ?_;unfold Q2g
        simp only
        rw [ek];exact Q6 (Z7 (by omega) (by omega)) g
       .have hx:LinO (cs.length:Nat) rs ⟨p+1,⟨cn (S l.length)⟩,c,1+s⟩:=by
         refine ⟨⟨c1,c2⟩,by simp only;omega,by simp only;omega,C _ (Nat.le_refl _),Z,fun u v D=>?_⟩;have D:inR (cn (S l.length)) u v=true:=D
         rw [Q2k (m _ (Nat.le_refl _))] at D;simp only [S,Bool.and_eq_true] at D
         have e5:(p+1-1:Int)=p:=by omega
         simp only [e5];exact D.1.2
        have b2:LinT (cs.length:Nat) rs (l++[⟨p+1,⟨cn (S l.length)⟩,c,1+s⟩]):=by
         refine ⟨fun x h=>?_,?_,fun i hi=>?_⟩
         .rcases List.mem_append.1 h with h|h
          .exact K.one x h
          .rw [List.mem_singleton] at h;subst h;exact hx
         .rw [List.pairwise_append]
          refine ⟨K.apart,List.pairwise_singleton _ _,fun x h y hy u v h1 h2=>?_⟩;rw [List.mem_singleton] at hy
          subst hy;have h2:inR (cn (S l.length)) u v=true:=h2
          rw [Q2k (m _ (Nat.le_refl _))] at h2;simp only [S,Bool.and_eq_true,Bool.not_eq_true',List.take_length] at h2
          have:=List.any_eq_false.1 h2.2 x h
          exact this h1
         .rcases Nat.lt_or_ge i l.length with U|U
          .obtain ⟨R,r1,r2⟩:=K.two i U
           refine ⟨R,r1,fun u v=>?_⟩;rw [W0l _ _ U,List.take_append_of_le_length (by omega)]
           exact r2 u v
          .have h6:i=l.length:=by simp at hi;omega
           subst h6;obtain ⟨w,k2,_,_,_,_,e5⟩:=J.one p.toNat H
           refine ⟨(R0.map (shR (10*p))).map (W1X ⟨10*(p.toNat:Int),0,10*(p.toNat:Int)+w,k2⟩),by simp;omega,fun u v=>?_⟩;rw [W0k,List.take_left' rfl,W1W,Y9C]
           show inR (cn (S l.length)) u v=_;rw [Q2k (m _ (Nat.le_refl _))]
           simp only [S,List.take_length];rw [Y9C,e5,b7]
        obtain ⟨G,N,g,o,A⟩:=ih f td (l++[⟨p+1,⟨cn (S l.length)⟩,c,1+s⟩]) (by omega) (by simp;omega) od b2;refine ⟨G,N,?_,o,A⟩
        unfold Q2h;refine Z6 (decide_eq_true (by omega)) ?_
        refine Q6 (Z7 (by simp only;omega) (by simp only;omega)) (Q2 ec (Q2 ed ?_));refine Q6 (Z7 (by simp only;omega) (by simp only;omega)) (Q6 (by simp [LIM];omega) ?_)
        unfold Q2g;simp only
        rw [ek];exact Q6 (Z7 (by omega) (by omega)) g
      obtain ⟨G,N,g,o,A⟩:=c4;refine ⟨G,N,?_,o,A⟩
      unfold Q3Z;refine Q6 (by simp only;omega) ?_
      refine Q2 ((Q2e X (a:=a.t_.map (shR (10*p))) (b:=(gl rs p.toNat).t_) (how:=2) (by simp;omega) (by have:=(J.val H).1;omega) b6 (J.val H).2.1).trans (congrArg some (congrArg cn a3.symm))) ?_;refine W4 (fun z:List Rect×Int=>∃ n:Nat,z.2=n/\n<=l.length/\z.1=cn (S n)) (fun z=>l.length-z.2.toNat) (fun d z Z M=>?_) ⟨0,rfl,by omega,rfl⟩ (by simp only;omega)
      obtain ⟨V,n0⟩:=z;obtain ⟨n,rfl,I,rfl⟩:=Z
      simp only at I ⊢;unfold Z1U
      refine Q4 (fun h=>?_) (fun h=>?_)
      .have h:n<l.length:=by simpa using h
       refine Q6 (by omega) ?_;simp only [Int.toNat_natCast]
       have hx:=K.one _ (V4 h);refine Q2 ((Q2e X (a:=cn (S n)) (b:=(gl l n).g_.t_) (how:=3) (by have:=(C n I).1;omega) (by have:=hx.val.1;omega) (C n I).2.1 hx.val.2.1).trans (congrArg some (W n h))) ?_
       refine Q6 (Z7 (by omega) (by omega)) (M _ ⟨n+1,by simp,h,rfl⟩ (by simp only;omega))
      .have h:n=l.length:=by
        have:¬ n<l.length:=by simpa using h
        omega
       subst h;exact g
     obtain ⟨G,N,g,o,A⟩:=a4;refine ⟨G,N,?_,o,A⟩
     show Q0W F cs ns rs _ ((k+1:Nat):Int) t.l_ t.at_ l=_;unfold Q0W
     refine Z6 (by simp) (Q2 ea ?_);rw [Z7n]
     refine Q2 eb ?_;refine W4 (fun z:Int×List Rect=>∃ i:Nat,z.1=i/\i<=a.t_.length/\z.2.length=a.t_.length/\∀ j,j<a.t_.length->gl z.2 j=if j<i then shR (10*p) (gl a.t_ j) else gl a.t_ j) (fun z=>a.t_.length-z.1.toNat) (fun d z Z M=>?_)
      ⟨0,rfl,by omega,rfl,fun j _=>by rw [if_neg (by omega)]⟩ (by simp only;omega)
     obtain ⟨i0,V⟩:=z;obtain ⟨i,rfl,hi,O,hV⟩:=Z
     simp only at O hV ⊢;unfold Z1V
     simp only [Int.toNat_natCast];refine Q4 (fun h=>?_) (fun h=>?_)
     .have h:i<a.t_.length:=by simpa using h
      have c0:gl V i=gl a.t_ i:=by rw [hV i h,if_neg (by omega)]
      have hb:=a2 _ (V4 h);have a6:∀ x,gl (V.set i x) i=x:=fun x=>by rw [W0j V i i x (by omega),if_pos rfl]
      simp only [c0,a6];refine Q6 (by omega) (Q6 (Z7 (by omega) (by omega)) (Q6 (Z7 (by omega) (by omega)) (Q6 (by omega) (Q6 (Z7 (by omega) (by omega)) (Q6 (Z7 (by omega) (by omega)) (Q6 (by omega) (Q6 (by rw [List.length_set];omega) (Q6 (Z7 (by omega) (by omega)) ?_))))))))
      refine M _ ⟨i+1,by simp,h,by simp [O],fun j hj=>?_⟩ (by simp only;omega);rw [W0j _ i j _ (by simp;omega)]
      by_cases hij:i=j
      .subst hij
       rw [if_pos rfl,if_pos (by omega)];rfl
      .rw [if_neg hij,W0j V i j _ (by omega),if_neg hij,hV j hj]
       by_cases h6:j<i
       .rw [if_pos h6,if_pos (by omega)]
       .rw [if_neg h6,if_neg (by omega)]
     .have h:i=a.t_.length:=by
       have:¬ i<a.t_.length:=by simpa using h
       omega
      have b5:V=a.t_.map (shR (10*p)):=W2U (by simp [O]) fun j hj=>by
       rw [hV j (by omega),if_pos (by omega),W1J _ _ _ (by omega)]
      rw [b5];exact g
  obtain ⟨t',l,g,o,A,q4⟩:=L k.toNat F G [] (by omega) (by simp;omega) o2 (LinT.nil _ _);refine ⟨t',l,?_,o,A,q4⟩
  unfold Q4a;refine Q6 (Z7 (by omega) (by omega)) (Q2 e2 ?_)
  have:(k.toNat:Int)=k:=by omega
  rw [this] at g;exact g
 have L:∀ (k f:Nat) (t:Tape) (ns:List Int) (rs:List Re_),k<f->TOk t->ns.length=rs.length->rs.length+k=c.toNat->(∀ i,i<rs.length->∃ w h:Int,2<=w/\w<=9/\2<=h/\h<=9/\gl rs i=⟨[⟨10*i,0,10*i+w,h⟩]⟩) ->
   ∃ t' l Y E,Q9 (fun d (z:Int×List Int×Int×List Int×List Re_)=>Q0X F cs most d z.1 z.2.1 z.2.2.1 z.2.2.2.1 z.2.2.2.2) f ((k:Int),t.l_,t.at_,ns,rs)=some (t',l,Y,E)/\TOk t' /\ ParT E /\ LinT (cs.length:Nat) E l/\(l.length:Int)<=most:=by
  intro k
  induction k with
  | zero=>
   intro f t ns rs hf ht B hk P
   cases f with
   | zero=>omega
   | succ f=>
    have J:ParT rs:=⟨by omega,P⟩;obtain ⟨t',l,g,o,A,q4⟩:=Q rs ns t.l_ t.at_ J B ht
    refine ⟨t',l,ns,rs,?_,o,J,A,q4⟩;show Q0X F cs most _ 0 t.l_ t.at_ ns rs=_
    unfold Q0X;exact Q7 rfl g
  | succ k ih=>
   intro f t ns rs hf ht B hk P
   cases f with
   | zero=>omega
   | succ f=>
    obtain ⟨T,w,ea,oa,w1,w2⟩:=U3 (F:=F) ht (lo:=2) (hi:=9) (by omega) (by omega) (by omega);obtain ⟨tb,h,eb,ob,h1,h2⟩:=U3 (F:=F) oa (lo:=2) (hi:=9) (by omega) (by omega) (by omega)
    obtain ⟨t',l,Y,E,g,o⟩:=ih f tb (ns++[((ns.length:Nat):Int)+1]) (rs++[⟨[⟨10*((ns.length:Nat):Int),0,10*((ns.length:Nat):Int)+w,h⟩]⟩]) (by omega) ob (by simp [B]) (by simp;omega) (fun i hi=>by
     rcases Nat.lt_or_ge i rs.length with U|U
     .have e:gl (rs++[(⟨[⟨10*((ns.length:Nat):Int),0,10*((ns.length:Nat):Int)+w,h⟩]⟩:Re_)]) i=gl rs i:=by
       unfold gl;rw [List.getD_eq_getElem?_getD,List.getElem?_append_left U, <-List.getD_eq_getElem?_getD]
      rw [e];exact P i U
     .have h6:i=rs.length:=by simp at hi;omega
      subst h6;refine ⟨w,h,by omega,by omega,by omega,by omega,?_⟩
      unfold gl;rw [List.getD_eq_getElem?_getD,List.getElem?_append_right (Nat.le_refl _),B]
      simp)
    refine ⟨t',l,Y,E,?_,o⟩;show Q0X F cs most _ ((k+1:Nat):Int) t.l_ t.at_ ns rs=_
    unfold Q0X;have ek:((k+1:Nat):Int)-1=(k:Int):=by omega
    refine Z6 (by simp) (Q6 (Z7 (by omega) (by omega)) (Q6 (by simp [LIM];omega) (Q6 (Z7 (by omega) (by omega)) (Q6 (Z7 (by omega) (by omega)) (Q2 ea (Q6 (Z7 (by omega) (by omega)) (Q2 eb (Q6 (by simp [LIM];omega) (Q6 (Z7 (by omega) (by omega)) ?_)))))))));rw [ek]
    exact g
 obtain ⟨t',l,ns,rs,g,o⟩:=L c.toNat F t1 [] [] (by omega) o1 rfl (by simp) (fun i hi=>by simp at hi);refine ⟨t',l,ns,rs,?_,o⟩
 unfold Q4k;refine Q2 e1 ?_
 have:(c.toNat:Int)=c:=by omega
 rw [this] at g;exact g
end
end Go.Ab
end
section
namespace Go.Ab
set_option maxRecDepth 20000
noncomputable section
abbrev Sq:=Int->Int->Bool
structure TR (A:List Rect):Prop where
 val:Val A
 sub:∀ {S:Sq},Fin S->(∀ x y,S x y=true->inR A x y=true)->Val (cn S)
theorem TR.of_pl{A:List Rect}(hv:Val A){d:Int}(h0:0<=d/\d<=100)(hb:PlB d (inR A)):TR A:=⟨hv,fun b a=>(W2s b h0 fun x y h=>hb x y (a x y h)).1⟩
theorem Val.pos{l:List Rect}(h:Val l):∀ r ∈ l,r.L_<r.R_:=fun _ a=>(h.2.2.pos a).1
theorem Y3H{A:List Rect}(h:Val A):cn (inR A)=A:=(Z1p A).1 h.2.2
theorem Y6c:Fin fun _ _=>false:=by
 have:=W6 []
 exact this
theorem Z8B:cn (fun _ _=>false)=[]:=(Z1p []).1 Y4m
theorem Q3I{F:Nat}(hF:BIG<=F){a b:List Rect}(la:a.length<=8000)(lb:b.length<=8000)(pa:∀ r ∈ a,r.L_<r.R_)(pb:∀ r ∈ b,r.L_<r.R_){S T:Sq}(ea:inR a=S)(eb:inR b=T){k:Bool->Bool->Bool}(hk:k false false=false){q:Bool->Bool->Option Bool}(hq:∀ u v,q u v=some (k u v)):
  U4 F a b q=some (cn fun x y=>k (S x y) (T x y)):=by
 subst ea eb;exact Q8P hF (by omega) pa pb hk hq
theorem Y2O{a b:List Rect}{S T:Sq}(ea:inR a=S)(eb:inR b=T)(how:Int):Fin fun x y=>z8 (S x y) (T x y) how:=by
 subst ea eb;exact Q6z a b how
theorem W5{S:Sq}(h:Fin S):inR (cn S)=S:=by
 funext x y;exact Q2k h x y
theorem Z2b{S T:Sq}(hS:Fin S)(hT:Fin T):Fin fun x y=>S x y&&T x y:=Y2O (W5 hS) (W5 hT) 2
theorem Y4T{S T:Sq}(hS:Fin S)(hT:Fin T):Fin fun x y=>S x y||T x y:=Y2O (W5 hS) (W5 hT) 1
theorem Z4w{S T:Sq}(hS:Fin S)(hT:Fin T):Fin fun x y=>S x y && !T x y:=Y2O (W5 hS) (W5 hT) 3
theorem Z0P(F:Nat)(u v:Bool):Q8I F u v=some (u&&v):=by
 unfold Q8I Z0Q;cases u <;> rfl
theorem Z5r(F:Nat)(u v:Bool):Q9G F u v=some (u||v):=by
 unfold Q9G Q7B;cases u <;> rfl
theorem Z0f(F:Nat)(u v:Bool):Q5B F u v=some (u && !v):=by
 unfold Q5B Q6F;cases u <;> rfl
structure TS where
 Y:Sq
 N:Sq
def TS.O(A:List Rect)(s:TS):Sq:=fun x y=>(inR A x y && !s.Y x y) && !s.N x y
structure TIn (A:List Rect) (s:TS):Prop where
 fY:Fin s.Y
 fN:Fin s.N
 sY:∀ x y,s.Y x y=true->inR A x y=true
 sN:∀ x y,s.N x y=true->inR A x y=true
theorem TIn.fO{A:List Rect}{s:TS}(h:TIn A s):Fin (s.O A):=Z4w (Z4w (W6 A) h.fY) h.fN
theorem TIn.vY{A:List Rect}(ht:TR A){s:TS}(h:TIn A s):Val (cn s.Y):=ht.sub h.fY h.sY
theorem TIn.vN{A:List Rect}(ht:TR A){s:TS}(h:TIn A s):Val (cn s.N):=ht.sub h.fN h.sN
theorem TIn.vO{A:List Rect}(ht:TR A){s:TS}(h:TIn A s):Val (cn (s.O A)):=ht.sub h.fO fun x y a=>by
 unfold TS.O at a
 cases hA:inR A x y with
 | true=>rfl
 | false=>rw [hA] at a;cases a
def TS.sqs(A:List Rect)(s:TS):Squares:=⟨cn s.Y,cn s.N,cn (s.O A)⟩
def TS.tru(A:List Rect)(s:TS):Ref16Truth:=⟨cn s.Y,cn s.N,cn (s.O A)⟩
theorem Val.le8{l:List Rect}(h:Val l):l.length<=8000:=by have:=h.1;omega
theorem Z3V{F:Nat}(hF:BIG<=F){p:TermPlace}{A:List Rect}(hp:p.t_=A)(ht:TR A){s:TS}(h:TIn A s):Q2v F p (cn s.Y) (cn s.N)=some (s.sqs A):=by
 unfold Q2v;subst hp
 have a:Val (cn fun x y=>inR p.t_ x y && !s.Y x y):=ht.sub (Z4w (W6 _) h.fY) fun x y b=>by
  cases hA:inR p.t_ x y with
  | true=>rfl
  | false=>rw [hA] at b;cases b
 refine Q2 (Q3I hF ht.val.le8 (h.vY ht).le8 ht.val.pos (h.vY ht).pos rfl (W5 h.fY) (k:=fun u v=>u && !v) rfl (Z0f F)) (Q2 (Q3I hF a.le8 (h.vN ht).le8 a.pos (h.vN ht).pos (W5 (Z4w (W6 _) h.fY)) (W5 h.fN) (k:=fun u v=>u && !v) rfl (Z0f F)) rfl)
theorem Q8q{F:Nat}(hF:BIG<=F){a b:List Rect}(h:a.length+b.length<=32768){S T:Sq}(ea:inR a=S)(eb:inR b=T)(how:Int):Y6 F a b how=some (cn fun x y=>z8 (S x y) (T x y) how):=by
 subst ea eb;exact Q3g hF h
def cut(A:List Rect)(s:TS):TS:=⟨fun x y=>inR A x y&&s.Y x y,fun x y=>inR A x y&&s.N x y⟩
theorem W3b{A:List Rect}{s:TS}(h1:Fin s.Y)(h2:Fin s.N):TIn A (cut A s):=by
 refine ⟨Z2b (W6 A) h1,Z2b (W6 A) h2,fun x y a=>?_,fun x y a=>?_⟩
 .unfold cut at a
  cases hA:inR A x y with
  | true=>rfl
  | false=>simp [hA] at a
 .unfold cut at a
  cases hA:inR A x y with
  | true=>rfl
  | false=>simp [hA] at a
theorem Z9F{A:List Rect}{s:TS}(h:TIn A s):cut A s=s:=by
 obtain ⟨Y,N⟩:=s;unfold cut
 congr 1
 .funext x y
  show (inR A x y&&Y x y)=Y x y
  cases hy:Y x y with
  | false=>simp
  | true=>rw [h.sY x y hy];rfl
 .funext x y
  show (inR A x y&&N x y)=N x y
  cases hy:N x y with
  | false=>simp
  | true=>rw [h.sN x y hy];rfl
theorem Q4r{F:Nat}(hF:BIG<=F){p:Ref16Place}{A:List Rect}(hp:p.line_.g_.t_=A)(ht:TR A){a b:List Rect}(la:a.length<=16000)(lb:b.length<=16000){s:TS}(ea:inR a=s.Y)(eb:inR b=s.N):Q0a F p a b=some ((cut A s).tru A):=by
 unfold Q0a;subst hp
 have c:=ht.val.1;have h:TIn p.line_.g_.t_ (cut p.line_.g_.t_ s):=W3b (ea ▸ W6 a) (eb ▸ W6 b)
 have k:=h.vY ht;have i:=h.vN ht
 have d:=Z4w (W6 p.line_.g_.t_) h.fY;have g:=ht.sub d fun x y e=>by
  cases c:inR p.line_.g_.t_ x y with
  | true=>rfl
  | false=>rw [c] at e;cases e
 refine Q2 (Q8q hF (by omega) rfl ea 2) (Q2 (Q8q hF (by omega) rfl eb 2) (Q2 (Q8q hF ?_ rfl (W5 h.fY) 3) (Q2 (Q8q hF ?_ (W5 d) (W5 h.fN) 3) rfl)))
 .have:=k.1
  exact Nat.le_trans (Nat.add_le_add c this) (by omega)
 .have j:=g.1
  have f:=i.1;exact Nat.le_trans (Nat.add_le_add j f) (by omega)
end
end Go.Ab
end
section
namespace Go.Ab
set_option maxRecDepth 20000
noncomputable section
structure EV (y:Int) (cs:List Crop) (hs:List Rg_) (zs:List A2_) (c:Int) (A:List Rect):Prop where
 tr:TR A
 crop:0<=c/\c<(cs.length:Nat)
 fam:0<=(gl cs c.toNat).f_
 mrk:0<=(gl cs c.toNat).m_/\(gl cs c.toNat).m_<=31
 few:FewR hs
 hb:∀ f ∈ hs,Box (15:Nat) f.g_.t_
 hc:∀ f ∈ hs,0<=f.c_/\f.c_<(cs.length:Nat)
 yr:0<=y/\y<=100
 zs:LB 15 zs
theorem Y5d{S:Sq}(hf:Fin S)(hb:∀ x y,S x y=true->0<=x/\x<(15:Nat)/\0<=y/\y<(15:Nat)):(cn S).length<=120:=(Y1Q hf (n:=15) (by omega) hb).1.1
theorem Y9i{l:List Rg_}(hb:∀ f ∈ l,Box (15:Nat) f.g_.t_)(y:Int)(p:Int->Bool):Box (15:Nat) (yrs l y p):=fun r a=>by
 unfold yrs at a;obtain ⟨f,b,h⟩:=List.mem_flatMap.1 a
 exact hb f (List.mem_filter.1 b).1 r h
theorem W1f(a b:List Rg_)(y:Int)(p:Int->Bool):yrs (a++b) y p=yrs a y p++yrs b y p:=by simp [yrs]
theorem W1O{l:List Rg_}(h:FewR l)(y:Int)(p:Int->Bool):(yrs l y p).length<=420:=by
 by_cases h0:l.length=0
 .rw [List.eq_nil_of_length_eq_zero h0];simp [yrs]
 .have d:=h.few y p (l.length-1) (by omega)
  have e:l=l.take (l.length-1)++[gl l (l.length-1)]:=by
   have:=J6 (l:=l) (i:=l.length-1) (by omega)
   rw [<-this,show l.length-1+1=l.length by omega,List.take_length]
  have c:(yrs [gl l (l.length-1)] y p).length<=120:=by
   have a:=((Q4w _).1 (h.hl.one _ (V4 (l:=l) (i:=l.length-1) (by omega)))).2.2.2.2.2;have:=a.1
   unfold yrs;rw [List.filter_cons]
   split
   .simpa using this
   .simp
  have b:=congrArg (fun m=>(yrs m y p).length) e;simp only [W1f,List.length_append] at b
  omega
theorem Z9Q{l:List Rg_}(h:HL l)(y:Int)(p q:Int->Bool)(hpq:∀ f ∈ l,q f.c_=!p f.c_)(u v:Int):inR (yrs l y q) u v=(inR (yrs l y fun _=>true) u v && !inR (yrs l y p) u v):=by
 rw [Bool.eq_iff_iff,Bool.and_eq_true,Bool.not_eq_true',Y4v,Y4v];constructor
 .rintro ⟨f,k,m,D,c⟩
  refine ⟨⟨f,k,m,rfl,c⟩,?_⟩;rw [<-Bool.not_eq_true,Y4v]
  rintro ⟨g,G,s,A,d⟩;obtain ⟨i,z,rfl⟩:=List.mem_iff_getElem.1 k
  obtain ⟨j,x,rfl⟩:=List.mem_iff_getElem.1 G;have n:=List.pairwise_iff_getElem.1 h.nx
  have t:=((Q4w _).1 (h.one _ (List.getElem_mem z))).2.2.2.2.2;have o:=((Q4w _).1 (h.one _ (List.getElem_mem x))).2.2.2.2.2
  have r:∀ a b:Re_,Val a.t_->Val b.t_->Q3z a b=false->inR a.t_ u v=true->inR b.t_ u v=true->False:=fun a b B C w H F=>by
   unfold Q3z at w;rw [(Q0Q _).2 B,(Q0Q _).2 C,Bool.true_and,Bool.true_and] at w
   rw [<-Bool.not_eq_true,Y1B B.2.1 C.2.1] at w;exact w ⟨u,v,H,F⟩
  rcases Nat.lt_trichotomy i j with e|rfl|e
  .exact r _ _ t o (n i j z x e (m.trans s.symm)) c d
  .rw [hpq _ k,A] at D;cases D
  .exact r _ _ o t (n j i x z e (s.trans m.symm)) d c
 .rintro ⟨⟨f,k,m,_,c⟩,E⟩
  refine ⟨f,k,m,?_,c⟩;rw [hpq f k]
  cases A:p f.c_ with
  | false=>rfl
  | true=>
   rw [<-Bool.not_eq_true,Y4v] at E;exact (E ⟨f,k,m,A,c⟩).elim
def knS(A:List Rect)(hs:List Rg_)(y:Int)(p:Int->Bool):Sq:=fun u v=>inR A u v&&inR (yrs hs y p) u v
theorem Z4x(A:List Rect)(hs:List Rg_)(y:Int)(p:Int->Bool):Fin (knS A hs y p):=Z2b (W6 A) (W6 _)
theorem Y0p{A:List Rect}{hs:List Rg_}{y:Int}{p:Int->Bool}{u v:Int}(h:knS A hs y p u v=true):inR A u v=true:=by
 unfold knS at h;rw [Bool.and_eq_true] at h
 exact h.1
variable {F:Nat} {cs:List Crop} {hs:List Rg_} {zs:List A2_} {y c d:Int} {A:List Rect}
theorem Q6i(hF:BIG<=F)(h:EV y cs hs zs c A){p:TermPlace}(e1:p.world_.history_=hs)(e2:p.world_.y_=y)(e3:p.t_=A){n:Int}(n0:0<=n)(n1:n<=1000){q:Int->Option Bool}(s:Int->Bool)(hq:∀ f ∈ hs,q f.c_=some (s f.c_)):Q0w F p n q=some (cn (knS A hs (y-n) s)):=by
 subst e1 e2 e3;have e:=h.yr
 unfold Q0w;have b:=Y9i h.hb (p.world_.y_-n) s
 have:=W1O h.few (p.world_.y_-n) s
 exact Q6 (Z7 (by omega) (by omega)) (Q2 (Y0t hF h.few.hl _ s hq) (Q2 (Q3I hF h.tr.val.le8 (by omega) h.tr.val.pos (fun r a=>(b r a).2.1) rfl rfl (k:=fun u v=>u&&v) rfl (Z0P F)) rfl))
end
end Go.Ab
end
section
namespace Go.Ab
set_option maxRecDepth 20000
noncomputable section
def Y0D(cs:List Crop)(f:Int)(k:Int):Bool:=(gl cs k.toNat).f_==f
def Z9r(cs:List Crop)(f:Int)(k:Int):Bool:=(gl cs k.toNat).f_ != f
def smS(A:List Rect)(hs:List Rg_)(cs:List Crop)(y f:Int):Nat->TS
 | 0=>⟨inR A,fun _ _=>false⟩
 | k+1=>⟨fun u v=>(smS A hs cs y f k).Y u v&&knS A hs (y-((k+1:Nat):Int)) (Y0D cs f) u v,fun u v=>(smS A hs cs y f k).N u v||knS A hs (y-((k+1:Nat):Int)) (Z9r cs f) u v⟩
theorem Y2e(A:List Rect)(hs:List Rg_)(cs:List Crop)(y f:Int):∀ k,TIn A (smS A hs cs y f k)
 | 0=>⟨W6 A,Y6c,fun _ _ h=>h,fun _ _ h=>by cases h⟩
 | k+1=>by
  have a:=Y2e A hs cs y f k;refine ⟨Z2b a.fY (Z4x _ _ _ _),Y4T a.fN (Z4x _ _ _ _),fun u v h=>?_,fun u v h=>?_⟩
  .unfold smS at h
   simp only [Bool.and_eq_true] at h;exact a.sY u v h.1
  .unfold smS at h
   simp only [Bool.or_eq_true] at h;rcases h with h|h
   .exact a.sN u v h
   .exact Y0p h
variable {F:Nat} {cs:List Crop} {hs:List Rg_} {zs:List A2_} {y c d:Int} {A:List Rect}
theorem EV.kn_val(h:EV y cs hs zs c A)(k:Int)(p:Int->Bool):Val (cn (knS A hs k p)):=h.tr.sub (Z4x _ _ _ _) fun _ _ h=>Y0p h
theorem Y4w(hF:BIG<=F)(h:EV y cs hs zs c A){p:TermPlace}(e1:p.world_.history_=hs)(e2:p.world_.y_=y)(e3:p.t_=A)(e4:p.world_.crops_=cs)(e5:p.line_.c_=c){n:Nat}(n0:1<=n)(n1:n<=100):
  Q6G F p (n:Int)=some ((smS A hs cs y (gl cs c.toNat).f_ (n-1)).sqs A):=by
 have b:=hF;unfold BIG at b
 have j:=h.crop;unfold Q6G
 have e:∀ (m f k:Nat),k+m=n-1->m<f->Q9 (fun again (z:(List Rect)×(List Rect)×Int)=>Q0U F p (n:Int) again z.1 z.2.1 z.2.2) f (cn (smS A hs cs y (gl cs c.toNat).f_ k).Y,cn (smS A hs cs y (gl cs c.toNat).f_ k).N,((k:Nat):Int)+1)=some ((smS A hs cs y (gl cs c.toNat).f_ (n-1)).sqs A):=by
  intro m
  induction m with
  | zero=>
   intro f k w r;obtain ⟨f,rfl⟩:∃ g,f=g+1:=⟨f-1,by omega⟩
   show Q0U F p (n:Int) (Q9 _ f) _ _ (((k:Nat):Int)+1)=_;unfold Q0U
   refine Q7 (decide_eq_false (by omega)) ?_;unfold Q6X
   rw [show n-1=k by omega];exact Q2 (Z3V hF e3 h.tr (Y2e _ _ _ _ _ k)) rfl
  | succ m ih=>
   intro f k w r;obtain ⟨f,rfl⟩:∃ g,f=g+1:=⟨f-1,by omega⟩
   show Q0U F p (n:Int) (Q9 _ f) _ _ (((k:Nat):Int)+1)=_;unfold Q0U
   have a:=Y2e A hs cs y (gl cs c.toNat).f_ k;have q:∀ g ∈ hs,Q4I F g.c_ p (gl p.world_.crops_ p.line_.c_.toNat).f_=some (Y0D cs (gl cs c.toNat).f_ g.c_):=fun g i=>by
    unfold Q4I;rw [e4,e5]
    exact Q6 (h.hc g i) rfl
   have t:∀ g ∈ hs,Q4H F g.c_ p (gl p.world_.crops_ p.line_.c_.toNat).f_=some (Z9r cs (gl cs c.toNat).f_ g.c_):=fun g i=>by
    unfold Q4H;rw [e4,e5]
    exact Q6 (h.hc g i) rfl
   have l:=h.kn_val (y-(((k:Nat):Int)+1)) (Y0D cs (gl cs c.toNat).f_);have o:=h.kn_val (y-(((k:Nat):Int)+1)) (Z9r cs (gl cs c.toNat).f_)
   have s:=ih f (k+1) (by omega) (by omega);refine Z6 (decide_eq_true (by omega)) (Q2 (Q6i hF h e1 e2 e3 (by omega) (by omega) _ q) (Q2 (Q6i hF h e1 e2 e3 (by omega) (by omega) _ t) (Q2 (Q3I hF (a.vY h.tr).le8 l.le8 (a.vY h.tr).pos l.pos (W5 a.fY) (W5 (Z4x _ _ _ _)) (k:=fun u v=>u&&v) rfl (Z0P F)) (Q2 (Q3I hF (a.vN h.tr).le8 o.le8 (a.vN h.tr).pos o.pos (W5 a.fN) (W5 (Z4x _ _ _ _)) (k:=fun u v=>u||v) rfl (Z5r F)) (Q6 (Z7 (by omega) (by omega)) ?_)))))
   exact s
 refine Q6 (by rw [e4,e5];exact j) ?_;have:=e (n-1) F 0 (by omega) (by omega)
 show Q9 _ F (p.t_,[],(1:Int))=_;rw [e3]
 rw [show (smS A hs cs y (gl cs c.toNat).f_ 0)=⟨inR A,fun _ _=>false⟩ from rfl] at this;simp only [Y3H h.tr.val,Z8B] at this
 exact this
def Z6C(A:List Rect)(b:Bool):TS:=if b then ⟨inR A,fun _ _=>false⟩ else ⟨fun _ _=>false,inR A⟩
theorem Y0L(A:List Rect)(b:Bool):TIn A (Z6C A b):=by
 cases b
 .exact ⟨Y6c,W6 A,fun _ _ h=>(by cases h),fun _ _ h=>h⟩
 .exact ⟨W6 A,Y6c,fun _ _ h=>h,fun _ _ h=>by cases h⟩
theorem Y8q(A:List Rect)(b:Bool):(Z6C A b).O A=fun _ _=>false:=by
 funext u v
 cases b <;> simp [Z6C,TS.O]
theorem Q9n{p:TermPlace}(e3:p.t_=A)(hv:Val A)(b:Bool):Q0T F p b=some ((Z6C A b).sqs A):=by
 unfold Q0T TS.sqs;rw [Y8q,Z8B,e3]
 cases b
 .refine Q7 rfl ?_
  show some _=some (Squares.mk (cn fun _ _=>false) (cn (inR A)) []);rw [Z8B,Y3H hv]
 .refine Z6 rfl ?_
  show some _=some (Squares.mk (cn (inR A)) (cn fun _ _=>false) []);rw [Z8B,Y3H hv]
theorem Z1d{p:Ref16Place}(e3:p.line_.g_.t_=A)(hv:Val A)(b:Bool):Q1u F p b=some ((Z6C A b).tru A):=by
 unfold Q1u TS.tru;rw [Y8q,Z8B,e3]
 cases b
 .refine Q7 rfl ?_
  show some _=some (Ref16Truth.mk (cn fun _ _=>false) (cn (inR A)) []);rw [Z8B,Y3H hv]
 .refine Z6 rfl ?_
  show some _=some (Ref16Truth.mk (cn (inR A)) (cn fun _ _=>false) []);rw [Z8B,Y3H hv]
def Z8A(A:List Rect)(S:Sq):TS:=⟨fun u v=>inR A u v&&S u v,fun u v=>inR A u v && !S u v⟩
theorem W0u{A:List Rect}{S:Sq}(h:Fin S):TIn A (Z8A A S):=by
 refine ⟨Z2b (W6 A) h,Z4w (W6 A) h,fun u v a=>?_,fun u v a=>?_⟩
 .simp only [Z8A,Bool.and_eq_true] at a
  exact a.1
 .simp only [Z8A,Bool.and_eq_true] at a
  exact a.1
theorem W3u(A:List Rect)(S:Sq):(Z8A A S).O A=fun _ _=>false:=by
 funext u v
 simp only [Z8A,TS.O]
 cases inR A u v <;> cases S u v <;> rfl
theorem Z4G(hF:BIG<=F){p:TermPlace}(e3:p.t_=A)(ht:TR A){S:Sq}(h:Fin S):Q1U F p (cn fun u v=>inR A u v&&S u v)=some ((Z8A A S).sqs A):=by
 unfold Q1U TS.sqs;have b:=Z2b (W6 A) h
 have a:=ht.sub b fun u v e=>by
  simp only [Bool.and_eq_true] at e;exact e.1
 rw [W3u,Z8B,e3];refine Q2 (Q3I hF ht.val.le8 a.le8 ht.val.pos a.pos rfl (W5 b) (k:=fun u v=>u && !v) rfl (Z0f F)) ?_
 rw [show (fun u v=>inR A u v && !(inR A u v&&S u v))=(Z8A A S).N from ?_]
 .rfl
 .funext u v
  simp only [Z8A]
  cases inR A u v <;> cases S u v <;> rfl
end
end Go.Ab
end
section
namespace Go.Ab
set_option maxRecDepth 20000
noncomputable section
theorem Y7F{R:Type}{body:(Int->Option R)->Int->Option R}{c y:Option R}(N:Nat)(p:Nat->Bool)(bad:∀ again (i:Nat),i<N->p i=true->body again (i:Int)=c)(good:∀ again (i:Nat) z,i<N->p i=false->again ((i:Int)+1)=z->body again (i:Int)=z)(stop:∀ again,body again (N:Int)=y){F:Nat}(hF:N<F):Q9 body F 0=if (List.range N).any p=true then c else y:=by
 refine W4 (fun z:Int=>∃ i:Nat,z=i/\i<=N/\∀ j,j<i->p j=false) (fun z=>N-z.toNat) (fun again z e f=>?_) ⟨0,rfl,Nat.zero_le _,fun j h=>absurd h (Nat.not_lt_zero j)⟩ (by simp;omega);obtain ⟨i,rfl,g,a⟩:=e
 rcases Nat.lt_or_ge i N with h|h
 .cases hpi:p i with
  | true=>
   rw [if_pos (List.any_eq_true.2 ⟨i,List.mem_range.2 h,hpi⟩)];exact bad again i h hpi
  | false=>
   refine good again i _ h hpi (f _ ⟨i+1,by omega,h,fun j b=>?_⟩ (by omega))
   by_cases hji:j=i
   .rw [hji];exact hpi
   .exact a j (by omega)
 .have:i=N:=by omega
  subst this;rw [if_neg (by rw [Bool.not_eq_true,List.any_eq_false];intro j b;rw [a j (List.mem_range.1 b)];simp)]
  exact stop again
end
end Go.Ab
end
section
namespace Go.Ab
set_option maxRecDepth 20000
noncomputable section
end
end Go.Ab
end
section
namespace Go.Ab
set_option maxRecDepth 20000
noncomputable section
theorem Z6c{F:Nat}(hF:BIG<=F)(s:ByteArray):Z1O F s=some (Q1a s):=by
 unfold BIG at hF;unfold Z1O
 have g:Q1a s=false->Q1J F s true=some (Q1a s):=fun h=>by unfold Q1J;rw [h];exact Z6 rfl rfl
 refine Q4 (fun h=>g ?_) (fun h=>?_)
 .have h:=of_decide_eq_true h
  unfold Q1a;rw [decide_eq_false (by omega:¬ 1<=s.size)];rfl
 have t:1<=s.size:=by have:=of_decide_eq_false h;omega
 refine Q4 (fun h=>g ?_) (fun h=>?_)
 .have h:=of_decide_eq_true h
  unfold Q1a;rw [decide_eq_false (by omega:¬ s.size<=12)];simp
 have r:s.size<=12:=by have:=of_decide_eq_false h;omega
 have m:Q1a s=decide (∀ i,i<s.size->(Z5e (sAt s (i:Nat))||(!decide (i=0)&&Y3F (sAt s (i:Nat))))=true):=by
  unfold Q1a;rw [decide_eq_true t,decide_eq_true r];simp
 have j:Z5e (sAt s (0:Int))=false->Q1a s=false:=fun h=>by
  rw [m,decide_eq_false_iff_not];intro f
  have:=f 0 (by omega)
  rw [show (((0:Nat):Int))=0 from rfl,h] at this;simp at this
 refine Q6 (by omega) (Q4 (fun h=>g (j ?_)) (fun h=>?_))
 .have h:=of_decide_eq_true h
  unfold Z5e;rw [decide_eq_false (by omega)];rfl
 have u:=of_decide_eq_false h;refine Q6 (by omega) ?_
 by_cases h4:122<sAt s (0:Int)
 .rw [decide_eq_true h4]
  refine g (j ?_);unfold Z5e;rw [decide_eq_false (by omega:¬ sAt s (0:Int)<=122)];simp
 rw [decide_eq_false h4];have o:Z5e (sAt s (0:Int))=true:=by
  unfold Z5e;rw [decide_eq_true (by omega),decide_eq_true (by omega)];rfl
 unfold Q1J;refine Q7 rfl ?_
 refine (Y7F (c:=some false) (y:=some true) s.size (fun i=> !(Z5e (sAt s (i:Nat))||Y3F (sAt s (i:Nat)))) (fun a i l b=>?_) (fun a i z l b m=>?_) (fun a=>?_) (by omega)).trans ?_
 .rw [Bool.not_eq_true',Bool.or_eq_false_iff] at b
  unfold Z5e Y3F at b;unfold Q9y
  have k2:y9 F (i:Int) a true=some false:=by unfold y9;exact Z6 rfl rfl
  refine Z6 (decide_eq_true (by omega)) (Q6 (by omega) ?_);have q:gd (0<=(i:Int)/\(i:Int)<((s.size:Nat):Int)) (br (decide (sAt s (i:Nat)<48)) (y9 F (i:Int) a true) (gd (0<=(i:Int)/\(i:Int)<((s.size:Nat):Int)) (y9 F (i:Int) a (decide (57<sAt s (i:Nat))))))=some false:=by
   refine Q6 (by omega) (Q4 (fun _=>k2) (fun e=>Q6 (by omega) ?_));have e:=of_decide_eq_false e
   rw [decide_eq_true (p:=57<sAt s (i:Nat))]
   .exact k2
   .have k:=b.2
    rw [decide_eq_true (by omega:48<=sAt s (i:Nat)),Bool.true_and,decide_eq_false_iff_not] at k;omega
  refine Q4 (fun _=>q) (fun e=>Q6 (by omega) ?_);refine Z6 ?_ q
  have e:=of_decide_eq_false e;have k:=b.1
  rw [decide_eq_true (by omega:97<=sAt s (i:Nat)),Bool.true_and,decide_eq_false_iff_not] at k;exact decide_eq_true (by omega)
 .rw [Bool.not_eq_false',Bool.or_eq_true] at b
  unfold Z5e Y3F at b;rw [Bool.and_eq_true,Bool.and_eq_true,decide_eq_true_eq,decide_eq_true_eq,decide_eq_true_eq,decide_eq_true_eq] at b
  unfold Q9y;have k2:y9 F (i:Int) a false=z:=by unfold y9;exact Q7 rfl (Q6 (Z7 (by omega) (by omega)) m)
  refine Z6 (decide_eq_true (by omega)) (Q6 (by omega) ?_);refine Q4 (fun e=>?_) (fun e=>?_)
  .have e:=of_decide_eq_true e
   refine Q6 (by omega) (Q7 (decide_eq_false (by omega)) (Q6 (by omega) ?_));rw [decide_eq_false (p:=57<sAt s (i:Nat)) (by omega)];exact k2
  .have e:=of_decide_eq_false e
   refine Q6 (by omega) (Q4 (fun k=>?_) (fun k=>k2));have k:=of_decide_eq_true k
   refine Q6 (by omega) (Q7 (decide_eq_false (by omega)) (Q6 (by omega) ?_));rw [decide_eq_false (p:=57<sAt s (i:Nat)) (by omega)];exact k2
 .unfold Q9y
  exact Q7 (decide_eq_false (by omega)) rfl
 .rw [m]
  split
  .rename_i n
   congr 1
   symm
   rw [decide_eq_false_iff_not];intro f
   obtain ⟨i,l,b⟩:=List.any_eq_true.1 n;have:=f i (List.mem_range.1 l)
   rw [Bool.not_eq_true',Bool.or_eq_false_iff] at b;rw [b.1,b.2] at this
   simp at this
  .rename_i n
   congr 1
   symm
   rw [decide_eq_true_eq];intro i l
   rw [Bool.not_eq_true,List.any_eq_false] at n;have:=n i (List.mem_range.2 l)
   rw [Bool.not_eq_true,Bool.not_eq_false'] at this
   by_cases h0:i=0
   .subst h0;rw [show (((0:Nat):Int))=0 from rfl,o];rfl
   .rw [decide_eq_false h0];simpa using this
theorem Y5C{body:(Int->Option Int)->Int->Option Int}(N:Nat)(p:Nat->Int)(bad:∀ again (i:Nat),i<N->p i≠0->body again (i:Int)=some (p i))(good:∀ again (i:Nat) z,i<N->p i=0->again ((i:Int)+1)=z->body again (i:Int)=z)(stop:∀ again,body again (N:Int)=some 0){F:Nat}(hF:N<F):Q9 body F 0=some ((((List.range N).map p).find? fun c=>c != 0).getD 0):=by
 refine W4 (fun z:Int=>∃ i:Nat,z=i/\i<=N/\∀ j,j<i->p j=0) (fun z=>N-z.toNat) (fun again z l m=>?_) ⟨0,rfl,Nat.zero_le _,fun j h=>absurd h (Nat.not_lt_zero j)⟩ (by simp;omega);obtain ⟨i,rfl,o,k⟩:=l
 rcases Nat.lt_or_ge i N with h|h
 .by_cases hpi:p i=0
  .refine good again i _ h hpi (m _ ⟨i+1,by omega,h,fun j a=>?_⟩ (by omega))
   by_cases hji:j=i
   .rw [hji];exact hpi
   .exact k j (by omega)
  .rw [bad again i h hpi]
   congr 1
   have e:List.range N=List.range i++i::(List.range N).drop (i+1):=by
    have n:(List.range N).take i=List.range i:=by rw [List.take_range];congr 1;omega
    have g:=List.take_append_drop i (List.range N);rw [n,List.drop_eq_getElem_cons (by simpa using h)] at g
    rw [List.getElem_range] at g;exact g.symm
   have f:(((List.range i).map p).find? fun c=>c != 0)=none:=List.find?_eq_none.2 fun c b=>by
    obtain ⟨j,a,rfl⟩:=List.mem_map.1 b;rw [k j (List.mem_range.1 a)];simp
   rw [e,List.map_append,List.find?_append,f,Option.none_or,List.map_cons,List.find?_cons];have:(p i != 0)=true:=by simpa using hpi
   rw [this];rfl
 .have:i=N:=by omega
  subst this;rw [stop again]
  congr 1
  have f:(((List.range i).map p).find? fun c=>c != 0)=none:=List.find?_eq_none.2 fun c b=>by
   obtain ⟨j,a,rfl⟩:=List.mem_map.1 b;rw [k j (List.mem_range.1 a)];simp
  rw [f];rfl
def crE(l:List Crop)(i:Nat):Int:=
 if Q1a (gl l i).n_=false then 5 else if (gl l i).f_<0\/40<(gl l i).f_ then 2 else if (gl l i).m_<0\/31<(gl l i).m_ then 14
 else if 0<i/\(sLt (gl l i).n_ (gl l (i-1)).n_||sEq (gl l i).n_ (gl l (i-1)).n_)=true then 6 else 0
def crC(l:List Crop):Int:=if 40<l.length then 1 else (((List.range l.length).map (crE l)).find? fun c=>c != 0).getD 0
def NmS(l:List Crop):Prop:=∀ x ∈ l,x.n_.size<=4294967296
theorem W3H{l:List Crop}{i:Nat}(h:Q1a (gl l i).n_=false):crE l i=5:=by unfold crE;rw [if_pos h]
theorem W3I{l:List Crop}{i:Nat}(h:Q1a (gl l i).n_=true)(h2:(gl l i).f_<0\/40<(gl l i).f_):crE l i=2:=by
 unfold crE;rw [if_neg (by rw [h];simp),if_pos h2]
theorem W3w{l:List Crop}{i:Nat}(h:Q1a (gl l i).n_=true)(h2:¬ ((gl l i).f_<0\/40<(gl l i).f_))(h3:(gl l i).m_<0\/31<(gl l i).m_):crE l i=14:=by
 unfold crE;rw [if_neg (by rw [h];simp),if_neg h2,if_pos h3]
theorem W3v{l:List Crop}{i:Nat}(h:Q1a (gl l i).n_=true)(h2:¬ ((gl l i).f_<0\/40<(gl l i).f_))(h3:¬ ((gl l i).m_<0\/31<(gl l i).m_))(h4:0<i/\(sLt (gl l i).n_ (gl l (i-1)).n_||sEq (gl l i).n_ (gl l (i-1)).n_)=true):crE l i=6:=by
 unfold crE;rw [if_neg (by rw [h];simp),if_neg h2,if_neg h3,if_pos h4]
theorem W1Y{l:List Crop}{i:Nat}(h:Q1a (gl l i).n_=true)(h2:¬ ((gl l i).f_<0\/40<(gl l i).f_))(h3:¬ ((gl l i).m_<0\/31<(gl l i).m_))(h4:¬ (0<i/\(sLt (gl l i).n_ (gl l (i-1)).n_||sEq (gl l i).n_ (gl l (i-1)).n_)=true)):crE l i=0:=by
 unfold crE;rw [if_neg (by rw [h];simp),if_neg h2,if_neg h3,if_neg h4]
theorem Z6y{F:Nat}(hF:BIG<=F){l:List Crop}(hn:NmS l):Q9l F l=some (crC l):=by
 have u:=hF;unfold BIG at hF
 unfold Q9l crC;refine Q4 (fun h=>?_) (fun h=>?_)
 .rw [if_pos (by have:=of_decide_eq_true h;omega)]
 have w:l.length<=40:=by have:=of_decide_eq_false h;omega
 rw [if_neg (by omega)];have e:∀ (a:Int->Option Int) (i:Nat),i<l.length->Q4y F l a (i:Int)=if crE l i=0 then a ((i:Int)+1) else some (crE l i):=by
  intro a i j;unfold Q4y
  simp only [Int.toNat_natCast];have hs:=hn _ (V4 j)
  refine Z6 (decide_eq_true (by omega)) (Q6 (by omega) (Q2 (Z2K (by omega) hs) ?_));refine Q4 (fun b=>?_) (fun b=>?_)
  .have b:Q1a (gl l i).n_=false:=by simpa using b
   rw [W3H b,if_neg (by decide)]
  have b:Q1a (gl l i).n_=true:=by simpa using b
  have k:(gl l i).f_<0\/40<(gl l i).f_->Q3b F l (i:Int) a true=if crE l i=0 then a ((i:Int)+1) else some (crE l i):=fun h=>by
   rw [W3I b h,if_neg (by decide)];unfold Q3b
   exact Z6 rfl rfl
  refine Q4 (fun p=>k (.inl (of_decide_eq_true p))) (fun p=>?_);have p:=of_decide_eq_false p
  by_cases h3:40<(gl l i).f_
  .rw [decide_eq_true h3];exact k (.inr h3)
  have o:¬ ((gl l i).f_<0\/40<(gl l i).f_):=by omega
  rw [decide_eq_false h3];unfold Q3b
  simp only [Int.toNat_natCast];refine Q7 rfl ?_
  have g:(gl l i).m_<0\/31<(gl l i).m_->Q3a F l (i:Int) a true=if crE l i=0 then a ((i:Int)+1) else some (crE l i):=fun h=>by
   rw [W3w b o h,if_neg (by decide)];unfold Q3a
   exact Z6 rfl rfl
  refine Q4 (fun m=>g (.inl (of_decide_eq_true m))) (fun m=>?_);have m:=of_decide_eq_false m
  by_cases h5:31<(gl l i).m_
  .rw [decide_eq_true h5];exact g (.inr h5)
  have q:¬ ((gl l i).m_<0\/31<(gl l i).m_):=by omega
  rw [decide_eq_false h5];unfold Q3a
  simp only [Int.toNat_natCast];refine Q7 rfl ?_
  refine Q4 (fun f=>?_) (fun f=>?_)
  .have f:0<i:=by have:=of_decide_eq_true f;omega
   have v:((i:Int)-1).toNat=i-1:=by omega
   refine Q6 (Z7 (by omega) (by omega)) (Q6 (by omega) ?_);rw [v]
   unfold Q2Z;refine Q4 (fun n=>?_) (fun n=>?_)
   .rw [W3v b o q ⟨f,n⟩,if_neg (by decide)]
   .rw [W1Y b o q (fun r=>by rw [r.2] at n;cases n),if_pos rfl]
    exact Q6 (Z7 (by omega) (by omega)) rfl
  .have f:¬ 0<i:=by have:=of_decide_eq_false f;omega
   rw [W1Y b o q (fun r=>f r.1),if_pos rfl];unfold Q2Z
   exact Q7 rfl (Q6 (Z7 (by omega) (by omega)) rfl)
 refine Y5C l.length (crE l) (fun a i j s=>?_) (fun a i z j s t=>?_) (fun a=>?_) (by omega)
 .rw [e a i j,if_neg s]
 .rw [e a i j,if_pos s];exact t
 .unfold Q4y
  exact Q7 (decide_eq_false (by omega)) rfl
theorem Y1p{F:Nat}(hF:BIG<=F)(l:List Crop):Z2w F l=some (crC l):=by
 have t:=hF;unfold BIG at hF
 unfold Z2w crC;refine Q4 (fun h=>?_) (fun h=>?_)
 .rw [if_pos (by have:=of_decide_eq_true h;omega)]
 have G:l.length<=40:=by have:=of_decide_eq_false h;omega
 rw [if_neg (by omega)];have s:∀ x:Crop,Z6S F x=some (if Q1a x.n_=false then 5 else if x.f_<0\/40<x.f_ then 2 else if x.m_<0\/31<x.m_ then 14 else 0):=by
  intro x;unfold Z6S
  refine Q2 (Z6c t _) ?_;refine Q4 (fun b=>?_) (fun b=>?_)
  .have b:Q1a x.n_=false:=by simpa using b
   rw [if_pos b]
  have b:Q1a x.n_=true:=by simpa using b
  rw [if_neg (by rw [b];simp)];have n:x.f_<0\/40<x.f_->Q5H F x true=some (if x.f_<0\/40<x.f_ then 2 else if x.m_<0\/31<x.m_ then 14 else 0):=fun h=>by
   rw [if_pos h];unfold Q5H;exact Z6 rfl rfl
  refine Q4 (fun e=>n (.inl (of_decide_eq_true e))) (fun e=>?_);have e:=of_decide_eq_false e
  by_cases f:40<x.f_
  .rw [decide_eq_true f];exact n (.inr f)
  rw [decide_eq_false f,if_neg (by omega)];unfold Q5H
  refine Q7 rfl ?_;have o:x.m_<0\/31<x.m_->Q5G F true=some (if x.m_<0\/31<x.m_ then 14 else 0):=fun h=>by
   rw [if_pos h];unfold Q5G;exact Z6 rfl rfl
  refine Q4 (fun p=>o (.inl (of_decide_eq_true p))) (fun p=>?_);have p:=of_decide_eq_false p
  by_cases m:31<x.m_
  .rw [decide_eq_true m];exact o (.inr m)
  rw [decide_eq_false m,if_neg (by omega)];unfold Q5G
  exact Q7 rfl rfl
 have g:∀ (a:Int->Option Int) (i:Nat),i<l.length->Q7U F l a (i:Int)=if crE l i=0 then a ((i:Int)+1) else some (crE l i):=by
  intro a i r;unfold Q7U
  simp only [Int.toNat_natCast];refine Z6 (decide_eq_true (by omega)) (Q6 (by omega) (Q2 (s _) ?_))
  by_cases h0:(if Q1a (gl l i).n_=false then (5:Int) else if (gl l i).f_<0\/40<(gl l i).f_ then 2 else if (gl l i).m_<0\/31<(gl l i).m_ then 14 else 0)=0
  .have b:¬ Q1a (gl l i).n_=false:=fun h=>by rw [if_pos h] at h0;cases h0
   rw [if_neg b] at h0;have e:¬ ((gl l i).f_<0\/40<(gl l i).f_):=fun h=>by rw [if_pos h] at h0;cases h0
   rw [if_neg e] at h0;have f:¬ ((gl l i).m_<0\/31<(gl l i).m_):=fun h=>by rw [if_pos h] at h0;cases h0
   rw [if_neg f] at h0;have j:Q1a (gl l i).n_=true:=by simpa using b
   rw [if_neg b,if_neg e,if_neg f];refine Q7 rfl ?_
   refine Q4 (fun k=>?_) (fun k=>?_)
   .have k:0<i:=by have:=of_decide_eq_true k;omega
    have E:((i:Int)-1).toNat=i-1:=by omega
    refine Q6 (Z7 (by omega) (by omega)) (Q6 (by omega) ?_);rw [E]
    unfold Q5q;refine Q4 (fun q=>?_) (fun q=>?_)
    .rw [W3v j e f ⟨k,q⟩,if_neg (by decide)]
    .rw [W1Y j e f (fun u=>by rw [u.2] at q;cases q),if_pos rfl]
     exact Q6 (Z7 (by omega) (by omega)) rfl
   .have k:¬ 0<i:=by have:=of_decide_eq_false k;omega
    rw [W1Y j e f (fun u=>k u.1),if_pos rfl];unfold Q5q
    exact Q7 rfl (Q6 (Z7 (by omega) (by omega)) rfl)
  .have m:crE l i=if Q1a (gl l i).n_=false then (5:Int) else if (gl l i).f_<0\/40<(gl l i).f_ then 2 else if (gl l i).m_<0\/31<(gl l i).m_ then 14 else 0:=by
    unfold crE;split
    .rfl
    .split
     .rfl
     .split
      .rfl
      .rename_i D B C
       rw [if_neg D,if_neg B,if_neg C] at h0;exact absurd rfl h0
   rw [m,if_neg h0];exact Z6 (by simpa using h0) rfl
 refine Y5C l.length (crE l) (fun a i r v=>?_) (fun a i z r v w=>?_) (fun a=>?_) (by omega)
 .rw [g a i r,if_neg v]
 .rw [g a i r,if_pos v];exact w
 .unfold Q7U
  exact Q7 (decide_eq_false (by omega)) rfl
theorem CropT.nm{l:List Crop}(h:CropT l):NmS l:=fun x e=>by
 obtain ⟨i,b,rfl⟩:=List.getElem_of_mem e;have a:=(h.one i b).1
 have:=h.len
 rw [Y5W l i b] at a;rw [a]
 have:=(Y2Y i (by omega)).2
 omega
theorem CropT.crC{l:List Crop}(h:CropT l):crC l=0:=by
 have a:=Y3G (F:=BIG) (Nat.le_refl _) h;rw [Z6y (Nat.le_refl _) h.nm] at a
 exact Option.some.inj a
end
end Go.Ab
end
section
end
section
namespace Go.Ab
set_option maxRecDepth 20000
noncomputable section
def TD:Nat->Term->Prop
 | 0,_=>False
 | d+1,t=>I64 t.op_/\I64 t.num_/\t.kids_.length<=1000000/\∀ k ∈ t.kids_,TD d k
theorem TD.op{d:Nat}{t:Term}(h:TD d t):I64 t.op_:=by
 cases d with
 | zero=>exact h.elim
 | succ d=>exact h.1
def szD:Nat->Term->Nat
 | 0,_=>0
 | d+1,t=>1+(t.kids_.map (szD d)).sum
theorem W1k{d:Nat}{t:Term}(h:TD d t):1<=szD d t:=by
 cases d with
 | zero=>exact h.elim
 | succ d=>unfold szD;omega
def Z8Q(d:Nat)(t:Term)(i:Nat):Nat:=1+((t.kids_.take i).map (szD d)).sum
theorem Z9U{d i:Nat}{t:Term}(h:i<t.kids_.length):Z8Q d t (i+1)=Z8Q d t i+szD d (gl t.kids_ i):=by
 unfold Z8Q;rw [J6 h,List.map_append,List.sum_append];simp;omega
theorem Z9V{d i:Nat}{t:Term}:Z8Q d t i<=szD (d+1) t:=by
 unfold Z8Q szD;have:(t.kids_.map (szD d)).sum=((t.kids_.take i).map (szD d)).sum+((t.kids_.drop i).map (szD d)).sum:=by
  rw [<-List.sum_append, <-List.map_append,List.take_append_drop]
 omega
theorem Y5r{d:Nat}{t:Term}:Z8Q d t t.kids_.length=szD (d+1) t:=by unfold Z8Q szD;rw [List.take_length]
theorem Z7x:∀ (d:Nat) {F:Nat} (_:BIG+d<=F) {t:Term} (_:TD d t) {m:Int} (_:0<=m) (_:m<=40),∃ v,Q5d F t m=some v/\1<=v/\v<=m+1/\(m<v↔m<(szD d t:Int))/\((szD d t:Int)<=m->v=szD d t)
 | 0,_,_,_,h,_,_,_=>h.elim
 | d+1,0,hF,_,_,_,_,_=>by unfold BIG at hF;omega
 | d+1,F+1,hF,t,h,m,m0,m1=>by
  obtain ⟨_,_,G,E⟩:=h;show ∃ v,Z0O F (Q5d F) t m=some v/\_
  unfold Z0O;have b : BIG+d<=F:=by omega
  have D:=b;unfold BIG at D
  suffices hs:∀ (n:Nat) (i:Nat) (v:Int),t.kids_.length-i<n->i<=t.kids_.length->1<=v->v<=m+1->(v<=m->v=(Z8Q d t i:Int))->(m<v->m<(Z8Q d t i:Int)) ->
    ∃ u,Q9 (fun again (z:Int×Int)=>Q9o F (Q5d F) t m again z.1 z.2) n (v,(i:Int))=some u/\1<=u/\u<=m+1/\(m<u↔m<(szD (d+1) t:Int))/\((szD (d+1) t:Int)<=m->u=szD (d+1) t) by
   refine hs F 0 1 (by omega) (by omega) (by omega) (by omega) (fun _=>by simp [Z8Q]) (fun h=>?_);simp [Z8Q];omega
  intro n
  induction n with
  | zero=>intro i v h;omega
  | succ n ih=>
   intro i v J H l o g e;show ∃ u,Q9o F (Q5d F) t m (Q9 _ n) v (i:Int)=some u/\_
   unfold Q9o
   by_cases hil:i<t.kids_.length
   .rw [show decide ((i:Int)<((t.kids_.length:Nat):Int))=true from decide_eq_true (by omega)]
    have f:=E _ (V4 hil);have a:=f.op
    by_cases hv:m<v
    .refine ⟨v,?_,l,o,?_,fun h=>?_⟩
     .refine Z6 rfl (Q6 (by omega) (Q6 a (Z6 (decide_eq_true hv) rfl)))
     .exact ⟨fun _=>by have:=e hv;have:=Z9V (d:=d) (i:=i) (t:=t);omega,fun _=>hv⟩
     .have:=e hv;have:=Z9V (d:=d) (i:=i) (t:=t);omega
    .obtain ⟨w,B,I,K,p,r⟩:=Z7x d b f (m:=m-v) (by omega) (by omega)
     have q:=Z9U (d:=d) hil;have s:=g (by omega)
     have k:=ih (i+1) (v+w) (by omega) (by omega) (by omega) (by omega) (fun h=>by
      have:=r (by
       have:¬ m-v<w:=by omega
       have:=mt p.2 this
       omega)
      omega) (fun h=>by
      have:=p.1 (by omega)
      omega)
     obtain ⟨u,C,x⟩:=k;refine ⟨u,?_,x⟩
     refine Z6 rfl (Q6 (by omega) (Q6 a (Q7 (decide_eq_false hv) (Q6 (Z7 (by omega) (by omega)) (Q2 B (Q6 (Z7 (by omega) (by omega)) (Q6 (Z7 (by omega) (by omega)) ?_)))))));rw [<-C];congr 1
   .have j:i=t.kids_.length:=by omega
    subst j;rw [Y5r] at g e
    refine ⟨v,Q7 (decide_eq_false (by omega)) rfl,l,o,⟨e,fun h=>?_⟩,fun h=>?_⟩
    .by_cases hv:m<v
     .exact hv
     .have:=g (by omega);omega
    .by_cases hv:m<v
     .have:=e hv;omega
     .exact g (by omega)
theorem Z5L:∀ (d:Nat) (_:d<=2000000) {F:Nat} (_:BIG+d<=F) {t:Term} (_:TD d t),∃ v,Q3M F t=some v/\1<=v/\v<=41*d/\(40<v↔40<(szD d t:Int))/\((szD d t:Int)<=40->v=szD d t)
 | 0,_,_,_,_,h=>h.elim
 | d+1,_,0,hF,_,_=>by unfold BIG at hF;omega
 | d+1,hd,F+1,hF,t,h=>by
  obtain ⟨_,_,D,C⟩:=h;show ∃ v,Q9v F (Q3M F) t=some v/\_
  unfold Q9v;have b : BIG+d<=F:=by omega
  have B:=b;unfold BIG at B
  suffices hs:∀ (n:Nat) (i:Nat) (v:Int),t.kids_.length-i<n->i<=t.kids_.length->1<=v->v<=41*((d+1:Nat):Int)->(v<=40->v=(Z8Q d t i:Int))->(40<v->40<(Z8Q d t i:Int)) ->
    ∃ u,Q9 (fun again (z:Int×Int)=>Q7N F (Q3M F) t again z.1 z.2) n (v,(i:Int))=some u/\1<=u/\u<=41*((d+1:Nat):Int)/\(40<u↔40<(szD (d+1) t:Int))/\((szD (d+1) t:Int)<=40->u=szD (d+1) t) by
   exact hs F 0 1 (by omega) (by omega) (by omega) (by omega) (fun _=>by simp [Z8Q]) (fun h=>by omega)
  intro n
  induction n with
  | zero=>intro i v h;omega
  | succ n ih=>
   intro i v H E p q g f;show ∃ u,Q7N F (Q3M F) t (Q9 _ n) v (i:Int)=some u/\_
   unfold Q7N
   by_cases hil:i<t.kids_.length
   .rw [show decide ((i:Int)<((t.kids_.length:Nat):Int))=true from decide_eq_true (by omega)]
    have e:=C _ (V4 hil);have a:=e.op
    have r:=Z9U (d:=d) hil
    by_cases hv:v<=40
    .obtain ⟨w,x,G,I,m,o⟩:=Z5L d (by omega) b e
     have s:=g hv;obtain ⟨u,l,k⟩:=ih (i+1) (v+w) (by omega) (by omega) (by omega) (by omega) (fun h=>by
      have:=o (by
       have:¬ 40<w:=by omega
       have:=mt m.2 this
       omega)
      omega) (fun h=>by
      by_cases h40:40<w
      .have:=m.1 h40;omega
      .have:=o (by have:=mt m.2 h40;omega);omega)
     refine ⟨u,?_,k⟩;refine Z6 rfl (Q6 (by omega) (Q6 a (Z6 (decide_eq_true hv) (Q2 x (Q6 (Z7 (by omega) (by omega)) ?_)))))
     unfold Q5k;refine Q6 (Z7 (by omega) (by omega)) ?_
     rw [<-l];congr 1
    .obtain ⟨u,l,k⟩:=ih (i+1) v (by omega) (by omega) p q (fun h=>by omega) (fun h=>by have:=f h;omega)
     refine ⟨u,?_,k⟩;refine Z6 rfl (Q6 (by omega) (Q6 a (Q7 (decide_eq_false hv) ?_)))
     unfold Q5k;refine Q6 (Z7 (by omega) (by omega)) ?_
     rw [<-l];congr 1
   .have j:i=t.kids_.length:=by omega
    subst j;rw [Y5r] at g f
    refine ⟨v,Q7 (decide_eq_false (by omega)) rfl,p,q,⟨f,fun h=>?_⟩,fun h=>?_⟩
    .by_cases hv:40<v
     .exact hv
     .have:=g (by omega);omega
    .by_cases hv:40<v
     .have:=f hv;omega
     .exact g (by omega)
def Q2u(n:Int):Bool:=n==1||(n==2||(n==4||(n==8||n==16)))
theorem Z0u(F:Nat)(n:Int):Q5D F n=some (Q2u n):=by
 unfold Q5D Q1t Q2u
 cases h1:(n==(1:Int)) <;> cases h2:(n==(2:Int)) <;> cases h3:(n==(4:Int)) <;> cases h4:(n==(8:Int)) <;> rfl
theorem Z5o(F:Nat)(n:Int):Q3J F n=some (Q2u n):=by
 unfold Q3J
 by_cases h:1<=n/\n<=16
 .have b:n=1\/n=2\/n=3\/n=4\/n=5\/n=6\/n=7\/n=8\/n=9\/n=10\/n=11\/n=12\/n=13\/n=14\/n=15\/n=16:=by omega
  rcases b with rfl|rfl|rfl|rfl|rfl|rfl|rfl|rfl|rfl|rfl|rfl|rfl|rfl|rfl|rfl|rfl <;> rfl
 .have a:Q2u n=false:=by
   unfold Q2u;simp only [Bool.or_eq_false_iff,beq_eq_false_iff_ne]
   omega
  rw [a];refine Q4 (fun e=>Q4 (fun f=>?_) (fun _=>rfl)) (fun _=>rfl)
  exact absurd ⟨of_decide_eq_true e,of_decide_eq_true f⟩ h
end
end Go.Ab
end
section
namespace Go.Ab
set_option maxRecDepth 20000
noncomputable section
def Q5Y(t:Term):Bool:=
 if t.op_=1 then t.num_==0&&(t.more_==0&&t.kids_.length==0)
 else if t.op_=2 then (decide (0<=t.num_)&&decide (t.num_<=39))&&(t.more_==0&&t.kids_.length==0)
 else if t.op_=3 then (decide (0<=t.num_)&&decide (t.num_<=40))&&(t.more_==0&&t.kids_.length==0)
 else if t.op_=4 then Q2u t.num_&&(t.more_==0&&t.kids_.length==0)
 else if t.op_=5 then (decide (0<=t.num_)&&decide (t.num_<=15))&&(t.more_==0&&t.kids_.length==0)
 else if t.op_=6 then (decide (2<=t.num_)&&decide (t.num_<=10))&&(t.more_==0&&t.kids_.length==0)
 else if t.op_=7 then (decide (1<=t.num_)&&decide (t.num_<=10))&&(Q2u t.more_&&t.kids_.length==0)
 else if t.op_=8 then (decide (1<=t.num_)&&decide (t.num_<=10))&&(t.more_==0&&t.kids_.length==0)
 else if t.op_=9\/t.op_=10 then t.num_==0&&(t.more_==0&&decide (1<=t.kids_.length))
 else if t.op_=11 then t.num_==0&&(t.more_==0&&t.kids_.length==1)
 else false
def Q5a:Nat->Term->Bool
 | 0,_=>false
 | d+1,t=>Q5Y t&&t.kids_.all (Q5a d)
def Z6v:Nat->Term->Nat
 | 0,_=>0
 | d+1,t=>1+t.kids_.foldl (fun n k=>max n (Z6v d k)) 0
def Q6a:Nat->Nat->Term->Bool
 | 0,_,_=>false
 | d+1,n,t=> !decide (n=0)&&(Q5Y t&&t.kids_.all (Q6a d (n-1)))
theorem Y0y{α:Type}(f:α->Nat):∀ (l:List α) (a n:Nat),l.foldl (fun n k=>max n (f k)) a<=n↔a<=n/\∀ k ∈ l,f k<=n
 | [],a,n=>by simp
 | x::l,a,n=>by
  rw [List.foldl_cons,Y0y f l];simp only [List.mem_cons,forall_eq_or_imp]
  constructor
  .rintro ⟨g,b⟩;exact ⟨by omega,by omega,b⟩
  .rintro ⟨g,b,e⟩;exact ⟨by omega,e⟩
theorem Z6P:∀ (d n:Nat) (t:Term),TD d t->Q6a d n t=(decide (Z6v d t<=n)&&Q5a d t)
 | 0,_,_,h=>h.elim
 | d+1,n,t,h=>by
  unfold Q6a Z6v Q5a;have b:=h.2.2.2
  cases n with
  | zero=>simp
  | succ n=>
   have i:t.kids_.all (Q6a d (n+1-1))=(t.kids_.all (fun k=>decide (Z6v d k<=n))&&t.kids_.all (Q5a d)):=by
    rw [Bool.eq_iff_iff,Bool.and_eq_true,List.all_eq_true,List.all_eq_true,List.all_eq_true];constructor
    .intro h
     refine ⟨fun k a=>?_,fun k a=>?_⟩ <;> (have:=h k a;rw [Nat.add_sub_cancel,Z6P d n k (b k a),Bool.and_eq_true] at this)
     .exact this.1
     .exact this.2
    .rintro ⟨f,e⟩ k a
     rw [Nat.add_sub_cancel,Z6P d n k (b k a),f k a,e k a];rfl
   have g:decide (1+t.kids_.foldl (fun n k=>max n (Z6v d k)) 0<=n+1)=t.kids_.all (fun k=>decide (Z6v d k<=n)):=by
    rw [Bool.eq_iff_iff,decide_eq_true_eq,List.all_eq_true];have:=Y0y (Z6v d) t.kids_ 0 n
    simp only [decide_eq_true_eq];constructor
    .intro h;exact (this.1 (by omega)).2
    .intro h;have:=this.2 ⟨by omega,h⟩;omega
   rw [i,g]
   cases Q5Y t <;> cases t.kids_.all (fun k=>decide (Z6v d k<=n)) <;> cases t.kids_.all (Q5a d) <;> simp
theorem Z1H:∀ (d:Nat) (_:d<=2000000) {F:Nat} (_:BIG+d<=F) {t:Term} (_:TD d t),Q3L F t=some (Z6v d t:Int)/\Z6v d t<=d
 | 0,_,_,_,_,h=>h.elim
 | d+1,_,0,hF,_,_=>by unfold BIG at hF;omega
 | d+1,hd,F+1,hF,t,h=>by
  obtain ⟨_,_,q,l⟩:=h;have a : BIG+d<=F:=by omega
  have o:=a;unfold BIG at o
  have m:t.kids_.foldl (fun n k=>max n (Z6v d k)) 0<=d:=(Y0y _ _ _ _).2 ⟨by omega,fun k g=>(Z1H d (by omega) a (l k g)).2⟩;refine ⟨?_,by unfold Z6v;omega⟩
  show Q9u F (Q3L F) t=_;unfold Q9u
  suffices hs:∀ (n:Nat) (i:Nat) (v:Nat),t.kids_.length-i<n->i<=t.kids_.length->(t.kids_.drop i).foldl (fun n k=>max n (Z6v d k)) v=t.kids_.foldl (fun n k=>max n (Z6v d k)) 0->v<=d ->
    Q9 (fun again (z:Int×Int)=>Q7M F (Q3L F) t again z.1 z.2) n ((v:Int),(i:Int))=some ((Z6v (d+1) t:Nat):Int) by
   exact hs F 0 0 (by omega) (by omega) rfl (by omega)
  intro n
  induction n with
  | zero=>intro i v h;omega
  | succ n ih=>
   intro i v w s e r;show Q7M F (Q3L F) t (Q9 _ n) (v:Int) (i:Int)=_
   unfold Q7M
   by_cases hil:i<t.kids_.length
   .have b:=l _ (V4 hil)
    obtain ⟨p,u⟩:=Z1H d (by omega) a b;rw [Q1D hil,List.foldl_cons] at e
    have j:=ih (i+1) (max v (Z6v d (gl t.kids_ i))) (by omega) (by omega) e (by omega);refine Z6 (decide_eq_true (by omega)) (Q6 (by omega) (Q6 b.op (Q2 p (Q6 (Z7 (by omega) (by omega)) ?_))))
    rw [<-j];congr 1
    refine Prod.ext ?_ rfl;show Q0A _ _=_
    unfold Q0A;split <;> omega
   .have f:i=t.kids_.length:=by omega
    subst f;rw [List.drop_length,List.foldl_nil] at e
    refine Q7 (decide_eq_false (by omega)) ?_;unfold Z1I
    refine Q6 (Z7 (by omega) (by omega)) ?_;unfold Z6v
    rw [<-e];congr 1;omega
theorem Z7C:∀ (d:Nat) {F:Nat} (_:BIG+d<=F) {t:Term} (_:TD d t),Q0h F t=some (Q5a d t)
 | 0,_,_,_,h=>h.elim
 | d+1,0,hF,_,_=>by unfold BIG at hF;omega
 | d+1,F+1,hF,t,h=>by
  obtain ⟨_,_,D,B⟩:=h;have o : BIG+d<=F:=by omega
  have v:=o;unfold BIG at v
  show Z1c F (Q0h F) t=_;have k:Q9 (fun f (z:Int)=>Q4u F (Q0h F) t f z) F (0:Int)=some (t.kids_.all (Q5a d)):=by
   refine Y5I (fun l=>some (l.all (Q5a d))) (fun f i q r=>?_) (fun f=>?_) (by omega)
   .show Q4u F (Q0h F) t f (i:Int)=_
    unfold Q4u;have p:=B _ (V4 q)
    refine Z6 (decide_eq_true (by omega)) (Q6 (by omega) (Q6 p.op (Q2 (Z7C d o p) ?_)));show br (!Q5a d (gl t.kids_ i)) _ _=some (Q5a d (gl t.kids_ i)&&_)
    cases Q5a d (gl t.kids_ i) with
    | false=>rfl
    | true=>exact Q7 rfl (Q6 (Z7 (by omega) (by omega)) r)
   .show Q4u F (Q0h F) t f (t.kids_.length:Int)=_
    unfold Q4u;exact Q7 (decide_eq_false (by omega)) rfl
  have k2:∀ b,Q4s F (Q0h F) t b=some (!b&&t.kids_.all (Q5a d)):=fun b=>by
   unfold Q4s
   cases b with
   | true=>rfl
   | false=>exact Q7 rfl k
  have k1:∀ (n:Int) (a b:Bool),W7 F (Q0h F) t n a b=some ((b&&(a&&((t.kids_.length:Nat):Int)==n))&&t.kids_.all (Q5a d)):=fun n a b=>by
   unfold W7
   cases b <;> cases a
   .rw [k2];rfl
   .rw [k2];rfl
   .exact Q7 rfl (Z6 rfl (k2 _))
   .refine Q7 rfl (Q7 rfl ((k2 _).trans ?_))
    congr 2
    rw [bne,Bool.not_not];rfl
  have s:∀ (n:Nat),(((t.kids_.length:Nat):Int)==(n:Int))=(t.kids_.length==n):=fun n=>by
   rw [Bool.eq_iff_iff,beq_iff_eq,beq_iff_eq];omega
  have w:(((t.kids_.length:Nat):Int)==((t.kids_.length:Nat):Int))=true:=by simp
  have C:(decide ((0:Int)<((t.kids_.length:Nat):Int)))=decide (1<=t.kids_.length):=by rw [Bool.eq_iff_iff,decide_eq_true_eq,decide_eq_true_eq];omega
  have j:(((t.kids_.length:Nat):Int)==0)=(t.kids_.length==0):=s 0;have u:(((t.kids_.length:Nat):Int)==1)=(t.kids_.length==1):=s 1
  unfold Z1c Q5a Q5Y;have K:∀ {x:Option Bool} {n:Int} {a b c:Bool},x=W7 F (Q0h F) t n a b->(b&&(a&&((t.kids_.length:Nat):Int)==n))=c->x=some (c&&t.kids_.all (Q5a d)):=fun h e=>by rw [h,k1,e]
  have R:∀ {lo q:Int} {a:Bool} {c:Bool},(W7 F (Q0h F) t 0 a (decide (lo<=t.num_)&&decide (t.num_<=q)))=some c->br (decide (lo<=t.num_)) (W7 F (Q0h F) t 0 a (decide (t.num_<=q))) (W7 F (Q0h F) t 0 a false)=some c:=fun h=>by
   rw [<-h];cases decide (_<=t.num_) <;> rfl
  by_cases h1:t.op_=1
  .rw [if_pos h1]
   exact Z6 (by simp [h1]) (K rfl (by rw [j]))
  rw [if_neg h1];refine Q7 (by simp [h1]) ?_
  by_cases h2:t.op_=2
  .rw [if_pos h2]
   refine Z6 (by simp [h2]) ?_;rw [show decide (t.num_<40)=decide (t.num_<=39) from decide_eq_decide.2 (by omega)]
   exact R (K rfl (by rw [j]))
  rw [if_neg h2];refine Q7 (by simp [h2]) ?_
  by_cases h3:t.op_=3
  .rw [if_pos h3]
   exact Z6 (by simp [h3]) (R (K rfl (by rw [j])))
  rw [if_neg h3];refine Q7 (by simp [h3]) ?_
  by_cases h4:t.op_=4
  .rw [if_pos h4]
   exact Z6 (by simp [h4]) (Q2 (Z0u F _) (K rfl (by rw [j])))
  rw [if_neg h4];refine Q7 (by simp [h4]) ?_
  by_cases h5:t.op_=5
  .rw [if_pos h5]
   exact Z6 (by simp [h5]) (R (K rfl (by rw [j])))
  rw [if_neg h5];refine Q7 (by simp [h5]) ?_
  by_cases h6:t.op_=6
  .rw [if_pos h6]
   exact Z6 (by simp [h6]) (R (K rfl (by rw [j])))
  rw [if_neg h6];refine Q7 (by simp [h6]) ?_
  by_cases h7:t.op_=7
  .rw [if_pos h7]
   refine Z6 (by simp [h7]) ?_;refine Q4 (fun g=>Q2 (Z0u F _) (K rfl ?_)) (fun g=>Q2 (Z0u F _) (K rfl ?_))
   .rw [j,g,Bool.true_and]
   .rw [g];rfl
  rw [if_neg h7];refine Q7 (by simp [h7]) ?_
  by_cases g:t.op_=8
  .rw [if_pos g]
   exact Z6 (by simp [g]) (R (K rfl (by rw [j])))
  rw [if_neg g];refine Q7 (by simp [g]) ?_
  have m:Q4t F (Q0h F) t true=some ((t.num_==0&&(t.more_==0&&decide (1<=t.kids_.length)))&&t.kids_.all (Q5a d)):=by
   unfold Q4t;refine Z6 rfl (Q4 (fun h=>K rfl ?_) (fun h=>K rfl ?_))
   .rw [w,C,h,Bool.true_and,Bool.and_true,Bool.and_comm]
   .rw [h];rfl
  by_cases h9:t.op_=9\/t.op_=10
  .rw [if_pos h9]
   refine Q4 (fun h=>?_) (fun h=>?_)
   .rw [h];exact m
   .have:t.op_=10:=by simp at h;omega
    rw [this];exact m
  rw [if_neg h9];refine Q7 (by simp;omega) ?_
  rw [show (t.op_==(10:Int))=false by simp;omega];unfold Q4t
  refine Q7 rfl ?_
  by_cases h11:t.op_=11
  .rw [if_pos h11]
   exact Z6 (by simp [h11]) (K rfl (by rw [u]))
  .rw [if_neg h11]
   exact Q7 (by simp [h11]) (K rfl rfl)
end
end Go.Ab
end
section
namespace Go.Ab
set_option maxRecDepth 20000
noncomputable section
theorem Z2O{F:Nat}{l:List Term}{q:Term->Option Bool}(p:Term->Bool)(hF:l.length<F)(hl:l.length<=1000000000)(ho:∀ r ∈ l,I64 r.op_)(hq:∀ r ∈ l,q r=some (p r)):∃ i:Int,Q2o F l q=some i/\(0<=i↔l.any p=true):=by
 unfold Q2o
 suffices hs:∀ (n i:Nat),l.length-i<n->i<=l.length->∃ j:Int,Q9 (fun again (z:Int)=>Q1b F l q again z) n (i:Int)=some j/\(0<=j↔(l.drop i).any p=true) by
  simpa using hs F 0 (by omega) (by omega)
 intro n
 induction n with
 | zero=>intro i h;omega
 | succ n ih=>
  intro i f g;show ∃ j:Int,Q1b F l q (Q9 _ n) (i:Int)=some j/\_
  unfold Q1b
  by_cases hil:i<l.length
  .have a:=V4 hil
   rw [Y3g hil]
   cases hp:p (gl l i) with
   | true=>exact ⟨i,Z6 (decide_eq_true (by omega)) (Q6 (by omega) (Q6 (ho _ a) (Q2 (hq _ a) (Z6 hp rfl)))),by simp⟩
   | false=>
    obtain ⟨j,b,e⟩:=ih (i+1) (by omega) (by omega);refine ⟨j,Z6 (decide_eq_true (by omega)) (Q6 (by omega) (Q6 (ho _ a) (Q2 (hq _ a) (Q7 hp (Q6 (Z7 (by omega) (by omega)) ?_))))),by simpa using e⟩
    rw [<-b];congr 1
  .refine ⟨-1,Q7 (decide_eq_false (by omega)) rfl,?_⟩
   rw [List.drop_eq_nil_of_le (by omega)];simp
theorem Z0T{F:Nat}{l:List Term}{q:Term->Option Bool}(p:Term->Bool)(hF:l.length<F)(hl:l.length<=1000000000)(ho:∀ r ∈ l,I64 r.op_)(hq:∀ r ∈ l,q r=some (p r)):Q1e F l q=some (l.any p):=by
 obtain ⟨i,b,a⟩:=Z2O p hF hl ho hq;unfold Q1e
 refine Q2 b ?_;rw [Option.some.injEq,Bool.eq_iff_iff,decide_eq_true_eq];exact a
def Y0n(n:Int):Int×Int×Bool:=if n=2 then (0,39,true) else if n=3 then (0,40,true) else if n=4 then (1,16,true) else if n=5 then (0,15,true) else if n=6 then (2,10,true) else if n=7\/n=8 then (1,10,true) else (0,0,false)
def Z3c(n:Int):Int×Int:=if n=9\/n=10 then (1,40) else if n=11 then (1,1) else (0,0)
theorem Y1S(F:Nat)(n:Int):Z2n F n=some (Y0n n):=by
 unfold Z2n Y0n Q7A
 by_cases h2:n=2
 .subst h2;rfl
 by_cases h3:n=3
 .subst h3;rfl
 by_cases h4:n=4
 .subst h4;rfl
 by_cases h5:n=5
 .subst h5;rfl
 by_cases h6:n=6
 .subst h6;rfl
 by_cases h7:n=7
 .subst h7;rfl
 by_cases h8:n=8
 .subst h8;rfl
 have e:∀ m:Int,n≠m->(n==m)=false:=fun m h=>by simpa using h
 rw [e 2 h2,e 3 h3,e 4 h4,e 5 h5,e 6 h6,e 7 h7,e 8 h8,if_neg h2,if_neg h3,if_neg h4,if_neg h5,if_neg h6,if_neg (by omega)];rfl
theorem Y4x(F:Nat)(n:Int):Z6L F n=some (Z3c n):=by
 unfold Z6L Z3c Z0N;have e:∀ m:Int,n≠m->(n==m)=false:=fun m h=>by simpa using h
 by_cases h2:n=9
 .subst h2;rfl
 by_cases h3:n=10
 .subst h3;rfl
 by_cases h4:n=11
 .subst h4;rfl
 rw [e 9 h2,e 10 h3,e 11 h4,if_neg (by omega),if_neg h4];rfl
def W0H(t:Term):Bool:=((Y0n t.op_).2.2&&(decide (t.num_<(Y0n t.op_).1)||decide ((Y0n t.op_).2.1<t.num_)))||(!(Y0n t.op_).2.2&&t.num_ != 0)
def Y7s(t:Term):Bool:=(t.op_==4 && !Q2u t.num_)||((t.op_==7 && !Q2u t.more_)||(t.op_ != 7&&t.more_ != 0))
def Y6p(t:Term):Bool:=decide (((t.kids_.length:Nat):Int)<(Z3c t.op_).1)||decide ((Z3c t.op_).2<((t.kids_.length:Nat):Int))
theorem Y9N{t:Term}(hl:t.kids_.length<=40):(!(decide (t.op_<1)||decide (11<t.op_))&&(!W0H t&&(!Y7s t && !Y6p t)))=Q5Y t:=by
 have f:∀ n:Int,Q2u n=true->1<=n/\n<=16:=fun n h=>by
  unfold Q2u at h;simp only [Bool.or_eq_true,beq_iff_eq] at h;omega
 have k:∀ n:Nat,(t.kids_.length==n)=decide (t.kids_.length=n):=fun n=>by rw [Bool.eq_iff_iff,beq_iff_eq,decide_eq_true_eq]
 rw [Bool.eq_iff_iff];unfold W0H Y7s Y6p Y0n Z3c Q5Y
 generalize t.op_=o,t.num_=n,t.more_=m at *;have j:∀ {p q:Prop},(p↔q)->(p↔q):=fun h=>h
 by_cases h:o<1\/11<o
 .rw [show (decide (o<1)||decide (11<o))=true by simpa using h]
  have e:∀ m:Int,1<=m->m<=11->¬ o=m:=fun m _ _=>by omega
  simp [e 1,e 2,e 3,e 4,e 5,e 6,e 7,e 8,e 9,e 10,e 11]
 have i:o=1\/o=2\/o=3\/o=4\/o=5\/o=6\/o=7\/o=8\/o=9\/o=10\/o=11:=by omega
 rcases i with rfl|rfl|rfl|rfl|rfl|rfl|rfl|rfl|rfl|rfl|rfl <;> simp <;> (try omega)
 constructor
 .rintro ⟨_,⟨a,b⟩,g⟩;exact ⟨a,b,g⟩
 .rintro ⟨a,b,g⟩;exact ⟨f _ a,⟨a,b⟩,g⟩
theorem Z7w:∀ (d:Nat) {F:Nat} (_:BIG+d<=F) {t:Term} (_:TD d t) (_:szD d t<=40) (n:Nat) (_:n<=8),U6 F t (n:Int)=some (Q6a d n t)
 | 0,_,_,_,h,_,_,_=>h.elim
 | d+1,0,hF,_,_,_,_,_=>by unfold BIG at hF;omega
 | d+1,F+1,hF,t,h,hs,n,hn=>by
  obtain ⟨_,_,E,g⟩:=h;have f : BIG+d<=F:=by omega
  have w:=f;unfold BIG at w
  have r:t.kids_.length<=39:=by
   have:t.kids_.length<=(t.kids_.map (szD d)).sum:=by
    have:∀ l:List Term,(∀ k ∈ l,TD d k)->l.length<=(l.map (szD d)).sum:=by
     intro l
     induction l with
     | nil=>intro _;simp
     | cons x l ih=>intro q;have:=W1k (q x (by simp));have:=ih fun k g=>q k (by simp [g]);simp;omega
    exact this _ g
   unfold szD at hs;omega
  have m:∀ k ∈ t.kids_,szD d k<=40:=fun k a=>by
   obtain ⟨i,p,rfl⟩:=List.getElem_of_mem a;have D:=Z9U (d:=d) p
   have G:=Z9V (d:=d) (i:=i+1) (t:=t);rw [y5 p] at D;omega
  show Z0M F (U6 F) t (n:Int)=_;unfold Z0M
  refine Q2 (Y1S F _) (Q2 (Y4x F _) ?_);have B:∀ b,n≠0->Q4n F (U6 F) t (n:Int) b=some (!b&&t.kids_.all (Q6a d (n-1))):=fun b e=>by
   unfold Q4n
   cases b with
   | true=>rfl
   | false=>
    refine Q7 rfl (Q2 (Z0T (fun k=> !Q6a d (n-1) k) (by omega) (by omega) (fun k a=>(g k a).op) fun k a=>?_) ?_)
    .unfold Z3U
     refine Q6 (Z7 (by omega) (by omega)) ?_;rw [show ((n:Int)-1)=((n-1:Nat):Int) by omega]
     exact Q2 (Z7w d f (g k a) (m k a) (n-1) (by omega)) rfl
    .rw [Bool.not_false,Bool.true_and,List.not_any_eq_all_not];simp
  have k2:∀ b,n≠0->W9 F (U6 F) t (n:Int) (Z3c t.op_) b=some (!b&&(!Y6p t&&t.kids_.all (Q6a d (n-1)))):=fun b e=>by
   unfold W9 Y6p
   cases b with
   | true=>rfl
   | false=>
    refine Q7 rfl ?_;rw [Q7p (fun b=>Q4n F (U6 F) t (n:Int) b),B _ e];rfl
  have k1:∀ b,n≠0->Q0B F (U6 F) t (n:Int) (Z3c t.op_) b=some (!b&&(!Y7s t&&(!Y6p t&&t.kids_.all (Q6a d (n-1))))):=fun b e=>by
   unfold Q0B Y7s
   cases b with
   | true=>rfl
   | false=>
    refine Q7 rfl ?_;have C:(Q3J F t.more_).bind (fun z=>br (!z) (W9 F (U6 F) t (n:Int) (Z3c t.op_) true) (br (t.op_ != (7:Int)) (W9 F (U6 F) t (n:Int) (Z3c t.op_) (t.more_ != (0:Int))) (W9 F (U6 F) t (n:Int) (Z3c t.op_) false)))=W9 F (U6 F) t (n:Int) (Z3c t.op_) (!Q2u t.more_||(t.op_ != 7&&t.more_ != 0)):=by
     refine Q2 (Z5o F _) ?_
     cases Q2u t.more_ <;> cases (t.op_ != (7:Int)) <;> rfl
    have s:(br (t.op_==(7:Int)) ((Q3J F t.more_).bind (fun z=>br (!z) (W9 F (U6 F) t (n:Int) (Z3c t.op_) true) (br (t.op_ != (7:Int)) (W9 F (U6 F) t (n:Int) (Z3c t.op_) (t.more_ != (0:Int))) (W9 F (U6 F) t (n:Int) (Z3c t.op_) false)))) (br (t.op_ != (7:Int)) (W9 F (U6 F) t (n:Int) (Z3c t.op_) (t.more_ != (0:Int))) (W9 F (U6 F) t (n:Int) (Z3c t.op_) false)))
      = W9 F (U6 F) t (n:Int) (Z3c t.op_) ((t.op_==7 && !Q2u t.more_)||(t.op_ != 7&&t.more_ != 0)):=by
     rw [C]
     cases h7:(t.op_==(7:Int)) with
     | true=>rw [show (t.op_ != (7:Int))=false by rw [bne,h7];rfl];cases Q2u t.more_ <;> rfl
     | false=>rw [show (t.op_ != (7:Int))=true by rw [bne,h7];rfl];rfl
    rw [s];refine Q4 (fun j=>Q2 (Z5o F _) ?_) (fun j=>?_)
    .rw [j,Bool.true_and]
     cases Q2u t.num_ with
     | false=>refine Z6 rfl ((k2 _ e).trans ?_);rfl
     | true=>refine Q7 rfl ((k2 _ e).trans ?_);rfl
    .rw [j];exact k2 _ e
  have v:∀ b,(b=false->n≠0)->Q1G F (U6 F) t (n:Int) (Y0n t.op_) (Z3c t.op_) b=some (!b&&(!W0H t&&(!Y7s t&&(!Y6p t&&t.kids_.all (Q6a d (n-1)))))):=fun b u=>by
   unfold Q1G W0H
   cases b with
   | true=>rfl
   | false=>
    have e:=u rfl;refine Q7 rfl ?_
    have k1:=fun b=>k1 b e
    generalize hK:Q0B F (U6 F) t (n:Int) (Z3c t.op_)=K at k1 ⊢;generalize (!Y7s t&&(!Y6p t&&t.kids_.all (Q6a d (n-1))))=rest at k1 ⊢
    generalize (t.num_ != 0)=nz
    cases (Y0n t.op_).2.2 <;> cases decide (t.num_<(Y0n t.op_).1) <;> cases decide ((Y0n t.op_).2.1<t.num_) <;> cases nz <;> simp only [br,k1] <;> rfl
  have o:(((n:Int))==0)=decide (n=0):=by rw [Bool.eq_iff_iff,beq_iff_eq,decide_eq_true_eq];omega
  rw [o];rw [Q7p (fun b=>Q1G F (U6 F) t (n:Int) (Y0n t.op_) (Z3c t.op_) b),Q7p (fun b=>Q1G F (U6 F) t (n:Int) (Y0n t.op_) (Z3c t.op_) b)]
  rw [v _ (fun h=>by simp only [Bool.or_eq_false_iff,decide_eq_false_iff_not] at h;exact h.2.2)];unfold Q6a
  rw [<-Y9N (t:=t) (by omega)]
  cases decide (t.op_<1) <;> cases decide (11<t.op_) <;> cases decide (n=0) <;> cases W0H t <;> cases Y7s t <;> cases Y6p t <;> rfl
def Q7m(d:Nat)(t:Term):Int:=if 40<szD d t then 1 else if Q6a d 8 t=true then 0 else 16
theorem Z7y{d F:Nat}(hF:BIG+d<=F){t:Term}(h:TD d t):Z1s F t=some (Q7m d t):=by
 unfold Z1s Q7m;obtain ⟨v,f,_,_,b,_⟩:=Z7x d hF h (m:=40) (by omega) (by omega)
 refine Q2 f (Q4 (fun a=>?_) (fun a=>?_))
 .have:=b.1 (of_decide_eq_true a);rw [if_pos (by omega)]
 .have e:¬ 40<szD d t:=fun h=>of_decide_eq_false a (b.2 (by omega))
  rw [if_neg e];refine Q2 (Z7w d hF h (by omega) 8 (by omega)) ?_
  cases Q6a d 8 t <;> rfl
theorem Z5N{d F:Nat}(hd:d<=2000000)(hF:BIG+d<=F){t:Term}(h:TD d t):Q9S F t=some (Q7m d t):=by
 unfold Q9S Q7m;obtain ⟨v,f,_,_,e,_⟩:=Z5L d hd hF h
 refine Q2 f (Q4 (fun b=>?_) (fun b=>?_))
 .have:=e.1 (of_decide_eq_true b);rw [if_pos (by omega)]
 .have g:¬ 40<szD d t:=fun h=>of_decide_eq_false b (e.2 (by omega))
  rw [if_neg g,Z6P d 8 t h];refine Q2 (Z1H d hd hF h).1 (Q4 (fun a=>?_) (fun a=>?_))
  .have a:=of_decide_eq_true a
   rw [decide_eq_false (by omega)];rfl
  .have a:=of_decide_eq_false a
   rw [decide_eq_true (by omega)];refine Q2 (Z7C d hF h) ?_
   unfold Q7O
   cases Q5a d t <;> rfl
theorem Y1V(d:Nat):Q7m (d+1) ⟨1,0,0,[]⟩=0:=by
 unfold Q7m;rw [if_neg (by simp [szD]),if_pos]
 simp [Q6a,Q5Y]
end
end Go.Ab
end
section
namespace Go.Ab
set_option maxRecDepth 20000
noncomputable section
def atS(y:Int)(cs:List Crop)(hs:List Rg_)(zs:List A2_)(d c:Int)(A:List Rect)(t:Term):TS:=
 if t.op_=2 then Z6C A (c==t.num_)
 else if t.op_=3 then Z6C A ((gl cs c.toNat).f_==t.num_)
 else if t.op_=4 then Z6C A (Q9j cs c t.num_)
 else if t.op_=5 then Z8A A (inR (V8 zs d fun k=>k==t.num_))
 else if t.op_=6 then smS A hs cs y (gl cs c.toNat).f_ (t.num_.toNat-1)
 else if t.op_=7 then ⟨knS A hs (y-t.num_) fun k=>Q9j cs k t.more_,knS A hs (y-t.num_) fun k=> !Q9j cs k t.more_⟩
 else if t.op_=8 then Z8A A (inR (yrs hs (y-t.num_) fun _=>true))
 else Z6C A true
def evS(y:Int)(cs:List Crop)(hs:List Rg_)(zs:List A2_)(d c:Int)(A:List Rect):Nat->Term->TS
 | 0,_=>Z6C A true
 | e+1,t=>
  if t.op_=9 then ⟨fun u v=>inR A u v&&t.kids_.all fun k=>(evS y cs hs zs d c A e k).Y u v,fun u v=>t.kids_.any fun k=>(evS y cs hs zs d c A e k).N u v⟩
  else if t.op_=10 then ⟨fun u v=>t.kids_.any fun k=>(evS y cs hs zs d c A e k).Y u v,fun u v=>inR A u v&&t.kids_.all fun k=>(evS y cs hs zs d c A e k).N u v⟩
  else if t.op_=11 then ⟨(evS y cs hs zs d c A e (gl t.kids_ 0)).N,(evS y cs hs zs d c A e (gl t.kids_ 0)).Y⟩
  else atS y cs hs zs d c A t
variable {F:Nat} {cs:List Crop} {hs:List Rg_} {zs:List A2_} {y c d:Int} {A:List Rect}
theorem TIn.turn{s:TS}(h:TIn A s):TIn A ⟨s.N,s.Y⟩:=⟨h.fN,h.fY,h.sN,h.sY⟩
theorem W3y(t:Term):TIn A (atS y cs hs zs d c A t):=by
 unfold atS
 repeat' split
 .exact Y0L _ _
 .exact Y0L _ _
 .exact Y0L _ _
 .exact W0u (W6 _)
 .exact Y2e _ _ _ _ _ _
 .exact ⟨Z4x _ _ _ _,Z4x _ _ _ _,fun _ _ h=>Y0p h,fun _ _ h=>Y0p h⟩
 .exact W0u (W6 _)
 .exact Y0L _ _
theorem Y7W{B:Sq}(hB:Fin B){α:Type}(f:α->Sq):∀ (l:List α),(∀ k ∈ l,Fin (f k))->Fin fun u v=>B u v&&l.all fun k=>f k u v
 | [],_=>by simpa using hB
 | k::l,h=>by
  have b:=Z2b (Y7W hB f l fun j a=>h j (List.mem_cons_of_mem _ a)) (h k List.mem_cons_self);have e:(fun u v=>(B u v&&l.all fun k=>f k u v)&&f k u v)=fun u v=>B u v&&(k::l).all fun k=>f k u v:=by
   funext u v
   rw [List.all_cons]
   cases B u v <;> cases f k u v <;> simp
  rw [<-e];exact b
theorem Y7V{α:Type}(f:α->Sq):∀ (l:List α),(∀ k ∈ l,Fin (f k))->Fin fun u v=>l.any fun k=>f k u v
 | [],_=>by simpa using Y6c
 | k::l,h=>by
  have a:=Y4T (h k List.mem_cons_self) (Y7V f l fun j b=>h j (List.mem_cons_of_mem _ b));simpa using a
theorem Y7v{α:Type}(f:α->TS)(l:List α)(h:∀ k ∈ l,TIn A (f k)):TIn A ⟨fun u v=>inR A u v&&l.all fun k=>(f k).Y u v,fun u v=>l.any fun k=>(f k).N u v⟩:=by
 refine ⟨Y7W (W6 A) (fun k=>(f k).Y) l fun k a=>(h k a).fY,Y7V (fun k=>(f k).N) l fun k a=>(h k a).fN,fun u v b=>?_,fun u v b=>?_⟩
 .simp only [Bool.and_eq_true] at b
  exact b.1
 .obtain ⟨k,a,e⟩:=List.any_eq_true.1 b
  exact (h k a).sN u v e
theorem Z4Y:∀ (e:Nat) (t:Term),TIn A (evS y cs hs zs d c A e t)
 | 0,_=>Y0L _ _
 | e+1,t=>by
  unfold evS;split
  .exact Y7v _ _ fun k _=>Z4Y e k
  split
  .exact (Y7v (fun k=>⟨(evS y cs hs zs d c A e k).N,(evS y cs hs zs d c A e k).Y⟩) t.kids_ fun k _=>(Z4Y e k).turn).turn
  split
  .exact (Z4Y e _).turn
  .exact W3y t
structure PL (p:TermPlace) (y:Int) (cs:List Crop) (hs:List Rg_) (zs:List A2_) (d c:Int) (A:List Rect):Prop where
 yr:p.world_.y_=y
 cs:p.world_.crops_=cs
 hs:p.world_.history_=hs
 zs:p.world_.zones_=zs
 dd:p.world_.day_=d
 cr:p.line_.c_=c
 re:p.t_=A
theorem Y2x{n:Nat}{L:List A2_}(h:∀ f ∈ L,Box n f.g_.t_)(d:Int)(p:Int->Bool):Box n (V8 L d p):=fun r a=>by
 unfold V8 at a;obtain ⟨f,b,e⟩:=List.mem_flatMap.1 a
 exact h f (List.mem_filter.1 b).1 r e
theorem W2v{t:Term}(hn:Q5Y t=true)(q:t.op_=6):2<=t.num_/\t.num_<=10:=by
 unfold Q5Y at hn;simp [q] at hn
 omega
theorem W2u{t:Term}(hn:Q5Y t=true)(q:t.op_=7):(1<=t.num_/\t.num_<=10)/\Q2u t.more_=true:=by
 unfold Q5Y at hn;simp [q] at hn
 exact ⟨by omega,hn.2.1⟩
theorem W2t{t:Term}(hn:Q5Y t=true)(q:t.op_=8):1<=t.num_/\t.num_<=10:=by
 unfold Q5Y at hn;simp [q] at hn
 omega
theorem Y9W{n:Nat}{L:List A2_}(h:LB n L){f:A2_}(hf:f ∈ L):Val f.g_.t_:=((Z6U f).1 (h.vl.one f hf)).2.2.2.2.2.2.2.2
theorem LB.few'{n:Nat}{L:List A2_}(h:LB n L)(d:Int)(p:Int->Bool):(V8 L d p).length<=7200:=by
 have e:=h.vl.len;have:∀ (M:List A2_),(∀ f ∈ M,f.g_.t_.length<=120)->(V8 M d p).length<=120*M.length:=by
  intro M
  induction M with
  | nil=>intro _;simp [V8]
  | cons f M ih=>
   intro a;rw [Z2C]
   have k:=a f List.mem_cons_self;have j:=ih fun g i=>a g (List.mem_cons_of_mem _ i)
   rw [List.length_append,List.length_cons];split
   .omega
   .simp;omega
 have:=this L fun f b=>(Y9W h b).1
 omega
theorem Y4y(hF:BIG<=F)(h:EV y cs hs zs c A){p:TermPlace}(hp:PL p y cs hs zs d c A){t:Term}(hn:Q5Y t=true):Q6H F p t=some ((atS y cs hs zs d c A t).sqs A):=by
 have b:=h.tr.val;have l:=h.crop
 unfold Q6H atS;refine Q4 (fun q=>?_) fun J=>Q4 (fun q=>?_) fun s=>Q4 (fun q=>?_) fun K=>Q4 (fun q=>?_) fun E=>Q4 (fun q=>?_) fun L=>Q4 (fun q=>?_) fun G=>Q4 (fun q=>?_) fun I=>?_
 .have q:=eq_of_beq q
  rw [if_pos q,hp.cr];exact Q2 (Q9n hp.re b _) rfl
 .have q:=eq_of_beq q
  rw [if_neg (by omega),if_pos q,hp.cr,hp.cs];exact Q6 l (Q2 (Q9n hp.re b _) rfl)
 .have q:=eq_of_beq q
  rw [if_neg (by omega),if_neg (by omega),if_pos q,hp.cr,hp.cs];exact Q2 (Z6x F cs c t.num_) (Q2 (Q9n hp.re b _) rfl)
 .have q:=eq_of_beq q
  rw [if_neg (by omega),if_neg (by omega),if_neg (by omega),if_pos q,hp.zs,hp.dd];have B:=Y2x h.zs.box d fun k=>k==t.num_
  refine Q2 (Z3H hF (by have:=h.zs.vl.len;omega) (fun f H=>(Y9W h.zs H).1) d (fun k=>k==t.num_) fun f _=>rfl) ?_;refine Q2 (Q3I hF (a:=p.t_) (by rw [hp.re];exact b.le8) (by have:=h.zs.few' d fun k=>k==t.num_;omega) (by rw [hp.re];exact b.pos) (fun r D=>(B r D).2.1) (S:=inR A) (by rw [hp.re]) rfl (k:=fun u v=>u&&v) rfl (Z0P F)) ?_
  exact Q2 (Z4G hF hp.re h.tr (W6 _)) rfl
 .have q:=eq_of_beq q
  rw [if_neg (by omega),if_neg (by omega),if_neg (by omega),if_neg (by omega),if_pos q];have o:=W2v hn q
  have:=Y4w hF h hp.hs hp.yr hp.re hp.cs hp.cr (n:=t.num_.toNat) (by omega) (by omega)
  rw [Int.toNat_of_nonneg (by omega)] at this;exact Q2 this rfl
 .have q:=eq_of_beq q
  rw [if_neg (by omega),if_neg (by omega),if_neg (by omega),if_neg (by omega),if_neg (by omega),if_pos q];have o:=(W2u hn q).1
  have j:∀ f ∈ hs,Q2E F f.c_ p t=some (Q9j cs f.c_ t.more_):=fun f _=>by
   unfold Q2E;rw [hp.cs]
   exact Q2 (Z6x F cs _ _) rfl
  have C:∀ f ∈ hs,Q2D F f.c_ p t=some (!Q9j cs f.c_ t.more_):=fun f _=>by
   unfold Q2D;rw [hp.cs]
   exact Q2 (Z6x F cs _ _) rfl
  have w:TIn A ⟨knS A hs (y-t.num_) fun k=>Q9j cs k t.more_,knS A hs (y-t.num_) fun k=> !Q9j cs k t.more_⟩:=⟨Z4x _ _ _ _,Z4x _ _ _ _,fun _ _ h=>Y0p h,fun _ _ h=>Y0p h⟩;have m:=Q6i hF h hp.hs hp.yr hp.re (n:=t.num_) (q:=fun g=>Q2E F g p t) (by omega) (by omega) (fun k=>Q9j cs k t.more_) j
  have i:=Q6i hF h hp.hs hp.yr hp.re (n:=t.num_) (q:=fun g=>Q2D F g p t) (by omega) (by omega) (fun k=> !Q9j cs k t.more_) C;have x:=Z3V hF hp.re h.tr w
  exact Q2 m (Q2 i (Q2 x rfl))
 .have q:=eq_of_beq q
  rw [if_neg (by omega),if_neg (by omega),if_neg (by omega),if_neg (by omega),if_neg (by omega),if_neg (by omega),if_pos q];have o:=W2t hn q
  have j:∀ f ∈ hs,Z2F F f.c_=some true:=fun _ _=>rfl
  have m:=Q6i hF h hp.hs hp.yr hp.re (n:=t.num_) (q:=fun g=>Z2F F g) (by omega) (by omega) (fun _=>true) j;have i:=Z4G hF hp.re h.tr (S:=inR (yrs hs (y-t.num_) fun _=>true)) (W6 _)
  exact Q2 m (Q2 i rfl)
 .have z:∀ {k:Int},(t.op_==k)=false->¬ t.op_=k:=fun h e=>by rw [e] at h;simp at h
  rw [if_neg (z J),if_neg (z s),if_neg (z K),if_neg (z E),if_neg (z L),if_neg (z G),if_neg (z I)];exact Q2 (Q9n hp.re b _) rfl
def Z2l(A:List Rect)(l:List TS):TS:=⟨fun u v=>inR A u v&&l.all fun k=>k.Y u v,fun u v=>l.any fun k=>k.N u v⟩
theorem Y4Z{l:List TS}(h:∀ s ∈ l,TIn A s):TIn A (Z2l A l):=Y7v (fun k=>k) l h
theorem Y2Z(l:List TS)(s:TS):Z2l A (l++[s])=⟨fun u v=>(Z2l A l).Y u v&&s.Y u v,fun u v=>(Z2l A l).N u v||s.N u v⟩:=by
 unfold Z2l;congr 1
 .funext u v;simp [List.all_append,Bool.and_assoc]
 .funext u v;simp [List.any_append]
theorem Y5o(hF:BIG<=F){p:TermPlace}(e3:p.t_=A)(ht:TR A){l:List TS}(hl:∀ s ∈ l,TIn A s)(hlen:l.length<=1000000):Q3n F p (l.map (TS.sqs A))=some ((Z2l A l).sqs A):=by
 have e:=hF;unfold BIG at e
 unfold Q3n;have h:∀ (m f k:Nat),k+m=l.length->m<f->Q9 (fun again (z:(List Rect)×(List Rect)×Int)=>Q1k F p (l.map (TS.sqs A)) again z.1 z.2.1 z.2.2) f (cn (Z2l A (l.take k)).Y,cn (Z2l A (l.take k)).N,((k:Nat):Int))=some ((Z2l A l).sqs A):=by
  intro m
  induction m with
  | zero=>
   intro f k q o;obtain ⟨f,rfl⟩:∃ g,f=g+1:=⟨f-1,by omega⟩
   show Q1k F p (l.map (TS.sqs A)) (Q9 _ f) _ _ ((k:Nat):Int)=_;unfold Q1k
   refine Q7 (decide_eq_false (by rw [List.length_map];omega)) ?_;unfold Q7z
   rw [show k=l.length by omega,List.take_length];exact Q2 (Z3V hF e3 ht (Y4Z hl)) rfl
  | succ m ih=>
   intro f k q o;obtain ⟨f,rfl⟩:∃ g,f=g+1:=⟨f-1,by omega⟩
   show Q1k F p (l.map (TS.sqs A)) (Q9 _ f) _ _ ((k:Nat):Int)=_;unfold Q1k
   have a:k<l.length:=by omega
   have b:TIn A (Z2l A (l.take k)):=Y4Z fun s hs=>hl s (List.mem_of_mem_take hs)
   have hs:=hl _ (List.getElem_mem a);have r:gl (l.map (TS.sqs A)) ((k:Nat):Int).toNat=(l[k]).sqs A:=by
    rw [Int.toNat_natCast,y5 (by simpa using a),List.getElem_map]
   have i:=ih f (k+1) (by omega) (by omega);have j:l.take (k+1)=l.take k++[l[k]]:=by rw [List.take_append_getElem a]
   rw [j,Y2Z] at i;rw [r]
   refine Z6 (decide_eq_true (by rw [List.length_map];omega)) (Q6 (by rw [List.length_map];omega) (Q2 (Q3I hF (b.vY ht).le8 (hs.vY ht).le8 (b.vY ht).pos (hs.vY ht).pos (W5 b.fY) (W5 hs.fY) (k:=fun u v=>u&&v) rfl (Z0P F)) (Q2 (Q3I hF (b.vN ht).le8 (hs.vN ht).le8 (b.vN ht).pos (hs.vN ht).pos (W5 b.fN) (W5 hs.fN) (k:=fun u v=>u||v) rfl (Z5r F)) (Q6 (Z7 (by omega) (by omega)) ?_))));exact i
 have:=h l.length F 0 (by omega) (by omega)
 have n:Z2l A (l.take 0)=⟨inR A,fun _ _=>false⟩:=by unfold Z2l;simp
 rw [n] at this;simp only [Y3H ht.val,Z8B] at this
 rw [e3];exact this
end
end Go.Ab
end
section
namespace Go.Ab
set_option maxRecDepth 20000
noncomputable section
def TS.turn(s:TS):TS:=⟨s.N,s.Y⟩
theorem Y9n(A:List Rect)(s:TS):s.turn.O A=s.O A:=by
 funext u v
 simp only [TS.turn,TS.O]
 cases inR A u v <;> cases s.Y u v <;> cases s.N u v <;> rfl
theorem Y3L(F:Nat)(A:List Rect)(s:TS):Q9E F (s.sqs A)=some (s.turn.sqs A):=by
 unfold Q9E TS.sqs;rw [Y9n]
 rfl
def tkS(op:Int)(s:TS):TS:=if op=9 then s else s.turn
theorem W3l{A:List Rect}{s:TS}(h:TIn A s)(op:Int):TIn A (tkS op s):=by
 unfold tkS;split
 .exact h
 .exact h.turn
variable {cs:List Crop} {hs:List Rg_} {zs:List A2_} {y c d:Int} {A:List Rect}
theorem Z8N{p:TermPlace}(h:EV y cs hs zs c A)(hp:PL p y cs hs zs d c A):∀ (e:Nat) {F:Nat} (_:BIG+e<=F) {t:Term} (_:TD e t) (_:Q5a e t=true),K6 F p t=some ((evS y cs hs zs d c A e t).sqs A)
 | 0,_,_,_,ht,_=>ht.elim
 | e+1,0,hF,_,_,_=>by unfold BIG at hF;omega
 | e+1,F+1,hF,t,ht,l=>by
  have G : BIG+e<=F:=by omega
  have x:BIG<=F:=by omega
  have E:=x;unfold BIG at E
  obtain ⟨L,_,o,K⟩:=ht;have r:Q5Y t=true/\∀ k ∈ t.kids_,Q5a e k=true:=by
   unfold Q5a at l;rw [Bool.and_eq_true,List.all_eq_true] at l
   exact l
  have b:=r.1;show Q4J F (K6 F) p t=_
  unfold Q4J;have w:∀ s ∈ t.kids_.map (fun k=>tkS t.op_ (evS y cs hs zs d c A e k)),TIn A s:=fun s hs=>by
   obtain ⟨k,_,rfl⟩:=List.mem_map.1 hs;exact W3l (Z4Y e k) _
  have B:∀ (m f i:Nat),i+m=t.kids_.length->m<f->Q9 (fun again (z:Int×(List Squares))=>Q0u F (K6 F) p t again z.1 z.2) f (((i:Nat):Int),(t.kids_.take i).map fun k=>(tkS t.op_ (evS y cs hs zs d c A e k)).sqs A)=some ((evS y cs hs zs d c A (e+1) t).sqs A):=by
   intro m
   induction m with
   | zero=>
    intro f i M l;obtain ⟨f,rfl⟩:∃ g,f=g+1:=⟨f-1,by omega⟩
    show Q0u F (K6 F) p t (Q9 _ f) ((i:Nat):Int) _=_;unfold Q0u
    refine Q7 (decide_eq_false (by omega)) ?_;rw [show i=t.kids_.length by omega,List.take_length]
    unfold Q6Y;have a:=Y5o x hp.re h.tr w (by rw [List.length_map];exact o)
    rw [List.map_map] at a;have a:Q3n F p (t.kids_.map fun k=>(tkS t.op_ (evS y cs hs zs d c A e k)).sqs A)=_:=a
    have z:∀ {k:Int},(t.op_==k)=false->¬ t.op_=k:=fun h e=>by rw [e] at h;simp at h
    refine Q4 (fun q=>?_) fun u=>Q4 (fun q=>?_) fun n=>Q4 (fun q=>?_) fun C=>?_
    .have q:=eq_of_beq q
     refine Q2 a ?_;have:Z2l A (t.kids_.map fun k=>tkS t.op_ (evS y cs hs zs d c A e k))=evS y cs hs zs d c A (e+1) t:=by
      conv=>rhs;unfold evS
      unfold Z2l tkS;rw [if_pos q]
      simp only [List.all_map,List.any_map,if_pos q];rfl
     rw [this]
    .have q:=eq_of_beq q
     refine Q2 a (Q2 (Y3L F A _) ?_);have:(Z2l A (t.kids_.map fun k=>tkS t.op_ (evS y cs hs zs d c A e k))).turn=evS y cs hs zs d c A (e+1) t:=by
      conv=>rhs;unfold evS
      unfold Z2l tkS TS.turn;rw [if_neg (z u),if_pos q]
      simp only [List.all_map,List.any_map,if_neg (z u)];rfl
     rw [this]
    .have q:=eq_of_beq q
     have N:t.kids_.length=1:=by
      unfold Q5Y at b;simp [q] at b
      omega
     refine Q6 (by rw [List.length_map];omega) ?_;rw [y5 (by rw [List.length_map];show 0<_;omega),List.getElem_map]
     have:tkS t.op_ (evS y cs hs zs d c A e (gl t.kids_ 0))=evS y cs hs zs d c A (e+1) t:=by
      conv=>rhs;unfold evS
      unfold tkS TS.turn;rw [if_neg (z u),if_neg (z u),if_neg (z n),if_pos q]
     rw [<-this,y5 (by omega)];rfl
    .have:atS y cs hs zs d c A t=evS y cs hs zs d c A (e+1) t:=by
      unfold evS;rw [if_neg (z u),if_neg (z n),if_neg (z C)]
     rw [<-this];exact Q2 (Y4y x h hp b) rfl
   | succ m ih=>
    intro f i M l;obtain ⟨f,rfl⟩:∃ g,f=g+1:=⟨f-1,by omega⟩
    show Q0u F (K6 F) p t (Q9 _ f) ((i:Nat):Int) _=_;have j:i<t.kids_.length:=by omega
    have v:=K _ (V4 j);have H:=Z8N h hp e G v (r.2 _ (V4 j))
    have D:=ih f (i+1) (by omega) (by omega);rw [J6 j,List.map_append,List.map_singleton] at D
    generalize Q9 (fun again (z:Int×(List Squares))=>Q0u F (K6 F) p t again z.1 z.2) f=ag at D ⊢;unfold Q0u
    have I:((i:Nat):Int).toNat=i:=Int.toNat_natCast i;have J:((t.kids_.take i).map fun k=>(tkS t.op_ (evS y cs hs zs d c A e k)).sqs A).length<=1000000:=by
     rw [List.length_map,List.length_take];omega
    refine Z6 (decide_eq_true (by omega)) (Q6 (by omega) (Q6 (by rw [I];exact v.op) (Q2 (by rw [I];exact H) ?_)));have k1:∀ s:TS,s=tkS t.op_ (evS y cs hs zs d c A e (gl t.kids_ i))->Q1T F (K6 F) ((i:Nat):Int) ((t.kids_.take i).map fun k=>(tkS t.op_ (evS y cs hs zs d c A e k)).sqs A) ag (s.sqs A).yes_ (s.sqs A).no_ (s.sqs A).open_=some ((evS y cs hs zs d c A (e+1) t).sqs A):=fun s hs=>by
     subst hs;unfold Q1T
     exact Q6 (by unfold LIM;simp only [List.length_singleton];omega) (Q6 (Z7 (by omega) (by omega)) D)
    refine Q4 (fun q=>?_) fun q=>?_
    .have q:¬ t.op_=9:=fun e=>by rw [e] at q;simp at q
     refine Q2 (Y3L F A _) (k1 _ ?_);unfold tkS;rw [if_neg q]
    .have q:t.op_=9:=by simpa using q
     refine k1 _ ?_;unfold tkS;rw [if_pos q]
  have:=B t.kids_.length F 0 (by omega) (by omega)
  simpa using this
end
end Go.Ab
end
section
namespace Go.Ab
set_option maxRecDepth 20000
noncomputable section
variable {F:Nat} {cs:List Crop} {hs:List Rg_} {zs:List A2_} {y c d:Int} {A:List Rect}
structure RP (p:Ref16Place) (y:Int) (cs:List Crop) (hs:List Rg_) (zs:List A2_) (d c:Int) (A:List Rect):Prop where
 yr:p.y_=y
 cs:p.crops_=cs
 hs:p.history_=hs
 zs:p.zones_=zs
 dd:p.day_=d
 cr:p.line_.c_=c
 re:p.line_.g_.t_=A
theorem Y8t{l:List Rg_}{p q:Int->Bool}(h:∀ f ∈ l,p f.c_=q f.c_)(y:Int):yrs l y p=yrs l y q:=by
 unfold yrs;rw [List.filter_congr fun f a=>by rw [h f a]]
theorem Y1X(cs:List Crop):Q5X cs (-1) 0=fun _=>true:=by
 funext k;simp [Q5X]
theorem Y9p{f:Int}(h:0<=f)(cs:List Crop):Q5X cs f 0=Y0D cs f:=by
 funext k
 unfold Q5X Y0D;rw [decide_eq_false (by omega:¬ f<0),Bool.eq_iff_iff]
 simp
theorem Y5k(h:EV y cs hs zs c A)(k:Int)(p:Int->Bool){u v:Int}(hh:inR (yrs hs k p) u v=true):0<=u/\u<(15:Nat)/\0<=v/\v<(15:Nat):=Y3c (Y9i h.hb k p) hh
theorem Q7g(h:EV y cs hs zs c A)(k:Int)(p:Int->Bool):(cn (inR (yrs hs k p))).length<=120:=Y5d (W6 _) fun _ _ a=>Y5k h k p a
def Z6e(hs:List Rg_)(cs:List Crop)(y f:Int):Nat->Sq
 | 0=>fun _ _=>false
 | k+1=>fun u v=>Z6e hs cs y f k u v||inR (yrs hs (y-((k+1:Nat):Int)) (Z9r cs f)) u v
theorem Z9l(f:Int):∀ k,Fin (Z6e hs cs y f k)
 | 0=>Y6c
 | k+1=>Y4T (Z9l f k) (W6 _)
theorem Y4E(h:EV y cs hs zs c A)(f:Int):∀ (k:Nat) (u v:Int),Z6e hs cs y f k u v=true->0<=u/\u<(15:Nat)/\0<=v/\v<(15:Nat)
 | 0,_,_,a=>by cases a
 | k+1,u,v,a=>by
  unfold Z6e at a;rw [Bool.or_eq_true] at a
  rcases a with a|a
  .exact Y4E h f k u v a
  .exact Y5k h _ _ a
theorem W3c(f:Int):∀ k,cut A ⟨(smS A hs cs y f k).Y,Z6e hs cs y f k⟩=smS A hs cs y f k:=by
 intro k;have e:∀ k u v,(inR A u v&&Z6e hs cs y f k u v)=(smS A hs cs y f k).N u v:=by
  intro k u v
  induction k with
  | zero=>simp [Z6e,smS]
  | succ k ih=>
   unfold Z6e smS knS;simp only
   rw [<-ih]
   cases inR A u v <;> simp
 have a:=Z9F (Y2e A hs cs y f k);unfold cut at a ⊢
 have b:=congrArg TS.Y a;simp only at b
 rw [b];have g:(fun u v=>inR A u v&&Z6e hs cs y f k u v)=(smS A hs cs y f k).N:=by
  funext u v;exact e k u v
 rw [g]
theorem Y3r(hF:BIG<=F)(h:EV y cs hs zs c A){p:Ref16Place}(hp:RP p y cs hs zs d c A){n:Nat}(n0:1<=n)(n1:n<=100):
  Q5E F p (n:Int)=some ((smS A hs cs y (gl cs c.toNat).f_ (n-1)).tru A):=by
 have o:=hF;unfold BIG at o
 have l:=h.crop;have K:=h.yr
 have O:=h.tr.val.1;unfold Q5E
 have j:∀ (m f k:Nat),k+m=n-1->m<f->Q9 (fun again (z:(List Rect)×(List Rect)×Int)=>Q0f F p (n:Int) again z.1 z.2.1 z.2.2) f (cn (smS A hs cs y (gl cs c.toNat).f_ k).Y,cn (Z6e hs cs y (gl cs c.toNat).f_ k),y-1-((k:Nat):Int))=some ((smS A hs cs y (gl cs c.toNat).f_ (n-1)).tru A):=by
  intro m
  induction m with
  | zero=>
   intro f k G i;obtain ⟨f,rfl⟩:∃ g,f=g+1:=⟨f-1,by omega⟩
   show Q0f F p (n:Int) (Q9 _ f) _ _ (y-1-((k:Nat):Int))=_;unfold Q0f
   rw [hp.yr];refine Q6 (Z7 (by omega) (by omega)) (Q7 (decide_eq_false (by omega)) ?_)
   unfold Q6b;have e:=Y2e A hs cs y (gl cs c.toNat).f_ k
   have J:=(e.vY h.tr).1;have D:=Y5d (Z9l (hs:=hs) (cs:=cs) (y:=y) (gl cs c.toNat).f_ k) (Y4E h _ k)
   have:=Q4r hF hp.re h.tr (a:=cn (smS A hs cs y (gl cs c.toNat).f_ k).Y) (b:=cn (Z6e hs cs y (gl cs c.toNat).f_ k)) (by omega) (by omega) (s:=⟨(smS A hs cs y (gl cs c.toNat).f_ k).Y,Z6e hs cs y (gl cs c.toNat).f_ k⟩) (W5 e.fY) (W5 (Z9l _ k))
   rw [W3c] at this;rw [show n-1=k by omega]
   exact Q2 this rfl
  | succ m ih=>
   intro f k G i;obtain ⟨f,rfl⟩:∃ g,f=g+1:=⟨f-1,by omega⟩
   show Q0f F p (n:Int) (Q9 _ f) _ _ (y-1-((k:Nat):Int))=_;have t:=ih f (k+1) (by omega) (by omega)
   generalize Q9 (fun again (z:(List Rect)×(List Rect)×Int)=>Q0f F p (n:Int) again z.1 z.2.1 z.2.2) f=ag at t ⊢;unfold Q0f
   rw [hp.yr,hp.hs,hp.cs,hp.cr];have e:=Y2e A hs cs y (gl cs c.toNat).f_ k
   have J:=(e.vY h.tr).1;have D:=Y5d (Z9l (hs:=hs) (cs:=cs) (y:=y) (gl cs c.toNat).f_ k) (Y4E h _ k)
   have w:=Q3s hF h.few cs (y-1-((k:Nat):Int)) (gl cs c.toNat).f_ 0 (.inr fun f i=>(h.hc f i).2);have r:=Q3s hF h.few cs (y-1-((k:Nat):Int)) (-1) 0 (.inl ⟨by omega,rfl⟩)
   rw [Y9p h.fam] at w;rw [Y1X] at r
   have L:=Q7g h (y-1-((k:Nat):Int)) (Y0D cs (gl cs c.toNat).f_);have M:=Q7g h (y-1-((k:Nat):Int)) fun _=>true
   have I:(fun u v=>z8 (inR (yrs hs (y-1-((k:Nat):Int)) fun _=>true) u v) (inR (yrs hs (y-1-((k:Nat):Int)) (Y0D cs (gl cs c.toNat).f_)) u v) 3)=inR (yrs hs (y-1-((k:Nat):Int)) (Z9r cs (gl cs c.toNat).f_)):=by
    funext u v
    rw [Z9Q h.few.hl _ (Y0D cs (gl cs c.toNat).f_) (Z9r cs (gl cs c.toNat).f_) (fun f _=>rfl)];rfl
   have x:=Q8q hF (a:=cn (inR (yrs hs (y-1-((k:Nat):Int)) fun _=>true))) (b:=cn (inR (yrs hs (y-1-((k:Nat):Int)) (Y0D cs (gl cs c.toNat).f_)))) (by omega) (W5 (W6 _)) (W5 (W6 _)) 3;rw [I] at x
   have N:=Q7g h (y-1-((k:Nat):Int)) (Z9r cs (gl cs c.toNat).f_);have B:=Q8q hF (a:=cn (smS A hs cs y (gl cs c.toNat).f_ k).Y) (b:=cn (inR (yrs hs (y-1-((k:Nat):Int)) (Y0D cs (gl cs c.toNat).f_)))) (by omega) (W5 e.fY) (W5 (W6 _)) 2
   have C:=Q8q hF (a:=cn (Z6e hs cs y (gl cs c.toNat).f_ k)) (b:=cn (inR (yrs hs (y-1-((k:Nat):Int)) (Z9r cs (gl cs c.toNat).f_)))) (by omega) (W5 (Z9l _ k)) (W5 (W6 _)) 1;refine Q6 (Z7 (by omega) (by omega)) (Z6 (decide_eq_true (by omega)) (Q2 w (Q2 B (Q2 r (Q2 x (Q2 C (Q6 (Z7 (by omega) (by omega)) ?_)))))))
   have q:y-1-((k:Nat):Int)=y-((k+1:Nat):Int):=by omega
   have H:(fun u v=>z8 ((smS A hs cs y (gl cs c.toNat).f_ k).Y u v) (inR (yrs hs (y-1-((k:Nat):Int)) (Y0D cs (gl cs c.toNat).f_)) u v) 2)=(smS A hs cs y (gl cs c.toNat).f_ (k+1)).Y:=by
    funext u v
    rw [q];show ((smS A hs cs y (gl cs c.toNat).f_ k).Y u v&&inR (yrs hs (y-((k+1:Nat):Int)) (Y0D cs (gl cs c.toNat).f_)) u v)=((smS A hs cs y (gl cs c.toNat).f_ k).Y u v&&(inR A u v&&inR (yrs hs (y-((k+1:Nat):Int)) (Y0D cs (gl cs c.toNat).f_)) u v))
    cases hh:(smS A hs cs y (gl cs c.toNat).f_ k).Y u v with
    | false=>rfl
    | true=>rw [e.sY u v hh];rfl
   have E:(fun u v=>z8 (Z6e hs cs y (gl cs c.toNat).f_ k u v) (inR (yrs hs (y-1-((k:Nat):Int)) (Z9r cs (gl cs c.toNat).f_)) u v) 1)=Z6e hs cs y (gl cs c.toNat).f_ (k+1):=by
    funext u v
    conv=>rhs;unfold Z6e
    rw [q];rfl
   rw [H,E,show y-1-((k:Nat):Int)-1=y-1-((k+1:Nat):Int) by omega];exact t
 have:=j (n-1) F 0 (by omega) (by omega)
 refine Q6 (by rw [hp.cr,hp.cs];exact l) (Q6 (by rw [hp.yr];exact Z7 (by omega) (by omega)) ?_);rw [show (smS A hs cs y (gl cs c.toNat).f_ 0)=⟨inR A,fun _ _=>false⟩ from rfl,show Z6e hs cs y (gl cs c.toNat).f_ 0=fun _ _=>false from rfl] at this
 simp only [Y3H h.tr.val,Z8B] at this;rw [hp.re,hp.yr]
 simpa using this
end
end Go.Ab
end
section
namespace Go.Ab
set_option maxRecDepth 20000
noncomputable section
variable {cs:List Crop} {hs:List Rg_} {zs:List A2_} {y c d:Int} {A:List Rect}
def grS(A:List Rect)(op:Int)(l:List TS):TS:=if op=9 then Z2l A l else (Z2l A (l.map TS.turn)).turn
theorem W2x{op:Int}{l:List TS}(h:∀ s ∈ l,TIn A s):TIn A (grS A op l):=by
 unfold grS;split
 .exact Y4Z h
 .exact (Y4Z fun s hs=>by
   obtain ⟨t,a,rfl⟩:=List.mem_map.1 hs;exact (h t a).turn).turn
theorem Y8f{s:TS}(h:TIn A s):Z2l A [s]=s:=by
 have:=Z9F h
 obtain ⟨Y,N⟩:=s;unfold Z2l
 unfold cut at this;have a:=congrArg TS.Y this
 simp only at a;simp [a]
theorem W2S{op:Int}{s:TS}(h:TIn A s):grS A op [s]=s:=by
 unfold grS;split
 .exact Y8f h
 .have a:TIn A s.turn:=h.turn
  rw [List.map_singleton,Y8f a];rfl
theorem W1H{op:Int}(q:op=9)(l:List TS)(s:TS):grS A op (l++[s])=⟨fun u v=>(grS A op l).Y u v&&s.Y u v,fun u v=>(grS A op l).N u v||s.N u v⟩:=by
 unfold grS;rw [if_pos q,if_pos q,Y2Z]
theorem W2R{op:Int}(q:¬ op=9)(l:List TS)(s:TS):grS A op (l++[s])=⟨fun u v=>(grS A op l).Y u v||s.Y u v,fun u v=>(grS A op l).N u v&&s.N u v⟩:=by
 unfold grS;rw [if_neg q,if_neg q,List.map_append,List.map_singleton,Y2Z]
 rfl
theorem W3r{e:Nat}{t:Term}(q:t.op_=9\/t.op_=10):grS A t.op_ (t.kids_.map (evS y cs hs zs d c A e))=evS y cs hs zs d c A (e+1) t:=by
 conv=>rhs;unfold evS
 unfold grS
 by_cases h9:t.op_=9
 .rw [if_pos h9,if_pos h9]
  unfold Z2l;simp only [List.all_map,List.any_map]
  rfl
 .rw [if_neg h9,if_neg h9,if_pos (by omega)]
  unfold Z2l TS.turn;simp only [List.all_map,List.any_map]
  rfl
theorem W0G:∀ x:Nat,x<32->∀ m ∈ [(1:Int),2,4,8,16],(Q2s .i64 (x:Int) m != 0)=(Q2s .i64 (x:Int) m==m):=by decide +kernel
theorem Y2E{m:Int}(h:Q2u m=true):m ∈ [(1:Int),2,4,8,16]:=by
 unfold Q2u at h;simpa using h
theorem W0f{m:Int}(h:EV y cs hs zs c A)(hm:Q2u m=true):(Q2s .i64 (gl cs c.toNat).m_ m != 0)=Q9j cs c m:=by
 have b:=h.mrk;have a:=h.crop
 have e:=Y2E hm;have f:=W0G (gl cs c.toNat).m_.toNat (by omega) m e
 rw [Int.toNat_of_nonneg b.1] at f;unfold Q9j
 rw [f,decide_eq_true a.1,decide_eq_true a.2,Bool.true_and,Bool.true_and];have:(m != 0)=true:=by
  simp only [List.mem_cons,List.not_mem_nil,or_false] at e;rcases e with rfl|rfl|rfl|rfl|rfl <;> rfl
 rw [this,Bool.true_and]
theorem W0e{m:Int}(h:EV y cs hs zs c A)(hm:Q2u m=true):∀ f ∈ hs,Q5X cs (-1) m f.c_=Q9j cs f.c_ m:=fun f g=>by
 have a:=h.hc f g;have e:=Y2E hm
 unfold Q5X Q9j;have b:(m != 0)=true/\decide (m=0)=false:=by
  simp only [List.mem_cons,List.not_mem_nil,or_false] at e;rcases e with rfl|rfl|rfl|rfl|rfl <;> exact ⟨rfl,rfl⟩
 rw [b.1,b.2,decide_eq_true a.1,decide_eq_true a.2];simp
theorem W3o{t:Term}(hn:Q5Y t=true)(q:t.op_=4):Q2u t.num_=true:=by
 unfold Q5Y at hn;simp [q] at hn
 exact hn.1
theorem Q9t{p:Ref16Place}(h:EV y cs hs zs c A)(hp:RP p y cs hs zs d c A):∀ (e:Nat) {F:Nat} (_:BIG+e<=F) {t:Term} (_:TD e t) (_:Q5a e t=true),J8 F p t=some ((evS y cs hs zs d c A e t).tru A)
 | 0,_,_,_,ht,_=>ht.elim
 | e+1,0,hF,_,_,_=>by unfold BIG at hF;omega
 | e+1,F+1,hF,t,ht,Q=>by
  have S : BIG+e<=F:=by omega
  have o:BIG<=F:=by omega
  have a5:=o;unfold BIG at a5
  obtain ⟨c5,_,b4,V⟩:=ht;have H:Q5Y t=true/\∀ k ∈ t.kids_,Q5a e k=true:=by
   unfold Q5a at Q;rw [Bool.and_eq_true,List.all_eq_true] at Q
   exact Q
  have E:=H.1;have hv:=h.tr.val
  have hA:=hv.1;have a8:=h.crop
  have d5:=h.yr;show Q3T F (J8 F) p t=_
  unfold Q3T;refine Q6 (by rw [hp.cr,hp.cs];exact a8) ?_
  have z:∀ {k:Int},(t.op_==k)=false->¬ t.op_=k:=fun h e=>by rw [e] at h;simp at h
  have r:∀ s:TS,¬ t.op_=9->¬ t.op_=10->¬ t.op_=11->atS y cs hs zs d c A t=s->some (s.tru A)=some ((evS y cs hs zs d c A (e+1) t).tru A):=fun s h9 b0 b1 hs=>by
   conv=>rhs;unfold evS
   rw [if_neg h9,if_neg b0,if_neg b1,hs]
  refine Q4 (fun q=>?_) fun q1=>Q4 (fun q=>?_) fun q2=>Q4 (fun q=>?_) fun q3=>Q4 (fun q=>?_) fun q4=>Q4 (fun q=>?_) fun q5=>Q4 (fun q=>?_) fun q6=>Q4 (fun q=>?_) fun q7=>Q4 (fun q=>?_) fun q8=>Q4 (fun q=>?_) fun a4=>?_
  .have q:=eq_of_beq q
   exact Q2 (Z1d hp.re hv true) (r _ (by omega) (by omega) (by omega) (by unfold atS;simp [q]))
  .have q:=eq_of_beq q
   rw [hp.cr];exact Q2 (Z1d hp.re hv _) (r _ (by omega) (by omega) (by omega) (by unfold atS;rw [if_pos q]))
  .have q:=eq_of_beq q
   rw [hp.cr,hp.cs];exact Q2 (Z1d hp.re hv _) (r _ (by omega) (by omega) (by omega) (by unfold atS;rw [if_neg (by omega),if_pos q]))
  .have q:=eq_of_beq q
   rw [hp.cr,hp.cs,W0f h (W3o E q)];exact Q2 (Z1d hp.re hv _) (r _ (by omega) (by omega) (by omega) (by unfold atS;rw [if_neg (by omega),if_neg (by omega),if_pos q]))
  .have q:=eq_of_beq q
   have K:=Y0f o h.zs t.num_ t.num_ d;rw [W2f] at K
   have hz:(cn (inR (V8 zs d fun x=>x==t.num_))).length<=120:=Y5d (W6 _) fun u v T=>Y3c (Y2x h.zs.box d fun x=>x==t.num_) T
   rw [hp.zs,hp.dd,hp.re];have C:=Q8q o (a:=A) (b:=cn (inR (V8 zs d fun x=>x==t.num_))) (by omega) rfl (W5 (W6 _)) 3
   have P:=h.tr.sub (Y2O (a:=A) (b:=cn (inR (V8 zs d fun x=>x==t.num_))) rfl (W5 (W6 _)) 3) fun u v T=>by
    cases hA:inR A u v with
    | true=>rfl
    | false=>rw [hA] at T;cases T
   have U:=P.1;have w:=Q4r o hp.re h.tr (a:=cn (inR (V8 zs d fun x=>x==t.num_))) (by omega) (Nat.le_trans U (by omega)) (s:=⟨inR (V8 zs d fun x=>x==t.num_),fun u v=>z8 (inR A u v) (inR (V8 zs d fun x=>x==t.num_) u v) 3⟩) (W5 (W6 _)) (W5 (Y2O (a:=A) (b:=V8 zs d fun x=>x==t.num_) rfl rfl 3))
   refine Q2 K (Q2 C (Q2 w (r _ (by omega) (by omega) (by omega) ?_)));unfold atS
   rw [if_neg (by omega),if_neg (by omega),if_neg (by omega),if_pos q];unfold Z8A cut
   congr 1
   funext u v
   show (inR A u v && !inR (V8 zs d fun x=>x==t.num_) u v)=(inR A u v&&(inR A u v && !inR (V8 zs d fun x=>x==t.num_) u v))
   cases inR A u v <;> rfl
  .have q:=eq_of_beq q
   have hb:=W2v E q;have:=Y3r o h hp (n:=t.num_.toNat) (by omega) (by omega)
   rw [Int.toNat_of_nonneg (by omega)] at this;refine Q2 this (r _ (by omega) (by omega) (by omega) ?_)
   unfold atS;rw [if_neg (by omega),if_neg (by omega),if_neg (by omega),if_neg (by omega),if_pos q]
  .have q:=eq_of_beq q
   have hb:=W2u E q;rw [hp.yr,hp.hs,hp.cs]
   have K:=Q3s o h.few cs (y-t.num_) (-1) 0 (.inl ⟨by omega,rfl⟩);have s2:=Q3s o h.few cs (y-t.num_) (-1) t.more_ (.inr fun f Q=>(h.hc f Q).2)
   rw [Y1X] at K;rw [Y8t (q:=fun k=>Q9j cs k t.more_) (W0e h hb.2)] at s2
   have m1:=Q7g h (y-t.num_) fun _=>true
   have m2:=Q7g h (y-t.num_) fun k=>Q9j cs k t.more_
   have m3:=Q7g h (y-t.num_) fun k=> !Q9j cs k t.more_
   have eN:(fun u v=>z8 (inR (yrs hs (y-t.num_) fun _=>true) u v) (inR (yrs hs (y-t.num_) fun k=>Q9j cs k t.more_) u v) 3)=inR (yrs hs (y-t.num_) fun k=> !Q9j cs k t.more_):=by
    funext u v
    rw [Z9Q h.few.hl _ (fun k=>Q9j cs k t.more_) (fun k=> !Q9j cs k t.more_) (fun f _=>rfl)];rfl
   have C:=Q8q o (a:=cn (inR (yrs hs (y-t.num_) fun _=>true))) (b:=cn (inR (yrs hs (y-t.num_) fun k=>Q9j cs k t.more_))) (by omega) (W5 (W6 _)) (W5 (W6 _)) 3;rw [eN] at C
   have w:=Q4r o hp.re h.tr (a:=cn (inR (yrs hs (y-t.num_) fun k=>Q9j cs k t.more_))) (b:=cn (inR (yrs hs (y-t.num_) fun k=> !Q9j cs k t.more_))) (by omega) (by omega) (s:=⟨inR (yrs hs (y-t.num_) fun k=>Q9j cs k t.more_),inR (yrs hs (y-t.num_) fun k=> !Q9j cs k t.more_)⟩) (W5 (W6 _)) (W5 (W6 _));refine Q6 (Z7 (by omega) (by omega)) (Q2 K (Q6 (Z7 (by omega) (by omega)) (Q2 s2 (Q2 C (Q2 w (r _ (by omega) (by omega) (by omega) ?_))))))
   unfold atS;rw [if_neg (by omega),if_neg (by omega),if_neg (by omega),if_neg (by omega),if_neg (by omega),if_pos q]
   rfl
  .have q:=eq_of_beq q
   have hb:=W2t E q;rw [hp.yr,hp.hs,hp.cs,hp.re]
   have K:=Q3s o h.few cs (y-t.num_) (-1) 0 (.inl ⟨by omega,rfl⟩);rw [Y1X] at K
   have m1:=Q7g h (y-t.num_) fun _=>true
   have C:=Q8q o (a:=A) (b:=cn (inR (yrs hs (y-t.num_) fun _=>true))) (by omega) rfl (W5 (W6 _)) 3;have P:=h.tr.sub (Y2O (a:=A) (b:=yrs hs (y-t.num_) fun _=>true) rfl rfl 3) fun u v T=>by
    cases hA:inR A u v with
    | true=>rfl
    | false=>rw [hA] at T;cases T
   have U:=P.1;have w:=Q4r o hp.re h.tr (a:=cn (inR (yrs hs (y-t.num_) fun _=>true))) (by omega) (Nat.le_trans U (by omega)) (s:=⟨inR (yrs hs (y-t.num_) fun _=>true),fun u v=>z8 (inR A u v) (inR (yrs hs (y-t.num_) fun _=>true) u v) 3⟩) (W5 (W6 _)) (W5 (Y2O (a:=A) (b:=yrs hs (y-t.num_) fun _=>true) rfl rfl 3))
   refine Q6 (Z7 (by omega) (by omega)) (Q2 K (Q2 C (Q2 w (r _ (by omega) (by omega) (by omega) ?_))));unfold atS
   rw [if_neg (by omega),if_neg (by omega),if_neg (by omega),if_neg (by omega),if_neg (by omega),if_neg (by omega),if_pos q];unfold Z8A cut
   congr 1
   funext u v
   show (inR A u v && !inR (yrs hs (y-t.num_) fun _=>true) u v)=(inR A u v&&(inR A u v && !inR (yrs hs (y-t.num_) fun _=>true) u v))
   cases inR A u v <;> rfl
  .have q:=eq_of_beq q
   have h1:t.kids_.length=1:=by
    unfold Q5Y at E;simp [q] at E
    omega
   have L:=V4 (l:=t.kids_) (i:=0) (by omega);have B:=Q9t h hp e S (V _ L) (H.2 _ L)
   refine Q6 (by omega) (Q6 (V _ L).op (Q2 B ?_));have:(evS y cs hs zs d c A e (gl t.kids_ 0)).turn=evS y cs hs zs d c A (e+1) t:=by
    conv=>rhs;unfold evS
    rw [if_neg (by omega),if_neg (by omega),if_pos q];rfl
   rw [<-this];unfold TS.tru
   rw [Y9n];rfl
  .have hq:t.op_=9\/t.op_=10:=by
    unfold Q5Y at E;have:=z q1;have:=z q2;have:=z q3;have:=z q4;have:=z q5;have:=z q6;have:=z q7;have:=z q8;have:=z a4
    simp_all
   have h1:1<=t.kids_.length:=by
    unfold Q5Y at E;rcases hq with q|q <;> simp [q] at E <;> omega
   have L:=V4 (l:=t.kids_) (i:=0) (by omega);have B:=Q9t h hp e S (V _ L) (H.2 _ L)
   refine Q6 (by omega) (Q6 (V _ L).op (Q2 B (Q6 (by omega) ?_)));have D:(t.kids_.drop (1:Int).toNat).length=t.kids_.length-1:=by simp
   have a0:∀ n,∀ s ∈ (t.kids_.take n).map (evS y cs hs zs d c A e),TIn A s:=fun n s hs=>by
    obtain ⟨k,_,rfl⟩:=List.mem_map.1 hs;exact Z4Y e k
   have a3:∀ (m f i:Nat),i+1+m=t.kids_.length->m<f->Q9 (fun again (z:Int×(List Rect)×(List Rect)×(List Rect))=>Q0g F (J8 F) p t again z.1 z.2.1 z.2.2.1 z.2.2.2) f (((i:Nat):Int),cn (grS A t.op_ ((t.kids_.take (i+1)).map (evS y cs hs zs d c A e))).Y,cn (grS A t.op_ ((t.kids_.take (i+1)).map (evS y cs hs zs d c A e))).N,cn ((grS A t.op_ ((t.kids_.take (i+1)).map (evS y cs hs zs d c A e))).O A))=some ((evS y cs hs zs d c A (e+1) t).tru A):=by
    intro m
    induction m with
    | zero=>
     intro f i hi Q;obtain ⟨f,rfl⟩:∃ g,f=g+1:=⟨f-1,by omega⟩
     show Q0g F (J8 F) p t (Q9 _ f) ((i:Nat):Int) _ _ _=_;unfold Q0g
     refine Q7 (decide_eq_false (by rw [D];omega)) ?_;rw [show i+1=t.kids_.length by omega,List.take_length,W3r hq]
     rfl
    | succ m ih=>
     intro f i hi Q;obtain ⟨f,rfl⟩:∃ g,f=g+1:=⟨f-1,by omega⟩
     show Q0g F (J8 F) p t (Q9 _ f) ((i:Nat):Int) _ _ _=_;have J:i+1<t.kids_.length:=by omega
     have W:=V _ (V4 J);have B:=Q9t h hp e S W (H.2 _ (V4 J))
     have Z:=ih f (i+1) (by omega) (by omega);generalize Q9 (fun again (z:Int×(List Rect)×(List Rect)×(List Rect))=>Q0g F (J8 F) p t again z.1 z.2.1 z.2.2.1 z.2.2.2) f=ag at Z ⊢
     have M:=W2x (op:=t.op_) (a0 (i+1));have j:=W2x (op:=t.op_) (a0 (i+1+1))
     have R:=Z4Y (y:=y) (cs:=cs) (hs:=hs) (zs:=zs) (d:=d) (c:=c) (A:=A) e (gl t.kids_ (i+1));have et:(t.kids_.take (i+1+1)).map (evS y cs hs zs d c A e)=(t.kids_.take (i+1)).map (evS y cs hs zs d c A e)++[evS y cs hs zs d c A e (gl t.kids_ (i+1))]:=by rw [J6 J,List.map_append,List.map_singleton]
     have ei:gl (t.kids_.drop (1:Int).toNat) ((i:Nat):Int).toNat=gl t.kids_ (i+1):=by
      rw [Int.toNat_natCast,y5 (by rw [D];omega),y5 J,List.getElem_drop];congr 1
      show 1+i=i+1;omega
     generalize hG:grS A t.op_ ((t.kids_.take (i+1)).map (evS y cs hs zs d c A e))=G at M ⊢;have y1:=(M.vY h.tr).1
     have n1:=(M.vN h.tr).1;have y2:=(R.vY h.tr).1
     have n2:=(R.vN h.tr).1;unfold Q0g
     rw [ei];refine Z6 (decide_eq_true (by rw [D];omega)) (Q6 (by rw [D];omega) (Q6 W.op (Q2 B ?_)))
     have k1:∀ s:TS,s=grS A t.op_ ((t.kids_.take (i+1+1)).map (evS y cs hs zs d c A e))->Q1x F (J8 F) ((i:Nat):Int) ag (s.tru A).yes_ (s.tru A).no_ (s.tru A).open_=some ((evS y cs hs zs d c A (e+1) t).tru A):=fun s he=>by
      subst he;unfold Q1x
      exact Q6 (Z7 (by omega) (by omega)) Z
     generalize evS y cs hs zs d c A e (gl t.kids_ (i+1))=X at R et y2 n2 ⊢;refine Q4 (fun q=>?_) fun q=>?_
     .have q:=eq_of_beq q
      have I:=W1H (A:=A) q ((t.kids_.take (i+1)).map (evS y cs hs zs d c A e)) X;rw [<-et,hG] at I
      have C:=Q8q o (a:=cn G.Y) (b:=cn X.Y) (by omega) (W5 M.fY) (W5 R.fY) 2;have c2:=Q8q o (a:=cn G.N) (b:=cn X.N) (by omega) (W5 M.fN) (W5 R.fN) 1
      rw [I] at j;have P:=(j.vY h.tr).1
      have U:=(j.vN h.tr).1;have w:=Q4r o hp.re h.tr (a:=cn fun u v=>G.Y u v&&X.Y u v) (b:=cn fun u v=>G.N u v||X.N u v) (Nat.le_trans P (by omega)) (Nat.le_trans U (by omega)) (s:=⟨fun u v=>G.Y u v&&X.Y u v,fun u v=>G.N u v||X.N u v⟩) (W5 j.fY) (W5 j.fN)
      rw [Z9F j] at w;exact Q2 C (Q2 c2 (Q2 w (k1 _ I.symm)))
     .have q:¬ t.op_=9:=z q
      have I:=W2R (A:=A) q ((t.kids_.take (i+1)).map (evS y cs hs zs d c A e)) X;rw [<-et,hG] at I
      have C:=Q8q o (a:=cn G.Y) (b:=cn X.Y) (by omega) (W5 M.fY) (W5 R.fY) 1;have c2:=Q8q o (a:=cn G.N) (b:=cn X.N) (by omega) (W5 M.fN) (W5 R.fN) 2
      rw [I] at j;have P:=(j.vY h.tr).1
      have U:=(j.vN h.tr).1;have w:=Q4r o hp.re h.tr (a:=cn fun u v=>G.Y u v||X.Y u v) (b:=cn fun u v=>G.N u v&&X.N u v) (Nat.le_trans P (by omega)) (Nat.le_trans U (by omega)) (s:=⟨fun u v=>G.Y u v||X.Y u v,fun u v=>G.N u v&&X.N u v⟩) (W5 j.fY) (W5 j.fN)
      rw [Z9F j] at w;exact Q2 C (Q2 c2 (Q2 w (k1 _ I.symm)))
   have:=a3 (t.kids_.length-1) F 0 (by omega) (by omega)
   have I:(t.kids_.take (0+1)).map (evS y cs hs zs d c A e)=[evS y cs hs zs d c A e (gl t.kids_ 0)]:=by
    rw [J6 (by omega:0<t.kids_.length)];rfl
   rw [I,W2S (Z4Y e _)] at this;exact this
end
end Go.Ab
end
section
namespace Go.Ab
set_option maxRecDepth 20000
noncomputable section
def Q1o(cs:List Crop)(c:Int):Bool:=decide (c<0)||decide (((cs.length:Nat):Int)<=c)
def Q8r(e:Nat)(t:Term)(cs:List Crop)(c:Int)(hs:List Rg_)(y:Int)(zs:List A2_)(d:Int)(A:List Rect):Int:=
 if Q7m e t≠0 then Q7m e t else if crC cs≠0 then crC cs else if (Q1o cs c||hs.any fun r=>Q1o cs r.c_)=true then 13
 else if Q7w hs≠0 then Q7w hs else if y<0\/100<y then 18 else if Q8s zs≠0 then Q8s zs else if d<0\/36864<d then 9 else if Q3m A=true then 0 else 7
theorem Y4l(F:Nat)(k:Int)(p:TermPlace):Q1V F k p=some (Q1o p.world_.crops_ k):=by
 unfold Q1V Q2n Q1o;refine Q4 (fun h=>?_) (fun h=>?_)
 .rw [h];rfl
 .rw [h];rfl
theorem Y4Y{F:Nat}(hF:BIG<=F){l:List Rg_}(hl:l.length<=1000000)(p:TermPlace):Q0p F l p=some (l.any fun r=>Q1o p.world_.crops_ r.c_):=by
 have b:=hF;unfold BIG at b
 have:∃ i:Int,Q0O F l p=some i/\(decide (0<=i))=l.any fun r=>Q1o p.world_.crops_ r.c_:=by
  unfold Q0O;have e:∀ (m f i:Nat),i+m=l.length->m<f->∃ v:Int,Q9 (fun again (z:Int)=>U5 F l p again z) f ((i:Nat):Int)=some v/\(decide (0<=v))=(l.drop i).any fun r=>Q1o p.world_.crops_ r.c_:=by
   intro m
   induction m with
   | zero=>
    intro f i n o;obtain ⟨f,rfl⟩:∃ g,f=g+1:=⟨f-1,by omega⟩
    show ∃ v:Int,U5 F l p (Q9 _ f) ((i:Nat):Int)=some v/\_;unfold U5
    refine ⟨-1,Q7 (decide_eq_false (by omega)) rfl,?_⟩;rw [List.drop_eq_nil_of_le (by omega)];rfl
   | succ m ih=>
    intro f i n o;obtain ⟨f,rfl⟩:∃ g,f=g+1:=⟨f-1,by omega⟩
    have a:i<l.length:=by omega
    obtain ⟨v,j,s⟩:=ih f (i+1) (by omega) (by omega);show ∃ v:Int,U5 F l p (Q9 _ f) ((i:Nat):Int)=some v/\_
    generalize Q9 (fun again (z:Int)=>U5 F l p again z) f=ag at j ⊢;unfold U5
    have k:Q2C F (gl l ((i:Nat):Int).toNat) p=some (Q1o p.world_.crops_ (gl l i).c_):=by
     unfold Q2C;rw [Int.toNat_natCast]
     exact Q2 (Y4l F _ p) rfl
    have h:l.drop i=gl l i::l.drop (i+1):=by rw [List.drop_eq_getElem_cons a,y5 a]
    rw [h,List.any_cons]
    cases hw:Q1o p.world_.crops_ (gl l i).c_ with
    | true=>
     refine ⟨(i:Int),Z6 (decide_eq_true (by omega)) (Q6 (by omega) (Q2 (k.trans (by rw [hw])) (Z6 rfl rfl))),?_⟩;simp
    | false=>
     refine ⟨v,Z6 (decide_eq_true (by omega)) (Q6 (by omega) (Q2 (k.trans (by rw [hw])) (Q7 rfl (Q6 (Z7 (by omega) (by omega)) j)))),?_⟩;rw [s];rfl
  have:=e l.length F 0 (by omega) (by omega)
  simpa using this
 obtain ⟨i,t,q⟩:=this;unfold Q0p
 refine Q2 t ?_;rw [<-q]
theorem Y3o{e F:Nat}(hF:BIG+e<=F){p:TermPlace}{t:Term}(ht:TD e t)(hl:p.world_.history_.length<=1000000)(hc:NmS p.world_.crops_):Q5C F p t=some (Q8r e t p.world_.crops_ p.line_.c_ p.world_.history_ p.world_.y_ p.world_.zones_ p.world_.day_ p.line_.g_.t_):=by
 have a:BIG<=F:=by omega
 unfold Q5C Q8r;refine Q2 (Z7y hF ht) (Q4 (fun q=>?_) fun q=>?_)
 .rw [if_pos (by simpa using q)]
 rw [if_neg (by simpa using q)];refine Q2 (Z6y a hc) (Q4 (fun q=>?_) fun q=>?_)
 .rw [if_pos (by simpa using q)]
 rw [if_neg (by simpa using q)];have k1:∀ b:Bool,Q1v F p b=some (if b=true then 18 else if Q8s p.world_.zones_≠0 then Q8s p.world_.zones_ else if p.world_.day_<0\/36864<p.world_.day_ then 9 else if Q3m p.line_.g_.t_=true then 0 else 7):=fun b=>by
  unfold Q1v;cases b
  .simp only [Bool.false_eq_true,if_false]
   refine Q7 rfl (Q2 (Z7T a _ _) ?_)
   by_cases h1:Q8s p.world_.zones_≠0
   .rw [if_pos h1,if_pos h1]
    exact Z6 (by simpa using h1) rfl
   rw [if_neg h1,if_neg h1]
   by_cases h2:p.world_.day_<0\/36864<p.world_.day_
   .rw [if_pos h2,if_pos h2]
    exact Z6 rfl rfl
   rw [if_neg h2,if_neg h2];refine Q7 rfl (Q2 (Q0q a _) ?_)
   cases Q3m p.line_.g_.t_ <;> rfl
  .exact Z6 rfl rfl
 have f:∀ b:Bool,Q1w F p b=some (if b=true then 13 else if Q7w p.world_.history_≠0 then Q7w p.world_.history_ else if p.world_.y_<0\/100<p.world_.y_ then 18 else if Q8s p.world_.zones_≠0 then Q8s p.world_.zones_ else if p.world_.day_<0\/36864<p.world_.day_ then 9 else if Q3m p.line_.g_.t_=true then 0 else 7):=fun b=>by
  unfold Q1w;cases b
  .simp only [Bool.false_eq_true,if_false]
   refine Q7 rfl (Q2 (Y0u a _) ?_);refine Q4 (fun q=>?_) fun q=>?_
   .rw [if_pos (by simpa using q)]
   rw [if_neg (by simpa using q)];refine Q4 (fun q=>?_) fun q=>?_
   .rw [k1,if_pos rfl,if_pos (.inl (of_decide_eq_true q))]
   .rw [k1]
    by_cases h1:100<p.world_.y_
    .rw [if_pos (decide_eq_true h1),if_pos (.inr h1)]
    .have h:¬ decide (100<p.world_.y_)=true:=by simpa using h1
     have g:¬ (p.world_.y_<0\/100<p.world_.y_):=by have:=of_decide_eq_false q;omega
     rw [if_neg h,if_neg g]
  .exact Z6 rfl rfl
 refine Q2 (Y4l F _ p) (Q4 (fun q=>?_) fun q=>?_)
 .rw [f,q];rfl
 .refine Q2 (Y4Y a hl p) ?_
  rw [f,q];rfl
end
end Go.Ab
end
section
namespace Go.Ab
set_option maxRecDepth 20000
noncomputable section
def noT:Truth:=⟨⟨[]⟩,⟨[]⟩,⟨[]⟩⟩
def TS.t3(A:List Rect)(s:TS):Truth:=⟨⟨cn s.Y⟩,⟨cn s.N⟩,⟨cn (s.O A)⟩⟩
def Q6C(e:Nat)(t:Term)(l:Line)(y:Int)(cs:List Crop)(hs:List Rg_)(zs:List A2_)(d:Int):Truth×Int:=
 if Q8r e t cs l.c_ hs y zs d l.g_.t_≠0 then (noT,Q8r e t cs l.c_ hs y zs d l.g_.t_) else ((evS y cs hs zs d l.c_ l.g_.t_ e t).t3 l.g_.t_,0)
theorem Y6m{e:Nat}{t:Term}{cs:List Crop}{c:Int}{hs:List Rg_}{y:Int}{zs:List A2_}{d:Int}{A:List Rect}(ht:TD e t)(h:Q8r e t cs c hs y zs d A=0):Q5a e t=true:=by
 have a:Q7m e t=0:=Classical.byContradiction fun b=>by
  unfold Q8r at h;rw [if_pos b] at h
  exact b h
 unfold Q7m at a
 by_cases hz:40<szD e t
 .rw [if_pos hz] at a;cases a
 .rw [if_neg hz] at a
  by_cases hr:Q6a e 8 t=true
  .rw [Z6P e 8 t ht,Bool.and_eq_true] at hr
   exact hr.2
  .rw [if_neg hr] at a;cases a
variable {F:Nat} {cs:List Crop} {hs:List Rg_} {zs:List A2_} {y d:Int}
theorem Y4z{e:Nat}(hF:BIG+e<=F){t:Term}(ht:TD e t){l:Line}(hl:hs.length<=1000000)(hc:NmS cs)(hev:Q8r e t cs l.c_ hs y zs d l.g_.t_=0->EV y cs hs zs l.c_ l.g_.t_):Z6M F t l y cs hs zs d=some (Q6C e t l y cs hs zs d):=by
 have j:BIG<=F:=by omega
 unfold Z6M Q6C;refine Q2 (Y3o (p:=⟨⟨y,cs,hs,zs,d⟩,l,l.g_.t_⟩) hF ht hl hc) (Q4 (fun q=>?_) fun q=>?_)
 .rw [if_pos (by simpa using q)];rfl
 have q:Q8r e t cs l.c_ hs y zs d l.g_.t_=0:=by simpa using q
 rw [if_neg (by rw [q];simp)];have h:=hev q
 have b:=Z4Y (y:=y) (cs:=cs) (hs:=hs) (zs:=zs) (d:=d) (c:=l.c_) (A:=l.g_.t_) e t;refine Q2 (Z8N (p:=⟨⟨y,cs,hs,zs,d⟩,l,l.g_.t_⟩) h ⟨rfl,rfl,rfl,rfl,rfl,rfl,rfl⟩ e hF ht (Y6m ht q)) ?_
 have i:=(b.vY h.tr).1;have g:=(b.vN h.tr).1
 have f:=(b.vO h.tr).1;generalize evS y cs hs zs d l.c_ l.g_.t_ e t=s at i g f ⊢
 have a:∀ m:List Rect,m.length<=120->Q7l F m=some ⟨m⟩:=fun m k=>by
  unfold Q7l;refine Q2 (Q9Q (by unfold LIM;omega)) rfl
 refine Q7 (decide_eq_false ?_) (Q2 (a _ i) (Q2 (a _ g) (Q2 (a _ f) rfl)));show ¬ (120:Int)<Q0A (Q0A ((cn s.Y).length:Int) ((cn s.N).length:Int)) ((cn (s.O l.g_.t_)).length:Int)
 unfold Q0A;split <;> split <;> omega
theorem Y3s{e:Nat}(he:e<=2000000)(hF:BIG+e<=F){t:Term}(ht:TD e t){l:Line}(hl:hs.length<=1000000)(hev:Q8r e t cs l.c_ hs y zs d l.g_.t_=0->EV y cs hs zs l.c_ l.g_.t_):Z1J F t l y cs hs zs d=some (Q6C e t l y cs hs zs d):=by
 have C:BIG<=F:=by omega
 have L:=C;unfold BIG at L
 unfold Z1J;have a:∀ k:Int,k≠0->Q8r e t cs l.c_ hs y zs d l.g_.t_=k->(some (noT,k):Option (Truth×Int))=some (Q6C e t l y cs hs zs d):=fun k W h=>by
  unfold Q6C;rw [if_pos (by rw [h];exact W),h]
 refine Q2 (Z5N he hF ht) (Q4 (fun q=>?_) fun n=>?_)
 .have q:Q7m e t≠0:=by simpa using q
  exact a _ q (by unfold Q8r;rw [if_pos q])
 have n:¬ Q7m e t≠0:=by simpa using n
 refine Q2 (Y1p C cs) (Q4 (fun q=>?_) fun v=>?_)
 .have q:crC cs≠0:=by simpa using q
  exact a _ q (by unfold Q8r;rw [if_neg n,if_pos q])
 have v:¬ crC cs≠0:=by simpa using v
 have P:∀ b:Bool,b=decide (d<0\/36864<d)->¬ (Q1o cs l.c_||hs.any fun r=>Q1o cs r.c_)=true->¬ Q7w hs≠0->¬ (y<0\/100<y)->¬ Q8s zs≠0->Q6r F t l y cs hs zs d b=some (Q6C e t l y cs hs zs d):=fun b j w o x B=>by
  unfold Q6r;refine Q4 (fun q=>?_) fun I=>?_
  .rw [q] at j
   have q:=of_decide_eq_true j.symm;exact a 9 (by decide) (by unfold Q8r;rw [if_neg n,if_neg v,if_neg w,if_neg o,if_neg x,if_neg B,if_pos q])
  rw [I] at j;have I:=of_decide_eq_false j.symm
  refine Q2 (Q2d C _) (Q4 (fun q=>?_) fun K=>?_)
  .have q:¬ Q3m l.g_.t_=true:=by simpa using q
   exact a 7 (by decide) (by unfold Q8r;rw [if_neg n,if_neg v,if_neg w,if_neg o,if_neg x,if_neg B,if_neg I,if_neg q])
  have K:Q3m l.g_.t_=true:=by simpa using K
  have q:Q8r e t cs l.c_ hs y zs d l.g_.t_=0:=by unfold Q8r;rw [if_neg n,if_neg v,if_neg w,if_neg o,if_neg x,if_neg B,if_neg I,if_pos K]
  have h:=hev q;have E:=Z4Y (y:=y) (cs:=cs) (hs:=hs) (zs:=zs) (d:=d) (c:=l.c_) (A:=l.g_.t_) e t
  refine Q2 (Q9t (p:=⟨l,y,cs,hs,zs,d⟩) h ⟨rfl,rfl,rfl,rfl,rfl,rfl,rfl⟩ e hF ht (Y6m ht q)) ?_;have T:=(E.vY h.tr).1
  have Z:=(E.vN h.tr).1;have V:=(E.vO h.tr).1
  unfold Q6C;rw [if_neg (by rw [q];simp)]
  generalize evS y cs hs zs d l.c_ l.g_.t_ e t=s at T Z V ⊢;refine Q7 (decide_eq_false (by show ¬ (120:Int)<((cn s.Y).length:Int);omega)) (Q7 (decide_eq_false (by show ¬ (120:Int)<((cn s.N).length:Int);omega)) ?_)
  unfold Q6q;exact Q7 (decide_eq_false (by show ¬ (120:Int)<((cn (s.O l.g_.t_)).length:Int);omega)) rfl
 have X:¬ (Q1o cs l.c_||hs.any fun r=>Q1o cs r.c_)=true->Q9w F t l y cs hs zs d=some (Q6C e t l y cs hs zs d):=fun w=>by
  unfold Q9w;refine Q2 (Z5O C hs) (Q4 (fun q=>?_) fun o=>?_)
  .have q:Q7w hs≠0:=by simpa using q
   exact a _ q (by unfold Q8r;rw [if_neg n,if_neg v,if_neg w,if_pos q])
  have o:¬ Q7w hs≠0:=by simpa using o
  have R:∀ b:Bool,b=decide (y<0\/100<y)->Q6s F t l y cs hs zs d b=some (Q6C e t l y cs hs zs d):=fun b j=>by
   unfold Q6s;refine Q4 (fun q=>?_) fun x=>?_
   .rw [q] at j
    have q:=of_decide_eq_true j.symm;exact a 18 (by decide) (by unfold Q8r;rw [if_neg n,if_neg v,if_neg w,if_neg o,if_pos q])
   rw [x] at j;have x:=of_decide_eq_false j.symm
   refine Q2 (Z5U C zs) (Q4 (fun q=>?_) fun B=>?_)
   .have q:Q8s zs≠0:=by simpa using q
    exact a _ q (by unfold Q8r;rw [if_neg n,if_neg v,if_neg w,if_neg o,if_neg x,if_pos q])
   have B:¬ Q8s zs≠0:=by simpa using B
   refine Q4 (fun q=>?_) fun q=>?_
   .exact P true (by have:=of_decide_eq_true q;simp [this]) w o x B
   .exact P _ (by have:=of_decide_eq_false q;simp [this]) w o x B
  refine Q4 (fun q=>?_) fun q=>?_
  .exact R true (by have:=of_decide_eq_true q;simp [this])
  .exact R _ (by have:=of_decide_eq_false q;simp [this])
 have M:∀ b:Bool,b=Q1o cs l.c_->Q6u F t l y cs hs zs d b=some (Q6C e t l y cs hs zs d):=fun b j=>by
  unfold Q6u;refine Q4 (fun q=>?_) fun q=>?_
  .rw [q] at j
   exact a 13 (by decide) (by unfold Q8r;rw [if_neg n,if_neg v,if_pos (by rw [<-j];rfl)])
  rw [q] at j;have J:∀ (m f i:Nat),i+m=hs.length->m<f->(∀ r ∈ hs.take i,Q1o cs r.c_=false)->Q9 (fun again (z:Int)=>Q2V F t l y cs hs zs d again z) f ((i:Nat):Int)=some (Q6C e t l y cs hs zs d):=by
   intro m
   induction m with
   | zero=>
    intro f i E U G;obtain ⟨f,rfl⟩:∃ g,f=g+1:=⟨f-1,by omega⟩
    show Q2V F t l y cs hs zs d (Q9 _ f) ((i:Nat):Int)=_;unfold Q2V
    refine Q7 (decide_eq_false (by omega)) (X ?_);rw [show i=hs.length by omega,List.take_length] at G
    rw [<-j,Bool.false_or,List.any_eq_true];rintro ⟨r,u,S⟩
    rw [G r u] at S;cases S
   | succ m ih=>
    intro f i E U G;obtain ⟨f,rfl⟩:∃ g,f=g+1:=⟨f-1,by omega⟩
    have D:i<hs.length:=by omega
    show Q2V F t l y cs hs zs d (Q9 _ f) ((i:Nat):Int)=_;have Q:=ih f (i+1) (by omega) (by omega)
    generalize Q9 (fun again (z:Int)=>Q2V F t l y cs hs zs d again z) f=ag at Q ⊢;unfold Q2V
    have k2:∀ b:Bool,b=Q1o cs (gl hs i).c_->Q6t F ((i:Nat):Int) ag b=some (Q6C e t l y cs hs zs d):=fun b H=>by
     unfold Q6t;refine Q4 (fun q=>?_) fun q=>?_
     .rw [q] at H
      exact a 13 (by decide) (by
       unfold Q8r;rw [if_neg n,if_neg v,if_pos]
       rw [Bool.or_eq_true,List.any_eq_true];exact .inr ⟨_,V4 D,H.symm⟩)
     .rw [q] at H
      refine Q6 (Z7 (by omega) (by omega)) (Q fun r u=>?_);rw [J6 D,List.mem_append] at u
      rcases u with u|u
      .exact G r u
      .rw [List.mem_singleton.1 u];exact H.symm
    refine Z6 (decide_eq_true (by omega)) (Q6 (by omega) ?_);rw [Int.toNat_natCast]
    refine Q4 (fun q=>?_) fun q=>?_
    .exact k2 true (by unfold Q1o;rw [q];rfl)
    .exact k2 _ (by unfold Q1o;rw [q];rfl)
  exact J hs.length F 0 (by omega) (by omega) fun r u=>by simp at u
 refine Q4 (fun q=>?_) fun q=>?_
 .exact M true (by unfold Q1o;rw [q];rfl)
 .exact M _ (by unfold Q1o;rw [q];rfl)
end
end Go.Ab
end
section
namespace Go.Ab
set_option maxRecDepth 20000
noncomputable section
theorem Z3K(F:Nat)(u v:Bool):Q6D F u v=some (u&&v):=by
 unfold Q6D Q5W;cases u <;> rfl
theorem Z7t(F:Nat)(u v:Bool):Q5V F u v=some (u && !v):=by
 unfold Q5V Q3k;cases u <;> rfl
theorem Z8t{F:Nat}(hF:BIG<=F){l:List Rect}(h:Val l):Q1f F l=some (⟨l⟩,0):=by
 have a:=h.1;refine (Q8O hF (by omega) h.pos).trans ?_
 rw [Y3H h,if_neg (by omega)]
theorem Z6g{F:Nat}(hF:BIG<=F){a b c:List Rect}(ha:Val a)(hb:Val b)(hc:Val c):Q1j F ⟨a,b,c⟩=some (⟨⟨a⟩,⟨b⟩,⟨c⟩⟩,0):=by
 unfold Q1j;exact Q2 (Z8t hF ha) (Q7 rfl (Q6 (Z7 (by omega) (by omega)) (Q2 (Z8t hF hb) (Q7 rfl (Q6 (Z7 (by omega) (by omega)) (Q2 (Z8t hF hc) (Q7 rfl (Q6 (Z7 (by omega) (by omega)) rfl))))))))
end
end Go.Ab
end
section
namespace Go.Ab
set_option maxRecDepth 20000
noncomputable section
def Z7l(A:List Rect)(s:TS)(G:Sq):TS:=⟨fun u v=>s.Y u v&&G u v,fun u v=>inR A u v && !((s.Y u v&&G u v)||(s.O A u v&&G u v))⟩
theorem W3p{A:List Rect}{s:TS}(h:TIn A s)(G:Sq):(Z7l A s G).O A=fun u v=>s.O A u v&&G u v:=by
 funext u v
 simp only [Z7l,TS.O];have:=h.sY u v
 have:=h.sN u v
 cases hA:inR A u v <;> cases hY:s.Y u v <;> cases hN:s.N u v <;> cases G u v <;> simp_all
theorem Y9V{A:List Rect}{s:TS}(h:TIn A s){G:Sq}(hG:Fin G):TIn A (Z7l A s G):=by
 refine ⟨Z2b h.fY hG,Z4w (W6 A) (Y4T (Z2b h.fY hG) (Z2b h.fO hG)),fun u v a=>?_,fun u v a=>?_⟩
 .simp only [Z7l,Bool.and_eq_true] at a
  exact h.sY u v a.1
 .simp only [Z7l,Bool.and_eq_true] at a
  exact a.1
end
end Go.Ab
end
section
namespace Go.Ab
set_option maxRecDepth 20000
noncomputable section
def Z3R(e n:Int):Bool:=Q2s .i64 (e.fdiv (2 ^ (min n.toNat (IntKind.bits .i64)))) 1==1
theorem W0F(x:Int):Q2s .i64 x 1=0\/Q2s .i64 x 1=1:=by
 unfold Q2s;have h:(BitVec.ofInt 64 x &&& BitVec.ofInt 64 1).toNat<=1:=by
  rw [BitVec.toNat_and];exact Nat.le_trans Nat.and_le_right (by decide)
 show IntKind.wrap .i64 ((BitVec.ofInt 64 x &&& BitVec.ofInt 64 1).toNat:Nat)=0\/IntKind.wrap .i64 ((BitVec.ofInt 64 x &&& BitVec.ofInt 64 1).toNat:Nat)=1;have a:(BitVec.ofInt 64 x &&& BitVec.ofInt 64 1).toNat=0\/(BitVec.ofInt 64 x &&& BitVec.ofInt 64 1).toNat=1:=by omega
 rcases a with a|a <;> rw [a]
 .left;rfl
 .right;rfl
theorem Z3Q(e n:Int):(Q2s .i64 (e.fdiv (2 ^ (min n.toNat (IntKind.bits .i64)))) 1==0)=!Z3R e n:=by
 unfold Z3R;rcases W0F (e.fdiv (2 ^ (min n.toNat (IntKind.bits .i64)))) with h|h <;> rw [h] <;> rfl
def Z4Z(p:Int)(b:Bracket):Bool:=decide (p<b.up_)&&(decide (b.up_<=268435456)&&(decide (0<=b.rate_)&&decide (b.rate_<=1048576)))
def Q9X(l:List Bracket)(i:Nat):Int:=if i=0 then 0 else (gl l (i-1)).up_
def brB(l:List Bracket):Bool:=decide (1<=l.length)&&(decide (l.length<=6) && !(List.range l.length).any fun i=> !Z4Z (Q9X l i) (gl l i))
theorem Y5B{R:Type}{body:(Int->Option R)->Int->Option R}{c y:Option R}(N:Nat)(p:Nat->Bool)(bad:∀ again (i:Nat),i<N->(∀ j,j<i->p j=false)->p i=true->body again (i:Int)=c)(good:∀ again (i:Nat) z,i<N->(∀ j,j<i->p j=false)->p i=false->again ((i:Int)+1)=z->body again (i:Int)=z)(stop:∀ again,body again (N:Int)=y){F:Nat}(hF:N<F):Q9 body F 0=if (List.range N).any p=true then c else y:=by
 refine W4 (fun z:Int=>∃ i:Nat,z=i/\i<=N/\∀ j,j<i->p j=false) (fun z=>N-z.toNat) (fun again z e f=>?_) ⟨0,rfl,Nat.zero_le _,fun j h=>absurd h (Nat.not_lt_zero j)⟩ (by simp;omega);obtain ⟨i,rfl,g,a⟩:=e
 rcases Nat.lt_or_ge i N with h|h
 .cases hpi:p i with
  | true=>
   rw [if_pos (List.any_eq_true.2 ⟨i,List.mem_range.2 h,hpi⟩)];exact bad again i h a hpi
  | false=>
   refine good again i _ h a hpi (f _ ⟨i+1,by omega,h,fun j b=>?_⟩ (by omega))
   by_cases hji:j=i
   .rw [hji];exact hpi
   .exact a j (by omega)
 .have:i=N:=by omega
  subst this;rw [if_neg (by rw [Bool.not_eq_true,List.any_eq_false];intro j b;rw [a j (List.mem_range.1 b)];simp)]
  exact stop again
theorem Z8d{F:Nat}{l:List Bracket}(hF:l.length<F)(hl:l.length<=1000000):Q6I F l=some (brB l):=by
 unfold Q6I;refine (Y5B (c:=some false) (y:=some (decide (1<=l.length)&&decide (l.length<=6))) l.length (fun i=> !Z4Z (Q9X l i) (gl l i)) (fun a i v n o=>?_) (fun a i z v n o s=>?_) (fun a=>?_) hF).trans ?_
 all_goals try (
  have e:i=0\/(1<=i/\1<=(gl l (i-1)).up_):=by
   rcases Nat.eq_zero_or_pos i with h|h
   .exact .inl h
   .refine .inr ⟨h,?_⟩
    have u:∀ j,j<i->1<=(gl l j).up_:=by
     intro j
     induction j with
     | zero=>
      intro w;have:=n 0 w
      rw [Bool.not_eq_false'] at this;unfold Z4Z Q9X at this
      rw [if_pos rfl] at this;simp only [Bool.and_eq_true,decide_eq_true_eq] at this;omega
     | succ j ih=>
      intro r;have f:=ih (by omega)
      have:=n (j+1) r
      rw [Bool.not_eq_false'] at this;unfold Z4Z Q9X at this
      rw [if_neg (by omega),Nat.add_sub_cancel] at this;simp only [Bool.and_eq_true,decide_eq_true_eq] at this;omega
    exact u (i-1) (by omega)
  have q:(((i:Nat):Int)-1).toNat=i-1:=by omega)
 .show Q0v F l a (i:Int)=_
  unfold Q0v;have k1:K4 F (i:Int) a true=some false:=rfl
  refine Z6 (decide_eq_true (by omega)) (Q6 (by omega) (Q4 (fun _=>k1) (fun f=>Q4 (fun _=>k1) (fun m=>Q4 (fun _=>k1) (fun k=>Q4 (fun _=>k1) (fun g=>?_))))));have f:=of_decide_eq_false f
  have m:=of_decide_eq_false m;have k:=of_decide_eq_false k
  have g:=of_decide_eq_false g;simp only [Int.toNat_natCast] at f m k g
  have b : Z4Z (Q9X l i) (gl l i)=false:=by simpa using o
  unfold Z4Z Q9X at b;rcases e with h|⟨h,t⟩
  .subst h
   rw [if_pos rfl,decide_eq_true (by omega),decide_eq_true (by omega),decide_eq_true (by omega),decide_eq_true (by omega)] at b;simp at b
  .rw [if_neg (by omega)] at b
   refine Z6 (decide_eq_true (by omega)) (Q6 (Z7 (by omega) (by omega)) (Q6 (by omega) ?_));rw [q,decide_eq_true (p:=(gl l ((i:Nat):Int).toNat).up_<=_)]
   .exact k1
   .simp only [Int.toNat_natCast]
    by_cases h6:(gl l (i-1)).up_<(gl l i).up_
    .rw [decide_eq_true h6,decide_eq_true (by omega),decide_eq_true (by omega),decide_eq_true (by omega)] at b
     simp at b
    .omega
 .show Q0v F l a (i:Int)=_
  unfold Q0v;have b : Z4Z (Q9X l i) (gl l i)=true:=by simpa using o
  unfold Z4Z Q9X at b;simp only [Bool.and_eq_true,decide_eq_true_eq] at b
  obtain ⟨f,m,k,g⟩:=b;have k1:K4 F (i:Int) a false=z:=Q7 rfl (Q6 (Z7 (by omega) (by omega)) s)
  have x:1<=(gl l i).up_:=by
   rcases e with h|⟨h,t⟩
   .rw [if_pos h] at f;omega
   .rw [if_neg (by omega)] at f;omega
  refine Z6 (decide_eq_true (by omega)) (Q6 (by omega) (Q7 (decide_eq_false (by simp only [Int.toNat_natCast];omega)) (Q7 (decide_eq_false (by simp only [Int.toNat_natCast];omega)) (Q7 (decide_eq_false (by simp only [Int.toNat_natCast];omega)) (Q7 (decide_eq_false (by simp only [Int.toNat_natCast];omega)) ?_)))));refine Q4 (fun h=>?_) (fun _=>k1)
  have h:=of_decide_eq_true h;refine Q6 (Z7 (by omega) (by omega)) (Q6 (by omega) ?_)
  rw [q,decide_eq_false]
  .exact k1
  .rw [if_neg (by omega)] at f
   simp only [Int.toNat_natCast];omega
 .show Q0v F l a (l.length:Int)=_
  unfold Q0v Q7b Q3O;refine Q7 (decide_eq_false (by omega)) ?_
  rw [show decide ((1:Int)<=((l.length:Nat):Int))=decide (1<=l.length) from decide_eq_decide.2 (by omega),show decide (((l.length:Nat):Int)<=(6:Int))=decide (l.length<=6) from decide_eq_decide.2 (by omega)]
  cases decide (1<=l.length) <;> rfl
 .unfold brB
  cases (List.range l.length).any fun i=> !Z4Z (Q9X l i) (gl l i) <;> simp
theorem Z9b{F:Nat}{l:List Bracket}(hF:l.length<F)(hl:l.length<=1000000):Q7I F l=some (brB l):=by
 unfold Q7I brB;have e:Q2H F l true=some false:=rfl
 by_cases h1:1<=l.length
 .refine Q7 (decide_eq_false (by omega)) ?_
  by_cases h2:l.length<=6
  .rw [decide_eq_true h1,decide_eq_true h2,decide_eq_false (by omega)]
   unfold Q2H;refine Q7 rfl ?_
   suffices hs:∀ (n i:Nat),l.length-i<n->i<=l.length->Q9 (fun again (z:Int×Int)=>Q1n F l again z.1 z.2) n (Q9X l i,(i:Int))=some (!((List.range l.length).drop i).any fun i=> !Z4Z (Q9X l i) (gl l i)) by
    have:=hs F 0 (by omega) (by omega)
    simpa [Q9X] using this
   intro n
   induction n with
   | zero=>intro i h;omega
   | succ n ih=>
    intro i g j;have b:=ih (i+1)
    revert b
    show _->Q1n F l (Q9 (fun again (z:Int×Int)=>Q1n F l again z.1 z.2) n) (Q9X l i) (i:Int)=_;generalize Q9 (fun again (z:Int×Int)=>Q1n F l again z.1 z.2) n=ag
    intro b;unfold Q1n
    by_cases hil:i<l.length
    .rw [show (List.range l.length).drop i=i::(List.range l.length).drop (i+1) by rw [List.drop_eq_getElem_cons (by simpa using hil),List.getElem_range]]
     rw [List.any_cons];refine Z6 (decide_eq_true (by omega)) (Q6 (by omega) ?_)
     simp only [Int.toNat_natCast];have a:Q0j F l (i:Int) ag true=some false:=rfl
     have f:Q0j F l (i:Int) ag false=some (!((List.range l.length).drop (i+1)).any fun i=> !Z4Z (Q9X l i) (gl l i)):=by
      unfold Q0j;refine Q7 rfl (Q6 (Z7 (by omega) (by omega)) ?_)
      rw [<-b (by omega) (by omega)];congr 1
     rw [show Z4Z (Q9X l i) (gl l i)=(decide (Q9X l i<(gl l i).up_)&&(decide ((gl l i).up_<=268435456)&&(decide (0<=(gl l i).rate_)&&decide ((gl l i).rate_<=1048576)))) from rfl]
     by_cases g1:Q9X l i<(gl l i).up_
     .rw [decide_eq_true g1]
      refine Q7 (decide_eq_false (by omega)) ?_
      by_cases g2:(gl l i).up_<=268435456
      .rw [decide_eq_true g2]
       refine Q7 (decide_eq_false (by omega)) ?_
       by_cases g3:0<=(gl l i).rate_
       .rw [decide_eq_true g3]
        refine Q7 (decide_eq_false (by omega)) ?_
        by_cases g4:(gl l i).rate_<=1048576
        .rw [decide_eq_true g4,decide_eq_false (by omega),f];simp
        .rw [decide_eq_false g4,decide_eq_true (by omega),a];simp
       .rw [decide_eq_false g3]
        exact Z6 (decide_eq_true (by omega)) a
      .rw [decide_eq_false g2]
       exact Z6 (decide_eq_true (by omega)) a
     .rw [decide_eq_false g1]
      exact Z6 (decide_eq_true (by omega)) a
    .have:i=l.length:=by omega
     subst this;refine Q7 (decide_eq_false (by omega)) ?_
     rw [List.drop_eq_nil_of_le (by simp)];rfl
  .rw [decide_eq_false h2,decide_eq_true (by omega),Bool.false_and,Bool.and_false];exact e
 .rw [decide_eq_false h1]
  exact Z6 (decide_eq_true (by omega)) e
structure SD (d:Nat) (s:Scheme):Prop where
 cond:TD d s.cond_
 name:s.n_.size<=4294967296
 brl:s.brackets_.length<=1000000
def Q9Y(d:Nat)(s:Scheme):Int:=
 if s.N_<0\/15<s.N_\/s.least_<0\/268435456<s.least_ then 2 else if Q1a s.n_=false then 5 else if Q7m d s.cond_≠0 then Q7m d s.cond_
 else if brB s.brackets_=false\/s.excludes_<0\/65536<=s.excludes_\/Z3R s.excludes_ s.N_=true then 3 else 0
theorem Y1g{d F:Nat}(hd:d<=2000000)(hF:BIG+d<=F){s:Scheme}(h:SD d s):Z0X F s=some (Q9Y d s):=by
 have f:BIG<=F:=by omega
 have e:=f;unfold BIG at e
 unfold Z0X Q9Y;have a:Q1r F s true=some 2:=rfl
 by_cases h1:s.N_<0
 .rw [if_pos (.inl h1)];exact Z6 (decide_eq_true h1) a
 refine Q7 (decide_eq_false h1) ?_
 by_cases h2:15<s.N_
 .rw [if_pos (.inr (.inl h2))];exact Z6 (decide_eq_true h2) a
 refine Q7 (decide_eq_false h2) ?_
 by_cases h3:s.least_<0
 .rw [if_pos (.inr (.inr (.inl h3)))];exact Z6 (decide_eq_true h3) a
 refine Q7 (decide_eq_false h3) ?_
 by_cases h4:268435456<s.least_
 .rw [if_pos (.inr (.inr (.inr h4))),decide_eq_true h4];exact a
 rw [if_neg (by omega),decide_eq_false h4];unfold Q1r
 refine Q7 rfl (Q2 (Z2K (by have:=h.name;omega) h.name) ?_)
 cases hn:Q1a s.n_ with
 | false=>rfl
 | true=>
  rw [if_neg (by simp)];refine Q7 rfl (Q2 (Z7y hF h.cond) ?_)
  by_cases h5:Q7m d s.cond_=0
  .rw [if_neg (by simpa using h5)]
   refine Q7 (by simp [h5]) (Q2 (Z8d (by have:=h.brl;omega) h.brl) ?_);have b:Q1q F true=some 3:=rfl
   cases hbr:brB s.brackets_ with
   | false=>rw [if_pos (.inl rfl)];exact Z6 rfl b
   | true=>
    refine Q7 rfl ?_
    by_cases h6:s.excludes_<0
    .rw [if_pos (.inr (.inl h6))];exact Z6 (decide_eq_true h6) b
    refine Q7 (decide_eq_false h6) ?_
    by_cases h7:65536<=s.excludes_
    .rw [if_pos (.inr (.inr (.inl h7)))];exact Z6 (decide_eq_true h7) b
    refine Q7 (decide_eq_false h7) (Q6 (by omega) ?_);show Q1q F (Z3R s.excludes_ s.N_)=_
    cases Z3R s.excludes_ s.N_ with
    | true=>rw [if_pos (.inr (.inr (.inr rfl)))];exact b
    | false=>rw [if_neg (by simp;omega)];rfl
  .rw [if_pos h5]
   exact Z6 (by simpa using h5) rfl
theorem Z9c{d F:Nat}(hd:d<=2000000)(hF:BIG+d<=F){s:Scheme}(h:SD d s):Z6Q F s=some (Q9Y d s):=by
 have f:BIG<=F:=by omega
 have e:=f;unfold BIG at e
 unfold Z6Q Q9Y;have a:Q3S F s true=some 2:=rfl
 by_cases h1:s.N_<0
 .rw [if_pos (.inl h1)];exact Z6 (decide_eq_true h1) a
 refine Q7 (decide_eq_false h1) ?_
 by_cases h2:15<s.N_
 .rw [if_pos (.inr (.inl h2))];exact Z6 (decide_eq_true h2) a
 refine Q7 (decide_eq_false h2) ?_
 by_cases h3:s.least_<0
 .rw [if_pos (.inr (.inr (.inl h3)))];exact Z6 (decide_eq_true h3) a
 refine Q7 (decide_eq_false h3) ?_
 by_cases h4:268435456<s.least_
 .rw [if_pos (.inr (.inr (.inr h4))),decide_eq_true h4];exact a
 rw [if_neg (by omega),decide_eq_false h4];unfold Q3S
 refine Q7 rfl (Q2 (Z6c f _) ?_)
 cases hn:Q1a s.n_ with
 | false=>rfl
 | true=>
  rw [if_neg (by simp)];refine Q7 rfl (Q2 (Z5N hd hF h.cond) ?_)
  by_cases h5:Q7m d s.cond_=0
  .rw [if_neg (by simpa using h5)]
   refine Q7 (by simp [h5]) (Q2 (Z9b (by have:=h.brl;omega) h.brl) ?_);have b:Q3R F true=some 3:=rfl
   cases hbr:brB s.brackets_ with
   | false=>rw [if_pos (.inl rfl)];exact Z6 rfl b
   | true=>
    refine Q7 rfl ?_
    by_cases h6:s.excludes_<0
    .rw [if_pos (.inr (.inl h6))];exact Z6 (decide_eq_true h6) b
    refine Q7 (decide_eq_false h6) ?_
    by_cases h7:65536<=s.excludes_
    .rw [if_pos (.inr (.inr (.inl h7)))];exact Z6 (decide_eq_true h7) b
    refine Q7 (decide_eq_false h7) (Q6 (by omega) ?_);show Q3R F (Z3R s.excludes_ s.N_)=_
    cases Z3R s.excludes_ s.N_ with
    | true=>rw [if_pos (.inr (.inr (.inr rfl)))];exact b
    | false=>rw [if_neg (by simp;omega)];rfl
  .rw [if_pos h5]
   exact Z6 (by simpa using h5) rfl
end
end Go.Ab
end
section
namespace Go.Ab
set_option maxRecDepth 20000
noncomputable section
theorem Z8V(F:Nat)(u v:Bool):Q6L F u v=some (u && !v):=by
 unfold Q6L Q3Q;cases u <;> rfl
theorem Y0b{F:Nat}(hF:BIG<=F)(a b:Re_):Q9r F a b=some (Y3K a b):=by
 unfold Q9r Y3K Q3p;refine Q2 (Q0q hF a) (Q4 (fun h=>?_) fun h=>?_)
 .rw [h,Bool.true_and]
  refine Q2 (Q0q hF b) (Q4 (fun e=>?_) fun e=>?_)
  .rw [e,Bool.true_and]
   have f:=(Q0Q _).1 h;have vb:=(Q0Q _).1 e
   refine Q2 (Q3I hF f.le8 vb.le8 f.pos vb.pos rfl rfl (k:=fun u v=>u && !v) rfl (Z8V F)) ?_;congr 1
   show _=decide (cn (fun x y=>inR a.t_ x y && !inR b.t_ x y)=[])
   cases cn fun x y=>inR a.t_ x y && !inR b.t_ x y with
   | nil=>rfl
   | cons r l=>simp;omega
  .rw [e];rfl
 .rw [h];rfl
theorem Y2g{e:Nat}{s:Scheme}(h:Q9Y e s=0):0<=s.N_:=by
 unfold Q9Y at h
 by_cases hn:s.N_<0\/15<s.N_\/s.least_<0\/268435456<s.least_
 .rw [if_pos hn] at h;cases h
 .omega
def Y9U(e:Nat)(l:Line)(parcel:Re_)(s:Scheme)(w:World)(v:Re_×Int):Truth×Int:=
 if Q3m parcel.t_=false then (noT,7)
 else if (Q6C e s.cond_ l w.y_ w.crops_ w.history_ w.zones_ w.day_).2≠0 then (noT,(Q6C e s.cond_ l w.y_ w.crops_ w.history_ w.zones_ w.day_).2)
 else if Q9Y e s≠0 then (noT,17)
 else if v.2≠0 then (noT,v.2)
 else if Y3K l.g_ parcel=false then (noT,12)
 else if Z3R l.s_ s.N_=false then (⟨⟨[]⟩,l.g_,⟨[]⟩⟩,0)
 else ((Z7l l.g_.t_ (evS w.y_ w.crops_ w.history_ w.zones_ w.day_ l.c_ l.g_.t_ e s.cond_) (inR v.1.t_)).t3 l.g_.t_,0)
theorem Y8W{e:Nat}{t:Term}{l:Line}{y:Int}{cs:List Crop}{hs:List Rg_}{zs:List A2_}{d:Int}(h:(Q6C e t l y cs hs zs d).2=0):Q8r e t cs l.c_ hs y zs d l.g_.t_=0/\Q6C e t l y cs hs zs d=((evS y cs hs zs d l.c_ l.g_.t_ e t).t3 l.g_.t_,0):=by
 unfold Q6C at h ⊢
 by_cases hz:Q8r e t cs l.c_ hs y zs d l.g_.t_=0
 .rw [if_neg (by rw [hz];simp)]
  exact ⟨hz,rfl⟩
 .rw [if_pos hz] at h
  exact (hz h).elim
theorem Y0E{e F:Nat}(he:e<=2000000)(hF:BIG+e<=F){l:Line}{parcel:Re_}{s:Scheme}{w:World}(hs:SD e s)(hl:w.history_.length<=1000000)(hc:NmS w.crops_)(hev:Q8r e s.cond_ w.crops_ l.c_ w.history_ w.y_ w.zones_ w.day_ l.g_.t_=0->EV w.y_ w.crops_ w.history_ w.zones_ l.c_ l.g_.t_){v:Re_×Int}(hv:Q6e F parcel w.zones_ w.day_ w.most_=some v)(hval:v.2=0->Val v.1.t_):Q1M F l parcel s w=some (Y9U e l parcel s w v):=by
 have g:BIG<=F:=by omega
 unfold Q1M Y9U;refine Q2 (Q0q g _) (Q4 (fun q=>?_) fun q=>?_)
 .rw [if_pos (by simpa using q)];rfl
 rw [if_neg (by simpa using q)];refine Q2 (Y4z hF hs.cond hl hc hev) (Q4 (fun q=>?_) fun q=>?_)
 .rw [if_pos (by simpa using q)];rfl
 have q:(Q6C e s.cond_ l w.y_ w.crops_ w.history_ w.zones_ w.day_).2=0:=by simpa using q
 rw [if_neg (by rw [q];simp)];obtain ⟨C,hE⟩:=Y8W q
 have h:=hev C;rw [hE]
 refine Q2 (Y1g he hF hs) (Q4 (fun q=>?_) fun j=>?_)
 .rw [if_pos (by simpa using q)];rfl
 have j:Q9Y e s=0:=by simpa using j
 rw [if_neg (by rw [j];simp)];refine Q2 hv (Q4 (fun q=>?_) fun q=>?_)
 .rw [if_pos (by simpa using q)];rfl
 have q:v.2=0:=by simpa using q
 rw [if_neg (by rw [q];simp)];have o:=hval q
 refine Q2 (Y0b g _ _) (Q4 (fun q=>?_) fun q=>?_)
 .rw [if_pos (by simpa using q)];rfl
 rw [if_neg (by simpa using q)];have f:=Z4Y (y:=w.y_) (cs:=w.crops_) (hs:=w.history_) (zs:=w.zones_) (d:=w.day_) (c:=l.c_) (A:=l.g_.t_) e s.cond_
 generalize evS w.y_ w.crops_ w.history_ w.zones_ w.day_ l.c_ l.g_.t_ e s.cond_=T at f ⊢;have m:=Y9V f (W6 v.1.t_)
 have x:=W3p f (inR v.1.t_);have p:=m.vY h.tr
 have G:=m.vN h.tr;have n:=m.vO h.tr
 refine Q6 (Y2g j) (Q4 (fun q=>?_) fun q=>?_)
 .rw [Z3Q] at q
  rw [if_pos (by simpa using q)];exact Q2 (Z6g g Val.nil h.tr.val Val.nil) rfl
 .rw [Z3Q] at q
  rw [if_neg (by simpa using q)];have H:=p.1
  have t:=n.1;rw [x] at n t
  have D:=Q3I g (a:=cn T.Y) (b:=v.1.t_) (f.vY h.tr).le8 o.le8 (f.vY h.tr).pos o.pos (W5 f.fY) rfl (k:=fun u v=>u&&v) rfl (Z3K F);have B:=Q3I g (a:=cn (T.O l.g_.t_)) (b:=v.1.t_) (f.vO h.tr).le8 o.le8 (f.vO h.tr).pos o.pos (W5 f.fO) rfl (k:=fun u v=>u&&v) rfl (Z3K F)
  have I:inR (cn (Z7l l.g_.t_ T (inR v.1.t_)).Y++cn fun u w=>T.O l.g_.t_ u w&&inR v.1.t_ u w)=fun u w=>(T.Y u w&&inR v.1.t_ u w)||(T.O l.g_.t_ u w&&inR v.1.t_ u w):=by
   funext u w
   rw [Z2a,Q2k m.fY,Q2k (Z2b f.fO (W6 _))];rfl
  have E:=Q3I g (a:=l.g_.t_) (b:=cn (Z7l l.g_.t_ T (inR v.1.t_)).Y++cn fun u w=>T.O l.g_.t_ u w&&inR v.1.t_ u w) h.tr.val.le8 (by rw [List.length_append];omega) h.tr.val.pos (fun r i=>by
   rcases List.mem_append.1 i with i|i
   .exact p.pos r i
   .exact n.pos r i) rfl I (k:=fun u v=>u && !v) rfl (Z7t F)
  have z:=Z6g g p G n;unfold TS.t3
  rw [x];exact Q2 D (Q2 B (Q2 (Q7D g (by exact Nat.le_trans H (by omega)) (by exact Nat.le_trans t (by omega))) (Q2 E (Q2 z rfl))))
end
end Go.Ab
end
