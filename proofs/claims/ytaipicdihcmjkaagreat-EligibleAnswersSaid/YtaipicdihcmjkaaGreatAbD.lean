/- Abstract states over the model. -/
import Derived.Test.YtaipicdihcmjkaaGreatLwB
import Derived.Test.YtaipicdihcmjkaaGreatLwA
set_option linter.unusedVariables false
set_option linter.unusedSimpArgs false
section
namespace Go.Ab
set_option maxRecDepth 20000
noncomputable section
theorem G3.half2{l:List Rect}(hc:G3 l){x0:Int}{w h:Nat}(hb:∀ r ∈ l,x0<=r.L_/\r.R_<=x0+w/\0<=r.w_/\r.H_<=h):l.length<=h*((w+1) / 2):=by
 obtain ⟨b,g,rfl⟩:=hc;have f:∀ c ∈ b,∃ s,s ∈ c.v:=fun c hc=>List.exists_mem_of_ne_nil _ (g.ne c hc)
 have d:∀ c ∈ b,∀ s ∈ c.v,(⟨s.L_,c.lo,s.R_,c.hi⟩:Rect) ∈ flat b:=fun c hc s e=>List.mem_flatMap.2 ⟨c,hc,List.mem_map.2 ⟨s,e,rfl⟩⟩
 have m:(b.length:Int)<=h-0:=g.runs.len (by omega) fun c hc=>by
  obtain ⟨s,e⟩:=f c hc;have:=hb _ (d c hc s e)
  simp only at this;omega
 have i:∀ c ∈ b,c.v.length<=(w+1) / 2:=fun c hc=>by
  have:=(g.sp c hc).half (n:=x0+w) (a:=x0) (by omega) fun s e=>by
   have:=hb _ (d c hc s e)
   simp only at this ⊢;omega
  omega
 have j:=vw i;have k:b.length*((w+1) / 2)<=h*((w+1) / 2):=Nat.mul_le_mul_right _ (by omega)
 omega
def Mp(d:Int)(S:Int->Int->Bool):Prop:=∀ u v,S u v=true->d<=u/\u<d+9/\0<=v/\v<9
theorem Q0v{S:Int->Int->Bool}(hf:z8 S){d:Int}(h0:0<=d/\d<=100)(hb:Mp d S):W6 (cn S)/\∀ r ∈ cn S,d<=r.L_/\r.R_<=d+9/\0<=r.w_/\r.H_<=9:=by
 have e:=G3.cn hf;have c:∀ r ∈ cn S,d<=r.L_/\r.R_<=d+9/\0<=r.w_/\r.H_<=9:=by
  intro r c;obtain ⟨g,f⟩:=e.pos c
  have a:=hb r.L_ r.w_ (by rw [<-y8 hf];exact Wy c ((Qh _ _ _).2 (by omega)));have b:=hb (r.R_-1) (r.H_-1) (by rw [<-y8 hf];exact Wy c ((Qh _ _ _).2 (by omega)))
  omega
 have i:=e.half2 (x0:=d) (w:=9) (h:=9) fun r h=>by have:=c r h;omega
 refine ⟨⟨by omega,fun r h=>?_,e⟩,c⟩;obtain ⟨g,f⟩:=e.pos h
 have:=c r h
 rw [ZW];omega
theorem Q9O(F:Nat)(t:Tape)(n m:Int):yT F t n m=GF F t n m:=rfl
def VS(d:Int)(r:Rect):Rect:=⟨r.L_+d,r.w_,r.R_+d,r.H_⟩
theorem jo(d:Int)(l:List Rect)(u v:Int):Q2 (l.map (VS d)) u v=Q2 l (u-d) v:=by
 unfold Q2;rw [List.any_map]
 congr 1
 funext r
 show (VS d r).has u v=r.has (u-d) v;rw [Bool.eq_iff_iff,Qh,Qh]
 show r.L_+d<=u/\u<r.R_+d/\r.w_<=v/\v<r.H_↔r.L_<=u-d/\u-d<r.R_/\r.w_<=v/\v<r.H_;omega
theorem vp{α:Type}[Emb α](l:List α)(i j:Nat)(x:α)(hj:j<l.length):gl (l.set i x) j=if i=j then x else gl l j:=by
 unfold gl;rw [List.getD_eq_getElem?_getD,List.getElem?_set]
 by_cases h:i=j
 .subst h;rw [if_pos rfl,if_pos rfl,if_pos hj];rfl
 .rw [if_neg h,if_neg h, <-List.getD_eq_getElem?_getD]
theorem Pp{α:Type}[Emb α](l:List α)(i:Nat)(h:i<l.length):gl l i=l[i]:=by
 unfold gl;rw [List.getD_eq_getElem?_getD,List.getElem?_eq_getElem h];rfl
theorem Z0Q{α:Type}[Emb α]{l m:List α}(h:l.length=m.length)(hg:∀ i,i<l.length->gl l i=gl m i):l=m:=by
 apply List.ext_getElem h;intro i a b
 have:=hg i a
 rwa [Pp l i a,Pp m i b] at this
theorem Z0P{α β:Type}[Emb α][Emb β](f:α->β)(l:List α)(i:Nat)(h:i<l.length):gl (l.map f) i=f (gl l i):=by
 rw [Pp _ i (by simpa using h),Pp l i h];simp
def FA(q r:Rect):Rect:=⟨max q.L_ r.L_,max q.w_ r.w_,min q.R_ r.R_,min q.H_ r.H_⟩
theorem Z1U(q:Rect)(l:List Rect)(u v:Int):Q2 (l.map (FA q)) u v=(Q2 l u v&&Q2 [q] u v):=by
 rw [Bool.eq_iff_iff,Bool.and_eq_true,QA,QA,QA];constructor
 .rintro ⟨r,a,h⟩
  obtain ⟨s,b,rfl⟩:=List.mem_map.1 a;rw [Qh] at h
  simp only [FA] at h;exact ⟨⟨s,b,(Qh _ _ _).2 (by omega)⟩,q,by simp,(Qh _ _ _).2 (by omega)⟩
 .rintro ⟨⟨s,b,d⟩,r,a,c⟩
  rw [List.mem_singleton] at a;subst a
  rw [Qh] at d c;refine ⟨_,List.mem_map.2 ⟨s,b,rfl⟩,(Qh _ _ _).2 ?_⟩
  simp only [FA];omega
theorem Z0S{α:Type}[Emb α](l m:List α){i:Nat}(h:i<l.length):gl (l++m) i=gl l i:=by
 unfold gl;rw [List.getD_eq_getElem?_getD,List.getElem?_append_left h, <-List.getD_eq_getElem?_getD]
theorem Z0R{α:Type}[Emb α](l:List α)(x:α):gl (l++[x]) l.length=x:=by
 unfold gl;rw [List.getD_eq_getElem?_getD,List.getElem?_append_right (Nat.le_refl _)];simp
structure ParT (rs:List Re_):Prop where
 len:1<=rs.length/\rs.length<=3
 one:∀ i,i<rs.length->∃ w h:Int,2<=w/\w<=9/\2<=h/\h<=9/\gl rs i=⟨[⟨10*i,0,10*i+w,h⟩]⟩
theorem ParT.pl{rs:List Re_}(h:ParT rs){i:Nat}(hi:i<rs.length):Mp (10*i) (Q2 (gl rs i).t_):=by
 intro u v a;obtain ⟨w,k,j,e,f,g,d⟩:=h.one i hi
 rw [d,QA] at a;obtain ⟨r,b,c⟩:=a
 rw [List.mem_singleton] at b;subst b
 rw [Qh] at c;simp only at c
 omega
theorem ParT.val{rs:List Re_}(h:ParT rs){i:Nat}(hi:i<rs.length):W6 (gl rs i).t_:=by
 obtain ⟨w,k,d,c,e,b,a⟩:=h.one i hi;have:=h.len
 rw [a];exact Lo ((ZW _).2 (by simp only;omega))
structure LinO (K:Int) (rs:List Re_) (x:Line):Prop where
 crop:0<=x.c_/\x.c_<K
 par:1<=x.p_/\x.p_<=rs.length
 sch:1<=x.s_/\x.s_<=15
 val:W6 x.g_.t_
 ne:x.g_.t_.length≠0
 sub:∀ u v,Q2 x.g_.t_ u v=true->Q2 (gl rs (x.p_-1).toNat).t_ u v=true
def Z3X(a b:Line):Prop:=∀ u v,Q2 a.g_.t_ u v=true->Q2 b.g_.t_ u v=true->False
structure LinT (K:Int) (rs:List Re_) (l:List Line):Prop where
 one:∀ x ∈ l,LinO K rs x
 apart:l.Pairwise Z3X
 two:∀ i,i<l.length->∃ R:List Rect,R.length<=2/\∀ u v,Q2 (gl l i).g_.t_ u v=(Q2 R u v && !(l.take i).any fun x=>Q2 x.g_.t_ u v)
theorem LinO.pl{K:Int}{rs:List Re_}(hp:ParT rs){x:Line}(h:LinO K rs x):Mp (10*(x.p_-1)) (Q2 x.g_.t_):=by
 intro u v a;have:=h.par
 have b:=hp.pl (i:=(x.p_-1).toNat) (by omega) u v (h.sub u v a);omega
theorem LinT.nil(K:Int)(rs:List Re_):LinT K rs []:=⟨fun x a=>by simp at a,.nil,fun i b=>by simp at b⟩
theorem Q9E{F:Nat}(hF:Q8<=F){t:Tape}(ht:TOk t){cs:List Crop}(hcs:1<=cs.length/\cs.length<=100){most:Int}(m1:0<=most)(m2:most<=10):
  ∃ t' l ns rs,Cp F t cs most=some (t',l,ns,rs)/\TOk t' /\ ParT rs/\LinT (cs.length:Nat) rs l/\(l.length:Int)<=most:=by
 have P:=hF;unfold Q8 at hF
 obtain ⟨t1,c,e1,o1,c1,c2⟩:=Vc (F:=F) ht (lo:=1) (hi:=3) (by omega) (by omega) (by omega);have M:∀ (rs:List Re_) (ns:List Int) (tl:List Int) (O:Int),ParT rs->ns.length=rs.length->TOk ⟨tl,O⟩->∃ t' l,Co F cs most tl O ns rs=some (t',l,ns,rs)/\TOk t' /\ LinT (cs.length:Nat) rs l/\(l.length:Int)<=most:=by
  intro rs ns tl O I B hT;have e4:=I.len
  obtain ⟨G,k,e2,o2,k1,k2⟩:=QL (F:=F) hT (n:=most+1) (by omega) (by omega);have U:∀ (k f:Nat) (t:Tape) (l:List Line),k<f->(l.length:Int)+k<=most->TOk t->LinT (cs.length:Nat) rs l ->
    ∃ t' l',Z7 (fun d (z:Int×List Int×Int×List Line)=>Pb F cs ns rs d z.1 z.2.1 z.2.2.1 z.2.2.2) f ((k:Int),t.l_,t.at_,l)=some (t',l',ns,rs)/\TOk t' /\ LinT (cs.length:Nat) rs l' /\ (l'.length:Int)<=most:=by
   intro k
   induction k with
   | zero=>
    intro f t l hf b5 ht T
    cases f with
    | zero=>omega
    | succ f=>exact ⟨⟨t.l_,t.at_⟩,l,rfl,ht,T,by omega⟩
   | succ k ih=>
    intro f t l hf b5 ht T
    cases f with
    | zero=>omega
    | succ f=>
     obtain ⟨O,p,ea,oa,p1,p2⟩:=QL (F:=F) ht (n:=(ns.length:Nat)) (by omega) (by omega);obtain ⟨tb,a,R0,eb,ob,ha,f9,f5,b9⟩:=Q9K P oa (n:=9) (most:=2) (by omega) (by omega) (by omega) (by omega)
     obtain ⟨tc,c,ec,oc,c1,c2⟩:=QL (F:=F) ob (n:=(cs.length:Nat)) (by omega) (by omega);obtain ⟨td,s,ed,od,s1,s2⟩:=QL (F:=F) oc (n:=15) (by omega) (by omega)
     have H:p.toNat<rs.length:=by omega
     have d7:=ha.val.1
     let S:Nat->Int->Int->Bool:=fun n u v=>(Q2 (a.t_.map (VS (10*p))) u v&&Q2 (gl rs p.toNat).t_ u v) && !((l.take n).any fun x=>Q2 x.g_.t_ u v)
     have b8:∀ n,Mp (10*p) (S n):=fun n u v h=>by
      have h1:Q2 (gl rs p.toNat).t_ u v=true:=by
       simp only [S,Bool.and_eq_true] at h;exact h.1.2
      have:=I.pl H u v h1
      omega
     have a2:S 0=fun u v=>K2 (Q2 (a.t_.map (VS (10*p))) u v) (Q2 (gl rs p.toNat).t_ u v) 2:=by
      funext u v
      simp [S,K2]
     have a4:∀ r ∈ a.t_,0<=r.L_/\r.L_<r.R_/\r.R_<=9/\0<=r.w_/\r.w_<r.H_/\r.H_<=9:=ha.box;have c8:∀ r ∈ a.t_.map (VS (10*p)),Qg r=true:=fun r hr=>by
      obtain ⟨q,hq,rfl⟩:=List.mem_map.1 hr;have:=a4 q hq
      rw [ZW];simp only [VS]
      omega
     have g:∀ n,n<=l.length->z8 (S n):=by
      intro n
      induction n with
      | zero=>intro _;rw [a2];exact Ve _ _ 2
      | succ n ihn=>
       intro J;have h0:=ihn (by omega)
       have e:S (n+1)=fun u v=>K2 (Q2 (cn (S n)) u v) (Q2 (gl l n).g_.t_ u v) 3:=by
        funext u v
        rw [y8 h0];simp only [S,K2]
        rw [QD (by omega),List.any_append];simp [Bool.and_assoc]
       rw [e];exact Ve _ _ 3
     have W:∀ n,n<l.length->(cn fun u v=>K2 (Q2 (cn (S n)) u v) (Q2 (gl l n).g_.t_ u v) 3)=cn (S (n+1)):=fun n J=>by
      congr 1
      funext u v
      rw [y8 (g n (by omega))];simp only [S,K2]
      rw [QD J,List.any_append];simp [Bool.and_assoc]
     have C:∀ n,n<=l.length->W6 (cn (S n)):=fun n J=>(Q0v (g n J) (by omega) (b8 n)).1
     have a6:∃ t' l',Cn F cs rs ((k+1:Nat):Int) l (O,p) (tb,a) (Z7 (fun d (z:Int×List Int×Int×List Line)=>Pb F cs ns rs d z.1 z.2.1 z.2.2.1 z.2.2.2) f) (a.t_.map (VS (10*p)))=some (t',l',ns,rs)/\TOk t' /\ LinT (cs.length:Nat) rs l' /\ (l'.length:Int)<=most:=by
      have b6:∃ t' l',Ht F cs ((k+1:Nat):Int) l (O,p) (tb,a) (Z7 (fun d (z:Int×List Int×Int×List Line)=>Pb F cs ns rs d z.1 z.2.1 z.2.2.1 z.2.2.2) f) (cn (S l.length))=some (t',l',ns,rs)/\TOk t' /\ LinT (cs.length:Nat) rs l' /\ (l'.length:Int)<=most:=by
       have ek:((k+1:Nat):Int)-1=(k:Int):=by omega
       by_cases Z:(cn (S l.length)).length=0
       .obtain ⟨G,K,m,o,A⟩:=ih f tb l (by omega) (by omega) ob T
        refine ⟨G,K,?_,o,A⟩;unfold Ht
        refine Z3 (by simp [Z]) ?_;unfold Hs
        simp only
        rw [ek];exact Q7 (W2 (by omega) (by omega)) m
       .have hx:LinO (cs.length:Nat) rs ⟨p+1,⟨cn (S l.length)⟩,c,1+s⟩:=by
         refine ⟨⟨c1,c2⟩,by simp only;omega,by simp only;omega,C _ (Nat.le_refl _),Z,fun u v D=>?_⟩;have D:Q2 (cn (S l.length)) u v=true:=D
         rw [y8 (g _ (Nat.le_refl _))] at D;simp only [S,Bool.and_eq_true] at D
         have e5:(p+1-1:Int)=p:=by omega
         simp only [e5];exact D.1.2
        have b3:LinT (cs.length:Nat) rs (l++[⟨p+1,⟨cn (S l.length)⟩,c,1+s⟩]):=by
         refine ⟨fun x h=>?_,?_,fun i hi=>?_⟩
         .rcases List.mem_append.1 h with h|h
          .exact T.one x h
          .rw [List.mem_singleton] at h;subst h;exact hx
         .rw [List.pairwise_append]
          refine ⟨T.apart,List.pairwise_singleton _ _,fun x h y hy u v h1 h2=>?_⟩;rw [List.mem_singleton] at hy
          subst hy;have h2:Q2 (cn (S l.length)) u v=true:=h2
          rw [y8 (g _ (Nat.le_refl _))] at h2;simp only [S,Bool.and_eq_true,Bool.not_eq_true',List.take_length] at h2
          have:=List.any_eq_false.1 h2.2 x h
          exact this h1
         .rcases Nat.lt_or_ge i l.length with X|X
          .obtain ⟨R,r1,r2⟩:=T.two i X
           refine ⟨R,r1,fun u v=>?_⟩;rw [Z0S _ _ X,List.take_append_of_le_length (by omega)]
           exact r2 u v
          .have h6:i=l.length:=by simp at hi;omega
           subst h6;obtain ⟨w,k2,_,_,_,_,e5⟩:=I.one p.toNat H
           refine ⟨(R0.map (VS (10*p))).map (FA ⟨10*(p.toNat:Int),0,10*(p.toNat:Int)+w,k2⟩),by simp;omega,fun u v=>?_⟩;rw [Z0R,List.take_left' rfl,Z1U,jo]
           show Q2 (cn (S l.length)) u v=_;rw [y8 (g _ (Nat.le_refl _))]
           simp only [S,List.take_length];rw [jo,e5,b9]
        obtain ⟨G,K,m,o,A⟩:=ih f td (l++[⟨p+1,⟨cn (S l.length)⟩,c,1+s⟩]) (by omega) (by simp;omega) od b3;refine ⟨G,K,?_,o,A⟩
        unfold Ht;refine Z9 (decide_eq_true (by omega)) ?_
        refine Q7 (W2 (by simp only;omega) (by simp only;omega)) (Q4 ec (Q4 ed ?_));refine Q7 (W2 (by simp only;omega) (by simp only;omega)) (Q7 (by simp [Y5];omega) ?_)
        unfold Hs;simp only
        rw [ek];exact Q7 (W2 (by omega) (by omega)) m
      obtain ⟨G,K,m,o,A⟩:=b6;refine ⟨G,K,?_,o,A⟩
      unfold Cn;refine Q7 (by simp only;omega) ?_
      refine Q4 ((JR P (a:=a.t_.map (VS (10*p))) (b:=(gl rs p.toNat).t_) (how:=2) (by simp;omega) (by have:=(I.val H).1;omega) c8 (I.val H).2.1).trans (congrArg some (congrArg cn a2.symm))) ?_;refine J4 (fun z:List Rect×Int=>∃ n:Nat,z.2=n/\n<=l.length/\z.1=cn (S n)) (fun z=>l.length-z.2.toNat) (fun d z Z L=>?_) ⟨0,rfl,by omega,rfl⟩ (by simp only;omega)
      obtain ⟨V,n0⟩:=z;obtain ⟨n,rfl,J,rfl⟩:=Z
      simp only at J ⊢;unfold Q1d
      refine Q6 (fun h=>?_) (fun h=>?_)
      .have h:n<l.length:=by simpa using h
       refine Q7 (by omega) ?_;simp only [Int.toNat_natCast]
       have hx:=T.one _ (V4 h);refine Q4 ((JR P (a:=cn (S n)) (b:=(gl l n).g_.t_) (how:=3) (by have:=(C n J).1;omega) (by have:=hx.val.1;omega) (C n J).2.1 hx.val.2.1).trans (congrArg some (W n h))) ?_
       refine Q7 (W2 (by omega) (by omega)) (L _ ⟨n+1,by simp,h,rfl⟩ (by simp only;omega))
      .have h:n=l.length:=by
        have:¬ n<l.length:=by simpa using h
        omega
       subst h;exact m
     obtain ⟨G,K,m,o,A⟩:=a6;refine ⟨G,K,?_,o,A⟩
     show Pb F cs ns rs _ ((k+1:Nat):Int) t.l_ t.at_ l=_;unfold Pb
     refine Z9 (by simp) (Q4 ea ?_);rw [Q9O]
     refine Q4 eb ?_;refine J4 (fun z:Int×List Rect=>∃ i:Nat,z.1=i/\i<=a.t_.length/\z.2.length=a.t_.length/\∀ j,j<a.t_.length->gl z.2 j=if j<i then VS (10*p) (gl a.t_ j) else gl a.t_ j) (fun z=>a.t_.length-z.1.toNat) (fun d z Z L=>?_)
      ⟨0,rfl,by omega,rfl,fun j _=>by rw [if_neg (by omega)]⟩ (by simp only;omega)
     obtain ⟨i0,V⟩:=z;obtain ⟨i,rfl,hi,N,hV⟩:=Z
     simp only at N hV ⊢;unfold Q1e
     simp only [Int.toNat_natCast];refine Q6 (fun h=>?_) (fun h=>?_)
     .have h:i<a.t_.length:=by simpa using h
      have c0:gl V i=gl a.t_ i:=by rw [hV i h,if_neg (by omega)]
      have hb:=a4 _ (V4 h);have a5:∀ x,gl (V.set i x) i=x:=fun x=>by rw [vp V i i x (by omega),if_pos rfl]
      simp only [c0,a5];refine Q7 (by omega) (Q7 (W2 (by omega) (by omega)) (Q7 (W2 (by omega) (by omega)) (Q7 (by omega) (Q7 (W2 (by omega) (by omega)) (Q7 (W2 (by omega) (by omega)) (Q7 (by omega) (Q7 (by rw [List.length_set];omega) (Q7 (W2 (by omega) (by omega)) ?_))))))))
      refine L _ ⟨i+1,by simp,h,by simp [N],fun j hj=>?_⟩ (by simp only;omega);rw [vp _ i j _ (by simp;omega)]
      by_cases hij:i=j
      .subst hij
       rw [if_pos rfl,if_pos (by omega)];rfl
      .rw [if_neg hij,vp V i j _ (by omega),if_neg hij,hV j hj]
       by_cases h6:j<i
       .rw [if_pos h6,if_pos (by omega)]
       .rw [if_neg h6,if_neg (by omega)]
     .have h:i=a.t_.length:=by
       have:¬ i<a.t_.length:=by simpa using h
       omega
      have b7:V=a.t_.map (VS (10*p)):=Z0Q (by simp [N]) fun j hj=>by
       rw [hV j (by omega),if_pos (by omega),Z0P _ _ _ (by omega)]
      rw [b7];exact m
  obtain ⟨t',l,m,o,A,q4⟩:=U k.toNat F G [] (by omega) (by simp;omega) o2 (LinT.nil _ _);refine ⟨t',l,?_,o,A,q4⟩
  unfold Co;refine Q7 (W2 (by omega) (by omega)) (Q4 e2 ?_)
  have:(k.toNat:Int)=k:=by omega
  rw [this] at m;exact m
 have U:∀ (k f:Nat) (t:Tape) (ns:List Int) (rs:List Re_),k<f->TOk t->ns.length=rs.length->rs.length+k=c.toNat->(∀ i,i<rs.length->∃ w h:Int,2<=w/\w<=9/\2<=h/\h<=9/\gl rs i=⟨[⟨10*i,0,10*i+w,h⟩]⟩) ->
   ∃ t' l Y E,Z7 (fun d (z:Int×List Int×Int×List Int×List Re_)=>Pc F cs most d z.1 z.2.1 z.2.2.1 z.2.2.2.1 z.2.2.2.2) f ((k:Int),t.l_,t.at_,ns,rs)=some (t',l,Y,E)/\TOk t' /\ ParT E /\ LinT (cs.length:Nat) E l/\(l.length:Int)<=most:=by
  intro k
  induction k with
  | zero=>
   intro f t ns rs hf ht B hk Q
   cases f with
   | zero=>omega
   | succ f=>
    have I:ParT rs:=⟨by omega,Q⟩;obtain ⟨t',l,m,o,A,q4⟩:=M rs ns t.l_ t.at_ I B ht
    refine ⟨t',l,ns,rs,?_,o,I,A,q4⟩;show Pc F cs most _ 0 t.l_ t.at_ ns rs=_
    unfold Pc;exact Z3 rfl m
  | succ k ih=>
   intro f t ns rs hf ht B hk Q
   cases f with
   | zero=>omega
   | succ f=>
    obtain ⟨O,w,ea,oa,w1,w2⟩:=Vc (F:=F) ht (lo:=2) (hi:=9) (by omega) (by omega) (by omega);obtain ⟨tb,h,eb,ob,h1,h2⟩:=Vc (F:=F) oa (lo:=2) (hi:=9) (by omega) (by omega) (by omega)
    obtain ⟨t',l,Y,E,m,o⟩:=ih f tb (ns++[((ns.length:Nat):Int)+1]) (rs++[⟨[⟨10*((ns.length:Nat):Int),0,10*((ns.length:Nat):Int)+w,h⟩]⟩]) (by omega) ob (by simp [B]) (by simp;omega) (fun i hi=>by
     rcases Nat.lt_or_ge i rs.length with X|X
     .have e:gl (rs++[(⟨[⟨10*((ns.length:Nat):Int),0,10*((ns.length:Nat):Int)+w,h⟩]⟩:Re_)]) i=gl rs i:=by
       unfold gl;rw [List.getD_eq_getElem?_getD,List.getElem?_append_left X, <-List.getD_eq_getElem?_getD]
      rw [e];exact Q i X
     .have h6:i=rs.length:=by simp at hi;omega
      subst h6;refine ⟨w,h,by omega,by omega,by omega,by omega,?_⟩
      unfold gl;rw [List.getD_eq_getElem?_getD,List.getElem?_append_right (Nat.le_refl _),B]
      simp)
    refine ⟨t',l,Y,E,?_,o⟩;show Pc F cs most _ ((k+1:Nat):Int) t.l_ t.at_ ns rs=_
    unfold Pc;have ek:((k+1:Nat):Int)-1=(k:Int):=by omega
    refine Z9 (by simp) (Q7 (W2 (by omega) (by omega)) (Q7 (by simp [Y5];omega) (Q7 (W2 (by omega) (by omega)) (Q7 (W2 (by omega) (by omega)) (Q4 ea (Q7 (W2 (by omega) (by omega)) (Q4 eb (Q7 (by simp [Y5];omega) (Q7 (W2 (by omega) (by omega)) ?_)))))))));rw [ek]
    exact m
 obtain ⟨t',l,ns,rs,m,o⟩:=U c.toNat F t1 [] [] (by omega) o1 rfl (by simp) (fun i hi=>by simp at hi);refine ⟨t',l,ns,rs,?_,o⟩
 unfold Cp;refine Q4 e1 ?_
 have:(c.toNat:Int)=c:=by omega
 rw [this] at m;exact m
end
end Go.Ab
end
section
namespace Go.Ab
set_option maxRecDepth 20000
noncomputable section
abbrev Sq:=Int->Int->Bool
structure TR (A:List Rect):Prop where
 val:W6 A
 sub:∀ {S:Sq},z8 S->(∀ x y,S x y=true->Q2 A x y=true)->W6 (cn S)
theorem Z3i{A:List Rect}(hv:W6 A){d:Int}(h0:0<=d/\d<=100)(hb:Mp d (Q2 A)):TR A:=⟨hv,fun a b=>(Q0v a h0 fun x y h=>hb x y (b x y h)).1⟩
theorem W6.pos{l:List Rect}(h:W6 l):∀ r ∈ l,r.L_<r.R_:=fun _ a=>(h.2.2.pos a).1
theorem Uy{A:List Rect}(h:W6 A):cn (Q2 A)=A:=(PG A).1 h.2.2
theorem HH:z8 fun _ _=>false:=by
 have:=V8 []
 exact this
theorem WA:cn (fun _ _=>false)=[]:=(PG []).1 PF
theorem Vi{F:Nat}(hF:Q8<=F){a b:List Rect}(la:a.length<=8000)(lb:b.length<=8000)(pa:∀ r ∈ a,r.L_<r.R_)(pb:∀ r ∈ b,r.L_<r.R_){S T:Sq}(ea:Q2 a=S)(eb:Q2 b=T){k:Bool->Bool->Bool}(hk:k false false=false){q:Bool->Bool->Option Bool}(hq:∀ u v,q u v=some (k u v)):
  Yd F a b q=some (cn fun x y=>k (S x y) (T x y)):=by
 subst ea eb;exact Xw hF (by omega) pa pb hk hq
theorem GL{a b:List Rect}{S T:Sq}(ea:Q2 a=S)(eb:Q2 b=T)(how:Int):z8 fun x y=>K2 (S x y) (T x y) how:=by
 subst ea eb;exact Ve a b how
theorem J2{S:Sq}(h:z8 S):Q2 (cn S)=S:=by
 funext x y;exact y8 h x y
theorem VC{S T:Sq}(hS:z8 S)(hT:z8 T):z8 fun x y=>S x y&&T x y:=GL (J2 hS) (J2 hT) 2
theorem CU{S T:Sq}(hS:z8 S)(hT:z8 T):z8 fun x y=>S x y||T x y:=GL (J2 hS) (J2 hT) 1
theorem Kd{S T:Sq}(hS:z8 S)(hT:z8 T):z8 fun x y=>S x y && !T x y:=GL (J2 hS) (J2 hT) 3
theorem Rc(F:Nat)(u v:Bool):KA F u v=some (u&&v):=by
 unfold KA Rd;cases u <;> rfl
theorem kD(F:Nat)(u v:Bool):Bp F u v=some (u||v):=by
 unfold Bp MY;cases u <;> rfl
theorem Ls(F:Nat)(u v:Bool):Xf F u v=some (u && !v):=by
 unfold Xf MG;cases u <;> rfl
structure TS where
 Y:Sq
 N:Sq
def TS.O(A:List Rect)(s:TS):Sq:=fun x y=>(Q2 A x y && !s.Y x y) && !s.N x y
structure TIn (A:List Rect) (s:TS):Prop where
 fY:z8 s.Y
 fN:z8 s.N
 sY:∀ x y,s.Y x y=true->Q2 A x y=true
 sN:∀ x y,s.N x y=true->Q2 A x y=true
theorem TIn.fO{A:List Rect}{s:TS}(h:TIn A s):z8 (s.O A):=Kd (Kd (V8 A) h.fY) h.fN
theorem TIn.vY{A:List Rect}(ht:TR A){s:TS}(h:TIn A s):W6 (cn s.Y):=ht.sub h.fY h.sY
theorem TIn.vN{A:List Rect}(ht:TR A){s:TS}(h:TIn A s):W6 (cn s.N):=ht.sub h.fN h.sN
theorem TIn.vO{A:List Rect}(ht:TR A){s:TS}(h:TIn A s):W6 (cn (s.O A)):=ht.sub h.fO fun x y a=>by
 unfold TS.O at a
 cases hA:Q2 A x y with
 | true=>rfl
 | false=>rw [hA] at a;cases a
def TS.sqs(A:List Rect)(s:TS):Squares:=⟨cn s.Y,cn s.N,cn (s.O A)⟩
def TS.tru(A:List Rect)(s:TS):Ref16Truth:=⟨cn s.Y,cn s.N,cn (s.O A)⟩
theorem W6.le8{l:List Rect}(h:W6 l):l.length<=8000:=by have:=h.1;omega
theorem Lu{F:Nat}(hF:Q8<=F){p:TermPlace}{A:List Rect}(hp:p.t_=A)(ht:TR A){s:TS}(h:TIn A s):Xi F p (cn s.Y) (cn s.N)=some (s.sqs A):=by
 unfold Xi;subst hp
 have b:W6 (cn fun x y=>Q2 p.t_ x y && !s.Y x y):=ht.sub (Kd (V8 _) h.fY) fun x y a=>by
  cases hA:Q2 p.t_ x y with
  | true=>rfl
  | false=>rw [hA] at a;cases a
 refine Q4 (Vi hF ht.val.le8 (h.vY ht).le8 ht.val.pos (h.vY ht).pos rfl (J2 h.fY) (k:=fun u v=>u && !v) rfl (Ls F)) (Q4 (Vi hF b.le8 (h.vN ht).le8 b.pos (h.vN ht).pos (J2 (Kd (V8 _) h.fY)) (J2 h.fN) (k:=fun u v=>u && !v) rfl (Ls F)) rfl)
theorem YC{F:Nat}(hF:Q8<=F){a b:List Rect}(h:a.length+b.length<=32768){S T:Sq}(ea:Q2 a=S)(eb:Q2 b=T)(how:Int):G5 F a b how=some (cn fun x y=>K2 (S x y) (T x y) how):=by
 subst ea eb;exact Gt hF h
def VF(A:List Rect)(s:TS):TS:=⟨fun x y=>Q2 A x y&&s.Y x y,fun x y=>Q2 A x y&&s.N x y⟩
theorem Z1R{A:List Rect}{s:TS}(h1:z8 s.Y)(h2:z8 s.N):TIn A (VF A s):=by
 refine ⟨VC (V8 A) h1,VC (V8 A) h2,fun x y a=>?_,fun x y a=>?_⟩
 .unfold VF at a
  cases hA:Q2 A x y with
  | true=>rfl
  | false=>simp [hA] at a
 .unfold VF at a
  cases hA:Q2 A x y with
  | true=>rfl
  | false=>simp [hA] at a
theorem Fy{A:List Rect}{s:TS}(h:TIn A s):VF A s=s:=by
 obtain ⟨Y,N⟩:=s;unfold VF
 congr 1
 .funext x y
  show (Q2 A x y&&Y x y)=Y x y
  cases hy:Y x y with
  | false=>simp
  | true=>rw [h.sY x y hy];rfl
 .funext x y
  show (Q2 A x y&&N x y)=N x y
  cases hy:N x y with
  | false=>simp
  | true=>rw [h.sN x y hy];rfl
theorem XE{F:Nat}(hF:Q8<=F){p:Ref16Place}{A:List Rect}(hp:p.line_.g_.t_=A)(ht:TR A){a b:List Rect}(la:a.length<=16000)(lb:b.length<=16000){s:TS}(ea:Q2 a=s.Y)(eb:Q2 b=s.N):UL F p a b=some ((VF A s).tru A):=by
 unfold UL;subst hp
 have c:=ht.val.1;have h:TIn p.line_.g_.t_ (VF p.line_.g_.t_ s):=Z1R (ea ▸ V8 a) (eb ▸ V8 b)
 have f:=h.vY ht;have j:=h.vN ht
 have e:=Kd (V8 p.line_.g_.t_) h.fY;have i:=ht.sub e fun x y d=>by
  cases c:Q2 p.line_.g_.t_ x y with
  | true=>rfl
  | false=>rw [c] at d;cases d
 refine Q4 (YC hF (by omega) rfl ea 2) (Q4 (YC hF (by omega) rfl eb 2) (Q4 (YC hF ?_ rfl (J2 h.fY) 3) (Q4 (YC hF ?_ (J2 e) (J2 h.fN) 3) rfl)))
 .have:=f.1
  exact Nat.le_trans (Nat.add_le_add c this) (by omega)
 .have k:=i.1
  have g:=j.1;exact Nat.le_trans (Nat.add_le_add k g) (by omega)
end
end Go.Ab
end
section
namespace Go.Ab
set_option maxRecDepth 20000
noncomputable section
structure EV (y:Int) (cs:List Crop) (hs:List Rg_) (zs:List A2_) (c:Int) (A:List Rect):Prop where
 tr:TR A
 crop:0<=c/\c<(cs.length:Nat)
 fam:0<=(gl cs c.toNat).f_
 mrk:0<=(gl cs c.toNat).m_/\(gl cs c.toNat).m_<=31
 few:FewR hs
 hb:∀ f ∈ hs,Qw (15:Nat) f.g_.t_
 hc:∀ f ∈ hs,0<=f.c_/\f.c_<(cs.length:Nat)
 yr:0<=y/\y<=100
 zs:LB 15 zs
theorem FM{S:Sq}(hf:z8 S)(hb:∀ x y,S x y=true->0<=x/\x<(15:Nat)/\0<=y/\y<(15:Nat)):(cn S).length<=120:=(Be hf (n:=15) (by omega) hb).1.1
theorem ka{l:List Rg_}(hb:∀ f ∈ l,Qw (15:Nat) f.g_.t_)(y:Int)(p:Int->Bool):Qw (15:Nat) (U4 l y p):=fun r a=>by
 unfold U4 at a;obtain ⟨f,b,h⟩:=List.mem_flatMap.1 a
 exact hb f (List.mem_filter.1 b).1 r h
theorem Q4o(a b:List Rg_)(y:Int)(p:Int->Bool):U4 (a++b) y p=U4 a y p++U4 b y p:=by simp [U4]
theorem Z1c{l:List Rg_}(h:FewR l)(y:Int)(p:Int->Bool):(U4 l y p).length<=420:=by
 by_cases h0:l.length=0
 .rw [List.eq_nil_of_length_eq_zero h0];simp [U4]
 .have d:=h.few y p (l.length-1) (by omega)
  have e:l=l.take (l.length-1)++[gl l (l.length-1)]:=by
   have:=QD (l:=l) (i:=l.length-1) (by omega)
   rw [<-this,show l.length-1+1=l.length by omega,List.take_length]
  have c:(U4 [gl l (l.length-1)] y p).length<=120:=by
   have a:=((UP _).1 (h.hl.one _ (V4 (l:=l) (i:=l.length-1) (by omega)))).2.2.2.2.2;have:=a.1
   unfold U4;rw [List.filter_cons]
   split
   .simpa using this
   .simp
  have b:=congrArg (fun m=>(U4 m y p).length) e;simp only [Q4o,List.length_append] at b
  omega
theorem xY{l:List Rg_}(h:HL l)(y:Int)(p q:Int->Bool)(hpq:∀ f ∈ l,q f.c_=!p f.c_)(u v:Int):Q2 (U4 l y q) u v=(Q2 (U4 l y fun _=>true) u v && !Q2 (U4 l y p) u v):=by
 rw [Bool.eq_iff_iff,Bool.and_eq_true,Bool.not_eq_true',MD,MD];constructor
 .rintro ⟨f,e,m,D,c⟩
  refine ⟨⟨f,e,m,rfl,c⟩,?_⟩;rw [<-Bool.not_eq_true,MD]
  rintro ⟨g,H,o,z,d⟩;obtain ⟨i,x,rfl⟩:=List.mem_iff_getElem.1 e
  obtain ⟨j,A,rfl⟩:=List.mem_iff_getElem.1 H;have t:=List.pairwise_iff_getElem.1 h.nx
  have n:=((UP _).1 (h.one _ (List.getElem_mem x))).2.2.2.2.2;have s:=((UP _).1 (h.one _ (List.getElem_mem A))).2.2.2.2.2
  have r:∀ a b:Re_,W6 a.t_->W6 b.t_->QV a b=false->Q2 a.t_ u v=true->Q2 b.t_ u v=true->False:=fun a b B C w G F=>by
   unfold QV at w;rw [(Yc _).2 B,(Yc _).2 C,Bool.true_and,Bool.true_and] at w
   rw [<-Bool.not_eq_true,TJ B.2.1 C.2.1] at w;exact w ⟨u,v,G,F⟩
  rcases Nat.lt_trichotomy i j with k|rfl|k
  .exact r _ _ n s (t i j x A k (m.trans o.symm)) c d
  .rw [hpq _ e,z] at D;cases D
  .exact r _ _ s n (t j i A x k (o.trans m.symm)) d c
 .rintro ⟨⟨f,e,m,_,c⟩,E⟩
  refine ⟨f,e,m,?_,c⟩;rw [hpq f e]
  cases z:p f.c_ with
  | false=>rfl
  | true=>
   rw [<-Bool.not_eq_true,MD] at E;exact (E ⟨f,e,m,z,c⟩).elim
def Vz(A:List Rect)(hs:List Rg_)(y:Int)(p:Int->Bool):Sq:=fun u v=>Q2 A u v&&Q2 (U4 hs y p) u v
theorem Ja(A:List Rect)(hs:List Rg_)(y:Int)(p:Int->Bool):z8 (Vz A hs y p):=VC (V8 A) (V8 _)
theorem XZ{A:List Rect}{hs:List Rg_}{y:Int}{p:Int->Bool}{u v:Int}(h:Vz A hs y p u v=true):Q2 A u v=true:=by
 unfold Vz at h;rw [Bool.and_eq_true] at h
 exact h.1
variable {F:Nat} {cs:List Crop} {hs:List Rg_} {zs:List A2_} {y c d:Int} {A:List Rect}
theorem Bo(hF:Q8<=F)(h:EV y cs hs zs c A){p:TermPlace}(e1:p.world_.history_=hs)(e2:p.world_.y_=y)(e3:p.t_=A){n:Int}(n0:0<=n)(n1:n<=1000){q:Int->Option Bool}(s:Int->Bool)(hq:∀ f ∈ hs,q f.c_=some (s f.c_)):Jt F p n q=some (cn (Vz A hs (y-n) s)):=by
 subst e1 e2 e3;have e:=h.yr
 unfold Jt;have a:=ka h.hb (p.world_.y_-n) s
 have:=Z1c h.few (p.world_.y_-n) s
 exact Q7 (W2 (by omega) (by omega)) (Q4 (Z0u hF h.few.hl _ s hq) (Q4 (Vi hF h.tr.val.le8 (by omega) h.tr.val.pos (fun r b=>(a r b).2.1) rfl rfl (k:=fun u v=>u&&v) rfl (Rc F)) rfl))
end
end Go.Ab
end
section
namespace Go.Ab
set_option maxRecDepth 20000
noncomputable section
def Vf(cs:List Crop)(f:Int)(k:Int):Bool:=(gl cs k.toNat).f_==f
def US(cs:List Crop)(f:Int)(k:Int):Bool:=(gl cs k.toNat).f_ != f
def Zf(A:List Rect)(hs:List Rg_)(cs:List Crop)(y f:Int):Nat->TS
 | 0=>⟨Q2 A,fun _ _=>false⟩
 | k+1=>⟨fun u v=>(Zf A hs cs y f k).Y u v&&Vz A hs (y-((k+1:Nat):Int)) (Vf cs f) u v,fun u v=>(Zf A hs cs y f k).N u v||Vz A hs (y-((k+1:Nat):Int)) (US cs f) u v⟩
theorem KG(A:List Rect)(hs:List Rg_)(cs:List Crop)(y f:Int):∀ k,TIn A (Zf A hs cs y f k)
 | 0=>⟨V8 A,HH,fun _ _ h=>h,fun _ _ h=>by cases h⟩
 | k+1=>by
  have a:=KG A hs cs y f k;refine ⟨VC a.fY (Ja _ _ _ _),CU a.fN (Ja _ _ _ _),fun u v h=>?_,fun u v h=>?_⟩
  .unfold Zf at h
   simp only [Bool.and_eq_true] at h;exact a.sY u v h.1
  .unfold Zf at h
   simp only [Bool.or_eq_true] at h;rcases h with h|h
   .exact a.sN u v h
   .exact XZ h
variable {F:Nat} {cs:List Crop} {hs:List Rg_} {zs:List A2_} {y c d:Int} {A:List Rect}
theorem EV.kn_val(h:EV y cs hs zs c A)(k:Int)(p:Int->Bool):W6 (cn (Vz A hs k p)):=h.tr.sub (Ja _ _ _ _) fun _ _ h=>XZ h
theorem Q4A(hF:Q8<=F)(h:EV y cs hs zs c A){p:TermPlace}(e1:p.world_.history_=hs)(e2:p.world_.y_=y)(e3:p.t_=A)(e4:p.world_.crops_=cs)(e5:p.line_.c_=c){n:Nat}(n0:1<=n)(n1:n<=100):
  MN F p (n:Int)=some ((Zf A hs cs y (gl cs c.toNat).f_ (n-1)).sqs A):=by
 have j:=hF;unfold Q8 at j
 have b:=h.crop;unfold MN
 have i:∀ (m f k:Nat),k+m=n-1->m<f->Z7 (fun again (z:(List Rect)×(List Rect)×Int)=>Xh F p (n:Int) again z.1 z.2.1 z.2.2) f (cn (Zf A hs cs y (gl cs c.toNat).f_ k).Y,cn (Zf A hs cs y (gl cs c.toNat).f_ k).N,((k:Nat):Int)+1)=some ((Zf A hs cs y (gl cs c.toNat).f_ (n-1)).sqs A):=by
  intro m
  induction m with
  | zero=>
   intro f k r q;obtain ⟨f,rfl⟩:∃ g,f=g+1:=⟨f-1,by omega⟩
   show Xh F p (n:Int) (Z7 _ f) _ _ (((k:Nat):Int)+1)=_;unfold Xh
   refine Z3 (decide_eq_false (by omega)) ?_;unfold Lw
   rw [show n-1=k by omega];exact Q4 (Lu hF e3 h.tr (KG _ _ _ _ _ k)) rfl
  | succ m ih=>
   intro f k r q;obtain ⟨f,rfl⟩:∃ g,f=g+1:=⟨f-1,by omega⟩
   show Xh F p (n:Int) (Z7 _ f) _ _ (((k:Nat):Int)+1)=_;unfold Xh
   have a:=KG A hs cs y (gl cs c.toNat).f_ k;have t:∀ g ∈ hs,MM F g.c_ p (gl p.world_.crops_ p.line_.c_.toNat).f_=some (Vf cs (gl cs c.toNat).f_ g.c_):=fun g e=>by
    unfold MM;rw [e4,e5]
    exact Q7 (h.hc g e) rfl
   have s:∀ g ∈ hs,ML F g.c_ p (gl p.world_.crops_ p.line_.c_.toNat).f_=some (US cs (gl cs c.toNat).f_ g.c_):=fun g e=>by
    unfold ML;rw [e4,e5]
    exact Q7 (h.hc g e) rfl
   have l:=h.kn_val (y-(((k:Nat):Int)+1)) (Vf cs (gl cs c.toNat).f_);have o:=h.kn_val (y-(((k:Nat):Int)+1)) (US cs (gl cs c.toNat).f_)
   have w:=ih f (k+1) (by omega) (by omega);refine Z9 (decide_eq_true (by omega)) (Q4 (Bo hF h e1 e2 e3 (by omega) (by omega) _ t) (Q4 (Bo hF h e1 e2 e3 (by omega) (by omega) _ s) (Q4 (Vi hF (a.vY h.tr).le8 l.le8 (a.vY h.tr).pos l.pos (J2 a.fY) (J2 (Ja _ _ _ _)) (k:=fun u v=>u&&v) rfl (Rc F)) (Q4 (Vi hF (a.vN h.tr).le8 o.le8 (a.vN h.tr).pos o.pos (J2 a.fN) (J2 (Ja _ _ _ _)) (k:=fun u v=>u||v) rfl (kD F)) (Q7 (W2 (by omega) (by omega)) ?_)))))
   exact w
 refine Q7 (by rw [e4,e5];exact b) ?_;have:=i (n-1) F 0 (by omega) (by omega)
 show Z7 _ F (p.t_,[],(1:Int))=_;rw [e3]
 rw [show (Zf A hs cs y (gl cs c.toNat).f_ 0)=⟨Q2 A,fun _ _=>false⟩ from rfl] at this;simp only [Uy h.tr.val,WA] at this
 exact this
def WF(A:List Rect)(b:Bool):TS:=if b then ⟨Q2 A,fun _ _=>false⟩ else ⟨fun _ _=>false,Q2 A⟩
theorem PM(A:List Rect)(b:Bool):TIn A (WF A b):=by
 cases b
 .exact ⟨HH,V8 A,fun _ _ h=>(by cases h),fun _ _ h=>h⟩
 .exact ⟨V8 A,HH,fun _ _ h=>h,fun _ _ h=>by cases h⟩
theorem FU(A:List Rect)(b:Bool):(WF A b).O A=fun _ _=>false:=by
 funext u v
 cases b <;> simp [WF,TS.O]
theorem MH{p:TermPlace}(e3:p.t_=A)(hv:W6 A)(b:Bool):Ky F p b=some ((WF A b).sqs A):=by
 unfold Ky TS.sqs;rw [FU,WA,e3]
 cases b
 .refine Z3 rfl ?_
  show some _=some (Squares.mk (cn fun _ _=>false) (cn (Q2 A)) []);rw [WA,Uy hv]
 .refine Z9 rfl ?_
  show some _=some (Squares.mk (cn (Q2 A)) (cn fun _ _=>false) []);rw [WA,Uy hv]
theorem SQ{p:Ref16Place}(e3:p.line_.g_.t_=A)(hv:W6 A)(b:Bool):Gl F p b=some ((WF A b).tru A):=by
 unfold Gl TS.tru;rw [FU,WA,e3]
 cases b
 .refine Z3 rfl ?_
  show some _=some (Ref16Truth.mk (cn fun _ _=>false) (cn (Q2 A)) []);rw [WA,Uy hv]
 .refine Z9 rfl ?_
  show some _=some (Ref16Truth.mk (cn (Q2 A)) (cn fun _ _=>false) []);rw [WA,Uy hv]
def VE(A:List Rect)(S:Sq):TS:=⟨fun u v=>Q2 A u v&&S u v,fun u v=>Q2 A u v && !S u v⟩
theorem Q2A{A:List Rect}{S:Sq}(h:z8 S):TIn A (VE A S):=by
 refine ⟨VC (V8 A) h,Kd (V8 A) h,fun u v a=>?_,fun u v a=>?_⟩
 .simp only [VE,Bool.and_eq_true] at a
  exact a.1
 .simp only [VE,Bool.and_eq_true] at a
  exact a.1
theorem Z1Q(A:List Rect)(S:Sq):(VE A S).O A=fun _ _=>false:=by
 funext u v
 simp only [VE,TS.O]
 cases Q2 A u v <;> cases S u v <;> rfl
theorem kE(hF:Q8<=F){p:TermPlace}(e3:p.t_=A)(ht:TR A){S:Sq}(h:z8 S):Bi F p (cn fun u v=>Q2 A u v&&S u v)=some ((VE A S).sqs A):=by
 unfold Bi TS.sqs;have a:=VC (V8 A) h
 have e:=ht.sub a fun u v b=>by
  simp only [Bool.and_eq_true] at b;exact b.1
 rw [Z1Q,WA,e3];refine Q4 (Vi hF ht.val.le8 e.le8 ht.val.pos e.pos rfl (J2 a) (k:=fun u v=>u && !v) rfl (Ls F)) ?_
 rw [show (fun u v=>Q2 A u v && !(Q2 A u v&&S u v))=(VE A S).N from ?_]
 .rfl
 .funext u v
  simp only [VE]
  cases Q2 A u v <;> cases S u v <;> rfl
end
end Go.Ab
end
section
namespace Go.Ab
set_option maxRecDepth 20000
noncomputable section
theorem Xq{R:Type}{body:(Int->Option R)->Int->Option R}{c y:Option R}(N:Nat)(p:Nat->Bool)(bad:∀ again (i:Nat),i<N->p i=true->body again (i:Int)=c)(good:∀ again (i:Nat) z,i<N->p i=false->again ((i:Int)+1)=z->body again (i:Int)=z)(stop:∀ again,body again (N:Int)=y){F:Nat}(hF:N<F):Z7 body F 0=if (List.range N).any p=true then c else y:=by
 refine J4 (fun z:Int=>∃ i:Nat,z=i/\i<=N/\∀ j,j<i->p j=false) (fun z=>N-z.toNat) (fun again z f e=>?_) ⟨0,rfl,Nat.zero_le _,fun j h=>absurd h (Nat.not_lt_zero j)⟩ (by simp;omega);obtain ⟨i,rfl,g,a⟩:=f
 rcases Nat.lt_or_ge i N with h|h
 .cases hpi:p i with
  | true=>
   rw [if_pos (List.any_eq_true.2 ⟨i,List.mem_range.2 h,hpi⟩)];exact bad again i h hpi
  | false=>
   refine good again i _ h hpi (e _ ⟨i+1,by omega,h,fun j b=>?_⟩ (by omega))
   by_cases hji:j=i
   .rw [hji];exact hpi
   .exact a j (by omega)
 .have:i=N:=by omega
  subst this;rw [if_neg (by rw [Bool.not_eq_true,List.any_eq_false];intro j b;rw [a j (List.mem_range.1 b)];simp)]
  exact stop again
theorem Q1B{α:Type}[Emb α](l:List α){i k:Nat}(h:k<i):gl (l.take i) k=gl l k:=by
 unfold gl;rw [List.getD_eq_getElem?_getD,List.getElem?_take,if_pos h, <-List.getD_eq_getElem?_getD]
end
end Go.Ab
end
section
namespace Go.Ab
set_option maxRecDepth 20000
noncomputable section
end
end Go.Ab
end
section
namespace Go.Ab
set_option maxRecDepth 20000
noncomputable section
theorem Q0g{F:Nat}(hF:Q8<=F)(s:ByteArray):Hb F s=some (Qz s):=by
 unfold Q8 at hF;unfold Hb
 have g:Qz s=false->JT F s true=some (Qz s):=fun h=>by unfold JT;rw [h];exact Z9 rfl rfl
 refine Q6 (fun h=>g ?_) (fun h=>?_)
 .have h:=of_decide_eq_true h
  unfold Qz;rw [decide_eq_false (by omega:¬ 1<=s.size)];rfl
 have t:1<=s.size:=by have:=of_decide_eq_false h;omega
 refine Q6 (fun h=>g ?_) (fun h=>?_)
 .have h:=of_decide_eq_true h
  unfold Qz;rw [decide_eq_false (by omega:¬ s.size<=12)];simp
 have r:s.size<=12:=by have:=of_decide_eq_false h;omega
 have n:Qz s=decide (∀ i,i<s.size->(YK (J0 s (i:Nat))||(!decide (i=0)&&Uv (J0 s (i:Nat))))=true):=by
  unfold Qz;rw [decide_eq_true t,decide_eq_true r];simp
 have j:YK (J0 s (0:Int))=false->Qz s=false:=fun h=>by
  rw [n,decide_eq_false_iff_not];intro f
  have:=f 0 (by omega)
  rw [show (((0:Nat):Int))=0 from rfl,h] at this;simp at this
 refine Q7 (by omega) (Q6 (fun h=>g (j ?_)) (fun h=>?_))
 .have h:=of_decide_eq_true h
  unfold YK;rw [decide_eq_false (by omega)];rfl
 have u:=of_decide_eq_false h;refine Q7 (by omega) ?_
 by_cases h4:122<J0 s (0:Int)
 .rw [decide_eq_true h4]
  refine g (j ?_);unfold YK;rw [decide_eq_false (by omega:¬ J0 s (0:Int)<=122)];simp
 rw [decide_eq_false h4];have o:YK (J0 s (0:Int))=true:=by
  unfold YK;rw [decide_eq_true (by omega),decide_eq_true (by omega)];rfl
 unfold JT;refine Z3 rfl ?_
 refine (Xq (c:=some false) (y:=some true) s.size (fun i=> !(YK (J0 s (i:Nat))||Uv (J0 s (i:Nat)))) (fun a i l b=>?_) (fun a i z l b n=>?_) (fun a=>?_) (by omega)).trans ?_
 .rw [Bool.not_eq_true',Bool.or_eq_false_iff] at b
  unfold YK Uv at b;unfold Tx
  have k2:Vt F (i:Int) a true=some false:=by unfold Vt;exact Z9 rfl rfl
  refine Z9 (decide_eq_true (by omega)) (Q7 (by omega) ?_);have q:gd (0<=(i:Int)/\(i:Int)<((s.size:Nat):Int)) (br (decide (J0 s (i:Nat)<48)) (Vt F (i:Int) a true) (gd (0<=(i:Int)/\(i:Int)<((s.size:Nat):Int)) (Vt F (i:Int) a (decide (57<J0 s (i:Nat))))))=some false:=by
   refine Q7 (by omega) (Q6 (fun _=>k2) (fun e=>Q7 (by omega) ?_));have e:=of_decide_eq_false e
   rw [decide_eq_true (p:=57<J0 s (i:Nat))]
   .exact k2
   .have k:=b.2
    rw [decide_eq_true (by omega:48<=J0 s (i:Nat)),Bool.true_and,decide_eq_false_iff_not] at k;omega
  refine Q6 (fun _=>q) (fun e=>Q7 (by omega) ?_);refine Z9 ?_ q
  have e:=of_decide_eq_false e;have k:=b.1
  rw [decide_eq_true (by omega:97<=J0 s (i:Nat)),Bool.true_and,decide_eq_false_iff_not] at k;exact decide_eq_true (by omega)
 .rw [Bool.not_eq_false',Bool.or_eq_true] at b
  unfold YK Uv at b;rw [Bool.and_eq_true,Bool.and_eq_true,decide_eq_true_eq,decide_eq_true_eq,decide_eq_true_eq,decide_eq_true_eq] at b
  unfold Tx;have k2:Vt F (i:Int) a false=z:=by unfold Vt;exact Z3 rfl (Q7 (W2 (by omega) (by omega)) n)
  refine Z9 (decide_eq_true (by omega)) (Q7 (by omega) ?_);refine Q6 (fun e=>?_) (fun e=>?_)
  .have e:=of_decide_eq_true e
   refine Q7 (by omega) (Z3 (decide_eq_false (by omega)) (Q7 (by omega) ?_));rw [decide_eq_false (p:=57<J0 s (i:Nat)) (by omega)];exact k2
  .have e:=of_decide_eq_false e
   refine Q7 (by omega) (Q6 (fun k=>?_) (fun k=>k2));have k:=of_decide_eq_true k
   refine Q7 (by omega) (Z3 (decide_eq_false (by omega)) (Q7 (by omega) ?_));rw [decide_eq_false (p:=57<J0 s (i:Nat)) (by omega)];exact k2
 .unfold Tx
  exact Z3 (decide_eq_false (by omega)) rfl
 .rw [n]
  split
  .rename_i m
   congr 1
   symm
   rw [decide_eq_false_iff_not];intro f
   obtain ⟨i,l,b⟩:=List.any_eq_true.1 m;have:=f i (List.mem_range.1 l)
   rw [Bool.not_eq_true',Bool.or_eq_false_iff] at b;rw [b.1,b.2] at this
   simp at this
  .rename_i m
   congr 1
   symm
   rw [decide_eq_true_eq];intro i l
   rw [Bool.not_eq_true,List.any_eq_false] at m;have:=m i (List.mem_range.2 l)
   rw [Bool.not_eq_true,Bool.not_eq_false'] at this
   by_cases h0:i=0
   .subst h0;rw [show (((0:Nat):Int))=0 from rfl,o];rfl
   .rw [decide_eq_false h0];simpa using this
theorem jx{body:(Int->Option Int)->Int->Option Int}(N:Nat)(p:Nat->Int)(bad:∀ again (i:Nat),i<N->p i≠0->body again (i:Int)=some (p i))(good:∀ again (i:Nat) z,i<N->p i=0->again ((i:Int)+1)=z->body again (i:Int)=z)(stop:∀ again,body again (N:Int)=some 0){F:Nat}(hF:N<F):Z7 body F 0=some ((((List.range N).map p).find? fun c=>c != 0).getD 0):=by
 refine J4 (fun z:Int=>∃ i:Nat,z=i/\i<=N/\∀ j,j<i->p j=0) (fun z=>N-z.toNat) (fun again z n m=>?_) ⟨0,rfl,Nat.zero_le _,fun j h=>absurd h (Nat.not_lt_zero j)⟩ (by simp;omega);obtain ⟨i,rfl,o,k⟩:=n
 rcases Nat.lt_or_ge i N with h|h
 .by_cases hpi:p i=0
  .refine good again i _ h hpi (m _ ⟨i+1,by omega,h,fun j a=>?_⟩ (by omega))
   by_cases hji:j=i
   .rw [hji];exact hpi
   .exact k j (by omega)
  .rw [bad again i h hpi]
   congr 1
   have e:List.range N=List.range i++i::(List.range N).drop (i+1):=by
    have l:(List.range N).take i=List.range i:=by rw [List.take_range];congr 1;omega
    have f:=List.take_append_drop i (List.range N);rw [l,List.drop_eq_getElem_cons (by simpa using h)] at f
    rw [List.getElem_range] at f;exact f.symm
   have g:(((List.range i).map p).find? fun c=>c != 0)=none:=List.find?_eq_none.2 fun c b=>by
    obtain ⟨j,a,rfl⟩:=List.mem_map.1 b;rw [k j (List.mem_range.1 a)];simp
   rw [e,List.map_append,List.find?_append,g,Option.none_or,List.map_cons,List.find?_cons];have:(p i != 0)=true:=by simpa using hpi
   rw [this];rfl
 .have:i=N:=by omega
  subst this;rw [stop again]
  congr 1
  have g:(((List.range i).map p).find? fun c=>c != 0)=none:=List.find?_eq_none.2 fun c b=>by
   obtain ⟨j,a,rfl⟩:=List.mem_map.1 b;rw [k j (List.mem_range.1 a)];simp
  rw [g];rfl
def ZQ(l:List Crop)(i:Nat):Int:=
 if Qz (gl l i).n_=false then 5 else if (gl l i).f_<0\/40<(gl l i).f_ then 2 else if (gl l i).m_<0\/31<(gl l i).m_ then 14
 else if 0<i/\(Vp (gl l i).n_ (gl l (i-1)).n_||Zm (gl l i).n_ (gl l (i-1)).n_)=true then 6 else 0
def Jd(l:List Crop):Int:=if 40<l.length then 1 else (((List.range l.length).map (ZQ l)).find? fun c=>c != 0).getD 0
def PR(l:List Crop):Prop:=∀ x ∈ l,x.n_.size<=4294967296
theorem Z1Y{l:List Crop}{i:Nat}(h:Qz (gl l i).n_=false):ZQ l i=5:=by unfold ZQ;rw [if_pos h]
theorem Z1Z{l:List Crop}{i:Nat}(h:Qz (gl l i).n_=true)(h2:(gl l i).f_<0\/40<(gl l i).f_):ZQ l i=2:=by
 unfold ZQ;rw [if_neg (by rw [h];simp),if_pos h2]
theorem Z2a{l:List Crop}{i:Nat}(h:Qz (gl l i).n_=true)(h2:¬ ((gl l i).f_<0\/40<(gl l i).f_))(h3:(gl l i).m_<0\/31<(gl l i).m_):ZQ l i=14:=by
 unfold ZQ;rw [if_neg (by rw [h];simp),if_neg h2,if_pos h3]
theorem Q2F{l:List Crop}{i:Nat}(h:Qz (gl l i).n_=true)(h2:¬ ((gl l i).f_<0\/40<(gl l i).f_))(h3:¬ ((gl l i).m_<0\/31<(gl l i).m_))(h4:0<i/\(Vp (gl l i).n_ (gl l (i-1)).n_||Zm (gl l i).n_ (gl l (i-1)).n_)=true):ZQ l i=6:=by
 unfold ZQ;rw [if_neg (by rw [h];simp),if_neg h2,if_neg h3,if_pos h4]
theorem FD{l:List Crop}{i:Nat}(h:Qz (gl l i).n_=true)(h2:¬ ((gl l i).f_<0\/40<(gl l i).f_))(h3:¬ ((gl l i).m_<0\/31<(gl l i).m_))(h4:¬ (0<i/\(Vp (gl l i).n_ (gl l (i-1)).n_||Zm (gl l i).n_ (gl l (i-1)).n_)=true)):ZQ l i=0:=by
 unfold ZQ;rw [if_neg (by rw [h];simp),if_neg h2,if_neg h3,if_neg h4]
theorem Z1W{F:Nat}(hF:Q8<=F){l:List Crop}(hn:PR l):FC F l=some (Jd l):=by
 have v:=hF;unfold Q8 at hF
 unfold FC Jd;refine Q6 (fun h=>?_) (fun h=>?_)
 .rw [if_pos (by have:=of_decide_eq_true h;omega)]
 have w:l.length<=40:=by have:=of_decide_eq_false h;omega
 rw [if_neg (by omega)];have e:∀ (a:Int->Option Int) (i:Nat),i<l.length->FB F l a (i:Int)=if ZQ l i=0 then a ((i:Int)+1) else some (ZQ l i):=by
  intro a i g;unfold FB
  simp only [Int.toNat_natCast];have hs:=hn _ (V4 g)
  refine Z9 (decide_eq_true (by omega)) (Q7 (by omega) (Q4 (ke (by omega) hs) ?_));refine Q6 (fun b=>?_) (fun b=>?_)
  .have b:Qz (gl l i).n_=false:=by simpa using b
   rw [Z1Y b,if_neg (by decide)]
  have b:Qz (gl l i).n_=true:=by simpa using b
  have j:(gl l i).f_<0\/40<(gl l i).f_->Pz F l (i:Int) a true=if ZQ l i=0 then a ((i:Int)+1) else some (ZQ l i):=fun h=>by
   rw [Z1Z b h,if_neg (by decide)];unfold Pz
   exact Z9 rfl rfl
  refine Q6 (fun n=>j (.inl (of_decide_eq_true n))) (fun n=>?_);have n:=of_decide_eq_false n
  by_cases h3:40<(gl l i).f_
  .rw [decide_eq_true h3];exact j (.inr h3)
  have m:¬ ((gl l i).f_<0\/40<(gl l i).f_):=by omega
  rw [decide_eq_false h3];unfold Pz
  simp only [Int.toNat_natCast];refine Z3 rfl ?_
  have k:(gl l i).m_<0\/31<(gl l i).m_->Py F l (i:Int) a true=if ZQ l i=0 then a ((i:Int)+1) else some (ZQ l i):=fun h=>by
   rw [Z2a b m h,if_neg (by decide)];unfold Py
   exact Z9 rfl rfl
  refine Q6 (fun p=>k (.inl (of_decide_eq_true p))) (fun p=>?_);have p:=of_decide_eq_false p
  by_cases h5:31<(gl l i).m_
  .rw [decide_eq_true h5];exact k (.inr h5)
  have q:¬ ((gl l i).m_<0\/31<(gl l i).m_):=by omega
  rw [decide_eq_false h5];unfold Py
  simp only [Int.toNat_natCast];refine Z3 rfl ?_
  refine Q6 (fun f=>?_) (fun f=>?_)
  .have f:0<i:=by have:=of_decide_eq_true f;omega
   have t:((i:Int)-1).toNat=i-1:=by omega
   refine Q7 (W2 (by omega) (by omega)) (Q7 (by omega) ?_);rw [t]
   unfold Md;refine Q6 (fun o=>?_) (fun o=>?_)
   .rw [Q2F b m q ⟨f,o⟩,if_neg (by decide)]
   .rw [FD b m q (fun s=>by rw [s.2] at o;cases o),if_pos rfl]
    exact Q7 (W2 (by omega) (by omega)) rfl
  .have f:¬ 0<i:=by have:=of_decide_eq_false f;omega
   rw [FD b m q (fun s=>f s.1),if_pos rfl];unfold Md
   exact Z3 rfl (Q7 (W2 (by omega) (by omega)) rfl)
 refine jx l.length (ZQ l) (fun a i g r=>?_) (fun a i z g r u=>?_) (fun a=>?_) (by omega)
 .rw [e a i g,if_neg r]
 .rw [e a i g,if_pos r];exact u
 .unfold FB
  exact Z3 (decide_eq_false (by omega)) rfl
theorem Q7T{F:Nat}(hF:Q8<=F)(l:List Crop):Tc F l=some (Jd l):=by
 have v:=hF;unfold Q8 at hF
 unfold Tc Jd;refine Q6 (fun h=>?_) (fun h=>?_)
 .rw [if_pos (by have:=of_decide_eq_true h;omega)]
 have G:l.length<=40:=by have:=of_decide_eq_false h;omega
 rw [if_neg (by omega)];have t:∀ x:Crop,Ta F x=some (if Qz x.n_=false then 5 else if x.f_<0\/40<x.f_ then 2 else if x.m_<0\/31<x.m_ then 14 else 0):=by
  intro x;unfold Ta
  refine Q4 (Q0g v _) ?_;refine Q6 (fun b=>?_) (fun b=>?_)
  .have b:Qz x.n_=false:=by simpa using b
   rw [if_pos b]
  have b:Qz x.n_=true:=by simpa using b
  rw [if_neg (by rw [b];simp)];have o:x.f_<0\/40<x.f_->XK F x true=some (if x.f_<0\/40<x.f_ then 2 else if x.m_<0\/31<x.m_ then 14 else 0):=fun h=>by
   rw [if_pos h];unfold XK;exact Z9 rfl rfl
  refine Q6 (fun e=>o (.inl (of_decide_eq_true e))) (fun e=>?_);have e:=of_decide_eq_false e
  by_cases f:40<x.f_
  .rw [decide_eq_true f];exact o (.inr f)
  rw [decide_eq_false f,if_neg (by omega)];unfold XK
  refine Z3 rfl ?_;have n:x.m_<0\/31<x.m_->XJ F true=some (if x.m_<0\/31<x.m_ then 14 else 0):=fun h=>by
   rw [if_pos h];unfold XJ;exact Z9 rfl rfl
  refine Q6 (fun r=>n (.inl (of_decide_eq_true r))) (fun r=>?_);have r:=of_decide_eq_false r
  by_cases m:31<x.m_
  .rw [decide_eq_true m];exact n (.inr m)
  rw [decide_eq_false m,if_neg (by omega)];unfold XJ
  exact Z3 rfl rfl
 have g:∀ (a:Int->Option Int) (i:Nat),i<l.length->Tb F l a (i:Int)=if ZQ l i=0 then a ((i:Int)+1) else some (ZQ l i):=by
  intro a i p;unfold Tb
  simp only [Int.toNat_natCast];refine Z9 (decide_eq_true (by omega)) (Q7 (by omega) (Q4 (t _) ?_))
  by_cases h0:(if Qz (gl l i).n_=false then (5:Int) else if (gl l i).f_<0\/40<(gl l i).f_ then 2 else if (gl l i).m_<0\/31<(gl l i).m_ then 14 else 0)=0
  .have b:¬ Qz (gl l i).n_=false:=fun h=>by rw [if_pos h] at h0;cases h0
   rw [if_neg b] at h0;have e:¬ ((gl l i).f_<0\/40<(gl l i).f_):=fun h=>by rw [if_pos h] at h0;cases h0
   rw [if_neg e] at h0;have f:¬ ((gl l i).m_<0\/31<(gl l i).m_):=fun h=>by rw [if_pos h] at h0;cases h0
   rw [if_neg f] at h0;have j:Qz (gl l i).n_=true:=by simpa using b
   rw [if_neg b,if_neg e,if_neg f];refine Z3 rfl ?_
   refine Q6 (fun k=>?_) (fun k=>?_)
   .have k:0<i:=by have:=of_decide_eq_true k;omega
    have C:((i:Int)-1).toNat=i-1:=by omega
    refine Q7 (W2 (by omega) (by omega)) (Q7 (by omega) ?_);rw [C]
    unfold DC;refine Q6 (fun q=>?_) (fun q=>?_)
    .rw [Q2F j e f ⟨k,q⟩,if_neg (by decide)]
    .rw [FD j e f (fun u=>by rw [u.2] at q;cases q),if_pos rfl]
     exact Q7 (W2 (by omega) (by omega)) rfl
   .have k:¬ 0<i:=by have:=of_decide_eq_false k;omega
    rw [FD j e f (fun u=>k u.1),if_pos rfl];unfold DC
    exact Z3 rfl (Q7 (W2 (by omega) (by omega)) rfl)
  .have m:ZQ l i=if Qz (gl l i).n_=false then (5:Int) else if (gl l i).f_<0\/40<(gl l i).f_ then 2 else if (gl l i).m_<0\/31<(gl l i).m_ then 14 else 0:=by
    unfold ZQ;split
    .rfl
    .split
     .rfl
     .split
      .rfl
      .rename_i w B E
       rw [if_neg w,if_neg B,if_neg E] at h0;exact absurd rfl h0
   rw [m,if_neg h0];exact Z9 (by simpa using h0) rfl
 refine jx l.length (ZQ l) (fun a i p s=>?_) (fun a i z p s D=>?_) (fun a=>?_) (by omega)
 .rw [g a i p,if_neg s]
 .rw [g a i p,if_pos s];exact D
 .unfold Tb
  exact Z3 (decide_eq_false (by omega)) rfl
theorem CropT.nm{l:List Crop}(h:CropT l):PR l:=fun x e=>by
 obtain ⟨i,a,rfl⟩:=List.getElem_of_mem e;have b:=(h.one i a).1
 have:=h.len
 rw [Pp l i a] at b;rw [b]
 have:=(Z1X i (by omega)).2
 omega
end
end Go.Ab
end
section
end
section
namespace Go.Ab
set_option maxRecDepth 20000
noncomputable section
def TD:Nat->Term->Prop
 | 0,_=>False
 | d+1,t=>Q9 t.op_/\Q9 t.num_/\t.kids_.length<=1000000/\∀ k ∈ t.kids_,TD d k
theorem TD.op{d:Nat}{t:Term}(h:TD d t):Q9 t.op_:=by
 cases d with
 | zero=>exact h.elim
 | succ d=>exact h.1
def QJ:Nat->Term->Nat
 | 0,_=>0
 | d+1,t=>1+(t.kids_.map (QJ d)).sum
theorem Q5b{d:Nat}{t:Term}(h:TD d t):1<=QJ d t:=by
 cases d with
 | zero=>exact h.elim
 | succ d=>unfold QJ;omega
def WK(d:Nat)(t:Term)(i:Nat):Nat:=1+((t.kids_.take i).map (QJ d)).sum
theorem LL{d i:Nat}{t:Term}(h:i<t.kids_.length):WK d t (i+1)=WK d t i+QJ d (gl t.kids_ i):=by
 unfold WK;rw [QD h,List.map_append,List.sum_append];simp;omega
theorem LM{d i:Nat}{t:Term}:WK d t i<=QJ (d+1) t:=by
 unfold WK QJ;have:(t.kids_.map (QJ d)).sum=((t.kids_.take i).map (QJ d)).sum+((t.kids_.drop i).map (QJ d)).sum:=by
  rw [<-List.sum_append, <-List.map_append,List.take_append_drop]
 omega
theorem kQ{d:Nat}{t:Term}:WK d t t.kids_.length=QJ (d+1) t:=by unfold WK QJ;rw [List.take_length]
theorem kG:∀ (d:Nat) {F:Nat} (_:Q8+d<=F) {t:Term} (_:TD d t) {m:Int} (_:0<=m) (_:m<=40),∃ v,Ju F t m=some v/\1<=v/\v<=m+1/\(m<v↔m<(QJ d t:Int))/\((QJ d t:Int)<=m->v=QJ d t)
 | 0,_,_,_,h,_,_,_=>h.elim
 | d+1,0,hF,_,_,_,_,_=>by unfold Q8 at hF;omega
 | d+1,F+1,hF,t,h,m,m0,m1=>by
  obtain ⟨_,_,I,C⟩:=h;show ∃ v,Ra F (Ju F) t m=some v/\_
  unfold Ra;have e : Q8+d<=F:=by omega
  have D:=e;unfold Q8 at D
  suffices hs:∀ (n:Nat) (i:Nat) (v:Int),t.kids_.length-i<n->i<=t.kids_.length->1<=v->v<=m+1->(v<=m->v=(WK d t i:Int))->(m<v->m<(WK d t i:Int)) ->
    ∃ u,Z7 (fun again (z:Int×Int)=>MZ F (Ju F) t m again z.1 z.2) n (v,(i:Int))=some u/\1<=u/\u<=m+1/\(m<u↔m<(QJ (d+1) t:Int))/\((QJ (d+1) t:Int)<=m->u=QJ (d+1) t) by
   refine hs F 0 1 (by omega) (by omega) (by omega) (by omega) (fun _=>by simp [WK]) (fun h=>?_);simp [WK];omega
  intro n
  induction n with
  | zero=>intro i v h;omega
  | succ n ih=>
   intro i v H G o l g a;show ∃ u,MZ F (Ju F) t m (Z7 _ n) v (i:Int)=some u/\_
   unfold MZ
   by_cases hil:i<t.kids_.length
   .rw [show decide ((i:Int)<((t.kids_.length:Nat):Int))=true from decide_eq_true (by omega)]
    have f:=C _ (V4 hil);have b:=f.op
    by_cases hv:m<v
    .refine ⟨v,?_,o,l,?_,fun h=>?_⟩
     .refine Z9 rfl (Q7 (by omega) (Q7 b (Z9 (decide_eq_true hv) rfl)))
     .exact ⟨fun _=>by have:=a hv;have:=LM (d:=d) (i:=i) (t:=t);omega,fun _=>hv⟩
     .have:=a hv;have:=LM (d:=d) (i:=i) (t:=t);omega
    .obtain ⟨w,B,K,J,q,x⟩:=kG d e f (m:=m-v) (by omega) (by omega)
     have p:=LL (d:=d) hil;have E:=g (by omega)
     have k:=ih (i+1) (v+w) (by omega) (by omega) (by omega) (by omega) (fun h=>by
      have:=x (by
       have:¬ m-v<w:=by omega
       have:=mt q.2 this
       omega)
      omega) (fun h=>by
      have:=q.1 (by omega)
      omega)
     obtain ⟨u,s,r⟩:=k;refine ⟨u,?_,r⟩
     refine Z9 rfl (Q7 (by omega) (Q7 b (Z3 (decide_eq_false hv) (Q7 (W2 (by omega) (by omega)) (Q4 B (Q7 (W2 (by omega) (by omega)) (Q7 (W2 (by omega) (by omega)) ?_)))))));rw [<-s];congr 1
   .have j:i=t.kids_.length:=by omega
    subst j;rw [kQ] at g a
    refine ⟨v,Z3 (decide_eq_false (by omega)) rfl,o,l,⟨a,fun h=>?_⟩,fun h=>?_⟩
    .by_cases hv:m<v
     .exact hv
     .have:=g (by omega);omega
    .by_cases hv:m<v
     .have:=a hv;omega
     .exact g (by omega)
theorem cN:∀ (d:Nat) (_:d<=2000000) {F:Nat} (_:Q8+d<=F) {t:Term} (_:TD d t),∃ v,JJ F t=some v/\1<=v/\v<=41*d/\(40<v↔40<(QJ d t:Int))/\((QJ d t:Int)<=40->v=QJ d t)
 | 0,_,_,_,_,h=>h.elim
 | d+1,_,0,hF,_,_=>by unfold Q8 at hF;omega
 | d+1,hd,F+1,hF,t,h=>by
  obtain ⟨_,_,G,x⟩:=h;show ∃ v,SO F (JJ F) t=some v/\_
  unfold SO;have b : Q8+d<=F:=by omega
  have B:=b;unfold Q8 at B
  suffices hs:∀ (n:Nat) (i:Nat) (v:Int),t.kids_.length-i<n->i<=t.kids_.length->1<=v->v<=41*((d+1:Nat):Int)->(v<=40->v=(WK d t i:Int))->(40<v->40<(WK d t i:Int)) ->
    ∃ u,Z7 (fun again (z:Int×Int)=>SN F (JJ F) t again z.1 z.2) n (v,(i:Int))=some u/\1<=u/\u<=41*((d+1:Nat):Int)/\(40<u↔40<(QJ (d+1) t:Int))/\((QJ (d+1) t:Int)<=40->u=QJ (d+1) t) by
   exact hs F 0 1 (by omega) (by omega) (by omega) (by omega) (fun _=>by simp [WK]) (fun h=>by omega)
  intro n
  induction n with
  | zero=>intro i v h;omega
  | succ n ih=>
   intro i v E D q o f g;show ∃ u,SN F (JJ F) t (Z7 _ n) v (i:Int)=some u/\_
   unfold SN
   by_cases hil:i<t.kids_.length
   .rw [show decide ((i:Int)<((t.kids_.length:Nat):Int))=true from decide_eq_true (by omega)]
    have e:=x _ (V4 hil);have a:=e.op
    have r:=LL (d:=d) hil
    by_cases hv:v<=40
    .obtain ⟨w,s,I,H,m,p⟩:=cN d (by omega) b e
     have C:=f hv;obtain ⟨u,k,j⟩:=ih (i+1) (v+w) (by omega) (by omega) (by omega) (by omega) (fun h=>by
      have:=p (by
       have:¬ 40<w:=by omega
       have:=mt m.2 this
       omega)
      omega) (fun h=>by
      by_cases h40:40<w
      .have:=m.1 h40;omega
      .have:=p (by have:=mt m.2 h40;omega);omega)
     refine ⟨u,?_,j⟩;refine Z9 rfl (Q7 (by omega) (Q7 a (Z9 (decide_eq_true hv) (Q4 s (Q7 (W2 (by omega) (by omega)) ?_)))))
     unfold De;refine Q7 (W2 (by omega) (by omega)) ?_
     rw [<-k];congr 1
    .obtain ⟨u,k,j⟩:=ih (i+1) v (by omega) (by omega) q o (fun h=>by omega) (fun h=>by have:=g h;omega)
     refine ⟨u,?_,j⟩;refine Z9 rfl (Q7 (by omega) (Q7 a (Z3 (decide_eq_false hv) ?_)))
     unfold De;refine Q7 (W2 (by omega) (by omega)) ?_
     rw [<-k];congr 1
   .have l:i=t.kids_.length:=by omega
    subst l;rw [kQ] at f g
    refine ⟨v,Z3 (decide_eq_false (by omega)) rfl,q,o,⟨g,fun h=>?_⟩,fun h=>?_⟩
    .by_cases hv:40<v
     .exact hv
     .have:=f (by omega);omega
    .by_cases hv:40<v
     .have:=g hv;omega
     .exact f (by omega)
def ZX(n:Int):Bool:=n==1||(n==2||(n==4||(n==8||n==16)))
theorem zn(F:Nat)(n:Int):XC F n=some (ZX n):=by
 unfold XC Gi ZX
 cases h1:(n==(1:Int)) <;> cases h2:(n==(2:Int)) <;> cases h3:(n==(4:Int)) <;> cases h4:(n==(8:Int)) <;> rfl
theorem ku(F:Nat)(n:Int):Jr F n=some (ZX n):=by
 unfold Jr
 by_cases h:1<=n/\n<=16
 .have a:n=1\/n=2\/n=3\/n=4\/n=5\/n=6\/n=7\/n=8\/n=9\/n=10\/n=11\/n=12\/n=13\/n=14\/n=15\/n=16:=by omega
  rcases a with rfl|rfl|rfl|rfl|rfl|rfl|rfl|rfl|rfl|rfl|rfl|rfl|rfl|rfl|rfl|rfl <;> rfl
 .have b:ZX n=false:=by
   unfold ZX;simp only [Bool.or_eq_false_iff,beq_eq_false_iff_ne]
   omega
  rw [b];refine Q6 (fun f=>Q6 (fun e=>?_) (fun _=>rfl)) (fun _=>rfl)
  exact absurd ⟨of_decide_eq_true f,of_decide_eq_true e⟩ h
end
end Go.Ab
end
section
namespace Go.Ab
set_option maxRecDepth 20000
noncomputable section
def ZZ(t:Term):Bool:=
 if t.op_=1 then t.num_==0&&(t.more_==0&&t.kids_.length==0)
 else if t.op_=2 then (decide (0<=t.num_)&&decide (t.num_<=39))&&(t.more_==0&&t.kids_.length==0)
 else if t.op_=3 then (decide (0<=t.num_)&&decide (t.num_<=40))&&(t.more_==0&&t.kids_.length==0)
 else if t.op_=4 then ZX t.num_&&(t.more_==0&&t.kids_.length==0)
 else if t.op_=5 then (decide (0<=t.num_)&&decide (t.num_<=15))&&(t.more_==0&&t.kids_.length==0)
 else if t.op_=6 then (decide (2<=t.num_)&&decide (t.num_<=10))&&(t.more_==0&&t.kids_.length==0)
 else if t.op_=7 then (decide (1<=t.num_)&&decide (t.num_<=10))&&(ZX t.more_&&t.kids_.length==0)
 else if t.op_=8 then (decide (1<=t.num_)&&decide (t.num_<=10))&&(t.more_==0&&t.kids_.length==0)
 else if t.op_=9\/t.op_=10 then t.num_==0&&(t.more_==0&&decide (1<=t.kids_.length))
 else if t.op_=11 then t.num_==0&&(t.more_==0&&t.kids_.length==1)
 else false
def ZH:Nat->Term->Bool
 | 0,_=>false
 | d+1,t=>ZZ t&&t.kids_.all (ZH d)
def YZ:Nat->Term->Nat
 | 0,_=>0
 | d+1,t=>1+t.kids_.foldl (fun n k=>max n (YZ d k)) 0
def Wi:Nat->Nat->Term->Bool
 | 0,_,_=>false
 | d+1,n,t=> !decide (n=0)&&(ZZ t&&t.kids_.all (Wi d (n-1)))
theorem vu{α:Type}(f:α->Nat):∀ (l:List α) (a n:Nat),l.foldl (fun n k=>max n (f k)) a<=n↔a<=n/\∀ k ∈ l,f k<=n
 | [],a,n=>by simp
 | x::l,a,n=>by
  rw [List.foldl_cons,vu f l];simp only [List.mem_cons,forall_eq_or_imp]
  constructor
  .rintro ⟨g,b⟩;exact ⟨by omega,by omega,b⟩
  .rintro ⟨g,b,e⟩;exact ⟨by omega,e⟩
theorem Sa:∀ (d n:Nat) (t:Term),TD d t->Wi d n t=(decide (YZ d t<=n)&&ZH d t)
 | 0,_,_,h=>h.elim
 | d+1,n,t,h=>by
  unfold Wi YZ ZH;have b:=h.2.2.2
  cases n with
  | zero=>simp
  | succ n=>
   have e:t.kids_.all (Wi d (n+1-1))=(t.kids_.all (fun k=>decide (YZ d k<=n))&&t.kids_.all (ZH d)):=by
    rw [Bool.eq_iff_iff,Bool.and_eq_true,List.all_eq_true,List.all_eq_true,List.all_eq_true];constructor
    .intro h
     refine ⟨fun k a=>?_,fun k a=>?_⟩ <;> (have:=h k a;rw [Nat.add_sub_cancel,Sa d n k (b k a),Bool.and_eq_true] at this)
     .exact this.1
     .exact this.2
    .rintro ⟨i,f⟩ k a
     rw [Nat.add_sub_cancel,Sa d n k (b k a),i k a,f k a];rfl
   have g:decide (1+t.kids_.foldl (fun n k=>max n (YZ d k)) 0<=n+1)=t.kids_.all (fun k=>decide (YZ d k<=n)):=by
    rw [Bool.eq_iff_iff,decide_eq_true_eq,List.all_eq_true];have:=vu (YZ d) t.kids_ 0 n
    simp only [decide_eq_true_eq];constructor
    .intro h;exact (this.1 (by omega)).2
    .intro h;have:=this.2 ⟨by omega,h⟩;omega
   rw [e,g]
   cases ZZ t <;> cases t.kids_.all (fun k=>decide (YZ d k<=n)) <;> cases t.kids_.all (ZH d) <;> simp
theorem zr:∀ (d:Nat) (_:d<=2000000) {F:Nat} (_:Q8+d<=F) {t:Term} (_:TD d t),JI F t=some (YZ d t:Int)/\YZ d t<=d
 | 0,_,_,_,_,h=>h.elim
 | d+1,_,0,hF,_,_=>by unfold Q8 at hF;omega
 | d+1,hd,F+1,hF,t,h=>by
  obtain ⟨_,_,w,l⟩:=h;have a : Q8+d<=F:=by omega
  have p:=a;unfold Q8 at p
  have m:t.kids_.foldl (fun n k=>max n (YZ d k)) 0<=d:=(vu _ _ _ _).2 ⟨by omega,fun k f=>(zr d (by omega) a (l k f)).2⟩;refine ⟨?_,by unfold YZ;omega⟩
  show SM F (JI F) t=_;unfold SM
  suffices hs:∀ (n:Nat) (i:Nat) (v:Nat),t.kids_.length-i<n->i<=t.kids_.length->(t.kids_.drop i).foldl (fun n k=>max n (YZ d k)) v=t.kids_.foldl (fun n k=>max n (YZ d k)) 0->v<=d ->
    Z7 (fun again (z:Int×Int)=>SL F (JI F) t again z.1 z.2) n ((v:Int),(i:Int))=some ((YZ (d+1) t:Nat):Int) by
   exact hs F 0 0 (by omega) (by omega) rfl (by omega)
  intro n
  induction n with
  | zero=>intro i v h;omega
  | succ n ih=>
   intro i v s q e u;show SL F (JI F) t (Z7 _ n) (v:Int) (i:Int)=_
   unfold SL
   by_cases hil:i<t.kids_.length
   .have b:=l _ (V4 hil)
    obtain ⟨o,r⟩:=zr d (by omega) a b;rw [YB hil,List.foldl_cons] at e
    have j:=ih (i+1) (max v (YZ d (gl t.kids_ i))) (by omega) (by omega) e (by omega);refine Z9 (decide_eq_true (by omega)) (Q7 (by omega) (Q7 b.op (Q4 o (Q7 (W2 (by omega) (by omega)) ?_))))
    rw [<-j];congr 1
    refine Prod.ext ?_ rfl;show J3 _ _=_
    unfold J3;split <;> omega
   .have g:i=t.kids_.length:=by omega
    subst g;rw [List.drop_length,List.foldl_nil] at e
    refine Z3 (decide_eq_false (by omega)) ?_;unfold zt
    refine Q7 (W2 (by omega) (by omega)) ?_;unfold YZ
    rw [<-e];congr 1;omega
theorem cK:∀ (d:Nat) {F:Nat} (_:Q8+d<=F) {t:Term} (_:TD d t),Wj F t=some (ZH d t)
 | 0,_,_,_,h=>h.elim
 | d+1,0,hF,_,_=>by unfold Q8 at hF;omega
 | d+1,F+1,hF,t,h=>by
  obtain ⟨_,_,D,B⟩:=h;have o : Q8+d<=F:=by omega
  have C:=o;unfold Q8 at C
  show SJ F (Wj F) t=_;have k:Z7 (fun f (z:Int)=>XH F (Wj F) t f z) F (0:Int)=some (t.kids_.all (ZH d)):=by
   refine Q0p (fun l=>some (l.all (ZH d))) (fun f i q r=>?_) (fun f=>?_) (by omega)
   .show XH F (Wj F) t f (i:Int)=_
    unfold XH;have p:=B _ (V4 q)
    refine Z9 (decide_eq_true (by omega)) (Q7 (by omega) (Q7 p.op (Q4 (cK d o p) ?_)));show br (!ZH d (gl t.kids_ i)) _ _=some (ZH d (gl t.kids_ i)&&_)
    cases ZH d (gl t.kids_ i) with
    | false=>rfl
    | true=>exact Z3 rfl (Q7 (W2 (by omega) (by omega)) r)
   .show XH F (Wj F) t f (t.kids_.length:Int)=_
    unfold XH;exact Z3 (decide_eq_false (by omega)) rfl
  have k2:∀ b,XF F (Wj F) t b=some (!b&&t.kids_.all (ZH d)):=fun b=>by
   unfold XF
   cases b with
   | true=>rfl
   | false=>exact Z3 rfl k
  have k1:∀ (n:Int) (a b:Bool),Zy F (Wj F) t n a b=some ((b&&(a&&((t.kids_.length:Nat):Int)==n))&&t.kids_.all (ZH d)):=fun n a b=>by
   unfold Zy
   cases b <;> cases a
   .rw [k2];rfl
   .rw [k2];rfl
   .exact Z3 rfl (Z9 rfl (k2 _))
   .refine Z3 rfl (Z3 rfl ((k2 _).trans ?_))
    congr 2
    rw [bne,Bool.not_not];rfl
  have s:∀ (n:Nat),(((t.kids_.length:Nat):Int)==(n:Int))=(t.kids_.length==n):=fun n=>by
   rw [Bool.eq_iff_iff,beq_iff_eq,beq_iff_eq];omega
  have u:(((t.kids_.length:Nat):Int)==((t.kids_.length:Nat):Int))=true:=by simp
  have v:(decide ((0:Int)<((t.kids_.length:Nat):Int)))=decide (1<=t.kids_.length):=by rw [Bool.eq_iff_iff,decide_eq_true_eq,decide_eq_true_eq];omega
  have j:(((t.kids_.length:Nat):Int)==0)=(t.kids_.length==0):=s 0;have w:(((t.kids_.length:Nat):Int)==1)=(t.kids_.length==1):=s 1
  unfold SJ ZH ZZ;have K:∀ {x:Option Bool} {n:Int} {a b c:Bool},x=Zy F (Wj F) t n a b->(b&&(a&&((t.kids_.length:Nat):Int)==n))=c->x=some (c&&t.kids_.all (ZH d)):=fun h e=>by rw [h,k1,e]
  have R:∀ {lo q:Int} {a:Bool} {c:Bool},(Zy F (Wj F) t 0 a (decide (lo<=t.num_)&&decide (t.num_<=q)))=some c->br (decide (lo<=t.num_)) (Zy F (Wj F) t 0 a (decide (t.num_<=q))) (Zy F (Wj F) t 0 a false)=some c:=fun h=>by
   rw [<-h];cases decide (_<=t.num_) <;> rfl
  by_cases h1:t.op_=1
  .rw [if_pos h1]
   exact Z9 (by simp [h1]) (K rfl (by rw [j]))
  rw [if_neg h1];refine Z3 (by simp [h1]) ?_
  by_cases h2:t.op_=2
  .rw [if_pos h2]
   refine Z9 (by simp [h2]) ?_;rw [show decide (t.num_<40)=decide (t.num_<=39) from decide_eq_decide.2 (by omega)]
   exact R (K rfl (by rw [j]))
  rw [if_neg h2];refine Z3 (by simp [h2]) ?_
  by_cases h3:t.op_=3
  .rw [if_pos h3]
   exact Z9 (by simp [h3]) (R (K rfl (by rw [j])))
  rw [if_neg h3];refine Z3 (by simp [h3]) ?_
  by_cases h4:t.op_=4
  .rw [if_pos h4]
   exact Z9 (by simp [h4]) (Q4 (zn F _) (K rfl (by rw [j])))
  rw [if_neg h4];refine Z3 (by simp [h4]) ?_
  by_cases h5:t.op_=5
  .rw [if_pos h5]
   exact Z9 (by simp [h5]) (R (K rfl (by rw [j])))
  rw [if_neg h5];refine Z3 (by simp [h5]) ?_
  by_cases h6:t.op_=6
  .rw [if_pos h6]
   exact Z9 (by simp [h6]) (R (K rfl (by rw [j])))
  rw [if_neg h6];refine Z3 (by simp [h6]) ?_
  by_cases h7:t.op_=7
  .rw [if_pos h7]
   refine Z9 (by simp [h7]) ?_;refine Q6 (fun g=>Q4 (zn F _) (K rfl ?_)) (fun g=>Q4 (zn F _) (K rfl ?_))
   .rw [j,g,Bool.true_and]
   .rw [g];rfl
  rw [if_neg h7];refine Z3 (by simp [h7]) ?_
  by_cases g:t.op_=8
  .rw [if_pos g]
   exact Z9 (by simp [g]) (R (K rfl (by rw [j])))
  rw [if_neg g];refine Z3 (by simp [g]) ?_
  have m:XG F (Wj F) t true=some ((t.num_==0&&(t.more_==0&&decide (1<=t.kids_.length)))&&t.kids_.all (ZH d)):=by
   unfold XG;refine Z9 rfl (Q6 (fun h=>K rfl ?_) (fun h=>K rfl ?_))
   .rw [u,v,h,Bool.true_and,Bool.and_true,Bool.and_comm]
   .rw [h];rfl
  by_cases h9:t.op_=9\/t.op_=10
  .rw [if_pos h9]
   refine Q6 (fun h=>?_) (fun h=>?_)
   .rw [h];exact m
   .have:t.op_=10:=by simp at h;omega
    rw [this];exact m
  rw [if_neg h9];refine Z3 (by simp;omega) ?_
  rw [show (t.op_==(10:Int))=false by simp;omega];unfold XG
  refine Z3 rfl ?_
  by_cases h11:t.op_=11
  .rw [if_pos h11]
   exact Z9 (by simp [h11]) (K rfl (by rw [w]))
  .rw [if_neg h11]
   exact Z3 (by simp [h11]) (K rfl rfl)
end
end Go.Ab
end
section
namespace Go.Ab
set_option maxRecDepth 20000
noncomputable section
theorem Q5R{F:Nat}{l:List Term}{q:Term->Option Bool}(p:Term->Bool)(hF:l.length<F)(hl:l.length<=1000000000)(ho:∀ r ∈ l,Q9 r.op_)(hq:∀ r ∈ l,q r=some (p r)):∃ i:Int,Rk F l q=some i/\(0<=i↔l.any p=true):=by
 unfold Rk
 suffices hs:∀ (n i:Nat),l.length-i<n->i<=l.length->∃ j:Int,Z7 (fun again (z:Int)=>Rj F l q again z) n (i:Int)=some j/\(0<=j↔(l.drop i).any p=true) by
  simpa using hs F 0 (by omega) (by omega)
 intro n
 induction n with
 | zero=>intro i h;omega
 | succ n ih=>
  intro i g f;show ∃ j:Int,Rj F l q (Z7 _ n) (i:Int)=some j/\_
  unfold Rj
  by_cases hil:i<l.length
  .have a:=V4 hil
   rw [xw hil]
   cases hp:p (gl l i) with
   | true=>exact ⟨i,Z9 (decide_eq_true (by omega)) (Q7 (by omega) (Q7 (ho _ a) (Q4 (hq _ a) (Z9 hp rfl)))),by simp⟩
   | false=>
    obtain ⟨j,b,e⟩:=ih (i+1) (by omega) (by omega);refine ⟨j,Z9 (decide_eq_true (by omega)) (Q7 (by omega) (Q7 (ho _ a) (Q4 (hq _ a) (Z3 hp (Q7 (W2 (by omega) (by omega)) ?_))))),by simpa using e⟩
    rw [<-b];congr 1
  .refine ⟨-1,Z3 (decide_eq_false (by omega)) rfl,?_⟩
   rw [List.drop_eq_nil_of_le (by omega)];simp
theorem Q6l{F:Nat}{l:List Term}{q:Term->Option Bool}(p:Term->Bool)(hF:l.length<F)(hl:l.length<=1000000000)(ho:∀ r ∈ l,Q9 r.op_)(hq:∀ r ∈ l,q r=some (p r)):Rw F l q=some (l.any p):=by
 obtain ⟨i,b,a⟩:=Q5R p hF hl ho hq;unfold Rw
 refine Q4 b ?_;rw [Option.some.injEq,Bool.eq_iff_iff,decide_eq_true_eq];exact a
def Va(n:Int):Int×Int×Bool:=if n=2 then (0,39,true) else if n=3 then (0,40,true) else if n=4 then (1,16,true) else if n=5 then (0,15,true) else if n=6 then (2,10,true) else if n=7\/n=8 then (1,10,true) else (0,0,false)
def Yh(n:Int):Int×Int:=if n=9\/n=10 then (1,40) else if n=11 then (1,1) else (0,0)
theorem Q4O(F:Nat)(n:Int):MV F n=some (Va n):=by
 unfold MV Va MU
 by_cases h2:n=2
 .subst h2;rfl
 by_cases h3:n=3
 .subst h3;rfl
 by_cases h4:n=4
 .subst h4;rfl
 by_cases h5:n=5
 .subst h5;rfl
 by_cases h6:n=6
 .subst h6;rfl
 by_cases h7:n=7
 .subst h7;rfl
 by_cases h8:n=8
 .subst h8;rfl
 have e:∀ m:Int,n≠m->(n==m)=false:=fun m h=>by simpa using h
 rw [e 2 h2,e 3 h3,e 4 h4,e 5 h5,e 6 h6,e 7 h7,e 8 h8,if_neg h2,if_neg h3,if_neg h4,if_neg h5,if_neg h6,if_neg (by omega)];rfl
theorem Q4Q(F:Nat)(n:Int):MX F n=some (Yh n):=by
 unfold MX Yh MW;have e:∀ m:Int,n≠m->(n==m)=false:=fun m h=>by simpa using h
 by_cases h2:n=9
 .subst h2;rfl
 by_cases h3:n=10
 .subst h3;rfl
 by_cases h4:n=11
 .subst h4;rfl
 rw [e 9 h2,e 10 h3,e 11 h4,if_neg (by omega),if_neg h4];rfl
def Mi(t:Term):Bool:=((Va t.op_).2.2&&(decide (t.num_<(Va t.op_).1)||decide ((Va t.op_).2.1<t.num_)))||(!(Va t.op_).2.2&&t.num_ != 0)
def GS(t:Term):Bool:=(t.op_==4 && !ZX t.num_)||((t.op_==7 && !ZX t.more_)||(t.op_ != 7&&t.more_ != 0))
def Kk(t:Term):Bool:=decide (((t.kids_.length:Nat):Int)<(Yh t.op_).1)||decide ((Yh t.op_).2<((t.kids_.length:Nat):Int))
theorem Q8P{t:Term}(hl:t.kids_.length<=40):(!(decide (t.op_<1)||decide (11<t.op_))&&(!Mi t&&(!GS t && !Kk t)))=ZZ t:=by
 have g:∀ n:Int,ZX n=true->1<=n/\n<=16:=fun n h=>by
  unfold ZX at h;simp only [Bool.or_eq_true,beq_iff_eq] at h;omega
 have k:∀ n:Nat,(t.kids_.length==n)=decide (t.kids_.length=n):=fun n=>by rw [Bool.eq_iff_iff,beq_iff_eq,decide_eq_true_eq]
 rw [Bool.eq_iff_iff];unfold Mi GS Kk Va Yh ZZ
 generalize t.op_=o,t.num_=n,t.more_=m at *;have j:∀ {p q:Prop},(p↔q)->(p↔q):=fun h=>h
 by_cases h:o<1\/11<o
 .rw [show (decide (o<1)||decide (11<o))=true by simpa using h]
  have e:∀ m:Int,1<=m->m<=11->¬ o=m:=fun m _ _=>by omega
  simp [e 1,e 2,e 3,e 4,e 5,e 6,e 7,e 8,e 9,e 10,e 11]
 have i:o=1\/o=2\/o=3\/o=4\/o=5\/o=6\/o=7\/o=8\/o=9\/o=10\/o=11:=by omega
 rcases i with rfl|rfl|rfl|rfl|rfl|rfl|rfl|rfl|rfl|rfl|rfl <;> simp <;> (try omega)
 constructor
 .rintro ⟨_,⟨a,b⟩,f⟩;exact ⟨a,b,f⟩
 .rintro ⟨a,b,f⟩;exact ⟨g _ a,⟨a,b⟩,f⟩
theorem kw:∀ (d:Nat) {F:Nat} (_:Q8+d<=F) {t:Term} (_:TD d t) (_:QJ d t<=40) (n:Nat) (_:n<=8),ZE F t (n:Int)=some (Wi d n t)
 | 0,_,_,_,h,_,_,_=>h.elim
 | d+1,0,hF,_,_,_,_,_=>by unfold Q8 at hF;omega
 | d+1,F+1,hF,t,h,hs,n,hn=>by
  obtain ⟨_,_,G,f⟩:=h;have g : Q8+d<=F:=by omega
  have D:=g;unfold Q8 at D
  have r:t.kids_.length<=39:=by
   have:t.kids_.length<=(t.kids_.map (QJ d)).sum:=by
    have:∀ l:List Term,(∀ k ∈ l,TD d k)->l.length<=(l.map (QJ d)).sum:=by
     intro l
     induction l with
     | nil=>intro _;simp
     | cons x l ih=>intro q;have:=Q5b (q x (by simp));have:=ih fun k f=>q k (by simp [f]);simp;omega
    exact this _ f
   unfold QJ at hs;omega
  have m:∀ k ∈ t.kids_,QJ d k<=40:=fun k a=>by
   obtain ⟨i,p,rfl⟩:=List.getElem_of_mem a;have w:=LL (d:=d) p
   have E:=LM (d:=d) (i:=i+1) (t:=t);rw [K5 p] at w;omega
  show MJ F (ZE F) t (n:Int)=_;unfold MJ
  refine Q4 (Q4O F _) (Q4 (Q4Q F _) ?_);have u:∀ b,n≠0->Xg F (ZE F) t (n:Int) b=some (!b&&t.kids_.all (Wi d (n-1))):=fun b e=>by
   unfold Xg
   cases b with
   | true=>rfl
   | false=>
    refine Z3 rfl (Q4 (Q6l (fun k=> !Wi d (n-1) k) (by omega) (by omega) (fun k a=>(f k a).op) fun k a=>?_) ?_)
    .unfold Lt
     refine Q7 (W2 (by omega) (by omega)) ?_;rw [show ((n:Int)-1)=((n-1:Nat):Int) by omega]
     exact Q4 (kw d g (f k a) (m k a) (n-1) (by omega)) rfl
    .rw [Bool.not_false,Bool.true_and,List.not_any_eq_all_not];simp
  have k2:∀ b,n≠0->ZD F (ZE F) t (n:Int) (Yh t.op_) b=some (!b&&(!Kk t&&t.kids_.all (Wi d (n-1)))):=fun b e=>by
   unfold ZD Kk
   cases b with
   | true=>rfl
   | false=>
    refine Z3 rfl ?_;rw [Yn (fun b=>Xg F (ZE F) t (n:Int) b),u _ e];rfl
  have k1:∀ b,n≠0->Ug F (ZE F) t (n:Int) (Yh t.op_) b=some (!b&&(!GS t&&(!Kk t&&t.kids_.all (Wi d (n-1))))):=fun b e=>by
   unfold Ug GS
   cases b with
   | true=>rfl
   | false=>
    refine Z3 rfl ?_;have B:(Jr F t.more_).bind (fun z=>br (!z) (ZD F (ZE F) t (n:Int) (Yh t.op_) true) (br (t.op_ != (7:Int)) (ZD F (ZE F) t (n:Int) (Yh t.op_) (t.more_ != (0:Int))) (ZD F (ZE F) t (n:Int) (Yh t.op_) false)))=ZD F (ZE F) t (n:Int) (Yh t.op_) (!ZX t.more_||(t.op_ != 7&&t.more_ != 0)):=by
     refine Q4 (ku F _) ?_
     cases ZX t.more_ <;> cases (t.op_ != (7:Int)) <;> rfl
    have s:(br (t.op_==(7:Int)) ((Jr F t.more_).bind (fun z=>br (!z) (ZD F (ZE F) t (n:Int) (Yh t.op_) true) (br (t.op_ != (7:Int)) (ZD F (ZE F) t (n:Int) (Yh t.op_) (t.more_ != (0:Int))) (ZD F (ZE F) t (n:Int) (Yh t.op_) false)))) (br (t.op_ != (7:Int)) (ZD F (ZE F) t (n:Int) (Yh t.op_) (t.more_ != (0:Int))) (ZD F (ZE F) t (n:Int) (Yh t.op_) false)))
      = ZD F (ZE F) t (n:Int) (Yh t.op_) ((t.op_==7 && !ZX t.more_)||(t.op_ != 7&&t.more_ != 0)):=by
     rw [B]
     cases h7:(t.op_==(7:Int)) with
     | true=>rw [show (t.op_ != (7:Int))=false by rw [bne,h7];rfl];cases ZX t.more_ <;> rfl
     | false=>rw [show (t.op_ != (7:Int))=true by rw [bne,h7];rfl];rfl
    rw [s];refine Q6 (fun o=>Q4 (ku F _) ?_) (fun o=>?_)
    .rw [o,Bool.true_and]
     cases ZX t.num_ with
     | false=>refine Z9 rfl ((k2 _ e).trans ?_);rfl
     | true=>refine Z3 rfl ((k2 _ e).trans ?_);rfl
    .rw [o];exact k2 _ e
  have v:∀ b,(b=false->n≠0)->Js F (ZE F) t (n:Int) (Va t.op_) (Yh t.op_) b=some (!b&&(!Mi t&&(!GS t&&(!Kk t&&t.kids_.all (Wi d (n-1)))))):=fun b C=>by
   unfold Js Mi
   cases b with
   | true=>rfl
   | false=>
    have e:=C rfl;refine Z3 rfl ?_
    have k1:=fun b=>k1 b e
    generalize hK:Ug F (ZE F) t (n:Int) (Yh t.op_)=K at k1 ⊢;generalize (!GS t&&(!Kk t&&t.kids_.all (Wi d (n-1))))=rest at k1 ⊢
    generalize (t.num_ != 0)=nz
    cases (Va t.op_).2.2 <;> cases decide (t.num_<(Va t.op_).1) <;> cases decide ((Va t.op_).2.1<t.num_) <;> cases nz <;> simp only [br,k1] <;> rfl
  have j:(((n:Int))==0)=decide (n=0):=by rw [Bool.eq_iff_iff,beq_iff_eq,decide_eq_true_eq];omega
  rw [j];rw [Yn (fun b=>Js F (ZE F) t (n:Int) (Va t.op_) (Yh t.op_) b),Yn (fun b=>Js F (ZE F) t (n:Int) (Va t.op_) (Yh t.op_) b)]
  rw [v _ (fun h=>by simp only [Bool.or_eq_false_iff,decide_eq_false_iff_not] at h;exact h.2.2)];unfold Wi
  rw [<-Q8P (t:=t) (by omega)]
  cases decide (t.op_<1) <;> cases decide (11<t.op_) <;> cases decide (n=0) <;> cases Mi t <;> cases GS t <;> cases Kk t <;> rfl
def Yq(d:Nat)(t:Term):Int:=if 40<QJ d t then 1 else if Wi d 8 t=true then 0 else 16
theorem kI{d F:Nat}(hF:Q8+d<=F){t:Term}(h:TD d t):Bq F t=some (Yq d t):=by
 unfold Bq Yq;obtain ⟨v,e,_,_,b,_⟩:=kG d hF h (m:=40) (by omega) (by omega)
 refine Q4 e (Q6 (fun a=>?_) (fun a=>?_))
 .have:=b.1 (of_decide_eq_true a);rw [if_pos (by omega)]
 .have f:¬ 40<QJ d t:=fun h=>of_decide_eq_false a (b.2 (by omega))
  rw [if_neg f];refine Q4 (kw d hF h (by omega) 8 (by omega)) ?_
  cases Wi d 8 t <;> rfl
theorem cQ{d F:Nat}(hd:d<=2000000)(hF:Q8+d<=F){t:Term}(h:TD d t):Dl F t=some (Yq d t):=by
 unfold Dl Yq;obtain ⟨v,f,_,_,e,_⟩:=cN d hd hF h
 refine Q4 f (Q6 (fun b=>?_) (fun b=>?_))
 .have:=e.1 (of_decide_eq_true b);rw [if_pos (by omega)]
 .have g:¬ 40<QJ d t:=fun h=>of_decide_eq_false b (e.2 (by omega))
  rw [if_neg g,Sa d 8 t h];refine Q4 (zr d hd hF h).1 (Q6 (fun a=>?_) (fun a=>?_))
  .have a:=of_decide_eq_true a
   rw [decide_eq_false (by omega)];rfl
  .have a:=of_decide_eq_false a
   rw [decide_eq_true (by omega)];refine Q4 (cK d hF h) ?_
   unfold SX
   cases ZH d t <;> rfl
theorem kJ(d:Nat):Yq (d+1) ⟨1,0,0,[]⟩=0:=by
 unfold Yq;rw [if_neg (by simp [QJ]),if_pos]
 simp [Wi,ZZ]
end
end Go.Ab
end
section
namespace Go.Ab
set_option maxRecDepth 20000
noncomputable section
def WE(y:Int)(cs:List Crop)(hs:List Rg_)(zs:List A2_)(d c:Int)(A:List Rect)(t:Term):TS:=
 if t.op_=2 then WF A (c==t.num_)
 else if t.op_=3 then WF A ((gl cs c.toNat).f_==t.num_)
 else if t.op_=4 then WF A (Zo cs c t.num_)
 else if t.op_=5 then VE A (Q2 (W8 zs d fun k=>k==t.num_))
 else if t.op_=6 then Zf A hs cs y (gl cs c.toNat).f_ (t.num_.toNat-1)
 else if t.op_=7 then ⟨Vz A hs (y-t.num_) fun k=>Zo cs k t.more_,Vz A hs (y-t.num_) fun k=> !Zo cs k t.more_⟩
 else if t.op_=8 then VE A (Q2 (U4 hs (y-t.num_) fun _=>true))
 else WF A true
def U8(y:Int)(cs:List Crop)(hs:List Rg_)(zs:List A2_)(d c:Int)(A:List Rect):Nat->Term->TS
 | 0,_=>WF A true
 | e+1,t=>
  if t.op_=9 then ⟨fun u v=>Q2 A u v&&t.kids_.all fun k=>(U8 y cs hs zs d c A e k).Y u v,fun u v=>t.kids_.any fun k=>(U8 y cs hs zs d c A e k).N u v⟩
  else if t.op_=10 then ⟨fun u v=>t.kids_.any fun k=>(U8 y cs hs zs d c A e k).Y u v,fun u v=>Q2 A u v&&t.kids_.all fun k=>(U8 y cs hs zs d c A e k).N u v⟩
  else if t.op_=11 then ⟨(U8 y cs hs zs d c A e (gl t.kids_ 0)).N,(U8 y cs hs zs d c A e (gl t.kids_ 0)).Y⟩
  else WE y cs hs zs d c A t
variable {F:Nat} {cs:List Crop} {hs:List Rg_} {zs:List A2_} {y c d:Int} {A:List Rect}
theorem TIn.turn{s:TS}(h:TIn A s):TIn A ⟨s.N,s.Y⟩:=⟨h.fN,h.fY,h.sN,h.sY⟩
theorem Z2C(t:Term):TIn A (WE y cs hs zs d c A t):=by
 unfold WE
 repeat' split
 .exact PM _ _
 .exact PM _ _
 .exact PM _ _
 .exact Q2A (V8 _)
 .exact KG _ _ _ _ _ _
 .exact ⟨Ja _ _ _ _,Ja _ _ _ _,fun _ _ h=>XZ h,fun _ _ h=>XZ h⟩
 .exact Q2A (V8 _)
 .exact PM _ _
theorem Q1S{B:Sq}(hB:z8 B){α:Type}(f:α->Sq):∀ (l:List α),(∀ k ∈ l,z8 (f k))->z8 fun u v=>B u v&&l.all fun k=>f k u v
 | [],_=>by simpa using hB
 | k::l,h=>by
  have b:=VC (Q1S hB f l fun j a=>h j (List.mem_cons_of_mem _ a)) (h k List.mem_cons_self);have e:(fun u v=>(B u v&&l.all fun k=>f k u v)&&f k u v)=fun u v=>B u v&&(k::l).all fun k=>f k u v:=by
   funext u v
   rw [List.all_cons]
   cases B u v <;> cases f k u v <;> simp
  rw [<-e];exact b
theorem Q1R{α:Type}(f:α->Sq):∀ (l:List α),(∀ k ∈ l,z8 (f k))->z8 fun u v=>l.any fun k=>f k u v
 | [],_=>by simpa using HH
 | k::l,h=>by
  have b:=CU (h k List.mem_cons_self) (Q1R f l fun j a=>h j (List.mem_cons_of_mem _ a));simpa using b
theorem xx{α:Type}(f:α->TS)(l:List α)(h:∀ k ∈ l,TIn A (f k)):TIn A ⟨fun u v=>Q2 A u v&&l.all fun k=>(f k).Y u v,fun u v=>l.any fun k=>(f k).N u v⟩:=by
 refine ⟨Q1S (V8 A) (fun k=>(f k).Y) l fun k a=>(h k a).fY,Q1R (fun k=>(f k).N) l fun k a=>(h k a).fN,fun u v b=>?_,fun u v b=>?_⟩
 .simp only [Bool.and_eq_true] at b
  exact b.1
 .obtain ⟨k,a,e⟩:=List.any_eq_true.1 b
  exact (h k a).sN u v e
theorem WP:∀ (e:Nat) (t:Term),TIn A (U8 y cs hs zs d c A e t)
 | 0,_=>PM _ _
 | e+1,t=>by
  unfold U8;split
  .exact xx _ _ fun k _=>WP e k
  split
  .exact (xx (fun k=>⟨(U8 y cs hs zs d c A e k).N,(U8 y cs hs zs d c A e k).Y⟩) t.kids_ fun k _=>(WP e k).turn).turn
  split
  .exact (WP e _).turn
  .exact Z2C t
structure PL (p:TermPlace) (y:Int) (cs:List Crop) (hs:List Rg_) (zs:List A2_) (d c:Int) (A:List Rect):Prop where
 yr:p.world_.y_=y
 cs:p.world_.crops_=cs
 hs:p.world_.history_=hs
 zs:p.world_.zones_=zs
 dd:p.world_.day_=d
 cr:p.line_.c_=c
 re:p.t_=A
theorem Q0k{n:Nat}{L:List A2_}(h:∀ f ∈ L,Qw n f.g_.t_)(d:Int)(p:Int->Bool):Qw n (W8 L d p):=fun r a=>by
 unfold W8 at a;obtain ⟨f,b,e⟩:=List.mem_flatMap.1 a
 exact h f (List.mem_filter.1 b).1 r e
theorem Q0G{t:Term}(hn:ZZ t=true)(q:t.op_=6):2<=t.num_/\t.num_<=10:=by
 unfold ZZ at hn;simp [q] at hn
 omega
theorem Q0F{t:Term}(hn:ZZ t=true)(q:t.op_=7):(1<=t.num_/\t.num_<=10)/\ZX t.more_=true:=by
 unfold ZZ at hn;simp [q] at hn
 exact ⟨by omega,hn.2.1⟩
theorem Q0E{t:Term}(hn:ZZ t=true)(q:t.op_=8):1<=t.num_/\t.num_<=10:=by
 unfold ZZ at hn;simp [q] at hn
 omega
theorem Q0T{n:Nat}{L:List A2_}(h:LB n L){f:A2_}(hf:f ∈ L):W6 f.g_.t_:=((XW f).1 (h.vl.one f hf)).2.2.2.2.2.2.2.2
theorem LB.few'{n:Nat}{L:List A2_}(h:LB n L)(d:Int)(p:Int->Bool):(W8 L d p).length<=7200:=by
 have i:=h.vl.len;have:∀ (M:List A2_),(∀ f ∈ M,f.g_.t_.length<=120)->(W8 M d p).length<=120*M.length:=by
  intro M
  induction M with
  | nil=>intro _;simp [W8]
  | cons f M ih=>
   intro a;rw [XV]
   have k:=a f List.mem_cons_self;have j:=ih fun g e=>a g (List.mem_cons_of_mem _ e)
   rw [List.length_append,List.length_cons];split
   .omega
   .simp;omega
 have:=this L fun f b=>(Q0T h b).1
 omega
theorem Q4T(hF:Q8<=F)(h:EV y cs hs zs c A){p:TermPlace}(hp:PL p y cs hs zs d c A){t:Term}(hn:ZZ t=true):MT F p t=some ((WE y cs hs zs d c A t).sqs A):=by
 have b:=h.tr.val;have i:=h.crop
 unfold MT WE;refine Q6 (fun q=>?_) fun J=>Q6 (fun q=>?_) fun B=>Q6 (fun q=>?_) fun D=>Q6 (fun q=>?_) fun I=>Q6 (fun q=>?_) fun w=>Q6 (fun q=>?_) fun G=>Q6 (fun q=>?_) fun E=>?_
 .have q:=eq_of_beq q
  rw [if_pos q,hp.cr];exact Q4 (MH hp.re b _) rfl
 .have q:=eq_of_beq q
  rw [if_neg (by omega),if_pos q,hp.cr,hp.cs];exact Q7 i (Q4 (MH hp.re b _) rfl)
 .have q:=eq_of_beq q
  rw [if_neg (by omega),if_neg (by omega),if_pos q,hp.cr,hp.cs];exact Q4 (xa F cs c t.num_) (Q4 (MH hp.re b _) rfl)
 .have q:=eq_of_beq q
  rw [if_neg (by omega),if_neg (by omega),if_neg (by omega),if_pos q,hp.zs,hp.dd];have L:=Q0k h.zs.box d fun k=>k==t.num_
  refine Q4 (vG hF (by have:=h.zs.vl.len;omega) (fun f s=>(Q0T h.zs s).1) d (fun k=>k==t.num_) fun f _=>rfl) ?_;refine Q4 (Vi hF (a:=p.t_) (by rw [hp.re];exact b.le8) (by have:=h.zs.few' d fun k=>k==t.num_;omega) (by rw [hp.re];exact b.pos) (fun r x=>(L r x).2.1) (S:=Q2 A) (by rw [hp.re]) rfl (k:=fun u v=>u&&v) rfl (Rc F)) ?_
  exact Q4 (kE hF hp.re h.tr (V8 _)) rfl
 .have q:=eq_of_beq q
  rw [if_neg (by omega),if_neg (by omega),if_neg (by omega),if_neg (by omega),if_pos q];have o:=Q0G hn q
  have:=Q4A hF h hp.hs hp.yr hp.re hp.cs hp.cr (n:=t.num_.toNat) (by omega) (by omega)
  rw [Int.toNat_of_nonneg (by omega)] at this;exact Q4 this rfl
 .have q:=eq_of_beq q
  rw [if_neg (by omega),if_neg (by omega),if_neg (by omega),if_neg (by omega),if_neg (by omega),if_pos q];have o:=(Q0F hn q).1
  have j:∀ f ∈ hs,Bn F f.c_ p t=some (Zo cs f.c_ t.more_):=fun f _=>by
   unfold Bn;rw [hp.cs]
   exact Q4 (xa F cs _ _) rfl
  have C:∀ f ∈ hs,Bm F f.c_ p t=some (!Zo cs f.c_ t.more_):=fun f _=>by
   unfold Bm;rw [hp.cs]
   exact Q4 (xa F cs _ _) rfl
  have H:TIn A ⟨Vz A hs (y-t.num_) fun k=>Zo cs k t.more_,Vz A hs (y-t.num_) fun k=> !Zo cs k t.more_⟩:=⟨Ja _ _ _ _,Ja _ _ _ _,fun _ _ h=>XZ h,fun _ _ h=>XZ h⟩;have m:=Bo hF h hp.hs hp.yr hp.re (n:=t.num_) (q:=fun g=>Bn F g p t) (by omega) (by omega) (fun k=>Zo cs k t.more_) j
  have l:=Bo hF h hp.hs hp.yr hp.re (n:=t.num_) (q:=fun g=>Bm F g p t) (by omega) (by omega) (fun k=> !Zo cs k t.more_) C;have K:=Lu hF hp.re h.tr H
  exact Q4 m (Q4 l (Q4 K rfl))
 .have q:=eq_of_beq q
  rw [if_neg (by omega),if_neg (by omega),if_neg (by omega),if_neg (by omega),if_neg (by omega),if_neg (by omega),if_pos q];have o:=Q0E hn q
  have j:∀ f ∈ hs,CP F f.c_=some true:=fun _ _=>rfl
  have m:=Bo hF h hp.hs hp.yr hp.re (n:=t.num_) (q:=fun g=>CP F g) (by omega) (by omega) (fun _=>true) j;have l:=kE hF hp.re h.tr (S:=Q2 (U4 hs (y-t.num_) fun _=>true)) (V8 _)
  exact Q4 m (Q4 l rfl)
 .have z:∀ {k:Int},(t.op_==k)=false->¬ t.op_=k:=fun h e=>by rw [e] at h;simp at h
  rw [if_neg (z J),if_neg (z B),if_neg (z D),if_neg (z I),if_neg (z w),if_neg (z G),if_neg (z E)];exact Q4 (MH hp.re b _) rfl
def Ya(A:List Rect)(l:List TS):TS:=⟨fun u v=>Q2 A u v&&l.all fun k=>k.Y u v,fun u v=>l.any fun k=>k.N u v⟩
theorem FF{l:List TS}(h:∀ s ∈ l,TIn A s):TIn A (Ya A l):=xx (fun k=>k) l h
theorem xc(l:List TS)(s:TS):Ya A (l++[s])=⟨fun u v=>(Ya A l).Y u v&&s.Y u v,fun u v=>(Ya A l).N u v||s.N u v⟩:=by
 unfold Ya;congr 1
 .funext u v;simp [List.all_append,Bool.and_assoc]
 .funext u v;simp [List.any_append]
theorem Q4U(hF:Q8<=F){p:TermPlace}(e3:p.t_=A)(ht:TR A){l:List TS}(hl:∀ s ∈ l,TIn A s)(hlen:l.length<=1000000):Xk F p (l.map (TS.sqs A))=some ((Ya A l).sqs A):=by
 have h:=hF;unfold Q8 at h
 unfold Xk;have e:∀ (m f k:Nat),k+m=l.length->m<f->Z7 (fun again (z:(List Rect)×(List Rect)×Int)=>Xj F p (l.map (TS.sqs A)) again z.1 z.2.1 z.2.2) f (cn (Ya A (l.take k)).Y,cn (Ya A (l.take k)).N,((k:Nat):Int))=some ((Ya A l).sqs A):=by
  intro m
  induction m with
  | zero=>
   intro f k r n;obtain ⟨f,rfl⟩:∃ g,f=g+1:=⟨f-1,by omega⟩
   show Xj F p (l.map (TS.sqs A)) (Z7 _ f) _ _ ((k:Nat):Int)=_;unfold Xj
   refine Z3 (decide_eq_false (by rw [List.length_map];omega)) ?_;unfold LC
   rw [show k=l.length by omega,List.take_length];exact Q4 (Lu hF e3 ht (FF hl)) rfl
  | succ m ih=>
   intro f k r n;obtain ⟨f,rfl⟩:∃ g,f=g+1:=⟨f-1,by omega⟩
   show Xj F p (l.map (TS.sqs A)) (Z7 _ f) _ _ ((k:Nat):Int)=_;unfold Xj
   have a:k<l.length:=by omega
   have b:TIn A (Ya A (l.take k)):=FF fun s hs=>hl s (List.mem_of_mem_take hs)
   have hs:=hl _ (List.getElem_mem a);have q:gl (l.map (TS.sqs A)) ((k:Nat):Int).toNat=(l[k]).sqs A:=by
    rw [Int.toNat_natCast,K5 (by simpa using a),List.getElem_map]
   have i:=ih f (k+1) (by omega) (by omega);have o:l.take (k+1)=l.take k++[l[k]]:=by rw [List.take_append_getElem a]
   rw [o,xc] at i;rw [q]
   refine Z9 (decide_eq_true (by rw [List.length_map];omega)) (Q7 (by rw [List.length_map];omega) (Q4 (Vi hF (b.vY ht).le8 (hs.vY ht).le8 (b.vY ht).pos (hs.vY ht).pos (J2 b.fY) (J2 hs.fY) (k:=fun u v=>u&&v) rfl (Rc F)) (Q4 (Vi hF (b.vN ht).le8 (hs.vN ht).le8 (b.vN ht).pos (hs.vN ht).pos (J2 b.fN) (J2 hs.fN) (k:=fun u v=>u||v) rfl (kD F)) (Q7 (W2 (by omega) (by omega)) ?_))));exact i
 have:=e l.length F 0 (by omega) (by omega)
 have j:Ya A (l.take 0)=⟨Q2 A,fun _ _=>false⟩:=by unfold Ya;simp
 rw [j] at this;simp only [Uy ht.val,WA] at this
 rw [e3];exact this
end
end Go.Ab
end
section
namespace Go.Ab
set_option maxRecDepth 20000
noncomputable section
def TS.turn(s:TS):TS:=⟨s.N,s.Y⟩
theorem km(A:List Rect)(s:TS):s.turn.O A=s.O A:=by
 funext u v
 simp only [TS.turn,TS.O]
 cases Q2 A u v <;> cases s.Y u v <;> cases s.N u v <;> rfl
theorem kl(F:Nat)(A:List Rect)(s:TS):Bf F (s.sqs A)=some (s.turn.sqs A):=by
 unfold Bf TS.sqs;rw [km]
 rfl
def Wh(op:Int)(s:TS):TS:=if op=9 then s else s.turn
theorem Q4z{A:List Rect}{s:TS}(h:TIn A s)(op:Int):TIn A (Wh op s):=by
 unfold Wh;split
 .exact h
 .exact h.turn
variable {cs:List Crop} {hs:List Rg_} {zs:List A2_} {y c d:Int} {A:List Rect}
theorem kB{p:TermPlace}(h:EV y cs hs zs c A)(hp:PL p y cs hs zs d c A):∀ (e:Nat) {F:Nat} (_:Q8+e<=F) {t:Term} (_:TD e t) (_:ZH e t=true),VQ F p t=some ((U8 y cs hs zs d c A e t).sqs A)
 | 0,_,_,_,ht,_=>ht.elim
 | e+1,0,hF,_,_,_=>by unfold Q8 at hF;omega
 | e+1,F+1,hF,t,ht,o=>by
  have C : Q8+e<=F:=by omega
  have x:Q8<=F:=by omega
  have w:=x;unfold Q8 at w
  obtain ⟨L,_,n,K⟩:=ht;have v:ZZ t=true/\∀ k ∈ t.kids_,ZH e k=true:=by
   unfold ZH at o;rw [Bool.and_eq_true,List.all_eq_true] at o
   exact o
  have b:=v.1;show MO F (VQ F) p t=_
  unfold MO;have G:∀ s ∈ t.kids_.map (fun k=>Wh t.op_ (U8 y cs hs zs d c A e k)),TIn A s:=fun s hs=>by
   obtain ⟨k,_,rfl⟩:=List.mem_map.1 hs;exact Q4z (WP e k) _
  have B:∀ (m f i:Nat),i+m=t.kids_.length->m<f->Z7 (fun again (z:Int×(List Squares))=>Kz F (VQ F) p t again z.1 z.2) f (((i:Nat):Int),(t.kids_.take i).map fun k=>(Wh t.op_ (U8 y cs hs zs d c A e k)).sqs A)=some ((U8 y cs hs zs d c A (e+1) t).sqs A):=by
   intro m
   induction m with
   | zero=>
    intro f i M o;obtain ⟨f,rfl⟩:∃ g,f=g+1:=⟨f-1,by omega⟩
    show Kz F (VQ F) p t (Z7 _ f) ((i:Nat):Int) _=_;unfold Kz
    refine Z3 (decide_eq_false (by omega)) ?_;rw [show i=t.kids_.length by omega,List.take_length]
    unfold Lz;have a:=Q4U x hp.re h.tr G (by rw [List.length_map];exact n)
    rw [List.map_map] at a;have a:Xk F p (t.kids_.map fun k=>(Wh t.op_ (U8 y cs hs zs d c A e k)).sqs A)=_:=a
    have z:∀ {k:Int},(t.op_==k)=false->¬ t.op_=k:=fun h e=>by rw [e] at h;simp at h
    refine Q6 (fun q=>?_) fun u=>Q6 (fun q=>?_) fun l=>Q6 (fun q=>?_) fun D=>?_
    .have q:=eq_of_beq q
     refine Q4 a ?_;have:Ya A (t.kids_.map fun k=>Wh t.op_ (U8 y cs hs zs d c A e k))=U8 y cs hs zs d c A (e+1) t:=by
      conv=>rhs;unfold U8
      unfold Ya Wh;rw [if_pos q]
      simp only [List.all_map,List.any_map,if_pos q];rfl
     rw [this]
    .have q:=eq_of_beq q
     refine Q4 a (Q4 (kl F A _) ?_);have:(Ya A (t.kids_.map fun k=>Wh t.op_ (U8 y cs hs zs d c A e k))).turn=U8 y cs hs zs d c A (e+1) t:=by
      conv=>rhs;unfold U8
      unfold Ya Wh TS.turn;rw [if_neg (z u),if_pos q]
      simp only [List.all_map,List.any_map,if_neg (z u)];rfl
     rw [this]
    .have q:=eq_of_beq q
     have N:t.kids_.length=1:=by
      unfold ZZ at b;simp [q] at b
      omega
     refine Q7 (by rw [List.length_map];omega) ?_;rw [K5 (by rw [List.length_map];show 0<_;omega),List.getElem_map]
     have:Wh t.op_ (U8 y cs hs zs d c A e (gl t.kids_ 0))=U8 y cs hs zs d c A (e+1) t:=by
      conv=>rhs;unfold U8
      unfold Wh TS.turn;rw [if_neg (z u),if_neg (z u),if_neg (z l),if_pos q]
     rw [<-this,K5 (by omega)];rfl
    .have:WE y cs hs zs d c A t=U8 y cs hs zs d c A (e+1) t:=by
      unfold U8;rw [if_neg (z u),if_neg (z l),if_neg (z D)]
     rw [<-this];exact Q4 (Q4T x h hp b) rfl
   | succ m ih=>
    intro f i M o;obtain ⟨f,rfl⟩:∃ g,f=g+1:=⟨f-1,by omega⟩
    show Kz F (VQ F) p t (Z7 _ f) ((i:Nat):Int) _=_;have j:i<t.kids_.length:=by omega
    have r:=K _ (V4 j);have E:=kB h hp e C r (v.2 _ (V4 j))
    have H:=ih f (i+1) (by omega) (by omega);rw [QD j,List.map_append,List.map_singleton] at H
    generalize Z7 (fun again (z:Int×(List Squares))=>Kz F (VQ F) p t again z.1 z.2) f=ag at H ⊢;unfold Kz
    have I:((i:Nat):Int).toNat=i:=Int.toNat_natCast i;have J:((t.kids_.take i).map fun k=>(Wh t.op_ (U8 y cs hs zs d c A e k)).sqs A).length<=1000000:=by
     rw [List.length_map,List.length_take];omega
    refine Z9 (decide_eq_true (by omega)) (Q7 (by omega) (Q7 (by rw [I];exact r.op) (Q4 (by rw [I];exact E) ?_)));have k1:∀ s:TS,s=Wh t.op_ (U8 y cs hs zs d c A e (gl t.kids_ i))->Bh F (VQ F) ((i:Nat):Int) ((t.kids_.take i).map fun k=>(Wh t.op_ (U8 y cs hs zs d c A e k)).sqs A) ag (s.sqs A).yes_ (s.sqs A).no_ (s.sqs A).open_=some ((U8 y cs hs zs d c A (e+1) t).sqs A):=fun s hs=>by
     subst hs;unfold Bh
     exact Q7 (by unfold Y5;simp only [List.length_singleton];omega) (Q7 (W2 (by omega) (by omega)) H)
    refine Q6 (fun q=>?_) fun q=>?_
    .have q:¬ t.op_=9:=fun e=>by rw [e] at q;simp at q
     refine Q4 (kl F A _) (k1 _ ?_);unfold Wh;rw [if_neg q]
    .have q:t.op_=9:=by simpa using q
     refine k1 _ ?_;unfold Wh;rw [if_pos q]
  have:=B t.kids_.length F 0 (by omega) (by omega)
  simpa using this
end
end Go.Ab
end
section
namespace Go.Ab
set_option maxRecDepth 20000
noncomputable section
variable {F:Nat} {cs:List Crop} {hs:List Rg_} {zs:List A2_} {y c d:Int} {A:List Rect}
structure RP (p:Ref16Place) (y:Int) (cs:List Crop) (hs:List Rg_) (zs:List A2_) (d c:Int) (A:List Rect):Prop where
 yr:p.y_=y
 cs:p.crops_=cs
 hs:p.history_=hs
 zs:p.zones_=zs
 dd:p.day_=d
 cr:p.line_.c_=c
 re:p.line_.g_.t_=A
theorem Q4n{l:List Rg_}{p q:Int->Bool}(h:∀ f ∈ l,p f.c_=q f.c_)(y:Int):U4 l y p=U4 l y q:=by
 unfold U4;rw [List.filter_congr fun f a=>by rw [h f a]]
theorem LI(cs:List Crop):ZU cs (-1) 0=fun _=>true:=by
 funext k;simp [ZU]
theorem Q5a{f:Int}(h:0<=f)(cs:List Crop):ZU cs f 0=Vf cs f:=by
 funext k
 unfold ZU Vf;rw [decide_eq_false (by omega:¬ f<0),Bool.eq_iff_iff]
 simp
theorem xZ(h:EV y cs hs zs c A)(k:Int)(p:Int->Bool){u v:Int}(hh:Q2 (U4 hs k p) u v=true):0<=u/\u<(15:Nat)/\0<=v/\v<(15:Nat):=Mg (ka h.hb k p) hh
theorem GO(h:EV y cs hs zs c A)(k:Int)(p:Int->Bool):(cn (Q2 (U4 hs k p))).length<=120:=FM (V8 _) fun _ _ a=>xZ h k p a
def YT(hs:List Rg_)(cs:List Crop)(y f:Int):Nat->Sq
 | 0=>fun _ _=>false
 | k+1=>fun u v=>YT hs cs y f k u v||Q2 (U4 hs (y-((k+1:Nat):Int)) (US cs f)) u v
theorem He(f:Int):∀ k,z8 (YT hs cs y f k)
 | 0=>HH
 | k+1=>CU (He f k) (V8 _)
theorem yb(h:EV y cs hs zs c A)(f:Int):∀ (k:Nat) (u v:Int),YT hs cs y f k u v=true->0<=u/\u<(15:Nat)/\0<=v/\v<(15:Nat)
 | 0,_,_,a=>by cases a
 | k+1,u,v,a=>by
  unfold YT at a;rw [Bool.or_eq_true] at a
  rcases a with a|a
  .exact yb h f k u v a
  .exact xZ h _ _ a
theorem Z1S(f:Int):∀ k,VF A ⟨(Zf A hs cs y f k).Y,YT hs cs y f k⟩=Zf A hs cs y f k:=by
 intro k;have e:∀ k u v,(Q2 A u v&&YT hs cs y f k u v)=(Zf A hs cs y f k).N u v:=by
  intro k u v
  induction k with
  | zero=>simp [YT,Zf]
  | succ k ih=>
   unfold YT Zf Vz;simp only
   rw [<-ih]
   cases Q2 A u v <;> simp
 have b:=Fy (KG A hs cs y f k);unfold VF at b ⊢
 have a:=congrArg TS.Y b;simp only at a
 rw [a];have g:(fun u v=>Q2 A u v&&YT hs cs y f k u v)=(Zf A hs cs y f k).N:=by
  funext u v;exact e k u v
 rw [g]
theorem Q7E(hF:Q8<=F)(h:EV y cs hs zs c A){p:Ref16Place}(hp:RP p y cs hs zs d c A){n:Nat}(n0:1<=n)(n1:n<=100):
  SF F p (n:Int)=some ((Zf A hs cs y (gl cs c.toNat).f_ (n-1)).tru A):=by
 have l:=hF;unfold Q8 at l
 have i:=h.crop;have J:=h.yr
 have L:=h.tr.val.1;unfold SF
 have j:∀ (m f k:Nat),k+m=n-1->m<f->Z7 (fun again (z:(List Rect)×(List Rect)×Int)=>Gj F p (n:Int) again z.1 z.2.1 z.2.2) f (cn (Zf A hs cs y (gl cs c.toNat).f_ k).Y,cn (YT hs cs y (gl cs c.toNat).f_ k),y-1-((k:Nat):Int))=some ((Zf A hs cs y (gl cs c.toNat).f_ (n-1)).tru A):=by
  intro m
  induction m with
  | zero=>
   intro f k I o;obtain ⟨f,rfl⟩:∃ g,f=g+1:=⟨f-1,by omega⟩
   show Gj F p (n:Int) (Z7 _ f) _ _ (y-1-((k:Nat):Int))=_;unfold Gj
   rw [hp.yr];refine Q7 (W2 (by omega) (by omega)) (Z3 (decide_eq_false (by omega)) ?_)
   unfold zo;have e:=KG A hs cs y (gl cs c.toNat).f_ k
   have C:=(e.vY h.tr).1;have D:=FM (He (hs:=hs) (cs:=cs) (y:=y) (gl cs c.toNat).f_ k) (yb h _ k)
   have:=XE hF hp.re h.tr (a:=cn (Zf A hs cs y (gl cs c.toNat).f_ k).Y) (b:=cn (YT hs cs y (gl cs c.toNat).f_ k)) (by omega) (by omega) (s:=⟨(Zf A hs cs y (gl cs c.toNat).f_ k).Y,YT hs cs y (gl cs c.toNat).f_ k⟩) (J2 e.fY) (J2 (He _ k))
   rw [Z1S] at this;rw [show n-1=k by omega]
   exact Q4 this rfl
  | succ m ih=>
   intro f k I o;obtain ⟨f,rfl⟩:∃ g,f=g+1:=⟨f-1,by omega⟩
   show Gj F p (n:Int) (Z7 _ f) _ _ (y-1-((k:Nat):Int))=_;have x:=ih f (k+1) (by omega) (by omega)
   generalize Z7 (fun again (z:(List Rect)×(List Rect)×Int)=>Gj F p (n:Int) again z.1 z.2.1 z.2.2) f=ag at x ⊢;unfold Gj
   rw [hp.yr,hp.hs,hp.cs,hp.cr];have e:=KG A hs cs y (gl cs c.toNat).f_ k
   have C:=(e.vY h.tr).1;have D:=FM (He (hs:=hs) (cs:=cs) (y:=y) (gl cs c.toNat).f_ k) (yb h _ k)
   have r:=Dn hF h.few cs (y-1-((k:Nat):Int)) (gl cs c.toNat).f_ 0 (.inr fun f o=>(h.hc f o).2);have q:=Dn hF h.few cs (y-1-((k:Nat):Int)) (-1) 0 (.inl ⟨by omega,rfl⟩)
   rw [Q5a h.fam] at r;rw [LI] at q
   have N:=GO h (y-1-((k:Nat):Int)) (Vf cs (gl cs c.toNat).f_);have O:=GO h (y-1-((k:Nat):Int)) fun _=>true
   have H:(fun u v=>K2 (Q2 (U4 hs (y-1-((k:Nat):Int)) fun _=>true) u v) (Q2 (U4 hs (y-1-((k:Nat):Int)) (Vf cs (gl cs c.toNat).f_)) u v) 3)=Q2 (U4 hs (y-1-((k:Nat):Int)) (US cs (gl cs c.toNat).f_)):=by
    funext u v
    rw [xY h.few.hl _ (Vf cs (gl cs c.toNat).f_) (US cs (gl cs c.toNat).f_) (fun f _=>rfl)];rfl
   have t:=YC hF (a:=cn (Q2 (U4 hs (y-1-((k:Nat):Int)) fun _=>true))) (b:=cn (Q2 (U4 hs (y-1-((k:Nat):Int)) (Vf cs (gl cs c.toNat).f_)))) (by omega) (J2 (V8 _)) (J2 (V8 _)) 3;rw [H] at t
   have M:=GO h (y-1-((k:Nat):Int)) (US cs (gl cs c.toNat).f_);have K:=YC hF (a:=cn (Zf A hs cs y (gl cs c.toNat).f_ k).Y) (b:=cn (Q2 (U4 hs (y-1-((k:Nat):Int)) (Vf cs (gl cs c.toNat).f_)))) (by omega) (J2 e.fY) (J2 (V8 _)) 2
   have E:=YC hF (a:=cn (YT hs cs y (gl cs c.toNat).f_ k)) (b:=cn (Q2 (U4 hs (y-1-((k:Nat):Int)) (US cs (gl cs c.toNat).f_)))) (by omega) (J2 (He _ k)) (J2 (V8 _)) 1;refine Q7 (W2 (by omega) (by omega)) (Z9 (decide_eq_true (by omega)) (Q4 r (Q4 K (Q4 q (Q4 t (Q4 E (Q7 (W2 (by omega) (by omega)) ?_)))))))
   have w:y-1-((k:Nat):Int)=y-((k+1:Nat):Int):=by omega
   have B:(fun u v=>K2 ((Zf A hs cs y (gl cs c.toNat).f_ k).Y u v) (Q2 (U4 hs (y-1-((k:Nat):Int)) (Vf cs (gl cs c.toNat).f_)) u v) 2)=(Zf A hs cs y (gl cs c.toNat).f_ (k+1)).Y:=by
    funext u v
    rw [w];show ((Zf A hs cs y (gl cs c.toNat).f_ k).Y u v&&Q2 (U4 hs (y-((k+1:Nat):Int)) (Vf cs (gl cs c.toNat).f_)) u v)=((Zf A hs cs y (gl cs c.toNat).f_ k).Y u v&&(Q2 A u v&&Q2 (U4 hs (y-((k+1:Nat):Int)) (Vf cs (gl cs c.toNat).f_)) u v))
    cases hh:(Zf A hs cs y (gl cs c.toNat).f_ k).Y u v with
    | false=>rfl
    | true=>rw [e.sY u v hh];rfl
   have G:(fun u v=>K2 (YT hs cs y (gl cs c.toNat).f_ k u v) (Q2 (U4 hs (y-1-((k:Nat):Int)) (US cs (gl cs c.toNat).f_)) u v) 1)=YT hs cs y (gl cs c.toNat).f_ (k+1):=by
    funext u v
    conv=>rhs;unfold YT
    rw [w];rfl
   rw [B,G,show y-1-((k:Nat):Int)-1=y-1-((k+1:Nat):Int) by omega];exact x
 have:=j (n-1) F 0 (by omega) (by omega)
 refine Q7 (by rw [hp.cr,hp.cs];exact i) (Q7 (by rw [hp.yr];exact W2 (by omega) (by omega)) ?_);rw [show (Zf A hs cs y (gl cs c.toNat).f_ 0)=⟨Q2 A,fun _ _=>false⟩ from rfl,show YT hs cs y (gl cs c.toNat).f_ 0=fun _ _=>false from rfl] at this
 simp only [Uy h.tr.val,WA] at this;rw [hp.re,hp.yr]
 simpa using this
end
end Go.Ab
end
section
namespace Go.Ab
set_option maxRecDepth 20000
noncomputable section
variable {cs:List Crop} {hs:List Rg_} {zs:List A2_} {y c d:Int} {A:List Rect}
def Yz(A:List Rect)(op:Int)(l:List TS):TS:=if op=9 then Ya A l else (Ya A (l.map TS.turn)).turn
theorem Q1A{op:Int}{l:List TS}(h:∀ s ∈ l,TIn A s):TIn A (Yz A op l):=by
 unfold Yz;split
 .exact FF h
 .exact (FF fun s hs=>by
   obtain ⟨t,a,rfl⟩:=List.mem_map.1 hs;exact (h t a).turn).turn
theorem Q2G{s:TS}(h:TIn A s):Ya A [s]=s:=by
 have:=Fy h
 obtain ⟨Y,N⟩:=s;unfold Ya
 unfold VF at this;have a:=congrArg TS.Y this
 simp only at a;simp [a]
theorem Z0J{op:Int}{s:TS}(h:TIn A s):Yz A op [s]=s:=by
 unfold Yz;split
 .exact Q2G h
 .have a:TIn A s.turn:=h.turn
  rw [List.map_singleton,Q2G a];rfl
theorem Z0K{op:Int}(q:op=9)(l:List TS)(s:TS):Yz A op (l++[s])=⟨fun u v=>(Yz A op l).Y u v&&s.Y u v,fun u v=>(Yz A op l).N u v||s.N u v⟩:=by
 unfold Yz;rw [if_pos q,if_pos q,xc]
theorem Z0I{op:Int}(q:¬ op=9)(l:List TS)(s:TS):Yz A op (l++[s])=⟨fun u v=>(Yz A op l).Y u v||s.Y u v,fun u v=>(Yz A op l).N u v&&s.N u v⟩:=by
 unfold Yz;rw [if_neg q,if_neg q,List.map_append,List.map_singleton,xc]
 rfl
theorem Z0L{e:Nat}{t:Term}(q:t.op_=9\/t.op_=10):Yz A t.op_ (t.kids_.map (U8 y cs hs zs d c A e))=U8 y cs hs zs d c A (e+1) t:=by
 conv=>rhs;unfold U8
 unfold Yz
 by_cases h9:t.op_=9
 .rw [if_pos h9,if_pos h9]
  unfold Ya;simp only [List.all_map,List.any_map]
  rfl
 .rw [if_neg h9,if_neg h9,if_pos (by omega)]
  unfold Ya TS.turn;simp only [List.all_map,List.any_map]
  rfl
theorem Z2B:∀ x:Nat,x<32->∀ m ∈ [(1:Int),2,4,8,16],(QN .i64 (x:Int) m != 0)=(QN .i64 (x:Int) m==m):=by decide +kernel
theorem Q0C{m:Int}(h:ZX m=true):m ∈ [(1:Int),2,4,8,16]:=by
 unfold ZX at h;simpa using h
theorem Z0C{m:Int}(h:EV y cs hs zs c A)(hm:ZX m=true):(QN .i64 (gl cs c.toNat).m_ m != 0)=Zo cs c m:=by
 have e:=h.mrk;have a:=h.crop
 have b:=Q0C hm;have f:=Z2B (gl cs c.toNat).m_.toNat (by omega) m b
 rw [Int.toNat_of_nonneg e.1] at f;unfold Zo
 rw [f,decide_eq_true a.1,decide_eq_true a.2,Bool.true_and,Bool.true_and];have:(m != 0)=true:=by
  simp only [List.mem_cons,List.not_mem_nil,or_false] at b;rcases b with rfl|rfl|rfl|rfl|rfl <;> rfl
 rw [this,Bool.true_and]
theorem Z0B{m:Int}(h:EV y cs hs zs c A)(hm:ZX m=true):∀ f ∈ hs,ZU cs (-1) m f.c_=Zo cs f.c_ m:=fun f g=>by
 have a:=h.hc f g;have b:=Q0C hm
 unfold ZU Zo;have e:(m != 0)=true/\decide (m=0)=false:=by
  simp only [List.mem_cons,List.not_mem_nil,or_false] at b;rcases b with rfl|rfl|rfl|rfl|rfl <;> exact ⟨rfl,rfl⟩
 rw [e.1,e.2,decide_eq_true a.1,decide_eq_true a.2];simp
theorem Q8Q{t:Term}(hn:ZZ t=true)(q:t.op_=4):ZX t.num_=true:=by
 unfold ZZ at hn;simp [q] at hn
 exact hn.1
theorem SK{p:Ref16Place}(h:EV y cs hs zs c A)(hp:RP p y cs hs zs d c A):∀ (e:Nat) {F:Nat} (_:Q8+e<=F) {t:Term} (_:TD e t) (_:ZH e t=true),VW F p t=some ((U8 y cs hs zs d c A e t).tru A)
 | 0,_,_,_,ht,_=>ht.elim
 | e+1,0,hF,_,_,_=>by unfold Q8 at hF;omega
 | e+1,F+1,hF,t,ht,S=>by
  have P : Q8+e<=F:=by omega
  have o:Q8<=F:=by omega
  have a4:=o;unfold Q8 at a4
  obtain ⟨d0,_,b3,Z⟩:=ht;have D:ZZ t=true/\∀ k ∈ t.kids_,ZH e k=true:=by
   unfold ZH at S;rw [Bool.and_eq_true,List.all_eq_true] at S
   exact S
  have J:=D.1;have W:=h.tr.val
  have hA:=W.1;have a3:=h.crop
  have b6:=h.yr;show SG F (VW F) p t=_
  unfold SG;refine Q7 (by rw [hp.cr,hp.cs];exact a3) ?_
  have z:∀ {k:Int},(t.op_==k)=false->¬ t.op_=k:=fun h e=>by rw [e] at h;simp at h
  have r:∀ s:TS,¬ t.op_=9->¬ t.op_=10->¬ t.op_=11->WE y cs hs zs d c A t=s->some (s.tru A)=some ((U8 y cs hs zs d c A (e+1) t).tru A):=fun s h9 a5 b1 hs=>by
   conv=>rhs;unfold U8
   rw [if_neg h9,if_neg a5,if_neg b1,hs]
  refine Q6 (fun q=>?_) fun q1=>Q6 (fun q=>?_) fun q2=>Q6 (fun q=>?_) fun q3=>Q6 (fun q=>?_) fun q4=>Q6 (fun q=>?_) fun q5=>Q6 (fun q=>?_) fun q6=>Q6 (fun q=>?_) fun q7=>Q6 (fun q=>?_) fun q8=>Q6 (fun q=>?_) fun b0=>?_
  .have q:=eq_of_beq q
   exact Q4 (SQ hp.re W true) (r _ (by omega) (by omega) (by omega) (by unfold WE;simp [q]))
  .have q:=eq_of_beq q
   rw [hp.cr];exact Q4 (SQ hp.re W _) (r _ (by omega) (by omega) (by omega) (by unfold WE;rw [if_pos q]))
  .have q:=eq_of_beq q
   rw [hp.cr,hp.cs];exact Q4 (SQ hp.re W _) (r _ (by omega) (by omega) (by omega) (by unfold WE;rw [if_neg (by omega),if_pos q]))
  .have q:=eq_of_beq q
   rw [hp.cr,hp.cs,Z0C h (Q8Q J q)];exact Q4 (SQ hp.re W _) (r _ (by omega) (by omega) (by omega) (by unfold WE;rw [if_neg (by omega),if_neg (by omega),if_pos q]))
  .have q:=eq_of_beq q
   have K:=Q8a o h.zs t.num_ t.num_ d;rw [Z2u] at K
   have hz:(cn (Q2 (W8 zs d fun x=>x==t.num_))).length<=120:=FM (V8 _) fun u v R=>Mg (Q0k h.zs.box d fun x=>x==t.num_) R
   rw [hp.zs,hp.dd,hp.re];have C:=YC o (a:=A) (b:=cn (Q2 (W8 zs d fun x=>x==t.num_))) (by omega) rfl (J2 (V8 _)) 3
   have T:=h.tr.sub (GL (a:=A) (b:=cn (Q2 (W8 zs d fun x=>x==t.num_))) rfl (J2 (V8 _)) 3) fun u v R=>by
    cases hA:Q2 A u v with
    | true=>rfl
    | false=>rw [hA] at R;cases R
   have U:=T.1;have w:=XE o hp.re h.tr (a:=cn (Q2 (W8 zs d fun x=>x==t.num_))) (by omega) (Nat.le_trans U (by omega)) (s:=⟨Q2 (W8 zs d fun x=>x==t.num_),fun u v=>K2 (Q2 A u v) (Q2 (W8 zs d fun x=>x==t.num_) u v) 3⟩) (J2 (V8 _)) (J2 (GL (a:=A) (b:=W8 zs d fun x=>x==t.num_) rfl rfl 3))
   refine Q4 K (Q4 C (Q4 w (r _ (by omega) (by omega) (by omega) ?_)));unfold WE
   rw [if_neg (by omega),if_neg (by omega),if_neg (by omega),if_pos q];unfold VE VF
   congr 1
   funext u v
   show (Q2 A u v && !Q2 (W8 zs d fun x=>x==t.num_) u v)=(Q2 A u v&&(Q2 A u v && !Q2 (W8 zs d fun x=>x==t.num_) u v))
   cases Q2 A u v <;> rfl
  .have q:=eq_of_beq q
   have hb:=Q0G J q;have:=Q7E o h hp (n:=t.num_.toNat) (by omega) (by omega)
   rw [Int.toNat_of_nonneg (by omega)] at this;refine Q4 this (r _ (by omega) (by omega) (by omega) ?_)
   unfold WE;rw [if_neg (by omega),if_neg (by omega),if_neg (by omega),if_neg (by omega),if_pos q]
  .have q:=eq_of_beq q
   have hb:=Q0F J q;rw [hp.yr,hp.hs,hp.cs]
   have K:=Dn o h.few cs (y-t.num_) (-1) 0 (.inl ⟨by omega,rfl⟩);have s2:=Dn o h.few cs (y-t.num_) (-1) t.more_ (.inr fun f S=>(h.hc f S).2)
   rw [LI] at K;rw [Q4n (q:=fun k=>Zo cs k t.more_) (Z0B h hb.2)] at s2
   have m1:=GO h (y-t.num_) fun _=>true
   have m2:=GO h (y-t.num_) fun k=>Zo cs k t.more_
   have m3:=GO h (y-t.num_) fun k=> !Zo cs k t.more_
   have eN:(fun u v=>K2 (Q2 (U4 hs (y-t.num_) fun _=>true) u v) (Q2 (U4 hs (y-t.num_) fun k=>Zo cs k t.more_) u v) 3)=Q2 (U4 hs (y-t.num_) fun k=> !Zo cs k t.more_):=by
    funext u v
    rw [xY h.few.hl _ (fun k=>Zo cs k t.more_) (fun k=> !Zo cs k t.more_) (fun f _=>rfl)];rfl
   have C:=YC o (a:=cn (Q2 (U4 hs (y-t.num_) fun _=>true))) (b:=cn (Q2 (U4 hs (y-t.num_) fun k=>Zo cs k t.more_))) (by omega) (J2 (V8 _)) (J2 (V8 _)) 3;rw [eN] at C
   have w:=XE o hp.re h.tr (a:=cn (Q2 (U4 hs (y-t.num_) fun k=>Zo cs k t.more_))) (b:=cn (Q2 (U4 hs (y-t.num_) fun k=> !Zo cs k t.more_))) (by omega) (by omega) (s:=⟨Q2 (U4 hs (y-t.num_) fun k=>Zo cs k t.more_),Q2 (U4 hs (y-t.num_) fun k=> !Zo cs k t.more_)⟩) (J2 (V8 _)) (J2 (V8 _));refine Q7 (W2 (by omega) (by omega)) (Q4 K (Q7 (W2 (by omega) (by omega)) (Q4 s2 (Q4 C (Q4 w (r _ (by omega) (by omega) (by omega) ?_))))))
   unfold WE;rw [if_neg (by omega),if_neg (by omega),if_neg (by omega),if_neg (by omega),if_neg (by omega),if_pos q]
   rfl
  .have q:=eq_of_beq q
   have hb:=Q0E J q;rw [hp.yr,hp.hs,hp.cs,hp.re]
   have K:=Dn o h.few cs (y-t.num_) (-1) 0 (.inl ⟨by omega,rfl⟩);rw [LI] at K
   have m1:=GO h (y-t.num_) fun _=>true
   have C:=YC o (a:=A) (b:=cn (Q2 (U4 hs (y-t.num_) fun _=>true))) (by omega) rfl (J2 (V8 _)) 3;have T:=h.tr.sub (GL (a:=A) (b:=U4 hs (y-t.num_) fun _=>true) rfl rfl 3) fun u v R=>by
    cases hA:Q2 A u v with
    | true=>rfl
    | false=>rw [hA] at R;cases R
   have U:=T.1;have w:=XE o hp.re h.tr (a:=cn (Q2 (U4 hs (y-t.num_) fun _=>true))) (by omega) (Nat.le_trans U (by omega)) (s:=⟨Q2 (U4 hs (y-t.num_) fun _=>true),fun u v=>K2 (Q2 A u v) (Q2 (U4 hs (y-t.num_) fun _=>true) u v) 3⟩) (J2 (V8 _)) (J2 (GL (a:=A) (b:=U4 hs (y-t.num_) fun _=>true) rfl rfl 3))
   refine Q7 (W2 (by omega) (by omega)) (Q4 K (Q4 C (Q4 w (r _ (by omega) (by omega) (by omega) ?_))));unfold WE
   rw [if_neg (by omega),if_neg (by omega),if_neg (by omega),if_neg (by omega),if_neg (by omega),if_neg (by omega),if_pos q];unfold VE VF
   congr 1
   funext u v
   show (Q2 A u v && !Q2 (U4 hs (y-t.num_) fun _=>true) u v)=(Q2 A u v&&(Q2 A u v && !Q2 (U4 hs (y-t.num_) fun _=>true) u v))
   cases Q2 A u v <;> rfl
  .have q:=eq_of_beq q
   have h1:t.kids_.length=1:=by
    unfold ZZ at J;simp [q] at J
    omega
   have L:=V4 (l:=t.kids_) (i:=0) (by omega);have B:=SK h hp e P (Z _ L) (D.2 _ L)
   refine Q7 (by omega) (Q7 (Z _ L).op (Q4 B ?_));have:(U8 y cs hs zs d c A e (gl t.kids_ 0)).turn=U8 y cs hs zs d c A (e+1) t:=by
    conv=>rhs;unfold U8
    rw [if_neg (by omega),if_neg (by omega),if_pos q];rfl
   rw [<-this];unfold TS.tru
   rw [km];rfl
  .have hq:t.op_=9\/t.op_=10:=by
    unfold ZZ at J;have:=z q1;have:=z q2;have:=z q3;have:=z q4;have:=z q5;have:=z q6;have:=z q7;have:=z q8;have:=z b0
    simp_all
   have h1:1<=t.kids_.length:=by
    unfold ZZ at J;rcases hq with q|q <;> simp [q] at J <;> omega
   have L:=V4 (l:=t.kids_) (i:=0) (by omega);have B:=SK h hp e P (Z _ L) (D.2 _ L)
   refine Q7 (by omega) (Q7 (Z _ L).op (Q4 B (Q7 (by omega) ?_)));have I:(t.kids_.drop (1:Int).toNat).length=t.kids_.length-1:=by simp
   have a1:∀ n,∀ s ∈ (t.kids_.take n).map (U8 y cs hs zs d c A e),TIn A s:=fun n s hs=>by
    obtain ⟨k,_,rfl⟩:=List.mem_map.1 hs;exact WP e k
   have a9:∀ (m f i:Nat),i+1+m=t.kids_.length->m<f->Z7 (fun again (z:Int×(List Rect)×(List Rect)×(List Rect))=>Gk F (VW F) p t again z.1 z.2.1 z.2.2.1 z.2.2.2) f (((i:Nat):Int),cn (Yz A t.op_ ((t.kids_.take (i+1)).map (U8 y cs hs zs d c A e))).Y,cn (Yz A t.op_ ((t.kids_.take (i+1)).map (U8 y cs hs zs d c A e))).N,cn ((Yz A t.op_ ((t.kids_.take (i+1)).map (U8 y cs hs zs d c A e))).O A))=some ((U8 y cs hs zs d c A (e+1) t).tru A):=by
    intro m
    induction m with
    | zero=>
     intro f i hi S;obtain ⟨f,rfl⟩:∃ g,f=g+1:=⟨f-1,by omega⟩
     show Gk F (VW F) p t (Z7 _ f) ((i:Nat):Int) _ _ _=_;unfold Gk
     refine Z3 (decide_eq_false (by rw [I];omega)) ?_;rw [show i+1=t.kids_.length by omega,List.take_length,Z0L hq]
     rfl
    | succ m ih=>
     intro f i hi S;obtain ⟨f,rfl⟩:∃ g,f=g+1:=⟨f-1,by omega⟩
     show Gk F (VW F) p t (Z7 _ f) ((i:Nat):Int) _ _ _=_;have E:i+1<t.kids_.length:=by omega
     have V:=Z _ (V4 E);have B:=SK h hp e P V (D.2 _ (V4 E))
     have a0:=ih f (i+1) (by omega) (by omega);generalize Z7 (fun again (z:Int×(List Rect)×(List Rect)×(List Rect))=>Gk F (VW F) p t again z.1 z.2.1 z.2.2.1 z.2.2.2) f=ag at a0 ⊢
     have Q:=Q1A (op:=t.op_) (a1 (i+1));have j:=Q1A (op:=t.op_) (a1 (i+1+1))
     have M:=WP (y:=y) (cs:=cs) (hs:=hs) (zs:=zs) (d:=d) (c:=c) (A:=A) e (gl t.kids_ (i+1));have et:(t.kids_.take (i+1+1)).map (U8 y cs hs zs d c A e)=(t.kids_.take (i+1)).map (U8 y cs hs zs d c A e)++[U8 y cs hs zs d c A e (gl t.kids_ (i+1))]:=by rw [QD E,List.map_append,List.map_singleton]
     have ei:gl (t.kids_.drop (1:Int).toNat) ((i:Nat):Int).toNat=gl t.kids_ (i+1):=by
      rw [Int.toNat_natCast,K5 (by rw [I];omega),K5 E,List.getElem_drop];congr 1
      show 1+i=i+1;omega
     generalize hG:Yz A t.op_ ((t.kids_.take (i+1)).map (U8 y cs hs zs d c A e))=G at Q ⊢;have y1:=(Q.vY h.tr).1
     have n1:=(Q.vN h.tr).1;have y2:=(M.vY h.tr).1
     have n2:=(M.vN h.tr).1;unfold Gk
     rw [ei];refine Z9 (decide_eq_true (by rw [I];omega)) (Q7 (by rw [I];omega) (Q7 V.op (Q4 B ?_)))
     have k1:∀ s:TS,s=Yz A t.op_ ((t.kids_.take (i+1+1)).map (U8 y cs hs zs d c A e))->Dd F (VW F) ((i:Nat):Int) ag (s.tru A).yes_ (s.tru A).no_ (s.tru A).open_=some ((U8 y cs hs zs d c A (e+1) t).tru A):=fun s he=>by
      subst he;unfold Dd
      exact Q7 (W2 (by omega) (by omega)) a0
     generalize U8 y cs hs zs d c A e (gl t.kids_ (i+1))=X at M et y2 n2 ⊢;refine Q6 (fun q=>?_) fun q=>?_
     .have q:=eq_of_beq q
      have H:=Z0K (A:=A) q ((t.kids_.take (i+1)).map (U8 y cs hs zs d c A e)) X;rw [<-et,hG] at H
      have C:=YC o (a:=cn G.Y) (b:=cn X.Y) (by omega) (J2 Q.fY) (J2 M.fY) 2;have c2:=YC o (a:=cn G.N) (b:=cn X.N) (by omega) (J2 Q.fN) (J2 M.fN) 1
      rw [H] at j;have T:=(j.vY h.tr).1
      have U:=(j.vN h.tr).1;have w:=XE o hp.re h.tr (a:=cn fun u v=>G.Y u v&&X.Y u v) (b:=cn fun u v=>G.N u v||X.N u v) (Nat.le_trans T (by omega)) (Nat.le_trans U (by omega)) (s:=⟨fun u v=>G.Y u v&&X.Y u v,fun u v=>G.N u v||X.N u v⟩) (J2 j.fY) (J2 j.fN)
      rw [Fy j] at w;exact Q4 C (Q4 c2 (Q4 w (k1 _ H.symm)))
     .have q:¬ t.op_=9:=z q
      have H:=Z0I (A:=A) q ((t.kids_.take (i+1)).map (U8 y cs hs zs d c A e)) X;rw [<-et,hG] at H
      have C:=YC o (a:=cn G.Y) (b:=cn X.Y) (by omega) (J2 Q.fY) (J2 M.fY) 1;have c2:=YC o (a:=cn G.N) (b:=cn X.N) (by omega) (J2 Q.fN) (J2 M.fN) 2
      rw [H] at j;have T:=(j.vY h.tr).1
      have U:=(j.vN h.tr).1;have w:=XE o hp.re h.tr (a:=cn fun u v=>G.Y u v||X.Y u v) (b:=cn fun u v=>G.N u v&&X.N u v) (Nat.le_trans T (by omega)) (Nat.le_trans U (by omega)) (s:=⟨fun u v=>G.Y u v||X.Y u v,fun u v=>G.N u v&&X.N u v⟩) (J2 j.fY) (J2 j.fN)
      rw [Fy j] at w;exact Q4 C (Q4 c2 (Q4 w (k1 _ H.symm)))
   have:=a9 (t.kids_.length-1) F 0 (by omega) (by omega)
   have H:(t.kids_.take (0+1)).map (U8 y cs hs zs d c A e)=[U8 y cs hs zs d c A e (gl t.kids_ 0)]:=by
    rw [QD (by omega:0<t.kids_.length)];rfl
   rw [H,Z0J (WP e _)] at this;exact this
end
end Go.Ab
end
section
namespace Go.Ab
set_option maxRecDepth 20000
noncomputable section
def ZB(cs:List Crop)(c:Int):Bool:=decide (c<0)||decide (((cs.length:Nat):Int)<=c)
def QT(e:Nat)(t:Term)(cs:List Crop)(c:Int)(hs:List Rg_)(y:Int)(zs:List A2_)(d:Int)(A:List Rect):Int:=
 if Yq e t≠0 then Yq e t else if Jd cs≠0 then Jd cs else if (ZB cs c||hs.any fun r=>ZB cs r.c_)=true then 13
 else if Zc hs≠0 then Zc hs else if y<0\/100<y then 18 else if QF zs≠0 then QF zs else if d<0\/36864<d then 9 else if G9 A=true then 0 else 7
theorem Q2T(F:Nat)(k:Int)(p:TermPlace):Bl F k p=some (ZB p.world_.crops_ k):=by
 unfold Bl MR ZB;refine Q6 (fun h=>?_) (fun h=>?_)
 .rw [h];rfl
 .rw [h];rfl
theorem Z2b{F:Nat}(hF:Q8<=F){l:List Rg_}(hl:l.length<=1000000)(p:TermPlace):Rx F l p=some (l.any fun r=>ZB p.world_.crops_ r.c_):=by
 have h:=hF;unfold Q8 at h
 have:∃ i:Int,Ro F l p=some i/\(decide (0<=i))=l.any fun r=>ZB p.world_.crops_ r.c_:=by
  unfold Ro;have e:∀ (m f i:Nat),i+m=l.length->m<f->∃ v:Int,Z7 (fun again (z:Int)=>KI F l p again z) f ((i:Nat):Int)=some v/\(decide (0<=v))=(l.drop i).any fun r=>ZB p.world_.crops_ r.c_:=by
   intro m
   induction m with
   | zero=>
    intro f i o n;obtain ⟨f,rfl⟩:∃ g,f=g+1:=⟨f-1,by omega⟩
    show ∃ v:Int,KI F l p (Z7 _ f) ((i:Nat):Int)=some v/\_;unfold KI
    refine ⟨-1,Z3 (decide_eq_false (by omega)) rfl,?_⟩;rw [List.drop_eq_nil_of_le (by omega)];rfl
   | succ m ih=>
    intro f i o n;obtain ⟨f,rfl⟩:∃ g,f=g+1:=⟨f-1,by omega⟩
    have a:i<l.length:=by omega
    obtain ⟨v,j,t⟩:=ih f (i+1) (by omega) (by omega);show ∃ v:Int,KI F l p (Z7 _ f) ((i:Nat):Int)=some v/\_
    generalize Z7 (fun again (z:Int)=>KI F l p again z) f=ag at j ⊢;unfold KI
    have k:MQ F (gl l ((i:Nat):Int).toNat) p=some (ZB p.world_.crops_ (gl l i).c_):=by
     unfold MQ;rw [Int.toNat_natCast]
     exact Q4 (Q2T F _ p) rfl
    have b:l.drop i=gl l i::l.drop (i+1):=by rw [List.drop_eq_getElem_cons a,K5 a]
    rw [b,List.any_cons]
    cases hw:ZB p.world_.crops_ (gl l i).c_ with
    | true=>
     refine ⟨(i:Int),Z9 (decide_eq_true (by omega)) (Q7 (by omega) (Q4 (k.trans (by rw [hw])) (Z9 rfl rfl))),?_⟩;simp
    | false=>
     refine ⟨v,Z9 (decide_eq_true (by omega)) (Q7 (by omega) (Q4 (k.trans (by rw [hw])) (Z3 rfl (Q7 (W2 (by omega) (by omega)) j)))),?_⟩;rw [t];rfl
  have:=e l.length F 0 (by omega) (by omega)
  simpa using this
 obtain ⟨i,s,q⟩:=this;unfold Rx
 refine Q4 s ?_;rw [<-q]
theorem Q4S{e F:Nat}(hF:Q8+e<=F){p:TermPlace}{t:Term}(ht:TD e t)(hl:p.world_.history_.length<=1000000)(hc:PR p.world_.crops_):MS F p t=some (QT e t p.world_.crops_ p.line_.c_ p.world_.history_ p.world_.y_ p.world_.zones_ p.world_.day_ p.line_.g_.t_):=by
 have a:Q8<=F:=by omega
 unfold MS QT;refine Q4 (kI hF ht) (Q6 (fun q=>?_) fun q=>?_)
 .rw [if_pos (by simpa using q)]
 rw [if_neg (by simpa using q)];refine Q4 (Z1W a hc) (Q6 (fun q=>?_) fun q=>?_)
 .rw [if_pos (by simpa using q)]
 rw [if_neg (by simpa using q)];have k1:∀ b:Bool,Bj F p b=some (if b=true then 18 else if QF p.world_.zones_≠0 then QF p.world_.zones_ else if p.world_.day_<0\/36864<p.world_.day_ then 9 else if G9 p.line_.g_.t_=true then 0 else 7):=fun b=>by
  unfold Bj;cases b
  .simp only [Bool.false_eq_true,if_false]
   refine Z3 rfl (Q4 (vI a _ _) ?_)
   by_cases h1:QF p.world_.zones_≠0
   .rw [if_pos h1,if_pos h1]
    exact Z9 (by simpa using h1) rfl
   rw [if_neg h1,if_neg h1]
   by_cases h2:p.world_.day_<0\/36864<p.world_.day_
   .rw [if_pos h2,if_pos h2]
    exact Z9 rfl rfl
   rw [if_neg h2,if_neg h2];refine Z3 rfl (Q4 (Uk a _) ?_)
   cases G9 p.line_.g_.t_ <;> rfl
  .exact Z9 rfl rfl
 have f:∀ b:Bool,Bk F p b=some (if b=true then 13 else if Zc p.world_.history_≠0 then Zc p.world_.history_ else if p.world_.y_<0\/100<p.world_.y_ then 18 else if QF p.world_.zones_≠0 then QF p.world_.zones_ else if p.world_.day_<0\/36864<p.world_.day_ then 9 else if G9 p.line_.g_.t_=true then 0 else 7):=fun b=>by
  unfold Bk;cases b
  .simp only [Bool.false_eq_true,if_false]
   refine Z3 rfl (Q4 (Z0w a _) ?_);refine Q6 (fun q=>?_) fun q=>?_
   .rw [if_pos (by simpa using q)]
   rw [if_neg (by simpa using q)];refine Q6 (fun q=>?_) fun q=>?_
   .rw [k1,if_pos rfl,if_pos (.inl (of_decide_eq_true q))]
   .rw [k1]
    by_cases h1:100<p.world_.y_
    .rw [if_pos (decide_eq_true h1),if_pos (.inr h1)]
    .have g:¬ decide (100<p.world_.y_)=true:=by simpa using h1
     have h:¬ (p.world_.y_<0\/100<p.world_.y_):=by have:=of_decide_eq_false q;omega
     rw [if_neg g,if_neg h]
  .exact Z9 rfl rfl
 refine Q4 (Q2T F _ p) (Q6 (fun q=>?_) fun q=>?_)
 .rw [f,q];rfl
 .refine Q4 (Z2b a hl p) ?_
  rw [f,q];rfl
end
end Go.Ab
end
section
namespace Go.Ab
set_option maxRecDepth 20000
noncomputable section
def Yv:Truth:=⟨⟨[]⟩,⟨[]⟩,⟨[]⟩⟩
def TS.t3(A:List Rect)(s:TS):Truth:=⟨⟨cn s.Y⟩,⟨cn s.N⟩,⟨cn (s.O A)⟩⟩
def Yi(e:Nat)(t:Term)(l:Line)(y:Int)(cs:List Crop)(hs:List Rg_)(zs:List A2_)(d:Int):Truth×Int:=
 if QT e t cs l.c_ hs y zs d l.g_.t_≠0 then (Yv,QT e t cs l.c_ hs y zs d l.g_.t_) else ((U8 y cs hs zs d l.c_ l.g_.t_ e t).t3 l.g_.t_,0)
theorem Q2R{e:Nat}{t:Term}{cs:List Crop}{c:Int}{hs:List Rg_}{y:Int}{zs:List A2_}{d:Int}{A:List Rect}(ht:TD e t)(h:QT e t cs c hs y zs d A=0):ZH e t=true:=by
 have a:Yq e t=0:=Classical.byContradiction fun b=>by
  unfold QT at h;rw [if_pos b] at h
  exact b h
 unfold Yq at a
 by_cases hz:40<QJ e t
 .rw [if_pos hz] at a;cases a
 .rw [if_neg hz] at a
  by_cases hr:Wi e 8 t=true
  .rw [Sa e 8 t ht,Bool.and_eq_true] at hr
   exact hr.2
  .rw [if_neg hr] at a;cases a
variable {F:Nat} {cs:List Crop} {hs:List Rg_} {zs:List A2_} {y d:Int}
theorem Q4W{e:Nat}(hF:Q8+e<=F){t:Term}(ht:TD e t){l:Line}(hl:hs.length<=1000000)(hc:PR cs)(hev:QT e t cs l.c_ hs y zs d l.g_.t_=0->EV y cs hs zs l.c_ l.g_.t_):Re F t l y cs hs zs d=some (Yi e t l y cs hs zs d):=by
 have k:Q8<=F:=by omega
 unfold Re Yi;refine Q4 (Q4S (p:=⟨⟨y,cs,hs,zs,d⟩,l,l.g_.t_⟩) hF ht hl hc) (Q6 (fun q=>?_) fun q=>?_)
 .rw [if_pos (by simpa using q)];rfl
 have q:QT e t cs l.c_ hs y zs d l.g_.t_=0:=by simpa using q
 rw [if_neg (by rw [q];simp)];have h:=hev q
 have a:=WP (y:=y) (cs:=cs) (hs:=hs) (zs:=zs) (d:=d) (c:=l.c_) (A:=l.g_.t_) e t;refine Q4 (kB (p:=⟨⟨y,cs,hs,zs,d⟩,l,l.g_.t_⟩) h ⟨rfl,rfl,rfl,rfl,rfl,rfl,rfl⟩ e hF ht (Q2R ht q)) ?_
 have f:=(a.vY h.tr).1;have i:=(a.vN h.tr).1
 have g:=(a.vO h.tr).1;generalize U8 y cs hs zs d l.c_ l.g_.t_ e t=s at f i g ⊢
 have b:∀ m:List Rect,m.length<=120->Xl F m=some ⟨m⟩:=fun m j=>by
  unfold Xl;refine Q4 (jd (by unfold Y5;omega)) rfl
 refine Z3 (decide_eq_false ?_) (Q4 (b _ f) (Q4 (b _ i) (Q4 (b _ g) rfl)));show ¬ (120:Int)<J3 (J3 ((cn s.Y).length:Int) ((cn s.N).length:Int)) ((cn (s.O l.g_.t_)).length:Int)
 unfold J3;split <;> split <;> omega
theorem Q7L{e:Nat}(he:e<=2000000)(hF:Q8+e<=F){t:Term}(ht:TD e t){l:Line}(hl:hs.length<=1000000)(hev:QT e t cs l.c_ hs y zs d l.g_.t_=0->EV y cs hs zs l.c_ l.g_.t_):SW F t l y cs hs zs d=some (Yi e t l y cs hs zs d):=by
 have C:Q8<=F:=by omega
 have J:=C;unfold Q8 at J
 unfold SW;have a:∀ k:Int,k≠0->QT e t cs l.c_ hs y zs d l.g_.t_=k->(some (Yv,k):Option (Truth×Int))=some (Yi e t l y cs hs zs d):=fun k T h=>by
  unfold Yi;rw [if_pos (by rw [h];exact T),h]
 refine Q4 (cQ he hF ht) (Q6 (fun q=>?_) fun n=>?_)
 .have q:Yq e t≠0:=by simpa using q
  exact a _ q (by unfold QT;rw [if_pos q])
 have n:¬ Yq e t≠0:=by simpa using n
 refine Q4 (Q7T C cs) (Q6 (fun q=>?_) fun v=>?_)
 .have q:Jd cs≠0:=by simpa using q
  exact a _ q (by unfold QT;rw [if_neg n,if_pos q])
 have v:¬ Jd cs≠0:=by simpa using v
 have S:∀ b:Bool,b=decide (d<0\/36864<d)->¬ (ZB cs l.c_||hs.any fun r=>ZB cs r.c_)=true->¬ Zc hs≠0->¬ (y<0\/100<y)->¬ QF zs≠0->Dh F t l y cs hs zs d b=some (Yi e t l y cs hs zs d):=fun b j w u x B=>by
  unfold Dh;refine Q6 (fun q=>?_) fun G=>?_
  .rw [q] at j
   have q:=of_decide_eq_true j.symm;exact a 9 (by decide) (by unfold QT;rw [if_neg n,if_neg v,if_neg w,if_neg u,if_neg x,if_neg B,if_pos q])
  rw [G] at j;have G:=of_decide_eq_false j.symm
  refine Q4 (Wv C _) (Q6 (fun q=>?_) fun L=>?_)
  .have q:¬ G9 l.g_.t_=true:=by simpa using q
   exact a 7 (by decide) (by unfold QT;rw [if_neg n,if_neg v,if_neg w,if_neg u,if_neg x,if_neg B,if_neg G,if_neg q])
  have L:G9 l.g_.t_=true:=by simpa using L
  have q:QT e t cs l.c_ hs y zs d l.g_.t_=0:=by unfold QT;rw [if_neg n,if_neg v,if_neg w,if_neg u,if_neg x,if_neg B,if_neg G,if_pos L]
  have h:=hev q;have D:=WP (y:=y) (cs:=cs) (hs:=hs) (zs:=zs) (d:=d) (c:=l.c_) (A:=l.g_.t_) e t
  refine Q4 (SK (p:=⟨l,y,cs,hs,zs,d⟩) h ⟨rfl,rfl,rfl,rfl,rfl,rfl,rfl⟩ e hF ht (Q2R ht q)) ?_;have V:=(D.vY h.tr).1
  have W:=(D.vN h.tr).1;have Z:=(D.vO h.tr).1
  unfold Yi;rw [if_neg (by rw [q];simp)]
  generalize U8 y cs hs zs d l.c_ l.g_.t_ e t=s at V W Z ⊢;refine Z3 (decide_eq_false (by show ¬ (120:Int)<((cn s.Y).length:Int);omega)) (Z3 (decide_eq_false (by show ¬ (120:Int)<((cn s.N).length:Int);omega)) ?_)
  unfold Dg;exact Z3 (decide_eq_false (by show ¬ (120:Int)<((cn (s.O l.g_.t_)).length:Int);omega)) rfl
 have X:¬ (ZB cs l.c_||hs.any fun r=>ZB cs r.c_)=true->SV F t l y cs hs zs d=some (Yi e t l y cs hs zs d):=fun w=>by
  unfold SV;refine Q4 (cU C hs) (Q6 (fun q=>?_) fun u=>?_)
  .have q:Zc hs≠0:=by simpa using q
   exact a _ q (by unfold QT;rw [if_neg n,if_neg v,if_neg w,if_pos q])
  have u:¬ Zc hs≠0:=by simpa using u
  have Q:∀ b:Bool,b=decide (y<0\/100<y)->Di F t l y cs hs zs d b=some (Yi e t l y cs hs zs d):=fun b j=>by
   unfold Di;refine Q6 (fun q=>?_) fun x=>?_
   .rw [q] at j
    have q:=of_decide_eq_true j.symm;exact a 18 (by decide) (by unfold QT;rw [if_neg n,if_neg v,if_neg w,if_neg u,if_pos q])
   rw [x] at j;have x:=of_decide_eq_false j.symm
   refine Q4 (zG C zs) (Q6 (fun q=>?_) fun B=>?_)
   .have q:QF zs≠0:=by simpa using q
    exact a _ q (by unfold QT;rw [if_neg n,if_neg v,if_neg w,if_neg u,if_neg x,if_pos q])
   have B:¬ QF zs≠0:=by simpa using B
   refine Q6 (fun q=>?_) fun q=>?_
   .exact S true (by have:=of_decide_eq_true q;simp [this]) w u x B
   .exact S _ (by have:=of_decide_eq_false q;simp [this]) w u x B
  refine Q6 (fun q=>?_) fun q=>?_
  .exact Q true (by have:=of_decide_eq_true q;simp [this])
  .exact Q _ (by have:=of_decide_eq_false q;simp [this])
 have M:∀ b:Bool,b=ZB cs l.c_->Dk F t l y cs hs zs d b=some (Yi e t l y cs hs zs d):=fun b j=>by
  unfold Dk;refine Q6 (fun q=>?_) fun q=>?_
  .rw [q] at j
   exact a 13 (by decide) (by unfold QT;rw [if_neg n,if_neg v,if_pos (by rw [<-j];rfl)])
  rw [q] at j;have K:∀ (m f i:Nat),i+m=hs.length->m<f->(∀ r ∈ hs.take i,ZB cs r.c_=false)->Z7 (fun again (z:Int)=>Gm F t l y cs hs zs d again z) f ((i:Nat):Int)=some (Yi e t l y cs hs zs d):=by
   intro m
   induction m with
   | zero=>
    intro f i D U H;obtain ⟨f,rfl⟩:∃ g,f=g+1:=⟨f-1,by omega⟩
    show Gm F t l y cs hs zs d (Z7 _ f) ((i:Nat):Int)=_;unfold Gm
    refine Z3 (decide_eq_false (by omega)) (X ?_);rw [show i=hs.length by omega,List.take_length] at H
    rw [<-j,Bool.false_or,List.any_eq_true];rintro ⟨r,o,P⟩
    rw [H r o] at P;cases P
   | succ m ih=>
    intro f i D U H;obtain ⟨f,rfl⟩:∃ g,f=g+1:=⟨f-1,by omega⟩
    have E:i<hs.length:=by omega
    show Gm F t l y cs hs zs d (Z7 _ f) ((i:Nat):Int)=_;have R:=ih f (i+1) (by omega) (by omega)
    generalize Z7 (fun again (z:Int)=>Gm F t l y cs hs zs d again z) f=ag at R ⊢;unfold Gm
    have k2:∀ b:Bool,b=ZB cs (gl hs i).c_->Dj F ((i:Nat):Int) ag b=some (Yi e t l y cs hs zs d):=fun b I=>by
     unfold Dj;refine Q6 (fun q=>?_) fun q=>?_
     .rw [q] at I
      exact a 13 (by decide) (by
       unfold QT;rw [if_neg n,if_neg v,if_pos]
       rw [Bool.or_eq_true,List.any_eq_true];exact .inr ⟨_,V4 E,I.symm⟩)
     .rw [q] at I
      refine Q7 (W2 (by omega) (by omega)) (R fun r o=>?_);rw [QD E,List.mem_append] at o
      rcases o with o|o
      .exact H r o
      .rw [List.mem_singleton.1 o];exact I.symm
    refine Z9 (decide_eq_true (by omega)) (Q7 (by omega) ?_);rw [Int.toNat_natCast]
    refine Q6 (fun q=>?_) fun q=>?_
    .exact k2 true (by unfold ZB;rw [q];rfl)
    .exact k2 _ (by unfold ZB;rw [q];rfl)
  exact K hs.length F 0 (by omega) (by omega) fun r o=>by simp at o
 refine Q6 (fun q=>?_) fun q=>?_
 .exact M true (by unfold ZB;rw [q];rfl)
 .exact M _ (by unfold ZB;rw [q];rfl)
end
end Go.Ab
end
section
namespace Go.Ab
set_option maxRecDepth 20000
noncomputable section
theorem Q2r(F:Nat)(u v:Bool):HV F u v=some (u&&v):=by
 unfold HV Fq;cases u <;> rfl
theorem Z1F(F:Nat)(u v:Bool):Fp F u v=some (u && !v):=by
 unfold Fp Fo;cases u <;> rfl
theorem yX{F:Nat}(hF:Q8<=F){l:List Rect}(h:W6 l):UK F l=some (⟨l⟩,0):=by
 have a:=h.1;refine (JE hF (by omega) h.pos).trans ?_
 rw [Uy h,if_neg (by omega)]
theorem Q0w{F:Nat}(hF:Q8<=F){a b c:List Rect}(ha:W6 a)(hb:W6 b)(hc:W6 c):Kh F ⟨a,b,c⟩=some (⟨⟨a⟩,⟨b⟩,⟨c⟩⟩,0):=by
 unfold Kh;exact Q4 (yX hF ha) (Z3 rfl (Q7 (W2 (by omega) (by omega)) (Q4 (yX hF hb) (Z3 rfl (Q7 (W2 (by omega) (by omega)) (Q4 (yX hF hc) (Z3 rfl (Q7 (W2 (by omega) (by omega)) rfl))))))))
end
end Go.Ab
end
section
namespace Go.Ab
set_option maxRecDepth 20000
noncomputable section
def ZO(A:List Rect)(s:TS)(G:Sq):TS:=⟨fun u v=>s.Y u v&&G u v,fun u v=>Q2 A u v && !((s.Y u v&&G u v)||(s.O A u v&&G u v))⟩
theorem Q0R{A:List Rect}{s:TS}(h:TIn A s)(G:Sq):(ZO A s G).O A=fun u v=>s.O A u v&&G u v:=by
 funext u v
 simp only [ZO,TS.O];have:=h.sY u v
 have:=h.sN u v
 cases hA:Q2 A u v <;> cases hY:s.Y u v <;> cases hN:s.N u v <;> cases G u v <;> simp_all
theorem Hm{A:List Rect}{s:TS}(h:TIn A s){G:Sq}(hG:z8 G):TIn A (ZO A s G):=by
 refine ⟨VC h.fY hG,Kd (V8 A) (CU (VC h.fY hG) (VC h.fO hG)),fun u v a=>?_,fun u v a=>?_⟩
 .simp only [ZO,Bool.and_eq_true] at a
  exact h.sY u v a.1
 .simp only [ZO,Bool.and_eq_true] at a
  exact a.1
end
end Go.Ab
end
section
namespace Go.Ab
set_option maxRecDepth 20000
noncomputable section
theorem gv{F:Nat}(hF:Q8<=F){l:List Scheme}{q:Scheme->Option Bool}(p:Scheme->Bool)(hl:l.length<=1000000000)(hq:∀ r ∈ l,q r=some (p r)):Bs F l q=some (y9 p l):=by
 unfold Q8 at hF;unfold Bs
 refine J4 (fun z:Int=>∃ i:Nat,z=i/\i<=l.length/\∀ j,j<i->p (gl l j)=false) (fun z=>l.length-z.toNat) (fun f z o n=>?_) ⟨0,rfl,by omega,fun j m=>by omega⟩ (by simp;omega);obtain ⟨i,rfl,s,b⟩:=o
 unfold gy;refine Q6 (fun h=>?_) (fun h=>?_)
 .have h:i<l.length:=by simpa using h
  refine Z4 (k:=?_);refine Q4 (hq _ (V4 h)) ?_
  simp only [Int.toNat_natCast];refine Q6 (fun a=>?_) (fun a=>?_)
  .have e:l.any p=true:=List.any_eq_true.2 ⟨_,V4 h,a⟩
   rw [y9,if_pos e,Ps h b a]
  .refine Z4 (k:=?_)
   refine n _ ⟨i+1,by omega,h,fun j m=>?_⟩ (by omega);rcases Nat.lt_or_ge j i with g|g
   .exact b j g
   .have:j=i:=by omega
    subst this;exact a
 .have h:¬ i<l.length:=by simpa using h
  have:i=l.length:=by omega
  subst this;have e:=GU b
  rw [y9,e];rfl
theorem gU{F:Nat}(hF:Q8<=F){l:List Scheme}{q:Scheme->Option Bool}(p:Scheme->Bool)(hl:l.length<=1000000000)(hq:∀ r ∈ l,q r=some (p r)):KJ F l q=some (l.any p):=by
 unfold KJ;refine Q4 (gv hF p hl hq) ?_
 unfold y9
 cases l.any p with
 | true=>rw [if_pos rfl,decide_eq_true (by omega)]
 | false=>rw [if_neg (by simp)];rfl
theorem Q6a{F:Nat}(hF:Q8<=F){l:List Line}{q:Line->Option Bool}(p:Line->Bool)(hl:l.length<=1000000000)(hq:∀ r ∈ l,q r=some (p r)):Rq F l q=some (y9 p l):=by
 unfold Q8 at hF;unfold Rq
 refine J4 (fun z:Int=>∃ i:Nat,z=i/\i<=l.length/\∀ j,j<i->p (gl l j)=false) (fun z=>l.length-z.toNat) (fun f z o n=>?_) ⟨0,rfl,by omega,fun j m=>by omega⟩ (by simp;omega);obtain ⟨i,rfl,s,b⟩:=o
 unfold gI;refine Q6 (fun h=>?_) (fun h=>?_)
 .have h:i<l.length:=by simpa using h
  refine Z4 (k:=?_);refine Q4 (hq _ (V4 h)) ?_
  simp only [Int.toNat_natCast];refine Q6 (fun a=>?_) (fun a=>?_)
  .have e:l.any p=true:=List.any_eq_true.2 ⟨_,V4 h,a⟩
   rw [y9,if_pos e,Ps h b a]
  .refine Z4 (k:=?_)
   refine n _ ⟨i+1,by omega,h,fun j m=>?_⟩ (by omega);rcases Nat.lt_or_ge j i with g|g
   .exact b j g
   .have:j=i:=by omega
    subst this;exact a
 .have h:¬ i<l.length:=by simpa using h
  have:i=l.length:=by omega
  subst this;have e:=GU b
  rw [y9,e];rfl
theorem gV{F:Nat}(hF:Q8<=F){l:List Line}{q:Line->Option Bool}(p:Line->Bool)(hl:l.length<=1000000000)(hq:∀ r ∈ l,q r=some (p r)):Rz F l q=some (l.any p):=by
 unfold Rz;refine Q4 (Q6a hF p hl hq) ?_
 unfold y9
 cases l.any p with
 | true=>rw [if_pos rfl,decide_eq_true (by omega)]
 | false=>rw [if_neg (by simp)];rfl
def QM(e n:Int):Bool:=QN .i64 (e.fdiv (2 ^ (min n.toNat (IntKind.bits .i64)))) 1==1
theorem Z2A(x:Int):QN .i64 x 1=0\/QN .i64 x 1=1:=by
 unfold QN;have h:(BitVec.ofInt 64 x &&& BitVec.ofInt 64 1).toNat<=1:=by
  rw [BitVec.toNat_and];exact Nat.le_trans Nat.and_le_right (by decide)
 show IntKind.wrap .i64 ((BitVec.ofInt 64 x &&& BitVec.ofInt 64 1).toNat:Nat)=0\/IntKind.wrap .i64 ((BitVec.ofInt 64 x &&& BitVec.ofInt 64 1).toNat:Nat)=1;have a:(BitVec.ofInt 64 x &&& BitVec.ofInt 64 1).toNat=0\/(BitVec.ofInt 64 x &&& BitVec.ofInt 64 1).toNat=1:=by omega
 rcases a with a|a <;> rw [a]
 .left;rfl
 .right;rfl
theorem WR(e n:Int):(QN .i64 (e.fdiv (2 ^ (min n.toNat (IntKind.bits .i64)))) 1==0)=!QM e n:=by
 unfold QM;rcases Z2A (e.fdiv (2 ^ (min n.toNat (IntKind.bits .i64)))) with h|h <;> rw [h] <;> rfl
def VH(p:Int)(b:Bracket):Bool:=decide (p<b.up_)&&(decide (b.up_<=268435456)&&(decide (0<=b.rate_)&&decide (b.rate_<=1048576)))
def YU(l:List Bracket)(i:Nat):Int:=if i=0 then 0 else (gl l (i-1)).up_
def UB(l:List Bracket):Bool:=decide (1<=l.length)&&(decide (l.length<=6) && !(List.range l.length).any fun i=> !VH (YU l i) (gl l i))
theorem Q6F{R:Type}{body:(Int->Option R)->Int->Option R}{c y:Option R}(N:Nat)(p:Nat->Bool)(bad:∀ again (i:Nat),i<N->(∀ j,j<i->p j=false)->p i=true->body again (i:Int)=c)(good:∀ again (i:Nat) z,i<N->(∀ j,j<i->p j=false)->p i=false->again ((i:Int)+1)=z->body again (i:Int)=z)(stop:∀ again,body again (N:Int)=y){F:Nat}(hF:N<F):Z7 body F 0=if (List.range N).any p=true then c else y:=by
 refine J4 (fun z:Int=>∃ i:Nat,z=i/\i<=N/\∀ j,j<i->p j=false) (fun z=>N-z.toNat) (fun again z f e=>?_) ⟨0,rfl,Nat.zero_le _,fun j h=>absurd h (Nat.not_lt_zero j)⟩ (by simp;omega);obtain ⟨i,rfl,g,a⟩:=f
 rcases Nat.lt_or_ge i N with h|h
 .cases hpi:p i with
  | true=>
   rw [if_pos (List.any_eq_true.2 ⟨i,List.mem_range.2 h,hpi⟩)];exact bad again i h a hpi
  | false=>
   refine good again i _ h a hpi (e _ ⟨i+1,by omega,h,fun j b=>?_⟩ (by omega))
   by_cases hji:j=i
   .rw [hji];exact hpi
   .exact a j (by omega)
 .have:i=N:=by omega
  subst this;rw [if_neg (by rw [Bool.not_eq_true,List.any_eq_false];intro j b;rw [a j (List.mem_range.1 b)];simp)]
  exact stop again
theorem Q6B{F:Nat}{l:List Bracket}(hF:l.length<F)(hl:l.length<=1000000):RR F l=some (UB l):=by
 unfold RR;refine (Q6F (c:=some false) (y:=some (decide (1<=l.length)&&decide (l.length<=6))) l.length (fun i=> !VH (YU l i) (gl l i)) (fun a i r o n=>?_) (fun a i z r o n w=>?_) (fun a=>?_) hF).trans ?_
 all_goals try (
  have f:i=0\/(1<=i/\1<=(gl l (i-1)).up_):=by
   rcases Nat.eq_zero_or_pos i with h|h
   .exact .inl h
   .refine .inr ⟨h,?_⟩
    have v:∀ j,j<i->1<=(gl l j).up_:=by
     intro j
     induction j with
     | zero=>
      intro t;have:=o 0 t
      rw [Bool.not_eq_false'] at this;unfold VH YU at this
      rw [if_pos rfl] at this;simp only [Bool.and_eq_true,decide_eq_true_eq] at this;omega
     | succ j ih=>
      intro u;have e:=ih (by omega)
      have:=o (j+1) u
      rw [Bool.not_eq_false'] at this;unfold VH YU at this
      rw [if_neg (by omega),Nat.add_sub_cancel] at this;simp only [Bool.and_eq_true,decide_eq_true_eq] at this;omega
    exact v (i-1) (by omega)
  have q:(((i:Nat):Int)-1).toNat=i-1:=by omega)
 .show KQ F l a (i:Int)=_
  unfold KQ;have k1:UI F (i:Int) a true=some false:=rfl
  refine Z9 (decide_eq_true (by omega)) (Q7 (by omega) (Q6 (fun _=>k1) (fun e=>Q6 (fun _=>k1) (fun g=>Q6 (fun _=>k1) (fun k=>Q6 (fun _=>k1) (fun m=>?_))))));have e:=of_decide_eq_false e
  have g:=of_decide_eq_false g;have k:=of_decide_eq_false k
  have m:=of_decide_eq_false m;simp only [Int.toNat_natCast] at e g k m
  have b : VH (YU l i) (gl l i)=false:=by simpa using n
  unfold VH YU at b;rcases f with h|⟨h,s⟩
  .subst h
   rw [if_pos rfl,decide_eq_true (by omega),decide_eq_true (by omega),decide_eq_true (by omega),decide_eq_true (by omega)] at b;simp at b
  .rw [if_neg (by omega)] at b
   refine Z9 (decide_eq_true (by omega)) (Q7 (W2 (by omega) (by omega)) (Q7 (by omega) ?_));rw [q,decide_eq_true (p:=(gl l ((i:Nat):Int).toNat).up_<=_)]
   .exact k1
   .simp only [Int.toNat_natCast]
    by_cases h6:(gl l (i-1)).up_<(gl l i).up_
    .rw [decide_eq_true h6,decide_eq_true (by omega),decide_eq_true (by omega),decide_eq_true (by omega)] at b
     simp at b
    .omega
 .show KQ F l a (i:Int)=_
  unfold KQ;have b : VH (YU l i) (gl l i)=true:=by simpa using n
  unfold VH YU at b;simp only [Bool.and_eq_true,decide_eq_true_eq] at b
  obtain ⟨e,g,k,m⟩:=b;have k1:UI F (i:Int) a false=z:=Z3 rfl (Q7 (W2 (by omega) (by omega)) w)
  have x:1<=(gl l i).up_:=by
   rcases f with h|⟨h,s⟩
   .rw [if_pos h] at e;omega
   .rw [if_neg (by omega)] at e;omega
  refine Z9 (decide_eq_true (by omega)) (Q7 (by omega) (Z3 (decide_eq_false (by simp only [Int.toNat_natCast];omega)) (Z3 (decide_eq_false (by simp only [Int.toNat_natCast];omega)) (Z3 (decide_eq_false (by simp only [Int.toNat_natCast];omega)) (Z3 (decide_eq_false (by simp only [Int.toNat_natCast];omega)) ?_)))));refine Q6 (fun h=>?_) (fun _=>k1)
  have h:=of_decide_eq_true h;refine Q7 (W2 (by omega) (by omega)) (Q7 (by omega) ?_)
  rw [q,decide_eq_false]
  .exact k1
  .rw [if_neg (by omega)] at e
   simp only [Int.toNat_natCast];omega
 .show KQ F l a (l.length:Int)=_
  unfold KQ qt RQ;refine Z3 (decide_eq_false (by omega)) ?_
  rw [show decide ((1:Int)<=((l.length:Nat):Int))=decide (1<=l.length) from decide_eq_decide.2 (by omega),show decide (((l.length:Nat):Int)<=(6:Int))=decide (l.length<=6) from decide_eq_decide.2 (by omega)]
  cases decide (1<=l.length) <;> rfl
 .unfold UB
  cases (List.range l.length).any fun i=> !VH (YU l i) (gl l i) <;> simp
theorem Q7D{F:Nat}{l:List Bracket}(hF:l.length<F)(hl:l.length<=1000000):SB F l=some (UB l):=by
 unfold SB UB;have e:BZ F l true=some false:=rfl
 by_cases h1:1<=l.length
 .refine Z3 (decide_eq_false (by omega)) ?_
  by_cases h2:l.length<=6
  .rw [decide_eq_true h1,decide_eq_true h2,decide_eq_false (by omega)]
   unfold BZ;refine Z3 rfl ?_
   suffices hs:∀ (n i:Nat),l.length-i<n->i<=l.length->Z7 (fun again (z:Int×Int)=>XA F l again z.1 z.2) n (YU l i,(i:Int))=some (!((List.range l.length).drop i).any fun i=> !VH (YU l i) (gl l i)) by
    have:=hs F 0 (by omega) (by omega)
    simpa [YU] using this
   intro n
   induction n with
   | zero=>intro i h;omega
   | succ n ih=>
    intro i j g;have b:=ih (i+1)
    revert b
    show _->XA F l (Z7 (fun again (z:Int×Int)=>XA F l again z.1 z.2) n) (YU l i) (i:Int)=_;generalize Z7 (fun again (z:Int×Int)=>XA F l again z.1 z.2) n=ag
    intro b;unfold XA
    by_cases hil:i<l.length
    .rw [show (List.range l.length).drop i=i::(List.range l.length).drop (i+1) by rw [List.drop_eq_getElem_cons (by simpa using hil),List.getElem_range]]
     rw [List.any_cons];refine Z9 (decide_eq_true (by omega)) (Q7 (by omega) ?_)
     simp only [Int.toNat_natCast];have a:JF F l (i:Int) ag true=some false:=rfl
     have f:JF F l (i:Int) ag false=some (!((List.range l.length).drop (i+1)).any fun i=> !VH (YU l i) (gl l i)):=by
      unfold JF;refine Z3 rfl (Q7 (W2 (by omega) (by omega)) ?_)
      rw [<-b (by omega) (by omega)];congr 1
     rw [show VH (YU l i) (gl l i)=(decide (YU l i<(gl l i).up_)&&(decide ((gl l i).up_<=268435456)&&(decide (0<=(gl l i).rate_)&&decide ((gl l i).rate_<=1048576)))) from rfl]
     by_cases g1:YU l i<(gl l i).up_
     .rw [decide_eq_true g1]
      refine Z3 (decide_eq_false (by omega)) ?_
      by_cases g2:(gl l i).up_<=268435456
      .rw [decide_eq_true g2]
       refine Z3 (decide_eq_false (by omega)) ?_
       by_cases g3:0<=(gl l i).rate_
       .rw [decide_eq_true g3]
        refine Z3 (decide_eq_false (by omega)) ?_
        by_cases g4:(gl l i).rate_<=1048576
        .rw [decide_eq_true g4,decide_eq_false (by omega),f];simp
        .rw [decide_eq_false g4,decide_eq_true (by omega),a];simp
       .rw [decide_eq_false g3]
        exact Z9 (decide_eq_true (by omega)) a
      .rw [decide_eq_false g2]
       exact Z9 (decide_eq_true (by omega)) a
     .rw [decide_eq_false g1]
      exact Z9 (decide_eq_true (by omega)) a
    .have:i=l.length:=by omega
     subst this;refine Z3 (decide_eq_false (by omega)) ?_
     rw [List.drop_eq_nil_of_le (by simp)];rfl
  .rw [decide_eq_false h2,decide_eq_true (by omega),Bool.false_and,Bool.and_false];exact e
 .rw [decide_eq_false h1]
  exact Z9 (decide_eq_true (by omega)) e
structure SD (d:Nat) (s:Scheme):Prop where
 cond:TD d s.cond_
 name:s.n_.size<=4294967296
 brl:s.brackets_.length<=1000000
def Za(d:Nat)(s:Scheme):Int:=
 if s.N_<0\/15<s.N_\/s.least_<0\/268435456<s.least_ then 2 else if Qz s.n_=false then 5 else if Yq d s.cond_≠0 then Yq d s.cond_
 else if UB s.brackets_=false\/s.excludes_<0\/65536<=s.excludes_\/QM s.excludes_ s.N_=true then 3 else 0
theorem qu{d F:Nat}(hd:d<=2000000)(hF:Q8+d<=F){s:Scheme}(h:SD d s):BD F s=some (Za d s):=by
 have f:Q8<=F:=by omega
 have e:=f;unfold Q8 at e
 unfold BD Za;have b:KS F s true=some 2:=rfl
 by_cases h1:s.N_<0
 .rw [if_pos (.inl h1)];exact Z9 (decide_eq_true h1) b
 refine Z3 (decide_eq_false h1) ?_
 by_cases h2:15<s.N_
 .rw [if_pos (.inr (.inl h2))];exact Z9 (decide_eq_true h2) b
 refine Z3 (decide_eq_false h2) ?_
 by_cases h3:s.least_<0
 .rw [if_pos (.inr (.inr (.inl h3)))];exact Z9 (decide_eq_true h3) b
 refine Z3 (decide_eq_false h3) ?_
 by_cases h4:268435456<s.least_
 .rw [if_pos (.inr (.inr (.inr h4))),decide_eq_true h4];exact b
 rw [if_neg (by omega),decide_eq_false h4];unfold KS
 refine Z3 rfl (Q4 (ke (by have:=h.name;omega) h.name) ?_)
 cases hn:Qz s.n_ with
 | false=>rfl
 | true=>
  rw [if_neg (by simp)];refine Z3 rfl (Q4 (kI hF h.cond) ?_)
  by_cases h5:Yq d s.cond_=0
  .rw [if_neg (by simpa using h5)]
   refine Z3 (by simp [h5]) (Q4 (Q6B (by have:=h.brl;omega) h.brl) ?_);have a:KR F true=some 3:=rfl
   cases hbr:UB s.brackets_ with
   | false=>rw [if_pos (.inl rfl)];exact Z9 rfl a
   | true=>
    refine Z3 rfl ?_
    by_cases h6:s.excludes_<0
    .rw [if_pos (.inr (.inl h6))];exact Z9 (decide_eq_true h6) a
    refine Z3 (decide_eq_false h6) ?_
    by_cases h7:65536<=s.excludes_
    .rw [if_pos (.inr (.inr (.inl h7)))];exact Z9 (decide_eq_true h7) a
    refine Z3 (decide_eq_false h7) (Q7 (by omega) ?_);show KR F (QM s.excludes_ s.N_)=_
    cases QM s.excludes_ s.N_ with
    | true=>rw [if_pos (.inr (.inr (.inr rfl)))];exact a
    | false=>rw [if_neg (by simp;omega)];rfl
  .rw [if_pos h5]
   exact Z9 (by simpa using h5) rfl
theorem zj{d F:Nat}(hd:d<=2000000)(hF:Q8+d<=F){s:Scheme}(h:SD d s):Da F s=some (Za d s):=by
 have f:Q8<=F:=by omega
 have e:=f;unfold Q8 at e
 unfold Da Za;have b:Ge F s true=some 2:=rfl
 by_cases h1:s.N_<0
 .rw [if_pos (.inl h1)];exact Z9 (decide_eq_true h1) b
 refine Z3 (decide_eq_false h1) ?_
 by_cases h2:15<s.N_
 .rw [if_pos (.inr (.inl h2))];exact Z9 (decide_eq_true h2) b
 refine Z3 (decide_eq_false h2) ?_
 by_cases h3:s.least_<0
 .rw [if_pos (.inr (.inr (.inl h3)))];exact Z9 (decide_eq_true h3) b
 refine Z3 (decide_eq_false h3) ?_
 by_cases h4:268435456<s.least_
 .rw [if_pos (.inr (.inr (.inr h4))),decide_eq_true h4];exact b
 rw [if_neg (by omega),decide_eq_false h4];unfold Ge
 refine Z3 rfl (Q4 (Q0g f _) ?_)
 cases hn:Qz s.n_ with
 | false=>rfl
 | true=>
  rw [if_neg (by simp)];refine Z3 rfl (Q4 (cQ hd hF h.cond) ?_)
  by_cases h5:Yq d s.cond_=0
  .rw [if_neg (by simpa using h5)]
   refine Z3 (by simp [h5]) (Q4 (Q7D (by have:=h.brl;omega) h.brl) ?_);have a:Gc F true=some 3:=rfl
   cases hbr:UB s.brackets_ with
   | false=>rw [if_pos (.inl rfl)];exact Z9 rfl a
   | true=>
    refine Z3 rfl ?_
    by_cases h6:s.excludes_<0
    .rw [if_pos (.inr (.inl h6))];exact Z9 (decide_eq_true h6) a
    refine Z3 (decide_eq_false h6) ?_
    by_cases h7:65536<=s.excludes_
    .rw [if_pos (.inr (.inr (.inl h7)))];exact Z9 (decide_eq_true h7) a
    refine Z3 (decide_eq_false h7) (Q7 (by omega) ?_);show Gc F (QM s.excludes_ s.N_)=_
    cases QM s.excludes_ s.N_ with
    | true=>rw [if_pos (.inr (.inr (.inr rfl)))];exact a
    | false=>rw [if_neg (by simp;omega)];rfl
  .rw [if_pos h5]
   exact Z9 (by simpa using h5) rfl
end
end Go.Ab
end
section
namespace Go.Ab
set_option maxRecDepth 20000
noncomputable section
theorem Q6Z(F:Nat)(u v:Bool):Sn F u v=some (u && !v):=by
 unfold Sn Sl;cases u <;> rfl
theorem Q7l{F:Nat}(hF:Q8<=F)(a b:Re_):Sp F a b=some (Jq a b):=by
 unfold Sp Jq BK;refine Q4 (Uk hF a) (Q6 (fun h=>?_) fun h=>?_)
 .rw [h,Bool.true_and]
  refine Q4 (Uk hF b) (Q6 (fun e=>?_) fun e=>?_)
  .rw [e,Bool.true_and]
   have f:=(Yc _).1 h;have vb:=(Yc _).1 e
   refine Q4 (Vi hF f.le8 vb.le8 f.pos vb.pos rfl rfl (k:=fun u v=>u && !v) rfl (Q6Z F)) ?_;congr 1
   show _=decide (cn (fun x y=>Q2 a.t_ x y && !Q2 b.t_ x y)=[])
   cases cn fun x y=>Q2 a.t_ x y && !Q2 b.t_ x y with
   | nil=>rfl
   | cons r l=>simp;omega
  .rw [e];rfl
 .rw [h];rfl
theorem RK{e:Nat}{s:Scheme}(h:Za e s=0):0<=s.N_:=by
 unfold Za at h
 by_cases hn:s.N_<0\/15<s.N_\/s.least_<0\/268435456<s.least_
 .rw [if_pos hn] at h;cases h
 .omega
def Zz(e:Nat)(l:Line)(parcel:Re_)(s:Scheme)(w:World)(v:Re_×Int):Truth×Int:=
 if G9 parcel.t_=false then (Yv,7)
 else if (Yi e s.cond_ l w.y_ w.crops_ w.history_ w.zones_ w.day_).2≠0 then (Yv,(Yi e s.cond_ l w.y_ w.crops_ w.history_ w.zones_ w.day_).2)
 else if Za e s≠0 then (Yv,17)
 else if v.2≠0 then (Yv,v.2)
 else if Jq l.g_ parcel=false then (Yv,12)
 else if QM l.s_ s.N_=false then (⟨⟨[]⟩,l.g_,⟨[]⟩⟩,0)
 else ((ZO l.g_.t_ (U8 w.y_ w.crops_ w.history_ w.zones_ w.day_ l.c_ l.g_.t_ e s.cond_) (Q2 v.1.t_)).t3 l.g_.t_,0)
theorem Fi{e:Nat}{t:Term}{l:Line}{y:Int}{cs:List Crop}{hs:List Rg_}{zs:List A2_}{d:Int}(h:(Yi e t l y cs hs zs d).2=0):QT e t cs l.c_ hs y zs d l.g_.t_=0/\Yi e t l y cs hs zs d=((U8 y cs hs zs d l.c_ l.g_.t_ e t).t3 l.g_.t_,0):=by
 unfold Yi at h ⊢
 by_cases hz:QT e t cs l.c_ hs y zs d l.g_.t_=0
 .rw [if_neg (by rw [hz];simp)]
  exact ⟨hz,rfl⟩
 .rw [if_pos hz] at h
  exact (hz h).elim
theorem Q2v{e F:Nat}(he:e<=2000000)(hF:Q8+e<=F){l:Line}{parcel:Re_}{s:Scheme}{w:World}(hs:SD e s)(hl:w.history_.length<=1000000)(hc:PR w.crops_)(hev:QT e s.cond_ w.crops_ l.c_ w.history_ w.y_ w.zones_ w.day_ l.g_.t_=0->EV w.y_ w.crops_ w.history_ w.zones_ l.c_ l.g_.t_){v:Re_×Int}(hv:VN F parcel w.zones_ w.day_ w.most_=some v)(hval:v.2=0->W6 v.1.t_):Ki F l parcel s w=some (Zz e l parcel s w v):=by
 have g:Q8<=F:=by omega
 unfold Ki Zz;refine Q4 (Uk g _) (Q6 (fun q=>?_) fun q=>?_)
 .rw [if_pos (by simpa using q)];rfl
 rw [if_neg (by simpa using q)];refine Q4 (Q4W hF hs.cond hl hc hev) (Q6 (fun q=>?_) fun q=>?_)
 .rw [if_pos (by simpa using q)];rfl
 have q:(Yi e s.cond_ l w.y_ w.crops_ w.history_ w.zones_ w.day_).2=0:=by simpa using q
 rw [if_neg (by rw [q];simp)];obtain ⟨H,hE⟩:=Fi q
 have h:=hev H;rw [hE]
 refine Q4 (qu he hF hs) (Q6 (fun q=>?_) fun o=>?_)
 .rw [if_pos (by simpa using q)];rfl
 have o:Za e s=0:=by simpa using o
 rw [if_neg (by rw [o];simp)];refine Q4 hv (Q6 (fun q=>?_) fun q=>?_)
 .rw [if_pos (by simpa using q)];rfl
 have q:v.2=0:=by simpa using q
 rw [if_neg (by rw [q];simp)];have m:=hval q
 refine Q4 (Q7l g _ _) (Q6 (fun q=>?_) fun q=>?_)
 .rw [if_pos (by simpa using q)];rfl
 rw [if_neg (by simpa using q)];have f:=WP (y:=w.y_) (cs:=w.crops_) (hs:=w.history_) (zs:=w.zones_) (d:=w.day_) (c:=l.c_) (A:=l.g_.t_) e s.cond_
 generalize U8 w.y_ w.crops_ w.history_ w.zones_ w.day_ l.c_ l.g_.t_ e s.cond_=T at f ⊢;have j:=Hm f (V8 v.1.t_)
 have t:=Q0R f (Q2 v.1.t_);have p:=j.vY h.tr
 have C:=j.vN h.tr;have n:=j.vO h.tr
 refine Q7 (RK o) (Q6 (fun q=>?_) fun q=>?_)
 .rw [WR] at q
  rw [if_pos (by simpa using q)];exact Q4 (Q0w g W6.nil h.tr.val W6.nil) rfl
 .rw [WR] at q
  rw [if_neg (by simpa using q)];have B:=p.1
  have x:=n.1;rw [t] at n x
  have I:=Vi g (a:=cn T.Y) (b:=v.1.t_) (f.vY h.tr).le8 m.le8 (f.vY h.tr).pos m.pos (J2 f.fY) rfl (k:=fun u v=>u&&v) rfl (Q2r F);have G:=Vi g (a:=cn (T.O l.g_.t_)) (b:=v.1.t_) (f.vO h.tr).le8 m.le8 (f.vO h.tr).pos m.pos (J2 f.fO) rfl (k:=fun u v=>u&&v) rfl (Q2r F)
  have E:Q2 (cn (ZO l.g_.t_ T (Q2 v.1.t_)).Y++cn fun u w=>T.O l.g_.t_ u w&&Q2 v.1.t_ u w)=fun u w=>(T.Y u w&&Q2 v.1.t_ u w)||(T.O l.g_.t_ u w&&Q2 v.1.t_ u w):=by
   funext u w
   rw [YN,y8 j.fY,y8 (VC f.fO (V8 _))];rfl
  have D:=Vi g (a:=l.g_.t_) (b:=cn (ZO l.g_.t_ T (Q2 v.1.t_)).Y++cn fun u w=>T.O l.g_.t_ u w&&Q2 v.1.t_ u w) h.tr.val.le8 (by rw [List.length_append];omega) h.tr.val.pos (fun r i=>by
   rcases List.mem_append.1 i with i|i
   .exact p.pos r i
   .exact n.pos r i) rfl E (k:=fun u v=>u && !v) rfl (Z1F F)
  have z:=Q0w g p C n;unfold TS.t3
  rw [t];exact Q4 I (Q4 G (Q4 (qh g (by exact Nat.le_trans B (by omega)) (by exact Nat.le_trans x (by omega))) (Q4 D (Q4 z rfl))))
end
end Go.Ab
end
section
namespace Go.Ab
set_option maxRecDepth 20000
noncomputable section
def Hh(t:Truth):Ref18Parts:=⟨t.true_.t_,t.false_.t_,t.unknown_.t_⟩
theorem Q0P{e:Nat}{l:Line}{parcel:Re_}{s:Scheme}{w:World}{v:Re_×Int}(hev:QT e s.cond_ w.crops_ l.c_ w.history_ w.y_ w.zones_ w.day_ l.g_.t_=0->EV w.y_ w.crops_ w.history_ w.zones_ l.c_ l.g_.t_)(h:(Zz e l parcel s w v).2=0):W6 (Zz e l parcel s w v).1.true_.t_/\W6 (Zz e l parcel s w v).1.false_.t_/\W6 (Zz e l parcel s w v).1.unknown_.t_:=by
 unfold Zz at h ⊢;split at h
 .cases h
 rename_i j
 rw [if_neg j];split at h
 .rename_i q;exact absurd h q
 rename_i f
 rw [if_neg f];obtain ⟨n,hE⟩:=Fi (Classical.byContradiction fun k=>f k)
 have a:=(hev n).tr;split at h
 .cases h
 rename_i i
 rw [if_neg i];split at h
 .rename_i q;exact absurd h q
 rename_i m
 rw [if_neg m];split at h
 .cases h
 rename_i g
 rw [if_neg g]
 by_cases q6:QM l.s_ s.N_=false
 .rw [if_pos q6]
  exact ⟨W6.nil,a.val,W6.nil⟩
 .rw [if_neg q6]
  have b:=Hm (WP (y:=w.y_) (cs:=w.crops_) (hs:=w.history_) (zs:=w.zones_) (d:=w.day_) (c:=l.c_) (A:=l.g_.t_) e s.cond_) (V8 v.1.t_);exact ⟨b.vY a,b.vN a,b.vO a⟩
theorem cd{e F:Nat}(he:e<=2000000)(hF:Q8+e<=F){l:Line}{parcel:Re_}{s:Scheme}{w:World}(hs:SD e s)(hl:w.history_.length<=1000000)(hev:QT e s.cond_ w.crops_ l.c_ w.history_ w.y_ w.zones_ w.day_ l.g_.t_=0->EV w.y_ w.crops_ w.history_ w.zones_ l.c_ l.g_.t_){v:Re_×Int}(hv:UN F parcel w.zones_ w.day_ w.most_=some v)(hval:v.2=0->W6 v.1.t_):KZ F l parcel s w=some (Hh (Zz e l parcel s w v).1,(Zz e l parcel s w v).2):=by
 have g:Q8<=F:=by omega
 unfold KZ Zz;refine Q4 (Wv g _) (Q6 (fun q=>?_) fun q=>?_)
 .rw [if_pos (by simpa using q)];rfl
 rw [if_neg (by simpa using q)];refine Q4 (Q7L he hF hs.cond hl hev) (Q6 (fun q=>?_) fun q=>?_)
 .rw [if_pos (by simpa using q)];rfl
 have q:(Yi e s.cond_ l w.y_ w.crops_ w.history_ w.zones_ w.day_).2=0:=by simpa using q
 rw [if_neg (by rw [q];simp)];obtain ⟨C,hE⟩:=Fi q
 have h:=hev C;rw [hE]
 refine Q4 (zj he hF hs) (Q6 (fun q=>?_) fun j=>?_)
 .rw [if_pos (by simpa using q)];rfl
 have j:Za e s=0:=by simpa using j
 rw [if_neg (by rw [j];simp)];refine Q4 hv (Q6 (fun q=>?_) fun q=>?_)
 .rw [if_pos (by simpa using q)];rfl
 have q:v.2=0:=by simpa using q
 rw [if_neg (by rw [q];simp)];have z:=hval q
 refine Q4 (Q8k g _ _) (Q6 (fun q=>?_) fun q=>?_)
 .rw [if_pos (by simpa using q)];rfl
 rw [if_neg (by simpa using q)];have f:=WP (y:=w.y_) (cs:=w.crops_) (hs:=w.history_) (zs:=w.zones_) (d:=w.day_) (c:=l.c_) (A:=l.g_.t_) e s.cond_
 generalize U8 w.y_ w.crops_ w.history_ w.zones_ w.day_ l.c_ l.g_.t_ e s.cond_=T at f ⊢;have i:=Hm f (V8 v.1.t_)
 have k:=Q0R f (Q2 v.1.t_);have E:=i.vY h.tr
 have M:=i.vN h.tr;have o:=i.vO h.tr
 refine Q7 (RK j) (Q6 (fun q=>?_) fun q=>?_)
 .rw [WR] at q
  rw [if_pos (by simpa using q)];rfl
 .rw [WR] at q
  rw [if_neg (by simpa using q)];have K:=h.tr.val.1
  have H:=E.1;have B:=o.1
  have I:=z.1;have L:=(f.vY h.tr).1
  have J:=(f.vO h.tr).1;rw [k] at o B
  have n:=Kd (V8 l.g_.t_) i.fY;have k1:W6 (cn fun u w=>Q2 l.g_.t_ u w && !(ZO l.g_.t_ T (Q2 v.1.t_)).Y u w):=h.tr.sub n fun x y p=>by
   rw [Bool.and_eq_true] at p;exact p.1
  have k2:=k1.1;have D:=YC g (a:=cn T.Y) (b:=v.1.t_) (by omega) (J2 f.fY) rfl 2
  have t:=YC g (a:=cn (T.O l.g_.t_)) (b:=v.1.t_) (by omega) (J2 f.fO) rfl 2;have G:=YC g (a:=l.g_.t_) (b:=cn (ZO l.g_.t_ T (Q2 v.1.t_)).Y) (by omega) rfl (J2 i.fY) 3
  have m:=YC g (a:=cn fun u w=>Q2 l.g_.t_ u w && !(ZO l.g_.t_ T (Q2 v.1.t_)).Y u w) (b:=cn fun u w=>T.O l.g_.t_ u w&&Q2 v.1.t_ u w) (by omega) (J2 n) (J2 (VC f.fO (V8 _))) 3;have r:(fun x y=>K2 (Q2 l.g_.t_ x y && !(ZO l.g_.t_ T (Q2 v.1.t_)).Y x y) (T.O l.g_.t_ x y&&Q2 v.1.t_ x y) 3)=(ZO l.g_.t_ T (Q2 v.1.t_)).N:=by
   funext x y
   simp only [K2,ZO]
   cases Q2 l.g_.t_ x y <;> cases T.Y x y <;> cases T.O l.g_.t_ x y <;> cases Q2 v.1.t_ x y <;> rfl
  rw [r] at m;refine Q4 D (Q4 t (Q4 G (Q4 m ?_)))
  unfold TS.t3 Hh;rw [k]
  rfl
theorem Q7y{e F:Nat}(he:e<=2000000)(hF:Q8+e<=F){l:Line}{parcel:Re_}{s:Scheme}{w:World}(hs:SD e s)(hl:w.history_.length<=1000000)(hev:QT e s.cond_ w.crops_ l.c_ w.history_ w.y_ w.zones_ w.day_ l.g_.t_=0->EV w.y_ w.crops_ w.history_ w.zones_ l.c_ l.g_.t_){v:Re_×Int}(hv:UN F parcel w.zones_ w.day_ w.most_=some v)(hval:v.2=0->W6 v.1.t_):Gb F l parcel s w=some (Zz e l parcel s w v):=by
 have b:=cd he hF hs hl hev hv hval;have x:=Q0P (parcel:=parcel) (s:=s) (v:=v) hev
 have f:(Zz e l parcel s w v).2≠0->(Zz e l parcel s w v).1=Yv:=fun a=>by
  unfold Zz at a ⊢
  repeat' split
  all_goals first|rfl | (exfalso;simp_all)
 unfold Gb;refine Q4 b (Q6 (fun q=>?_) fun q=>?_)
 .have q:(Zz e l parcel s w v).2≠0:=by simpa using q
  have:=f q
  show some (Yv,(Zz e l parcel s w v).2)=_;rw [<-this]
 .have q:(Zz e l parcel s w v).2=0:=by simpa using q
  obtain ⟨i,o,k⟩:=x q;have m:=i.1
  have n:=o.1;have g:=k.1
  generalize Zz e l parcel s w v=r at *;obtain ⟨t,c⟩:=r
  simp only at q;subst q
  simp only at m n g;have j:decide (120<(t.true_.t_.length:Int))=false:=decide_eq_false (by omega)
  have u:decide (120<(t.false_.t_.length:Int))=false:=decide_eq_false (by omega);have p:decide (120<(t.unknown_.t_.length:Int))=false:=decide_eq_false (by omega)
  have h:Ga F (Hh t)=some (t,0):=by
   unfold Ga;refine Z3 j (Z3 u ?_)
   unfold Xz;exact Z3 p rfl
  exact Q4 h rfl
end
end Go.Ab
end
