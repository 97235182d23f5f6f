/- Abstract states over the model. -/
import Derived.Test.YtlhhgeknhlkakaaGreatDoorLwB
import Derived.Test.YtlhhgeknhlkakaaGreatDoorLwA
set_option linter.unusedVariables false
set_option linter.unusedSimpArgs false
section
namespace Go.Ab
set_option maxRecDepth 20000
noncomputable section
theorem YC.half2{l:List Rect}(hc:YC l){x0:Int}{w h:Nat}(hb:∀r∈l,x0<=r.L_/\r.R_<=x0+w/\0<=r.w_/\r.H_<=h):l.length<=h*((w+1) / 2):=by
 obtain⟨b,g,rfl⟩:=hc;have f:∀c∈b,∃s,s∈c.v:=λc hc=>Qt6 _ (g.ne c hc)
 have d:∀c∈b,∀s∈c.v,(⟨s.L_,c.lo,s.R_,c.hi⟩:Rect)∈flat b:=λc hc s e=>Qc1.2 ⟨c,hc,Qc7.2 ⟨s,e,rfl⟩⟩
 have k:(b.length:Int)<=h-0:=g.runs.len (by omega) λc hc=>by
  obtain⟨s,e⟩:=f c hc;have:=hb _ (d c hc s e)
  simp only at this;omega
 have i:∀c∈b,c.v.length<=(w+1) / 2:=λc hc=>by
  have:=(g.sp c hc).half (n:=x0+w) (a:=x0) (by omega) λs e=>by
   have:=hb _ (d c hc s e)
   simp only at this⊢;omega
  omega
 have m:=Q1C i;have j:b.length*((w+1) / 2)<=h*((w+1) / 2):=Qb4 _ (by omega)
 omega
def HN(d:Int)(S:Int->Int->Bool):Prop:=∀u v,S u v=true->d<=u/\u<d+9/\0<=v/\v<9
theorem yl{S:Int->Int->Bool}(hf:Fin S){d:Int}(h0:0<=d/\d<=100)(hb:HN d S):K7 (cn S)/\∀r∈cn S,d<=r.L_/\r.R_<=d+9/\0<=r.w_/\r.H_<=9:=by
 have e:=US hf;have c:∀r∈cn S,d<=r.L_/\r.R_<=d+9/\0<=r.w_/\r.H_<=9:=by
  intro r c;obtain⟨g,f⟩:=e.pos c
  have a:=hb r.L_ r.w_ (by rw[<-Yj hf];exact Cf c ((ZZ _ _ _).2 (by omega)));have b:=hb (r.R_-1) (r.H_-1) (by rw[<-Yj hf];exact Cf c ((ZZ _ _ _).2 (by omega)))
  omega
 have i:=e.half2 (x0:=d) (w:=9) (h:=9) λr h=>by have:=c r h;omega
 refine⟨⟨by omega,λr h=>?_,e⟩,c⟩;obtain⟨g,f⟩:=e.pos h
 have:=c r h
 rw[Wc];omega
theorem Z1E(F:Nat)(t:Tape)(n m:Int):yT F t n m=KS F t n m:=rfl
def Vr(d:Int)(r:Rect):Rect:=⟨r.L_+d,r.w_,r.R_+d,r.H_⟩
theorem jI(d:Int)(l:List Rect)(u v:Int):Q8 (l.map (Vr d)) u v=Q8 l (u-d) v:=by
 unfold Q8;rw[Qu2]
 congr 1
 funext r
 show(Vr d r).has u v=r.has (u-d) v;rw[Qd0,ZZ,ZZ]
 show r.L_+d<=u/\u<r.R_+d/\r.w_<=v/\v<r.H_↔r.L_<=u-d/\u-d<r.R_/\r.w_<=v/\v<r.H_;omega
theorem vu{α:Type}[Emb α](l:List α)(i j:Nat)(x:α)(hj:j<l.length):gl (l.set i x) j=if i=j then x else gl l j:=by
 unfold gl;rw[Qa0,Qp7]
 by_cases h:i=j
 .subst h;rw[Qa2 rfl,Qa2 rfl,Qa2 hj];rfl
 .rw [Qa1 h,Qa1 h, <-Qa0]
theorem XJ{α:Type}[Emb α](l:List α)(i:Nat)(h:i<l.length):gl l i=l[i]:=by
 unfold gl;rw[Qa0,Qc0 h];rfl
theorem Z2I{α:Type}[Emb α]{l m:List α}(h:l.length=m.length)(hg:∀i,i<l.length->gl l i=gl m i):l=m:=by
 apply List.ext_getElem h;intro i a b
 have:=hg i a
 rwa [XJ l i a,XJ m i b]at this
theorem Q1r{α β:Type}[Emb α][Emb β](f:α->β)(l:List α)(i:Nat)(h:i<l.length):gl (l.map f) i=f (gl l i):=by
 rw[XJ _ i (by simpa using h),XJ l i h];simp
def Fx(q r:Rect):Rect:=⟨max q.L_ r.L_,max q.w_ r.w_,min q.R_ r.R_,min q.H_ r.H_⟩
theorem Z4e(q:Rect)(l:List Rect)(u v:Int):Q8 (l.map (Fx q)) u v=(Q8 l u v&&Q8 [q] u v):=by
 rw[Qd0,Qa4,Va,Va,Va];constructor
 .rintro ⟨r,a,h⟩
  obtain⟨s,b,rfl⟩:=Qc7.1 a;rw[ZZ]at h
  simp only[Fx]at h;exact⟨⟨s,b,(ZZ _ _ _).2 (by omega)⟩,q,by simp,(ZZ _ _ _).2 (by omega)⟩
 .rintro ⟨⟨s,b,d⟩,r,a,c⟩
  rw[Qb1]at a;subst a
  rw[ZZ]at d c;refine⟨_,Qc7.2 ⟨s,b,rfl⟩,(ZZ _ _ _).2 ?_⟩
  simp only[Fx];omega
theorem vx{α:Type}[Emb α](l m:List α){i:Nat}(h:i<l.length):gl (l++m) i=gl l i:=by
 unfold gl;rw[Qa0,Qh4 h, <-Qa0]
theorem vw{α:Type}[Emb α](l:List α)(x:α):gl (l++[x]) l.length=x:=by
 unfold gl;rw[Qa0,Ql6 (Qb3 _)];simp
structure ParT (rs:List Re_):Prop where
 len:1<=rs.length/\rs.length<=3
 one:∀i,i<rs.length->∃w h:Int,2<=w/\w<=9/\2<=h/\h<=9/\gl rs i=⟨[⟨10*i,0,10*i+w,h⟩]⟩
theorem ParT.pl{rs:List Re_}(h:ParT rs){i:Nat}(hi:i<rs.length):HN (10*i) (Q8 (gl rs i).t_):=by
 intro u v a;obtain⟨w,k,j,e,f,g,d⟩:=h.one i hi
 rw[d,Va]at a;obtain⟨r,c,b⟩:=a
 rw[Qb1]at c;subst c
 rw[ZZ]at b;simp only at b
 omega
theorem ParT.val{rs:List Re_}(h:ParT rs){i:Nat}(hi:i<rs.length):K7 (gl rs i).t_:=by
 obtain⟨w,k,c,b,d,e,a⟩:=h.one i hi;have:=h.len
 rw[a];exact Me ((Wc _).2 (by simp only;omega))
structure LinO (K:Int) (rs:List Re_) (x:Line):Prop where
 crop:0<=x.c_/\x.c_<K
 par:1<=x.p_/\x.p_<=rs.length
 sch:1<=x.s_/\x.s_<=15
 val:K7 x.g_.t_
 ne:x.g_.t_.length≠0
 sub:∀u v,Q8 x.g_.t_ u v=true->Q8 (gl rs (x.p_-1).toNat).t_ u v=true
def Q3S(a b:Line):Prop:=∀u v,Q8 a.g_.t_ u v=true->Q8 b.g_.t_ u v=true->False
structure LinT (K:Int) (rs:List Re_) (l:List Line):Prop where
 one:∀x∈l,LinO K rs x
 apart:l.Pairwise Q3S
 two:∀i,i<l.length->∃R:List Rect,R.length<=2/\∀u v,Q8 (gl l i).g_.t_ u v=(Q8 R u v && !(l.take i).any λx=>Q8 x.g_.t_ u v)
theorem LinO.pl{K:Int}{rs:List Re_}(hp:ParT rs){x:Line}(h:LinO K rs x):HN (10*(x.p_-1)) (Q8 x.g_.t_):=by
 intro u v a;have:=h.par
 have b:=hp.pl (i:=(x.p_-1).toNat) (by omega) u v (h.sub u v a);omega
theorem LinT.nil(K:Int)(rs:List Re_):LinT K rs []:=⟨λx a=>by simp at a,.nil,λi b=>by simp at b⟩
theorem Z1v{F:Nat}(hF:Q7<=F){t:Tape}(ht:TOk t){cs:List Crop}(hcs:1<=cs.length/\cs.length<=100){most:Int}(m1:0<=most)(m2:most<=10):
  ∃t' l ns rs,TG F t cs most=some (t',l,ns,rs)/\TOk t' /\ ParT rs/\LinT (cs.length:Nat) rs l/\(l.length:Int)<=most:=by
 have O:=hF;unfold Q7 at hF
 obtain⟨t1,c,e1,o1,c1,c2⟩:=ZR (F:=F) ht (lo:=1) (hi:=3) (by omega) (by omega) (by omega);have X:∀(rs:List Re_) (ns:List Int) (tl:List Int) (N:Int),ParT rs->ns.length=rs.length->TOk ⟨tl,N⟩->∃t' l,TF F cs most tl N ns rs=some (t',l,ns,rs)/\TOk t' /\ LinT (cs.length:Nat) rs l/\(l.length:Int)<=most:=by
  intro rs ns tl N J C hT;have f9:=J.len
  obtain ⟨G,k,e2,o2,k1,k2⟩:=Qz (F:=F) hT (n:=most+1) (by omega) (by omega);have W:∀ (k f:Nat) (t:Tape) (l:List Line),k<f->(l.length:Int)+k<=most->TOk t->LinT (cs.length:Nat) rs l ->
    ∃t' l',Y3 (λd (z:Int×List Int×Int×List Line)=>Xy F cs ns rs d z.1 z.2.1 z.2.2.1 z.2.2.2) f ((k:Int),t.l_,t.at_,l)=some (t',l',ns,rs)/\TOk t' /\ LinT (cs.length:Nat) rs l' /\ (l'.length:Int)<=most:=by
   intro k
   induction k with
   |zero=>
    intro f t l hf c6 ht L
    cases f with
    |zero=>omega
    |succ f=>exact⟨⟨t.l_,t.at_⟩,l,rfl,ht,L,by omega⟩
   |succ k ih=>
    intro f t l hf c6 ht L
    cases f with
    |zero=>omega
    |succ f=>
     obtain⟨N,p,ea,oa,p1,p2⟩:=Qz (F:=F) ht (n:=(ns.length:Nat)) (by omega) (by omega);obtain⟨tb,a,R0,eb,ob,ha,e6,f7,b3⟩:=Z1A O oa (n:=9) (most:=2) (by omega) (by omega) (by omega) (by omega)
     obtain⟨tc,c,ec,oc,c1,c2⟩:=Qz (F:=F) ob (n:=(cs.length:Nat)) (by omega) (by omega);obtain⟨td,s,ed,od,s1,s2⟩:=Qz (F:=F) oc (n:=15) (by omega) (by omega)
     have H:p.toNat<rs.length:=by omega
     have f4:=ha.val.1
     let S:Nat->Int->Int->Bool:=λn u v=>(Q8 (a.t_.map (Vr (10*p))) u v&&Q8 (gl rs p.toNat).t_ u v) && !((l.take n).any λx=>Q8 x.g_.t_ u v)
     have b5:∀n,HN (10*p) (S n):=λn u v h=>by
      have h1:Q8 (gl rs p.toNat).t_ u v=true:=by
       simp only[S,Qa4]at h;exact h.1.2
      have:=J.pl H u v h1
      omega
     have a5:S 0=λu v=>Qn (Q8 (a.t_.map (Vr (10*p))) u v) (Q8 (gl rs p.toNat).t_ u v) 2:=by
      funext u v
      simp[S,Qn]
     have a4:∀r∈a.t_,0<=r.L_/\r.L_<r.R_/\r.R_<=9/\0<=r.w_/\r.w_<r.H_/\r.H_<=9:=ha.box;have b7:∀r∈a.t_.map (Vr (10*p)),QS r=true:=λr hr=>by
      obtain⟨q,hq,rfl⟩:=Qc7.1 hr;have:=a4 q hq
      rw[Wc];simp only[Vr]
      omega
     have m:∀n,n<=l.length->Fin (S n):=by
      intro n
      induction n with
      |zero=>intro _;rw[a5];exact Ub _ _ 2
      |succ n ihn=>
       intro I;have h0:=ihn (by omega)
       have e:S (n+1)=λu v=>Qn (Q8 (cn (S n)) u v) (Q8 (gl l n).g_.t_ u v) 3:=by
        funext u v
        rw[Yj h0];simp only[S,Qn]
        rw[QB (by omega),Qv5];simp[Qs1]
       rw[e];exact Ub _ _ 3
     have U:∀n,n<l.length->(cn λu v=>Qn (Q8 (cn (S n)) u v) (Q8 (gl l n).g_.t_ u v) 3)=cn (S (n+1)):=λn I=>by
      congr 1
      funext u v
      rw[Yj (m n (by omega))];simp only[S,Qn]
      rw[QB I,Qv5];simp[Qs1]
     have B:∀n,n<=l.length->K7 (cn (S n)):=λn I=>(yl (m n I) (by omega) (b5 n)).1
     have a3:∃t' l',TE F cs rs ((k+1:Nat):Int) l (N,p) (tb,a) (Y3 (λd (z:Int×List Int×Int×List Line)=>Xy F cs ns rs d z.1 z.2.1 z.2.2.1 z.2.2.2) f) (a.t_.map (Vr (10*p)))=some (t',l',ns,rs)/\TOk t' /\ LinT (cs.length:Nat) rs l' /\ (l'.length:Int)<=most:=by
      have c3:∃t' l',DF F cs ((k+1:Nat):Int) l (N,p) (tb,a) (Y3 (λd (z:Int×List Int×Int×List Line)=>Xy F cs ns rs d z.1 z.2.1 z.2.2.1 z.2.2.2) f) (cn (S l.length))=some (t',l',ns,rs)/\TOk t' /\ LinT (cs.length:Nat) rs l' /\ (l'.length:Int)<=most:=by
       have ek:((k+1:Nat):Int)-1=(k:Int):=by omega
       by_cases hz:(cn (S l.length)).length=0
       .obtain ⟨G,Y,g,o,D⟩:=ih f tb l (by omega) (by omega) ob L
        refine⟨G,Y,?_,o,D⟩;unfold DF
        refine Z8 (by simp[hz]) ?_;unfold DE
        simp only
        rw[ek];exact Q9 (Y8 (by omega) (by omega)) g
       .have hx:LinO (cs.length:Nat) rs ⟨p+1,⟨cn (S l.length)⟩,c,1+s⟩:=by
         refine⟨⟨c1,c2⟩,by simp only;omega,by simp only;omega,B _ (Qb3 _),hz,λu v E=>?_⟩;have E:Q8 (cn (S l.length)) u v=true:=E
         rw[Yj (m _ (Qb3 _))]at E;simp only[S,Qa4]at E
         have e5:(p+1-1:Int)=p:=by omega
         simp only[e5];exact E.1.2
        have c0:LinT (cs.length:Nat) rs (l++[⟨p+1,⟨cn (S l.length)⟩,c,1+s⟩]):=by
         refine⟨λx h=>?_,?_,λi hi=>?_⟩
         .rcases Qb2.1 h with h|h
          .exact L.one x h
          .rw [Qb1]at h;subst h;exact hx
         .rw [Qe8]
          refine⟨L.apart,Qf4 _ _,λx h y hy u v h1 Z=>?_⟩;rw[Qb1]at hy
          subst hy;have Z:Q8 (cn (S l.length)) u v=true:=Z
          rw[Yj (m _ (Qb3 _))]at Z;simp only[S,Qa4,Qh9,Qe5]at Z
          have:=Qf0.1 Z.2 x h
          exact this h1
         .rcases Qc8 i l.length with P|P
          .obtain ⟨R,r1,r2⟩:=L.two i P
           refine⟨R,r1,λu v=>?_⟩;rw[vx _ _ P,List.take_append_of_le_length (by omega)]
           exact r2 u v
          .have h6:i=l.length:=by simp at hi;omega
           subst h6;obtain⟨w,k2,_,_,_,_,e5⟩:=J.one p.toNat H
           refine⟨(R0.map (Vr (10*p))).map (Fx ⟨10*(p.toNat:Int),0,10*(p.toNat:Int)+w,k2⟩),by simp;omega,λu v=>?_⟩;rw[vw,List.take_left' rfl,Z4e,jI]
           show Q8 (cn (S l.length)) u v=_;rw[Yj (m _ (Qb3 _))]
           simp only[S,Qe5];rw[jI,e5,b3]
        obtain⟨G,Y,g,o,D⟩:=ih f td (l++[⟨p+1,⟨cn (S l.length)⟩,c,1+s⟩]) (by omega) (by simp;omega) od c0;refine⟨G,Y,?_,o,D⟩
        unfold DF;refine U3 (Qa5 (by omega)) ?_
        refine Q9 (Y8 (by simp only;omega) (by simp only;omega)) (Q4 ec (Q4 ed ?_));refine Q9 (Y8 (by simp only;omega) (by simp only;omega)) (Q9 (by simp[Y6];omega) ?_)
        unfold DE;simp only
        rw[ek];exact Q9 (Y8 (by omega) (by omega)) g
      obtain⟨G,Y,g,o,D⟩:=c3;refine⟨G,Y,?_,o,D⟩
      unfold TE;refine Q9 (by simp only;omega) ?_
      refine Q4 ((SX O (a:=a.t_.map (Vr (10*p))) (b:=(gl rs p.toNat).t_) (how:=2) (by simp;omega) (by have:=(J.val H).1;omega) b7 (J.val H).2.1).trans (congrArg some (congrArg cn a5.symm))) ?_;refine Qa (λz:List Rect×Int=>∃n:Nat,z.2=n/\n<=l.length/\z.1=cn (S n)) (λz=>l.length-z.2.toNat) (λd z hz Q=>?_) ⟨0,rfl,by omega,rfl⟩ (by simp only;omega)
      obtain⟨V,n0⟩:=z;obtain⟨n,rfl,I,rfl⟩:=hz
      simp only at I⊢;unfold Q0X
      refine Z9 (λh=>?_) (λh=>?_)
      .have h:n<l.length:=by simpa using h
       refine Q9 (by omega) ?_;simp only[Qa3]
       have hx:=L.one _ (J9 h);refine Q4 ((SX O (a:=cn (S n)) (b:=(gl l n).g_.t_) (how:=3) (by have:=(B n I).1;omega) (by have:=hx.val.1;omega) (B n I).2.1 hx.val.2.1).trans (congrArg some (U n h))) ?_
       refine Q9 (Y8 (by omega) (by omega)) (Q _ ⟨n+1,by simp,h,rfl⟩ (by simp only;omega))
      .have h:n=l.length:=by
        have:¬n<l.length:=by simpa using h
        omega
       subst h;exact g
     obtain⟨G,Y,g,o,D⟩:=a3;refine⟨G,Y,?_,o,D⟩
     show Xy F cs ns rs _ ((k+1:Nat):Int) t.l_ t.at_ l=_;unfold Xy
     refine U3 (by simp) (Q4 ea ?_);rw[Z1E]
     refine Q4 eb ?_;refine Qa (λz:Int×List Rect=>∃i:Nat,z.1=i/\i<=a.t_.length/\z.2.length=a.t_.length/\∀j,j<a.t_.length->gl z.2 j=if j<i then Vr (10*p) (gl a.t_ j)else gl a.t_ j) (λz=>a.t_.length-z.1.toNat) (λd z hz Q=>?_)
      ⟨0,rfl,by omega,rfl,λj _=>by rw[Qa1 (by omega)]⟩ (by simp only;omega)
     obtain⟨i0,V⟩:=z;obtain⟨i,rfl,hi,T,hV⟩:=hz
     simp only at T hV⊢;unfold Q0Y
     simp only[Qa3];refine Z9 (λh=>?_) (λh=>?_)
     .have h:i<a.t_.length:=by simpa using h
      have c4:gl V i=gl a.t_ i:=by rw[hV i h,Qa1 (by omega)]
      have hb:=a4 _ (J9 h);have a2:∀x,gl (V.set i x) i=x:=λx=>by rw[vu V i i x (by omega),Qa2 rfl]
      simp only[c4,a2];refine Q9 (by omega) (Q9 (Y8 (by omega) (by omega)) (Q9 (Y8 (by omega) (by omega)) (Q9 (by omega) (Q9 (Y8 (by omega) (by omega)) (Q9 (Y8 (by omega) (by omega)) (Q9 (by omega) (Q9 (by rw[Qh1];omega) (Q9 (Y8 (by omega) (by omega)) ?_))))))))
      refine Q _ ⟨i+1,by simp,h,by simp[T],λj hj=>?_⟩ (by simp only;omega);rw[vu _ i j _ (by simp;omega)]
      by_cases hij:i=j
      .subst hij
       rw[Qa2 rfl,Qa2 (by omega)];rfl
      .rw [Qa1 hij,vu V i j _ (by omega),Qa1 hij,hV j hj]
       by_cases h6:j<i
       .rw [Qa2 h6,Qa2 (by omega)]
       .rw [Qa1 h6,Qa1 (by omega)]
     .have h:i=a.t_.length:=by
       have:¬i<a.t_.length:=by simpa using h
       omega
      have b8:V=a.t_.map (Vr (10*p)):=Z2I (by simp[T]) λj hj=>by
       rw[hV j (by omega),Qa2 (by omega),Q1r _ _ _ (by omega)]
      rw[b8];exact g
  obtain⟨t',l,g,o,D,q4⟩:=W k.toNat F G [] (by omega) (by simp;omega) o2 (LinT.nil _ _);refine⟨t',l,?_,o,D,q4⟩
  unfold TF;refine Q9 (Y8 (by omega) (by omega)) (Q4 e2 ?_)
  have:(k.toNat:Int)=k:=by omega
  rw[this]at g;exact g
 have W:∀ (k f:Nat) (t:Tape) (ns:List Int) (rs:List Re_),k<f->TOk t->ns.length=rs.length->rs.length+k=c.toNat->(∀ i,i<rs.length->∃ w h:Int,2<=w/\w<=9/\2<=h/\h<=9/\gl rs i=⟨[⟨10*i,0,10*i+w,h⟩]⟩) ->
   ∃t' l M A,Y3 (λd (z:Int×List Int×Int×List Int×List Re_)=>Xz F cs most d z.1 z.2.1 z.2.2.1 z.2.2.2.1 z.2.2.2.2) f ((k:Int),t.l_,t.at_,ns,rs)=some (t',l,M,A)/\TOk t' /\ ParT A /\ LinT (cs.length:Nat) A l/\(l.length:Int)<=most:=by
  intro k
  induction k with
  |zero=>
   intro f t ns rs hf ht C hk K
   cases f with
   |zero=>omega
   |succ f=>
    have J:ParT rs:=⟨by omega,K⟩;obtain⟨t',l,g,o,D,q4⟩:=X rs ns t.l_ t.at_ J C ht
    refine⟨t',l,ns,rs,?_,o,J,D,q4⟩;show Xz F cs most _ 0 t.l_ t.at_ ns rs=_
    unfold Xz;exact Z8 rfl g
  |succ k ih=>
   intro f t ns rs hf ht C hk K
   cases f with
   |zero=>omega
   |succ f=>
    obtain⟨N,w,ea,oa,w1,w2⟩:=ZR (F:=F) ht (lo:=2) (hi:=9) (by omega) (by omega) (by omega);obtain⟨tb,h,eb,ob,h1,Z⟩:=ZR (F:=F) oa (lo:=2) (hi:=9) (by omega) (by omega) (by omega)
    obtain⟨t',l,M,A,g,o⟩:=ih f tb (ns++[((ns.length:Nat):Int)+1]) (rs++[⟨[⟨10*((ns.length:Nat):Int),0,10*((ns.length:Nat):Int)+w,h⟩]⟩]) (by omega) ob (by simp[C]) (by simp;omega) (λi hi=>by
     rcases Qc8 i rs.length with P|P
     .have e:gl (rs++[(⟨[⟨10*((ns.length:Nat):Int),0,10*((ns.length:Nat):Int)+w,h⟩]⟩:Re_)]) i=gl rs i:=by
       unfold gl;rw[Qa0,Qh4 P, <-Qa0]
      rw[e];exact K i P
     .have h6:i=rs.length:=by simp at hi;omega
      subst h6;refine⟨w,h,by omega,by omega,by omega,by omega,?_⟩
      unfold gl;rw[Qa0,Ql6 (Qb3 _),C]
      simp)
    refine⟨t',l,M,A,?_,o⟩;show Xz F cs most _ ((k+1:Nat):Int) t.l_ t.at_ ns rs=_
    unfold Xz;have ek:((k+1:Nat):Int)-1=(k:Int):=by omega
    refine U3 (by simp) (Q9 (Y8 (by omega) (by omega)) (Q9 (by simp[Y6];omega) (Q9 (Y8 (by omega) (by omega)) (Q9 (Y8 (by omega) (by omega)) (Q4 ea (Q9 (Y8 (by omega) (by omega)) (Q4 eb (Q9 (by simp[Y6];omega) (Q9 (Y8 (by omega) (by omega)) ?_)))))))));rw[ek]
    exact g
 obtain⟨t',l,ns,rs,g,o⟩:=W c.toNat F t1 [] [] (by omega) o1 rfl (by simp) (λi hi=>by simp at hi);refine⟨t',l,ns,rs,?_,o⟩
 unfold TG;refine Q4 e1 ?_
 have:(c.toNat:Int)=c:=by omega
 rw[this]at g;exact g
end
end Go.Ab
end
section
namespace Go.Ab
set_option maxRecDepth 20000
noncomputable section
abbrev Sq:=Int->Int->Bool
structure TR (A:List Rect):Prop where
 val:K7 A
 sub:∀{S:Sq},Fin S->(∀x y,S x y=true->Q8 A x y=true)->K7 (cn S)
theorem xZ{A:List Rect}(hv:K7 A){d:Int}(h0:0<=d/\d<=100)(hb:HN d (Q8 A)):TR A:=⟨hv,λb a=>(yl b h0 λx y h=>hb x y (a x y h)).1⟩
theorem K7.pos{l:List Rect}(h:K7 l):∀r∈l,r.L_<r.R_:=λ_ a=>(h.2.2.pos a).1
theorem XY{A:List Rect}(h:K7 A):cn (Q8 A)=A:=(Gl A).1 h.2.2
theorem Cz:Fin λ_ _=>false:=by
 have:=QX []
 exact this
theorem JL:cn (λ_ _=>false)=[]:=(Gl []).1 Q3a
theorem WH{F:Nat}(hF:Q7<=F){a b:List Rect}(la:a.length<=8000)(lb:b.length<=8000)(pa:∀ r ∈ a,r.L_<r.R_)(pb:∀ r ∈ b,r.L_<r.R_){S T:Sq}(ea:Q8 a=S)(eb:Q8 b=T){k:Bool->Bool->Bool}(hk:k false false=false){q:Bool->Bool->Option Bool}(hq:∀ u v,q u v=some (k u v)):
  ZG F a b q=some (cn λx y=>k (S x y) (T x y)):=by
 subst ea eb;exact Bn hF (by omega) pa pb hk hq
theorem vR{a b:List Rect}{S T:Sq}(ea:Q8 a=S)(eb:Q8 b=T)(how:Int):Fin λx y=>Qn (S x y) (T x y) how:=by
 subst ea eb;exact Ub a b how
theorem ZY{S:Sq}(h:Fin S):Q8 (cn S)=S:=by
 funext x y;exact Yj h x y
theorem UJ{S T:Sq}(hS:Fin S)(hT:Fin T):Fin λx y=>S x y&&T x y:=vR (ZY hS) (ZY hT) 2
theorem vQ{S T:Sq}(hS:Fin S)(hT:Fin T):Fin λx y=>S x y||T x y:=vR (ZY hS) (ZY hT) 1
theorem XM{S T:Sq}(hS:Fin S)(hT:Fin T):Fin λx y=>S x y && !T x y:=vR (ZY hS) (ZY hT) 3
theorem ME(F:Nat)(u v:Bool):JX F u v=some (u&&v):=by
 unfold JX MF;cases u<;>rfl
theorem gm(F:Nat)(u v:Bool):PM F u v=some (u||v):=by
 unfold PM MA;cases u<;>rfl
theorem Lu(F:Nat)(u v:Bool):GC F u v=some (u && !v):=by
 unfold GC Mj;cases u<;>rfl
structure TS where
 Y:Sq
 N:Sq
def TS.O(A:List Rect)(s:TS):Sq:=λx y=>(Q8 A x y && !s.Y x y) && !s.N x y
structure TIn (A:List Rect) (s:TS):Prop where
 fY:Fin s.Y
 fN:Fin s.N
 sY:∀x y,s.Y x y=true->Q8 A x y=true
 sN:∀x y,s.N x y=true->Q8 A x y=true
theorem TIn.fO{A:List Rect}{s:TS}(h:TIn A s):Fin (s.O A):=XM (XM (QX A) h.fY) h.fN
theorem TIn.vY{A:List Rect}(ht:TR A){s:TS}(h:TIn A s):K7 (cn s.Y):=ht.sub h.fY h.sY
theorem TIn.vN{A:List Rect}(ht:TR A){s:TS}(h:TIn A s):K7 (cn s.N):=ht.sub h.fN h.sN
theorem TIn.vO{A:List Rect}(ht:TR A){s:TS}(h:TIn A s):K7 (cn (s.O A)):=ht.sub h.fO λx y a=>by
 unfold TS.O at a
 cases hA:Q8 A x y with
 |true=>rfl
 |false=>rw[hA]at a;cases a
def TS.sqs(A:List Rect)(s:TS):Squares:=⟨cn s.Y,cn s.N,cn (s.O A)⟩
theorem K7.le8{l:List Rect}(h:K7 l):l.length<=8000:=by have:=h.1;omega
theorem Lx{F:Nat}(hF:Q7<=F){p:Place}{A:List Rect}(hp:p.t_=A)(ht:TR A){s:TS}(h:TIn A s):GF F p (cn s.Y) (cn s.N)=some (s.sqs A):=by
 unfold GF;subst hp
 have b:K7 (cn λx y=>Q8 p.t_ x y && !s.Y x y):=ht.sub (XM (QX _) h.fY) λx y a=>by
  cases hA:Q8 p.t_ x y with
  |true=>rfl
  |false=>rw[hA]at a;cases a
 refine Q4 (WH hF ht.val.le8 (h.vY ht).le8 ht.val.pos (h.vY ht).pos rfl (ZY h.fY) (k:=λu v=>u && !v) rfl (Lu F)) (Q4 (WH hF b.le8 (h.vN ht).le8 b.pos (h.vN ht).pos (ZY (XM (QX _) h.fY)) (ZY h.fN) (k:=λu v=>u && !v) rfl (Lu F)) rfl)
end
end Go.Ab
end
section
namespace Go.Ab
set_option maxRecDepth 20000
noncomputable section
structure EV (y:Int) (cs:List Crop) (hs:List Rg_) (zs:List A2_) (c:Int) (A:List Rect):Prop where
 tr:TR A
 crop:0<=c/\c<(cs.length:Nat)
 fam:0<=(gl cs c.toNat).f_
 mrk:0<=(gl cs c.toNat).m_/\(gl cs c.toNat).m_<=31
 few:FewR hs
 hb:∀f∈hs,QN (15:Nat) f.g_.t_
 hc:∀f∈hs,0<=f.c_/\f.c_<(cs.length:Nat)
 yr:0<=y/\y<=100
 zs:LB 15 zs
theorem Q4k{l:List Rg_}(hb:∀f∈l,QN (15:Nat) f.g_.t_)(y:Int)(p:Int->Bool):QN (15:Nat) (Zj l y p):=λr a=>by
 unfold Zj at a;obtain⟨f,b,h⟩:=Qc1.1 a
 exact hb f (Qe6.1 b).1 r h
theorem Q4l(a b:List Rg_)(y:Int)(p:Int->Bool):Zj (a++b) y p=Zj a y p++Zj b y p:=by simp[Zj]
theorem Z2T{l:List Rg_}(h:FewR l)(y:Int)(p:Int->Bool):(Zj l y p).length<=420:=by
 by_cases h0:l.length=0
 .rw [Qd9 h0];simp[Zj]
 .have d:=h.few y p (l.length-1) (by omega)
  have e:l=l.take (l.length-1)++[gl l (l.length-1)]:=by
   have:=QB (l:=l) (i:=l.length-1) (by omega)
   rw[<-this,show l.length-1+1=l.length by omega,Qe5]
  have c:(Zj [gl l (l.length-1)] y p).length<=120:=by
   have a:=((KI _).1 (h.hl.one _ (J9 (l:=l) (i:=l.length-1) (by omega)))).2.2.2.2.2;have:=a.1
   unfold Zj;rw[Qi7]
   split
   .simpa using this
   .simp
  have b:=congrArg (λm=>(Zj m y p).length) e;simp only[Q4l,Qb5]at b
  omega
def VC(A:List Rect)(hs:List Rg_)(y:Int)(p:Int->Bool):Sq:=λu v=>Q8 A u v&&Q8 (Zj hs y p) u v
theorem UI(A:List Rect)(hs:List Rg_)(y:Int)(p:Int->Bool):Fin (VC A hs y p):=UJ (QX A) (QX _)
theorem Xv{A:List Rect}{hs:List Rg_}{y:Int}{p:Int->Bool}{u v:Int}(h:VC A hs y p u v=true):Q8 A u v=true:=by
 unfold VC at h;rw[Qa4]at h
 exact h.1
variable {F:Nat} {cs:List Crop} {hs:List Rg_} {zs:List A2_} {y c d:Int} {A:List Rect}
theorem PK(hF:Q7<=F)(h:EV y cs hs zs c A){p:Place}(e1:p.world_.history_=hs)(e2:p.world_.year_=y)(e3:p.t_=A){n:Int}(n0:0<=n)(n1:n<=1000){q:Int->Option Bool}(s:Int->Bool)(hq:∀f∈hs,q f.c_=some (s f.c_)):UZ F p n q=some (cn (VC A hs (y-n) s)):=by
 subst e1 e2 e3;have e:=h.yr
 unfold UZ;have b:=Q4k h.hb (p.world_.year_-n) s
 have:=Z2T h.few (p.world_.year_-n) s
 exact Q9 (Y8 (by omega) (by omega)) (Q4 (Z2q hF h.few.hl _ s hq) (Q4 (WH hF h.tr.val.le8 (by omega) h.tr.val.pos (λr a=>(b r a).2.1) rfl rfl (k:=λu v=>u&&v) rfl (ME F)) rfl))
end
end Go.Ab
end
section
namespace Go.Ab
set_option maxRecDepth 20000
noncomputable section
def vX(cs:List Crop)(f:Int)(k:Int):Bool:=(gl cs k.toNat).f_==f
def yz(cs:List Crop)(f:Int)(k:Int):Bool:=(gl cs k.toNat).f_ != f
def Vp(A:List Rect)(hs:List Rg_)(cs:List Crop)(y f:Int):Nat->TS
 |0=>⟨Q8 A,λ_ _=>false⟩
 |k+1=>⟨λu v=>(Vp A hs cs y f k).Y u v&&VC A hs (y-((k+1:Nat):Int)) (vX cs f) u v,λu v=>(Vp A hs cs y f k).N u v||VC A hs (y-((k+1:Nat):Int)) (yz cs f) u v⟩
theorem ML(A:List Rect)(hs:List Rg_)(cs:List Crop)(y f:Int):∀k,TIn A (Vp A hs cs y f k)
 |0=>⟨QX A,Cz,λ_ _ h=>h,λ_ _ h=>by cases h⟩
 |k+1=>by
  have a:=ML A hs cs y f k;refine⟨UJ a.fY (UI _ _ _ _),vQ a.fN (UI _ _ _ _),λu v h=>?_,λu v h=>?_⟩
  .unfold Vp at h
   simp only[Qa4]at h;exact a.sY u v h.1
  .unfold Vp at h
   simp only[Qi4]at h;rcases h with h|h
   .exact a.sN u v h
   .exact Xv h
variable {F:Nat} {cs:List Crop} {hs:List Rg_} {zs:List A2_} {y c d:Int} {A:List Rect}
theorem EV.kn_val(h:EV y cs hs zs c A)(k:Int)(p:Int->Bool):K7 (cn (VC A hs k p)):=h.tr.sub (UI _ _ _ _) λ_ _ h=>Xv h
theorem Q4F(hF:Q7<=F)(h:EV y cs hs zs c A){p:Place}(e1:p.world_.history_=hs)(e2:p.world_.year_=y)(e3:p.t_=A)(e4:p.world_.crops_=cs)(e5:p.line_.c_=c){n:Nat}(n0:1<=n)(n1:n<=100):
  Mq F p (n:Int)=some ((Vp A hs cs y (gl cs c.toNat).f_ (n-1)).sqs A):=by
 have j:=hF;unfold Q7 at j
 have e:=h.crop;unfold Mq
 have b:∀(m f k:Nat),k+m=n-1->m<f->Y3 (λagain (z:(List Rect)×(List Rect)×Int)=>GE F p (n:Int) again z.1 z.2.1 z.2.2) f (cn (Vp A hs cs y (gl cs c.toNat).f_ k).Y,cn (Vp A hs cs y (gl cs c.toNat).f_ k).N,((k:Nat):Int)+1)=some ((Vp A hs cs y (gl cs c.toNat).f_ (n-1)).sqs A):=by
  intro m
  induction m with
  |zero=>
   intro f k r s;obtain⟨f,rfl⟩:∃g,f=g+1:=⟨f-1,by omega⟩
   show GE F p (n:Int) (Y3 _ f) _ _ (((k:Nat):Int)+1)=_;unfold GE
   refine Z8 (Qa7 (by omega)) ?_;unfold Lz
   rw[show n-1=k by omega];exact Q4 (Lx hF e3 h.tr (ML _ _ _ _ _ k)) rfl
  |succ m ih=>
   intro f k r s;obtain⟨f,rfl⟩:∃g,f=g+1:=⟨f-1,by omega⟩
   show GE F p (n:Int) (Y3 _ f) _ _ (((k:Nat):Int)+1)=_;unfold GE
   have a:=ML A hs cs y (gl cs c.toNat).f_ k;have q:∀g∈hs,Mp F g.c_ p (gl p.world_.crops_ p.line_.c_.toNat).f_=some (vX cs (gl cs c.toNat).f_ g.c_):=λg i=>by
    unfold Mp;rw[e4,e5]
    exact Q9 (h.hc g i) rfl
   have t:∀g∈hs,Mo F g.c_ p (gl p.world_.crops_ p.line_.c_.toNat).f_=some (yz cs (gl cs c.toNat).f_ g.c_):=λg i=>by
    unfold Mo;rw[e4,e5]
    exact Q9 (h.hc g i) rfl
   have o:=h.kn_val (y-(((k:Nat):Int)+1)) (vX cs (gl cs c.toNat).f_);have l:=h.kn_val (y-(((k:Nat):Int)+1)) (yz cs (gl cs c.toNat).f_)
   have w:=ih f (k+1) (by omega) (by omega);refine U3 (Qa5 (by omega)) (Q4 (PK hF h e1 e2 e3 (by omega) (by omega) _ q) (Q4 (PK hF h e1 e2 e3 (by omega) (by omega) _ t) (Q4 (WH hF (a.vY h.tr).le8 o.le8 (a.vY h.tr).pos o.pos (ZY a.fY) (ZY (UI _ _ _ _)) (k:=λu v=>u&&v) rfl (ME F)) (Q4 (WH hF (a.vN h.tr).le8 l.le8 (a.vN h.tr).pos l.pos (ZY a.fN) (ZY (UI _ _ _ _)) (k:=λu v=>u||v) rfl (gm F)) (Q9 (Y8 (by omega) (by omega)) ?_)))))
   exact w
 refine Q9 (by rw[e4,e5];exact e) ?_;have:=b (n-1) F 0 (by omega) (by omega)
 show Y3 _ F (p.t_,[],(1:Int))=_;rw[e3]
 rw[show(Vp A hs cs y (gl cs c.toNat).f_ 0)=⟨Q8 A,λ_ _=>false⟩from rfl]at this;simp only[XY h.tr.val,JL]at this
 exact this
def VG(A:List Rect)(b:Bool):TS:=if b then⟨Q8 A,λ_ _=>false⟩else⟨λ_ _=>false,Q8 A⟩
theorem Pe(A:List Rect)(b:Bool):TIn A (VG A b):=by
 cases b
 .exact ⟨Cz,QX A,λ_ _ h=>(by cases h),λ_ _ h=>h⟩
 .exact ⟨QX A,Cz,λ_ _ h=>h,λ_ _ h=>by cases h⟩
theorem Q3v(A:List Rect)(b:Bool):(VG A b).O A=λ_ _=>false:=by
 funext u v
 cases b<;>simp[VG,TS.O]
theorem Mk{p:Place}(e3:p.t_=A)(hv:K7 A)(b:Bool):JV F p b=some ((VG A b).sqs A):=by
 unfold JV TS.sqs;rw[Q3v,JL,e3]
 cases b
 .refine Z8 rfl ?_
  show some _=some (Squares.mk (cn λ_ _=>false) (cn (Q8 A)) []);rw[JL,XY hv]
 .refine U3 rfl ?_
  show some _=some (Squares.mk (cn (Q8 A)) (cn λ_ _=>false) []);rw[JL,XY hv]
def Uh(A:List Rect)(S:Sq):TS:=⟨λu v=>Q8 A u v&&S u v,λu v=>Q8 A u v && !S u v⟩
theorem Q2z{A:List Rect}{S:Sq}(h:Fin S):TIn A (Uh A S):=by
 refine⟨UJ (QX A) h,XM (QX A) h,λu v a=>?_,λu v a=>?_⟩
 .simp only[Uh,Qa4]at a
  exact a.1
 .simp only[Uh,Qa4]at a
  exact a.1
theorem Z4b(A:List Rect)(S:Sq):(Uh A S).O A=λ_ _=>false:=by
 funext u v
 simp only[Uh,TS.O]
 cases Q8 A u v<;>cases S u v<;>rfl
theorem gp(hF:Q7<=F){p:Place}(e3:p.t_=A)(ht:TR A){S:Sq}(h:Fin S):PE F p (cn λu v=>Q8 A u v&&S u v)=some ((Uh A S).sqs A):=by
 unfold PE TS.sqs;have e:=UJ (QX A) h
 have b:=ht.sub e λu v a=>by
  simp only[Qa4]at a;exact a.1
 rw[Z4b,JL,e3];refine Q4 (WH hF ht.val.le8 b.le8 ht.val.pos b.pos rfl (ZY e) (k:=λu v=>u && !v) rfl (Lu F)) ?_
 rw[show(λu v=>Q8 A u v && !(Q8 A u v&&S u v))=(Uh A S).N from ?_]
 .rfl
 .funext u v
  simp only[Uh]
  cases Q8 A u v<;>cases S u v<;>rfl
end
end Go.Ab
end
section
namespace Go.Ab
set_option maxRecDepth 20000
noncomputable section
theorem qw{R:Type}{body:(Int->Option R)->Int->Option R}{c y:Option R}(N:Nat)(p:Nat->Bool)(bad:∀again (i:Nat),i<N->p i=true->body again (i:Int)=c)(good:∀again (i:Nat) z,i<N->p i=false->again ((i:Int)+1)=z->body again (i:Int)=z)(stop:∀again,body again (N:Int)=y){F:Nat}(hF:N<F):Y3 body F 0=if(List.range N).any p=true then c else y:=by
 refine Qa (λz:Int=>∃i:Nat,z=i/\i<=N/\∀j,j<i->p j=false) (λz=>N-z.toNat) (λagain z e f=>?_) ⟨0,rfl,Qc2 _,λj h=>absurd h (Qd7 j)⟩ (by simp;omega);obtain⟨i,rfl,g,a⟩:=e
 rcases Qc8 i N with h|h
 .cases hpi:p i with
  |true=>
   rw[Qa2 (Qd3.2 ⟨i,Qe4.2 h,hpi⟩)];exact bad again i h hpi
  |false=>
   refine good again i _ h hpi (f _ ⟨i+1,by omega,h,λj b=>?_⟩ (by omega))
   by_cases hji:j=i
   .rw [hji];exact hpi
   .exact a j (by omega)
 .have:i=N:=by omega
  subst this;rw[Qa1 (by rw[Qf7,Qf0];intro j b;rw[a j (Qe4.1 b)];simp)]
  exact stop again
theorem Z2F{α:Type}[Emb α](l:List α){i k:Nat}(h:k<i):gl (l.take i) k=gl l k:=by
 unfold gl;rw[Qa0,Qj4,Qa2 h, <-Qa0]
end
end Go.Ab
end
section
namespace Go.Ab
set_option maxRecDepth 20000
noncomputable section
end
end Go.Ab
end
section
namespace Go.Ab
set_option maxRecDepth 20000
noncomputable section
theorem Q9S{F:Nat}(hF:Q7<=F)(s:ByteArray):Ta F s=some (QV s):=by
 unfold Q7 at hF;unfold Ta
 have g:QV s=false->Jy F s true=some (QV s):=λh=>by unfold Jy;rw[h];exact U3 rfl rfl
 refine Z9 (λh=>g ?_) (λh=>?_)
 .have h:=Qa6 h
  unfold QV;rw[Qa7 (by omega:¬1<=s.size)];rfl
 have t:1<=s.size:=by have:=Qa8 h;omega
 refine Z9 (λh=>g ?_) (λh=>?_)
 .have h:=Qa6 h
  unfold QV;rw[Qa7 (by omega:¬s.size<=12)];simp
 have r:s.size<=12:=by have:=Qa8 h;omega
 have n:QV s=decide (∀i,i<s.size->(Yy (K9 s (i:Nat))||(!decide (i=0)&&Ug (K9 s (i:Nat))))=true):=by
  unfold QV;rw[Qa5 t,Qa5 r];simp
 have j:Yy (K9 s (0:Int))=false->QV s=false:=λh=>by
  rw[n,Qe2];intro e
  have:=e 0 (by omega)
  rw[show(((0:Nat):Int))=0 from rfl,h]at this;simp at this
 refine Q9 (by omega) (Z9 (λh=>g (j ?_)) (λh=>?_))
 .have h:=Qa6 h
  unfold Yy;rw[Qa7 (by omega)];rfl
 have u:=Qa8 h;refine Q9 (by omega) ?_
 by_cases h4:122<K9 s (0:Int)
 .rw [Qa5 h4]
  refine g (j ?_);unfold Yy;rw[Qa7 (by omega:¬K9 s (0:Int)<=122)];simp
 rw[Qa7 h4];have o:Yy (K9 s (0:Int))=true:=by
  unfold Yy;rw[Qa5 (by omega),Qa5 (by omega)];rfl
 unfold Jy;refine Z8 rfl ?_
 refine(qw (c:=some false) (y:=some true) s.size (λi=> !(Yy (K9 s (i:Nat))||Ug (K9 s (i:Nat)))) (λa i l b=>?_) (λa i z l b n=>?_) (λa=>?_) (by omega)).trans ?_
 .rw [Qh9,Qd4]at b
  unfold Yy Ug at b;unfold SZ
  have k2:WS F (i:Int) a true=some false:=by unfold WS;exact U3 rfl rfl
  refine U3 (Qa5 (by omega)) (Q9 (by omega) ?_);have q:gd (0<=(i:Int)/\(i:Int)<((s.size:Nat):Int)) (br (decide (K9 s (i:Nat)<48)) (WS F (i:Int) a true) (gd (0<=(i:Int)/\(i:Int)<((s.size:Nat):Int)) (WS F (i:Int) a (decide (57<K9 s (i:Nat))))))=some false:=by
   refine Q9 (by omega) (Z9 (λ_=>k2) (λf=>Q9 (by omega) ?_));have f:=Qa8 f
   rw[Qa5 (p:=57<K9 s (i:Nat))]
   .exact k2
   .have k:=b.2
    rw[Qa5 (by omega:48<=K9 s (i:Nat)),Qc6,Qe2]at k;omega
  refine Z9 (λ_=>q) (λf=>Q9 (by omega) ?_);refine U3 ?_ q
  have f:=Qa8 f;have k:=b.1
  rw[Qa5 (by omega:97<=K9 s (i:Nat)),Qc6,Qe2]at k;exact Qa5 (by omega)
 .rw [Ql4,Qi4]at b
  unfold Yy Ug at b;rw[Qa4,Qa4,Qb7,Qb7,Qb7,Qb7]at b
  unfold SZ;have k2:WS F (i:Int) a false=z:=by unfold WS;exact Z8 rfl (Q9 (Y8 (by omega) (by omega)) n)
  refine U3 (Qa5 (by omega)) (Q9 (by omega) ?_);refine Z9 (λf=>?_) (λf=>?_)
  .have f:=Qa6 f
   refine Q9 (by omega) (Z8 (Qa7 (by omega)) (Q9 (by omega) ?_));rw[Qa7 (p:=57<K9 s (i:Nat)) (by omega)];exact k2
  .have f:=Qa8 f
   refine Q9 (by omega) (Z9 (λk=>?_) (λk=>k2));have k:=Qa6 k
   refine Q9 (by omega) (Z8 (Qa7 (by omega)) (Q9 (by omega) ?_));rw[Qa7 (p:=57<K9 s (i:Nat)) (by omega)];exact k2
 .unfold SZ
  exact Z8 (Qa7 (by omega)) rfl
 .rw [n]
  split
  .rename_i m
   congr 1
   symm
   rw[Qe2];intro e
   obtain⟨i,l,b⟩:=Qd3.1 m;have:=e i (Qe4.1 l)
   rw[Qh9,Qd4]at b;rw[b.1,b.2]at this
   simp at this
  .rename_i m
   congr 1
   symm
   rw[Qb7];intro i l
   rw[Qf7,Qf0]at m;have:=m i (Qe4.2 l)
   rw[Qf7,Ql4]at this
   by_cases h0:i=0
   .subst h0;rw[show(((0:Nat):Int))=0 from rfl,o];rfl
   .rw [Qa7 h0];simpa using this
theorem Q7I{body:(Int->Option Int)->Int->Option Int}(N:Nat)(p:Nat->Int)(bad:∀again (i:Nat),i<N->p i≠0->body again (i:Int)=some (p i))(good:∀again (i:Nat) z,i<N->p i=0->again ((i:Int)+1)=z->body again (i:Int)=z)(stop:∀again,body again (N:Int)=some 0){F:Nat}(hF:N<F):Y3 body F 0=some ((((List.range N).map p).find? λc=>c != 0).getD 0):=by
 refine Qa (λz:Int=>∃i:Nat,z=i/\i<=N/\∀j,j<i->p j=0) (λz=>N-z.toNat) (λagain z n l=>?_) ⟨0,rfl,Qc2 _,λj h=>absurd h (Qd7 j)⟩ (by simp;omega);obtain⟨i,rfl,o,k⟩:=n
 rcases Qc8 i N with h|h
 .by_cases hpi:p i=0
  .refine good again i _ h hpi (l _ ⟨i+1,by omega,h,λj a=>?_⟩ (by omega))
   by_cases hji:j=i
   .rw [hji];exact hpi
   .exact k j (by omega)
  .rw [bad again i h hpi]
   congr 1
   have e:List.range N=List.range i++i::(List.range N).drop (i+1):=by
    have m:(List.range N).take i=List.range i:=by rw[List.take_range];congr 1;omega
    have b:=Qh2 i (List.range N);rw[m,Qk1 (by simpa using h)]at b
    rw[List.getElem_range]at b;exact b.symm
   have g:(((List.range i).map p).find? λc=>c != 0)=none:=Qg9.2 λc f=>by
    obtain⟨j,a,rfl⟩:=Qc7.1 f;rw[k j (Qe4.1 a)];simp
   rw[e,Qe0,List.find?_append,g,Option.none_or,Qg4,Qv1];have:(p i != 0)=true:=by simpa using hpi
   rw[this];rfl
 .have:i=N:=by omega
  subst this;rw[stop again]
  congr 1
  have g:(((List.range i).map p).find? λc=>c != 0)=none:=Qg9.2 λc f=>by
   obtain⟨j,a,rfl⟩:=Qc7.1 f;rw[k j (Qe4.1 a)];simp
  rw[g];rfl
def YA(l:List Crop)(i:Nat):Int:=
 if QV (gl l i).n_=false then 5 else if(gl l i).f_<0\/40<(gl l i).f_ then 2 else if(gl l i).m_<0\/31<(gl l i).m_ then 14
 else if 0<i/\(Vu (gl l i).n_ (gl l (i-1)).n_||Zl (gl l i).n_ (gl l (i-1)).n_)=true then 6 else 0
def crC(l:List Crop):Int:=if 40<l.length then 1 else(((List.range l.length).map (YA l)).find? λc=>c != 0).getD 0
def Pi(l:List Crop):Prop:=∀x∈l,x.n_.size<=4294967296
theorem Z4j{l:List Crop}{i:Nat}(h:QV (gl l i).n_=false):YA l i=5:=by unfold YA;rw[Qa2 h]
theorem Z4k{l:List Crop}{i:Nat}(h:QV (gl l i).n_=true)(h2:(gl l i).f_<0\/40<(gl l i).f_):YA l i=2:=by
 unfold YA;rw[Qa1 (by rw[h];simp),Qa2 h2]
theorem Z4l{l:List Crop}{i:Nat}(h:QV (gl l i).n_=true)(h2:¬((gl l i).f_<0\/40<(gl l i).f_))(h3:(gl l i).m_<0\/31<(gl l i).m_):YA l i=14:=by
 unfold YA;rw[Qa1 (by rw[h];simp),Qa1 h2,Qa2 h3]
theorem Z4i{l:List Crop}{i:Nat}(h:QV (gl l i).n_=true)(h2:¬((gl l i).f_<0\/40<(gl l i).f_))(h3:¬((gl l i).m_<0\/31<(gl l i).m_))(h4:0<i/\(Vu (gl l i).n_ (gl l (i-1)).n_||Zl (gl l i).n_ (gl l (i-1)).n_)=true):YA l i=6:=by
 unfold YA;rw[Qa1 (by rw[h];simp),Qa1 h2,Qa1 h3,Qa2 h4]
theorem Q2I{l:List Crop}{i:Nat}(h:QV (gl l i).n_=true)(h2:¬((gl l i).f_<0\/40<(gl l i).f_))(h3:¬((gl l i).m_<0\/31<(gl l i).m_))(h4:¬(0<i/\(Vu (gl l i).n_ (gl l (i-1)).n_||Zl (gl l i).n_ (gl l (i-1)).n_)=true)):YA l i=0:=by
 unfold YA;rw[Qa1 (by rw[h];simp),Qa1 h2,Qa1 h3,Qa1 h4]
theorem Q2G{F:Nat}(hF:Q7<=F){l:List Crop}(hn:Pi l):XV F l=some (crC l):=by
 have v:=hF;unfold Q7 at hF
 unfold XV crC;refine Z9 (λh=>?_) (λh=>?_)
 .rw [Qa2 (by have:=Qa6 h;omega)]
 have w:l.length<=40:=by have:=Qa8 h;omega
 rw[Qa1 (by omega)];have e:∀(a:Int->Option Int) (i:Nat),i<l.length->XU F l a (i:Int)=if YA l i=0 then a ((i:Int)+1)else some (YA l i):=by
  intro a i k;unfold XU
  simp only[Qa3];have hs:=hn _ (J9 k)
  refine U3 (Qa5 (by omega)) (Q9 (by omega) (Q4 (Li (by omega) hs) ?_));refine Z9 (λb=>?_) (λb=>?_)
  .have b:QV (gl l i).n_=false:=by simpa using b
   rw[Z4j b,Qa1 (by decide)]
  have b:QV (gl l i).n_=true:=by simpa using b
  have j:(gl l i).f_<0\/40<(gl l i).f_->Gh F l (i:Int) a true=if YA l i=0 then a ((i:Int)+1)else some (YA l i):=λh=>by
   rw[Z4k b h,Qa1 (by decide)];unfold Gh
   exact U3 rfl rfl
  refine Z9 (λm=>j (.inl (Qa6 m))) (λm=>?_);have m:=Qa8 m
  by_cases h3:40<(gl l i).f_
  .rw [Qa5 h3];exact j (.inr h3)
  have n:¬((gl l i).f_<0\/40<(gl l i).f_):=by omega
  rw[Qa7 h3];unfold Gh
  simp only[Qa3];refine Z8 rfl ?_
  have g:(gl l i).m_<0\/31<(gl l i).m_->Gg F l (i:Int) a true=if YA l i=0 then a ((i:Int)+1)else some (YA l i):=λh=>by
   rw[Z4l b n h,Qa1 (by decide)];unfold Gg
   exact U3 rfl rfl
  refine Z9 (λp=>g (.inl (Qa6 p))) (λp=>?_);have p:=Qa8 p
  by_cases h5:31<(gl l i).m_
  .rw [Qa5 h5];exact g (.inr h5)
  have r:¬((gl l i).m_<0\/31<(gl l i).m_):=by omega
  rw[Qa7 h5];unfold Gg
  simp only[Qa3];refine Z8 rfl ?_
  refine Z9 (λf=>?_) (λf=>?_)
  .have f:0<i:=by have:=Qa6 f;omega
   have t:((i:Int)-1).toNat=i-1:=by omega
   refine Q9 (Y8 (by omega) (by omega)) (Q9 (by omega) ?_);rw[t]
   unfold Gf;refine Z9 (λo=>?_) (λo=>?_)
   .rw [Z4i b n r ⟨f,o⟩,Qa1 (by decide)]
   .rw [Q2I b n r (λq=>by rw[q.2]at o;cases o),Qa2 rfl]
    exact Q9 (Y8 (by omega) (by omega)) rfl
  .have f:¬0<i:=by have:=Qa8 f;omega
   rw[Q2I b n r (λq=>f q.1),Qa2 rfl];unfold Gf
   exact Z8 rfl (Q9 (Y8 (by omega) (by omega)) rfl)
 refine Q7I l.length (YA l) (λa i k s=>?_) (λa i z k s u=>?_) (λa=>?_) (by omega)
 .rw [e a i k,Qa1 s]
 .rw [e a i k,Qa2 s];exact u
 .unfold XU
  exact Z8 (Qa7 (by omega)) rfl
theorem CropT.nm{l:List Crop}(h:CropT l):Pi l:=λx e=>by
 obtain⟨i,a,rfl⟩:=Qc3 e;have b:=(h.one i a).1
 have:=h.len
 rw[XJ l i a]at b;rw[b]
 have:=(Q2H i (by omega)).2
 omega
theorem CropT.crC{l:List Crop}(h:CropT l):crC l=0:=by
 have a:=Z4g (F:=Q7) (Qb3 _) h;rw[Q2G (Qb3 _) h.nm]at a
 exact Qe3 a
end
end Go.Ab
end
section
end
section
namespace Go.Ab
set_option maxRecDepth 20000
noncomputable section
def TD:Nat->Term->Prop
 |0,_=>False
 |d+1,t=>Q5 t.op_/\Q5 t.num_/\t.kids_.length<=1000000/\∀k∈t.kids_,TD d k
theorem TD.op{d:Nat}{t:Term}(h:TD d t):Q5 t.op_:=by
 cases d with
 |zero=>exact h.elim
 |succ d=>exact h.1
def QI:Nat->Term->Nat
 |0,_=>0
 |d+1,t=>1+(t.kids_.map (QI d)).sum
theorem Q5g{d:Nat}{t:Term}(h:TD d t):1<=QI d t:=by
 cases d with
 |zero=>exact h.elim
 |succ d=>unfold QI;omega
def Wq(d:Nat)(t:Term)(i:Nat):Nat:=1+((t.kids_.take i).map (QI d)).sum
theorem LK{d i:Nat}{t:Term}(h:i<t.kids_.length):Wq d t (i+1)=Wq d t i+QI d (gl t.kids_ i):=by
 unfold Wq;rw[QB h,Qe0,Qv4];simp;omega
theorem LL{d i:Nat}{t:Term}:Wq d t i<=QI (d+1) t:=by
 unfold Wq QI;have:(t.kids_.map (QI d)).sum=((t.kids_.take i).map (QI d)).sum+((t.kids_.drop i).map (QI d)).sum:=by
  rw[<-Qv4, <-Qe0,Qh2]
 omega
theorem gD{d:Nat}{t:Term}:Wq d t t.kids_.length=QI (d+1) t:=by unfold Wq QI;rw[Qe5]
theorem gt:∀(d:Nat) {F:Nat} (_:Q7+d<=F) {t:Term} (_:TD d t) {m:Int} (_:0<=m) (_:m<=40),∃v,Ja F t m=some v/\1<=v/\v<=m+1/\(m<v↔m<(QI d t:Int))/\((QI d t:Int)<=m->v=QI d t)
 |0,_,_,_,h,_,_,_=>h.elim
 |d+1,0,hF,_,_,_,_,_=>by unfold Q7 at hF;omega
 |d+1,F+1,hF,t,h,m,m0,m1=>by
  obtain⟨_,_,G,r⟩:=h;show ∃v,MC F (Ja F) t m=some v/\_
  unfold MC;have e : Q7+d<=F:=by omega
  have x:=e;unfold Q7 at x
  suffices hs:∀ (n:Nat) (i:Nat) (v:Int),t.kids_.length-i<n->i<=t.kids_.length->1<=v->v<=m+1->(v<=m->v=(Wq d t i:Int))->(m<v->m<(Wq d t i:Int)) ->
    ∃u,Y3 (λagain (z:Int×Int)=>MB F (Ja F) t m again z.1 z.2) n (v,(i:Int))=some u/\1<=u/\u<=m+1/\(m<u↔m<(QI (d+1) t:Int))/\((QI (d+1) t:Int)<=m->u=QI (d+1) t) by
   refine hs F 0 1 (by omega) (by omega) (by omega) (by omega) (λ_=>by simp[Wq]) (λh=>?_);simp[Wq];omega
  intro n
  induction n with
  |zero=>intro i v h;omega
  |succ n ih=>
   intro i v J I q o g f;show ∃u,MB F (Ja F) t m (Y3 _ n) v (i:Int)=some u/\_
   unfold MB
   by_cases hil:i<t.kids_.length
   .rw [show decide ((i:Int)<((t.kids_.length:Nat):Int))=true from Qa5 (by omega)]
    have b:=r _ (J9 hil);have a:=b.op
    by_cases hv:m<v
    .refine ⟨v,?_,q,o,?_,λh=>?_⟩
     .refine U3 rfl (Q9 (by omega) (Q9 a (U3 (Qa5 hv) rfl)))
     .exact ⟨λ_=>by have:=f hv;have:=LL (d:=d) (i:=i) (t:=t);omega,λ_=>hv⟩
     .have:=f hv;have:=LL (d:=d) (i:=i) (t:=t);omega
    .obtain ⟨w,s,K,H,l,E⟩:=gt d e b (m:=m-v) (by omega) (by omega)
     have p:=LK (d:=d) hil;have D:=g (by omega)
     have k:=ih (i+1) (v+w) (by omega) (by omega) (by omega) (by omega) (λh=>by
      have:=E (by
       have:¬m-v<w:=by omega
       have:=mt l.2 this
       omega)
      omega) (λh=>by
      have:=l.1 (by omega)
      omega)
     obtain⟨u,B,C⟩:=k;refine⟨u,?_,C⟩
     refine U3 rfl (Q9 (by omega) (Q9 a (Z8 (Qa7 hv) (Q9 (Y8 (by omega) (by omega)) (Q4 s (Q9 (Y8 (by omega) (by omega)) (Q9 (Y8 (by omega) (by omega)) ?_)))))));rw[<-B];congr 1
   .have j:i=t.kids_.length:=by omega
    subst j;rw[gD]at g f
    refine⟨v,Z8 (Qa7 (by omega)) rfl,q,o,⟨f,λh=>?_⟩,λh=>?_⟩
    .by_cases hv:m<v
     .exact hv
     .have:=g (by omega);omega
    .by_cases hv:m<v
     .have:=f hv;omega
     .exact g (by omega)
theorem bk:∀(d:Nat) (_:d<=2000000) {F:Nat} (_:Q7+d<=F) {t:Term} (_:TD d t),∃v,Jt F t=some v/\1<=v/\v<=41*d/\(40<v↔40<(QI d t:Int))/\((QI d t:Int)<=40->v=QI d t)
 |0,_,_,_,_,h=>h.elim
 |d+1,_,0,hF,_,_=>by unfold Q7 at hF;omega
 |d+1,hd,F+1,hF,t,h=>by
  obtain⟨_,_,D,s⟩:=h;show ∃v,SB F (Jt F) t=some v/\_
  unfold SB;have e : Q7+d<=F:=by omega
  have B:=e;unfold Q7 at B
  suffices hs:∀ (n:Nat) (i:Nat) (v:Int),t.kids_.length-i<n->i<=t.kids_.length->1<=v->v<=41*((d+1:Nat):Int)->(v<=40->v=(Wq d t i:Int))->(40<v->40<(Wq d t i:Int)) ->
    ∃u,Y3 (λagain (z:Int×Int)=>SA F (Jt F) t again z.1 z.2) n (v,(i:Int))=some u/\1<=u/\u<=41*((d+1:Nat):Int)/\(40<u↔40<(QI (d+1) t:Int))/\((QI (d+1) t:Int)<=40->u=QI (d+1) t) by
   exact hs F 0 1 (by omega) (by omega) (by omega) (by omega) (λ_=>by simp[Wq]) (λh=>by omega)
  intro n
  induction n with
  |zero=>intro i v h;omega
  |succ n ih=>
   intro i v H G q o f g;show ∃u,SA F (Jt F) t (Y3 _ n) v (i:Int)=some u/\_
   unfold SA
   by_cases hil:i<t.kids_.length
   .rw [show decide ((i:Int)<((t.kids_.length:Nat):Int))=true from Qa5 (by omega)]
    have b:=s _ (J9 hil);have a:=b.op
    have p:=LK (d:=d) hil
    by_cases hv:v<=40
    .obtain ⟨w,x,I,E,j,r⟩:=bk d (by omega) e b
     have C:=f hv;obtain⟨u,l,m⟩:=ih (i+1) (v+w) (by omega) (by omega) (by omega) (by omega) (λh=>by
      have:=r (by
       have:¬40<w:=by omega
       have:=mt j.2 this
       omega)
      omega) (λh=>by
      by_cases h40:40<w
      .have:=j.1 h40;omega
      .have:=r (by have:=mt j.2 h40;omega);omega)
     refine⟨u,?_,m⟩;refine U3 rfl (Q9 (by omega) (Q9 a (U3 (Qa5 hv) (Q4 x (Q9 (Y8 (by omega) (by omega)) ?_)))))
     unfold BO;refine Q9 (Y8 (by omega) (by omega)) ?_
     rw[<-l];congr 1
    .obtain ⟨u,l,m⟩:=ih (i+1) v (by omega) (by omega) q o (λh=>by omega) (λh=>by have:=g h;omega)
     refine⟨u,?_,m⟩;refine U3 rfl (Q9 (by omega) (Q9 a (Z8 (Qa7 hv) ?_)))
     unfold BO;refine Q9 (Y8 (by omega) (by omega)) ?_
     rw[<-l];congr 1
   .have k:i=t.kids_.length:=by omega
    subst k;rw[gD]at f g
    refine⟨v,Z8 (Qa7 (by omega)) rfl,q,o,⟨g,λh=>?_⟩,λh=>?_⟩
    .by_cases hv:40<v
     .exact hv
     .have:=f (by omega);omega
    .by_cases hv:40<v
     .have:=g hv;omega
     .exact f (by omega)
def YK(n:Int):Bool:=n==1||(n==2||(n==4||(n==8||n==16)))
theorem zJ(F:Nat)(n:Int):Xf F n=some (YK n):=by
 unfold Xf KC YK
 cases h1:(n==(1:Int))<;>cases h2:(n==(2:Int))<;>cases h3:(n==(4:Int))<;>cases h4:(n==(8:Int))<;>rfl
theorem kW(F:Nat)(n:Int):UX F n=some (YK n):=by
 unfold UX
 by_cases h:1<=n/\n<=16
 .have f:n=1\/n=2\/n=3\/n=4\/n=5\/n=6\/n=7\/n=8\/n=9\/n=10\/n=11\/n=12\/n=13\/n=14\/n=15\/n=16:=by omega
  rcases f with rfl|rfl|rfl|rfl|rfl|rfl|rfl|rfl|rfl|rfl|rfl|rfl|rfl|rfl|rfl|rfl<;>rfl
 .have b:YK n=false:=by
   unfold YK;simp only[Qd4,Qo8]
   omega
  rw[b];refine Z9 (λe=>Z9 (λa=>?_) (λ_=>rfl)) (λ_=>rfl)
  exact absurd ⟨Qa6 e,Qa6 a⟩ h
end
end Go.Ab
end
section
namespace Go.Ab
set_option maxRecDepth 20000
noncomputable section
def Wd(t:Term):Bool:=
 if t.op_=1 then t.num_==0&&(t.more_==0&&t.kids_.length==0)
 else if t.op_=2 then(decide (0<=t.num_)&&decide (t.num_<=39))&&(t.more_==0&&t.kids_.length==0)
 else if t.op_=3 then(decide (0<=t.num_)&&decide (t.num_<=40))&&(t.more_==0&&t.kids_.length==0)
 else if t.op_=4 then YK t.num_&&(t.more_==0&&t.kids_.length==0)
 else if t.op_=5 then(decide (0<=t.num_)&&decide (t.num_<=15))&&(t.more_==0&&t.kids_.length==0)
 else if t.op_=6 then(decide (2<=t.num_)&&decide (t.num_<=10))&&(t.more_==0&&t.kids_.length==0)
 else if t.op_=7 then(decide (1<=t.num_)&&decide (t.num_<=10))&&(YK t.more_&&t.kids_.length==0)
 else if t.op_=8 then(decide (1<=t.num_)&&decide (t.num_<=10))&&(t.more_==0&&t.kids_.length==0)
 else if t.op_=9\/t.op_=10 then t.num_==0&&(t.more_==0&&decide (1<=t.kids_.length))
 else if t.op_=11 then t.num_==0&&(t.more_==0&&t.kids_.length==1)
 else false
def Yb:Nat->Term->Bool
 |0,_=>false
 |d+1,t=>Wd t&&t.kids_.all (Yb d)
def YP:Nat->Term->Nat
 |0,_=>0
 |d+1,t=>1+t.kids_.foldl (λn k=>max n (YP d k)) 0
def YZ:Nat->Nat->Term->Bool
 |0,_,_=>false
 |d+1,n,t=> !decide (n=0)&&(Wd t&&t.kids_.all (YZ d (n-1)))
theorem vH{α:Type}(f:α->Nat):∀(l:List α) (a n:Nat),l.foldl (λn k=>max n (f k)) a<=n↔a<=n/\∀k∈l,f k<=n
 |[],a,n=>by simp
 |x::l,a,n=>by
  rw[Qp0,vH f l];simp only[Qe1,forall_eq_or_imp]
  constructor
  .rintro ⟨e,b⟩;exact⟨by omega,by omega,b⟩
  .rintro ⟨e,b,g⟩;exact⟨by omega,g⟩
theorem RE:∀(d n:Nat) (t:Term),TD d t->YZ d n t=(decide (YP d t<=n)&&Yb d t)
 |0,_,_,h=>h.elim
 |d+1,n,t,h=>by
  unfold YZ YP Yb;have b:=h.2.2.2
  cases n with
  |zero=>simp
  |succ n=>
   have f:t.kids_.all (YZ d (n+1-1))=(t.kids_.all (λk=>decide (YP d k<=n))&&t.kids_.all (Yb d)):=by
    rw[Qd0,Qa4,Qb8,Qb8,Qb8];constructor
    .intro h
     refine⟨λk a=>?_,λk a=>?_⟩<;>(have:=h k a;rw[Qs8,RE d n k (b k a),Qa4]at this)
     .exact this.1
     .exact this.2
    .rintro ⟨g,e⟩ k a
     rw[Qs8,RE d n k (b k a),g k a,e k a];rfl
   have i:decide (1+t.kids_.foldl (λn k=>max n (YP d k)) 0<=n+1)=t.kids_.all (λk=>decide (YP d k<=n)):=by
    rw[Qd0,Qb7,Qb8];have:=vH (YP d) t.kids_ 0 n
    simp only[Qb7];constructor
    .intro h;exact(this.1 (by omega)).2
    .intro h;have:=this.2 ⟨by omega,h⟩;omega
   rw[f,i]
   cases Wd t<;>cases t.kids_.all (λk=>decide (YP d k<=n))<;>cases t.kids_.all (Yb d)<;>simp
theorem zL:∀(d:Nat) (_:d<=2000000) {F:Nat} (_:Q7+d<=F) {t:Term} (_:TD d t),Js F t=some (YP d t:Int)/\YP d t<=d
 |0,_,_,_,_,h=>h.elim
 |d+1,_,0,hF,_,_=>by unfold Q7 at hF;omega
 |d+1,hd,F+1,hF,t,h=>by
  obtain⟨_,_,r,l⟩:=h;have a : Q7+d<=F:=by omega
  have p:=a;unfold Q7 at p
  have o:t.kids_.foldl (λn k=>max n (YP d k)) 0<=d:=(vH _ _ _ _).2 ⟨by omega,λk f=>(zL d (by omega) a (l k f)).2⟩;refine⟨?_,by unfold YP;omega⟩
  show Sz F (Js F) t=_;unfold Sz
  suffices hs:∀ (n:Nat) (i:Nat) (v:Nat),t.kids_.length-i<n->i<=t.kids_.length->(t.kids_.drop i).foldl (fun n k=>max n (YP d k)) v=t.kids_.foldl (fun n k=>max n (YP d k)) 0->v<=d ->
    Y3 (λagain (z:Int×Int)=>Sy F (Js F) t again z.1 z.2) n ((v:Int),(i:Int))=some ((YP (d+1) t:Nat):Int) by
   exact hs F 0 0 (by omega) (by omega) rfl (by omega)
  intro n
  induction n with
  |zero=>intro i v h;omega
  |succ n ih=>
   intro i v w u e s;show Sy F (Js F) t (Y3 _ n) (v:Int) (i:Int)=_
   unfold Sy
   by_cases hil:i<t.kids_.length
   .have b:=l _ (J9 hil)
    obtain⟨m,q⟩:=zL d (by omega) a b;rw[Yc hil,Qp0]at e
    have j:=ih (i+1) (max v (YP d (gl t.kids_ i))) (by omega) (by omega) e (by omega);refine U3 (Qa5 (by omega)) (Q9 (by omega) (Q9 b.op (Q4 m (Q9 (Y8 (by omega) (by omega)) ?_))))
    rw[<-j];congr 1
    refine Prod.ext ?_ rfl;show y3 _ _=_
    unfold y3;split<;>omega
   .have g:i=t.kids_.length:=by omega
    subst g;rw[Qk9,List.foldl_nil]at e
    refine Z8 (Qa7 (by omega)) ?_;unfold zM
    refine Q9 (Y8 (by omega) (by omega)) ?_;unfold YP
    rw[<-e];congr 1;omega
theorem bg:∀(d:Nat) {F:Nat} (_:Q7+d<=F) {t:Term} (_:TD d t),Wb F t=some (Yb d t)
 |0,_,_,_,h=>h.elim
 |d+1,0,hF,_,_=>by unfold Q7 at hF;omega
 |d+1,F+1,hF,t,h=>by
  obtain⟨_,_,D,u⟩:=h;have p : Q7+d<=F:=by omega
  have B:=p;unfold Q7 at B
  show Sx F (Wb F) t=_;have k:Y3 (λf (z:Int)=>Xi F (Wb F) t f z) F (0:Int)=some (t.kids_.all (Yb d)):=by
   refine Q0k (λl=>some (l.all (Yb d))) (λf i q r=>?_) (λf=>?_) (by omega)
   .show Xi F (Wb F) t f (i:Int)=_
    unfold Xi;have m:=u _ (J9 q)
    refine U3 (Qa5 (by omega)) (Q9 (by omega) (Q9 m.op (Q4 (bg d p m) ?_)));show br (!Yb d (gl t.kids_ i)) _ _=some (Yb d (gl t.kids_ i)&&_)
    cases Yb d (gl t.kids_ i)with
    |false=>rfl
    |true=>exact Z8 rfl (Q9 (Y8 (by omega) (by omega)) r)
   .show Xi F (Wb F) t f (t.kids_.length:Int)=_
    unfold Xi;exact Z8 (Qa7 (by omega)) rfl
  have k2:∀b,Xg F (Wb F) t b=some (!b&&t.kids_.all (Yb d)):=λb=>by
   unfold Xg
   cases b with
   |true=>rfl
   |false=>exact Z8 rfl k
  have k1:∀(n:Int) (a b:Bool),Zt F (Wb F) t n a b=some ((b&&(a&&((t.kids_.length:Nat):Int)==n))&&t.kids_.all (Yb d)):=λn a b=>by
   unfold Zt
   cases b<;>cases a
   .rw [k2];rfl
   .rw [k2];rfl
   .exact Z8 rfl (U3 rfl (k2 _))
   .refine Z8 rfl (Z8 rfl ((k2 _).trans ?_))
    congr 2
    rw[bne,Qx6];rfl
  have s:∀(n:Nat),(((t.kids_.length:Nat):Int)==(n:Int))=(t.kids_.length==n):=λn=>by
   rw[Qd0,Qg6,Qg6];omega
  have C:(((t.kids_.length:Nat):Int)==((t.kids_.length:Nat):Int))=true:=by simp
  have w:(decide ((0:Int)<((t.kids_.length:Nat):Int)))=decide (1<=t.kids_.length):=by rw[Qd0,Qb7,Qb7];omega
  have g:(((t.kids_.length:Nat):Int)==0)=(t.kids_.length==0):=s 0;have v:(((t.kids_.length:Nat):Int)==1)=(t.kids_.length==1):=s 1
  unfold Sx Yb Wd;have K:∀{x:Option Bool} {n:Int} {a b c:Bool},x=Zt F (Wb F) t n a b->(b&&(a&&((t.kids_.length:Nat):Int)==n))=c->x=some (c&&t.kids_.all (Yb d)):=λh e=>by rw[h,k1,e]
  have R:∀{lo q:Int} {a:Bool} {c:Bool},(Zt F (Wb F) t 0 a (decide (lo<=t.num_)&&decide (t.num_<=q)))=some c->br (decide (lo<=t.num_)) (Zt F (Wb F) t 0 a (decide (t.num_<=q))) (Zt F (Wb F) t 0 a false)=some c:=λh=>by
   rw[<-h];cases decide (_<=t.num_)<;>rfl
  by_cases h1:t.op_=1
  .rw [Qa2 h1]
   exact U3 (by simp[h1]) (K rfl (by rw[g]))
  rw[Qa1 h1];refine Z8 (by simp[h1]) ?_
  by_cases h2:t.op_=2
  .rw [Qa2 h2]
   refine U3 (by simp[h2]) ?_;rw[show decide (t.num_<40)=decide (t.num_<=39)from Qq5.2 (by omega)]
   exact R (K rfl (by rw[g]))
  rw[Qa1 h2];refine Z8 (by simp[h2]) ?_
  by_cases h3:t.op_=3
  .rw [Qa2 h3]
   exact U3 (by simp[h3]) (R (K rfl (by rw[g])))
  rw[Qa1 h3];refine Z8 (by simp[h3]) ?_
  by_cases h4:t.op_=4
  .rw [Qa2 h4]
   exact U3 (by simp[h4]) (Q4 (zJ F _) (K rfl (by rw[g])))
  rw[Qa1 h4];refine Z8 (by simp[h4]) ?_
  by_cases h5:t.op_=5
  .rw [Qa2 h5]
   exact U3 (by simp[h5]) (R (K rfl (by rw[g])))
  rw[Qa1 h5];refine Z8 (by simp[h5]) ?_
  by_cases h6:t.op_=6
  .rw [Qa2 h6]
   exact U3 (by simp[h6]) (R (K rfl (by rw[g])))
  rw[Qa1 h6];refine Z8 (by simp[h6]) ?_
  by_cases h7:t.op_=7
  .rw [Qa2 h7]
   refine U3 (by simp[h7]) ?_;refine Z9 (λj=>Q4 (zJ F _) (K rfl ?_)) (λj=>Q4 (zJ F _) (K rfl ?_))
   .rw [g,j,Qc6]
   .rw [j];rfl
  rw[Qa1 h7];refine Z8 (by simp[h7]) ?_
  by_cases j:t.op_=8
  .rw [Qa2 j]
   exact U3 (by simp[j]) (R (K rfl (by rw[g])))
  rw[Qa1 j];refine Z8 (by simp[j]) ?_
  have o:Xh F (Wb F) t true=some ((t.num_==0&&(t.more_==0&&decide (1<=t.kids_.length)))&&t.kids_.all (Yb d)):=by
   unfold Xh;refine U3 rfl (Z9 (λh=>K rfl ?_) (λh=>K rfl ?_))
   .rw [C,w,h,Qc6,Bool.and_true,Bool.and_comm]
   .rw [h];rfl
  by_cases h9:t.op_=9\/t.op_=10
  .rw [Qa2 h9]
   refine Z9 (λh=>?_) (λh=>?_)
   .rw [h];exact o
   .have:t.op_=10:=by simp at h;omega
    rw[this];exact o
  rw[Qa1 h9];refine Z8 (by simp;omega) ?_
  rw[show(t.op_==(10:Int))=false by simp;omega];unfold Xh
  refine Z8 rfl ?_
  by_cases h11:t.op_=11
  .rw [Qa2 h11]
   exact U3 (by simp[h11]) (K rfl (by rw[v]))
  .rw [Qa1 h11]
   exact Z8 (by simp[h11]) (K rfl rfl)
end
end Go.Ab
end
section
namespace Go.Ab
set_option maxRecDepth 20000
noncomputable section
theorem Q6M{F:Nat}{l:List Term}{q:Term->Option Bool}(p:Term->Bool)(hF:l.length<F)(hl:l.length<=1000000000)(ho:∀r∈l,Q5 r.op_)(hq:∀r∈l,q r=some (p r)):∃i:Int,MO F l q=some i/\(0<=i↔l.any p=true):=by
 unfold MO
 suffices hs:∀(n i:Nat),l.length-i<n->i<=l.length->∃j:Int,Y3 (λagain (z:Int)=>MN F l q again z) n (i:Int)=some j/\(0<=j↔(l.drop i).any p=true) by
  simpa using hs F 0 (by omega) (by omega)
 intro n
 induction n with
 |zero=>intro i h;omega
 |succ n ih=>
  intro i g f;show ∃j:Int,MN F l q (Y3 _ n) (i:Int)=some j/\_
  unfold MN
  by_cases hil:i<l.length
  .have a:=J9 hil
   rw[xV hil]
   cases hp:p (gl l i)with
   |true=>exact⟨i,U3 (Qa5 (by omega)) (Q9 (by omega) (Q9 (ho _ a) (Q4 (hq _ a) (U3 hp rfl)))),by simp⟩
   |false=>
    obtain⟨j,e,b⟩:=ih (i+1) (by omega) (by omega);refine⟨j,U3 (Qa5 (by omega)) (Q9 (by omega) (Q9 (ho _ a) (Q4 (hq _ a) (Z8 hp (Q9 (Y8 (by omega) (by omega)) ?_))))),by simpa using b⟩
    rw[<-e];congr 1
  .refine ⟨-1,Z8 (Qa7 (by omega)) rfl,?_⟩
   rw[Qq0 (by omega)];simp
theorem Q7e{F:Nat}{l:List Term}{q:Term->Option Bool}(p:Term->Bool)(hF:l.length<F)(hl:l.length<=1000000000)(ho:∀r∈l,Q5 r.op_)(hq:∀r∈l,q r=some (p r)):MW F l q=some (l.any p):=by
 obtain⟨i,a,b⟩:=Q6M p hF hl ho hq;unfold MW
 refine Q4 a ?_;rw[Qi9,Qd0,Qb7];exact b
def WF(n:Int):Int×Int×Bool:=if n=2 then(0,39,true)else if n=3 then(0,40,true)else if n=4 then(1,16,true)else if n=5 then(0,15,true)else if n=6 then(2,10,true)else if n=7\/n=8 then(1,10,true)else(0,0,false)
def ZX(n:Int):Int×Int:=if n=9\/n=10 then(1,40)else if n=11 then(1,1)else(0,0)
theorem Q4T(F:Nat)(n:Int):Mx F n=some (WF n):=by
 unfold Mx WF Mw
 by_cases h2:n=2
 .subst h2;rfl
 by_cases h3:n=3
 .subst h3;rfl
 by_cases h4:n=4
 .subst h4;rfl
 by_cases h5:n=5
 .subst h5;rfl
 by_cases h6:n=6
 .subst h6;rfl
 by_cases h7:n=7
 .subst h7;rfl
 by_cases h8:n=8
 .subst h8;rfl
 have e:∀m:Int,n≠m->(n==m)=false:=λm h=>by simpa using h
 rw[e 2 h2,e 3 h3,e 4 h4,e 5 h5,e 6 h6,e 7 h7,e 8 h8,Qa1 h2,Qa1 h3,Qa1 h4,Qa1 h5,Qa1 h6,Qa1 (by omega)];rfl
theorem Q4V(F:Nat)(n:Int):Mz F n=some (ZX n):=by
 unfold Mz ZX My;have e:∀m:Int,n≠m->(n==m)=false:=λm h=>by simpa using h
 by_cases h2:n=9
 .subst h2;rfl
 by_cases h3:n=10
 .subst h3;rfl
 by_cases h4:n=11
 .subst h4;rfl
 rw[e 9 h2,e 10 h3,e 11 h4,Qa1 (by omega),Qa1 h4];rfl
def HE(t:Term):Bool:=((WF t.op_).2.2&&(decide (t.num_<(WF t.op_).1)||decide ((WF t.op_).2.1<t.num_)))||(!(WF t.op_).2.2&&t.num_ != 0)
def Gm(t:Term):Bool:=(t.op_==4 && !YK t.num_)||((t.op_==7 && !YK t.more_)||(t.op_ != 7&&t.more_ != 0))
def JM(t:Term):Bool:=decide (((t.kids_.length:Nat):Int)<(ZX t.op_).1)||decide ((ZX t.op_).2<((t.kids_.length:Nat):Int))
theorem Z0G{t:Term}(hl:t.kids_.length<=40):(!(decide (t.op_<1)||decide (11<t.op_))&&(!HE t&&(!Gm t && !JM t)))=Wd t:=by
 have g:∀n:Int,YK n=true->1<=n/\n<=16:=λn h=>by
  unfold YK at h;simp only[Qi4,Qg6]at h;omega
 have k:∀n:Nat,(t.kids_.length==n)=decide (t.kids_.length=n):=λn=>by rw[Qd0,Qg6,Qb7]
 rw[Qd0];unfold HE Gm JM WF ZX Wd
 generalize t.op_=o,t.num_=n,t.more_=m at *;have i:∀{p q:Prop},(p↔q)->(p↔q):=λh=>h
 by_cases h:o<1\/11<o
 .rw [show(decide (o<1)||decide (11<o))=true by simpa using h]
  have e:∀m:Int,1<=m->m<=11->¬o=m:=λm _ _=>by omega
  simp[e 1,e 2,e 3,e 4,e 5,e 6,e 7,e 8,e 9,e 10,e 11]
 have j:o=1\/o=2\/o=3\/o=4\/o=5\/o=6\/o=7\/o=8\/o=9\/o=10\/o=11:=by omega
 rcases j with rfl|rfl|rfl|rfl|rfl|rfl|rfl|rfl|rfl|rfl|rfl<;>simp<;>(try omega)
 constructor
 .rintro ⟨_,⟨a,b⟩,f⟩;exact⟨a,b,f⟩
 .rintro ⟨a,b,f⟩;exact⟨g _ a,⟨a,b⟩,f⟩
theorem kY:∀(d:Nat) {F:Nat} (_:Q7+d<=F) {t:Term} (_:TD d t) (_:QI d t<=40) (n:Nat) (_:n<=8),Zy F t (n:Int)=some (YZ d n t)
 |0,_,_,_,h,_,_,_=>h.elim
 |d+1,0,hF,_,_,_,_,_=>by unfold Q7 at hF;omega
 |d+1,F+1,hF,t,h,hs,n,hn=>by
  obtain⟨_,_,G,f⟩:=h;have g : Q7+d<=F:=by omega
  have B:=g;unfold Q7 at B
  have q:t.kids_.length<=39:=by
   have:t.kids_.length<=(t.kids_.map (QI d)).sum:=by
    have:∀l:List Term,(∀k∈l,TD d k)->l.length<=(l.map (QI d)).sum:=by
     intro l
     induction l with
     |nil=>intro _;simp
     |cons x l ih=>intro p;have:=Q5g (p x (by simp));have:=ih λk f=>p k (by simp[f]);simp;omega
    exact this _ f
   unfold QI at hs;omega
  have j:∀k∈t.kids_,QI d k<=40:=λk a=>by
   obtain⟨i,r,rfl⟩:=Qc3 a;have v:=LK (d:=d) r
   have E:=LL (d:=d) (i:=i+1) (t:=t);rw[y7 r]at v;omega
  show Mm F (Zy F) t (n:Int)=_;unfold Mm
  refine Q4 (Q4T F _) (Q4 (Q4V F _) ?_);have w:∀b,n≠0->GD F (Zy F) t (n:Int) b=some (!b&&t.kids_.all (YZ d (n-1))):=λb e=>by
   unfold GD
   cases b with
   |true=>rfl
   |false=>
    refine Z8 rfl (Q4 (Q7e (λk=> !YZ d (n-1) k) (by omega) (by omega) (λk a=>(f k a).op) λk a=>?_) ?_)
    .unfold Lw
     refine Q9 (Y8 (by omega) (by omega)) ?_;rw[show((n:Int)-1)=((n-1:Nat):Int) by omega]
     exact Q4 (kY d g (f k a) (j k a) (n-1) (by omega)) rfl
    .rw [Bool.not_false,Qc6,List.not_any_eq_all_not];simp
  have k2:∀b,n≠0->Zx F (Zy F) t (n:Int) (ZX t.op_) b=some (!b&&(!JM t&&t.kids_.all (YZ d (n-1)))):=λb e=>by
   unfold Zx JM
   cases b with
   |true=>rfl
   |false=>
    refine Z8 rfl ?_;rw[Yg (λb=>GD F (Zy F) t (n:Int) b),w _ e];rfl
  have k1:∀b,n≠0->VK F (Zy F) t (n:Int) (ZX t.op_) b=some (!b&&(!Gm t&&(!JM t&&t.kids_.all (YZ d (n-1))))):=λb e=>by
   unfold VK Gm
   cases b with
   |true=>rfl
   |false=>
    refine Z8 rfl ?_;have u:(UX F t.more_).bind (λz=>br (!z) (Zx F (Zy F) t (n:Int) (ZX t.op_) true) (br (t.op_ != (7:Int)) (Zx F (Zy F) t (n:Int) (ZX t.op_) (t.more_ != (0:Int))) (Zx F (Zy F) t (n:Int) (ZX t.op_) false)))=Zx F (Zy F) t (n:Int) (ZX t.op_) (!YK t.more_||(t.op_ != 7&&t.more_ != 0)):=by
     refine Q4 (kW F _) ?_
     cases YK t.more_<;>cases(t.op_ != (7:Int))<;>rfl
    have s:(br (t.op_==(7:Int)) ((UX F t.more_).bind (fun z=>br (!z) (Zx F (Zy F) t (n:Int) (ZX t.op_) true) (br (t.op_ != (7:Int)) (Zx F (Zy F) t (n:Int) (ZX t.op_) (t.more_ != (0:Int))) (Zx F (Zy F) t (n:Int) (ZX t.op_) false)))) (br (t.op_ != (7:Int)) (Zx F (Zy F) t (n:Int) (ZX t.op_) (t.more_ != (0:Int))) (Zx F (Zy F) t (n:Int) (ZX t.op_) false)))
      = Zx F (Zy F) t (n:Int) (ZX t.op_) ((t.op_==7 && !YK t.more_)||(t.op_ != 7&&t.more_ != 0)):=by
     rw[u]
     cases h7:(t.op_==(7:Int))with
     |true=>rw[show(t.op_ != (7:Int))=false by rw[bne,h7];rfl];cases YK t.more_<;>rfl
     |false=>rw[show(t.op_ != (7:Int))=true by rw[bne,h7];rfl];rfl
    rw[s];refine Z9 (λo=>Q4 (kW F _) ?_) (λo=>?_)
    .rw [o,Qc6]
     cases YK t.num_ with
     |false=>refine U3 rfl ((k2 _ e).trans ?_);rfl
     |true=>refine Z8 rfl ((k2 _ e).trans ?_);rfl
    .rw [o];exact k2 _ e
  have D:∀b,(b=false->n≠0)->UY F (Zy F) t (n:Int) (WF t.op_) (ZX t.op_) b=some (!b&&(!HE t&&(!Gm t&&(!JM t&&t.kids_.all (YZ d (n-1)))))):=λb C=>by
   unfold UY HE
   cases b with
   |true=>rfl
   |false=>
    have e:=C rfl;refine Z8 rfl ?_
    have k1:=λb=>k1 b e
    generalize hK:VK F (Zy F) t (n:Int) (ZX t.op_)=K at k1⊢;generalize (!Gm t&&(!JM t&&t.kids_.all (YZ d (n-1))))=rest at k1⊢
    generalize (t.num_ != 0)=nz
    cases(WF t.op_).2.2<;>cases decide (t.num_<(WF t.op_).1)<;>cases decide ((WF t.op_).2.1<t.num_)<;>cases nz<;>simp only[br,k1]<;>rfl
  have m:(((n:Int))==0)=decide (n=0):=by rw[Qd0,Qg6,Qb7];omega
  rw[m];rw[Yg (λb=>UY F (Zy F) t (n:Int) (WF t.op_) (ZX t.op_) b),Yg (λb=>UY F (Zy F) t (n:Int) (WF t.op_) (ZX t.op_) b)]
  rw[D _ (λh=>by simp only[Qd4,Qe2]at h;exact h.2.2)];unfold YZ
  rw[<-Z0G (t:=t) (by omega)]
  cases decide (t.op_<1)<;>cases decide (11<t.op_)<;>cases decide (n=0)<;>cases HE t<;>cases Gm t<;>cases JM t<;>rfl
def YG(d:Nat)(t:Term):Int:=if 40<QI d t then 1 else if YZ d 8 t=true then 0 else 16
theorem gv{d F:Nat}(hF:Q7+d<=F){t:Term}(h:TD d t):PN F t=some (YG d t):=by
 unfold PN YG;obtain⟨v,f,_,_,b,_⟩:=gt d hF h (m:=40) (by omega) (by omega)
 refine Q4 f (Z9 (λa=>?_) (λa=>?_))
 .have:=b.1 (Qa6 a);rw[Qa2 (by omega)]
 .have e:¬40<QI d t:=λh=>Qa8 a (b.2 (by omega))
  rw[Qa1 e];refine Q4 (kY d hF h (by omega) 8 (by omega)) ?_
  cases YZ d 8 t<;>rfl
theorem Q9s{d F:Nat}(hd:d<=2000000)(hF:Q7+d<=F){t:Term}(h:TD d t):SE F t=some (YG d t):=by
 unfold SE YG;obtain⟨v,g,_,_,e,_⟩:=bk d hd hF h
 refine Q4 g (Z9 (λb=>?_) (λb=>?_))
 .have:=e.1 (Qa6 b);rw[Qa2 (by omega)]
 .have f:¬40<QI d t:=λh=>Qa8 b (e.2 (by omega))
  rw[Qa1 f,RE d 8 t h];refine Q4 (zL d hd hF h).1 (Z9 (λa=>?_) (λa=>?_))
  .have a:=Qa6 a
   rw[Qa7 (by omega)];rfl
  .have a:=Qa8 a
   rw[Qa5 (by omega)];refine Q4 (bg d hF h) ?_
   unfold SC
   cases Yb d t<;>rfl
theorem Q5c(d:Nat):YG (d+1) ⟨1,0,0,[]⟩=0:=by
 unfold YG;rw[Qa1 (by simp[QI]),Qa2]
 simp[YZ,Wd]
end
end Go.Ab
end
section
namespace Go.Ab
set_option maxRecDepth 20000
noncomputable section
def Pb(y:Int)(cs:List Crop)(hs:List Rg_)(zs:List A2_)(d c:Int)(A:List Rect)(t:Term):TS:=
 if t.op_=2 then VG A (c==t.num_)
 else if t.op_=3 then VG A ((gl cs c.toNat).f_==t.num_)
 else if t.op_=4 then VG A (VE cs c t.num_)
 else if t.op_=5 then Uh A (Q8 (Ze zs d λk=>k==t.num_))
 else if t.op_=6 then Vp A hs cs y (gl cs c.toNat).f_ (t.num_.toNat-1)
 else if t.op_=7 then⟨VC A hs (y-t.num_) λk=>VE cs k t.more_,VC A hs (y-t.num_) λk=> !VE cs k t.more_⟩
 else if t.op_=8 then Uh A (Q8 (Zj hs (y-t.num_) λ_=>true))
 else VG A true
def QF(y:Int)(cs:List Crop)(hs:List Rg_)(zs:List A2_)(d c:Int)(A:List Rect):Nat->Term->TS
 |0,_=>VG A true
 |e+1,t=>
  if t.op_=9 then⟨λu v=>Q8 A u v&&t.kids_.all λk=>(QF y cs hs zs d c A e k).Y u v,λu v=>t.kids_.any λk=>(QF y cs hs zs d c A e k).N u v⟩
  else if t.op_=10 then⟨λu v=>t.kids_.any λk=>(QF y cs hs zs d c A e k).Y u v,λu v=>Q8 A u v&&t.kids_.all λk=>(QF y cs hs zs d c A e k).N u v⟩
  else if t.op_=11 then⟨(QF y cs hs zs d c A e (gl t.kids_ 0)).N,(QF y cs hs zs d c A e (gl t.kids_ 0)).Y⟩
  else Pb y cs hs zs d c A t
variable {F:Nat} {cs:List Crop} {hs:List Rg_} {zs:List A2_} {y c d:Int} {A:List Rect}
theorem TIn.turn{s:TS}(h:TIn A s):TIn A ⟨s.N,s.Y⟩:=⟨h.fN,h.fY,h.sN,h.sY⟩
theorem Z4H(t:Term):TIn A (Pb y cs hs zs d c A t):=by
 unfold Pb
 repeat' split
 .exact Pe _ _
 .exact Pe _ _
 .exact Pe _ _
 .exact Q2z (QX _)
 .exact ML _ _ _ _ _ _
 .exact ⟨UI _ _ _ _,UI _ _ _ _,λ_ _ h=>Xv h,λ_ _ h=>Xv h⟩
 .exact Q2z (QX _)
 .exact Pe _ _
theorem Q1I{B:Sq}(hB:Fin B){α:Type}(f:α->Sq):∀(l:List α),(∀k∈l,Fin (f k))->Fin λu v=>B u v&&l.all λk=>f k u v
 |[],_=>by simpa using hB
 |k::l,h=>by
  have b:=UJ (Q1I hB f l λj a=>h j (Qf9 _ a)) (h k Qg5);have e:(λu v=>(B u v&&l.all λk=>f k u v)&&f k u v)=λu v=>B u v&&(k::l).all λk=>f k u v:=by
   funext u v
   rw[Qs9]
   cases B u v<;>cases f k u v<;>simp
  rw[<-e];exact b
theorem Q1H{α:Type}(f:α->Sq):∀(l:List α),(∀k∈l,Fin (f k))->Fin λu v=>l.any λk=>f k u v
 |[],_=>by simpa using Cz
 |k::l,h=>by
  have a:=vQ (h k Qg5) (Q1H f l λj b=>h j (Qf9 _ b));simpa using a
theorem xW{α:Type}(f:α->TS)(l:List α)(h:∀k∈l,TIn A (f k)):TIn A ⟨λu v=>Q8 A u v&&l.all λk=>(f k).Y u v,λu v=>l.any λk=>(f k).N u v⟩:=by
 refine⟨Q1I (QX A) (λk=>(f k).Y) l λk a=>(h k a).fY,Q1H (λk=>(f k).N) l λk a=>(h k a).fN,λu v b=>?_,λu v b=>?_⟩
 .simp only[Qa4]at b
  exact b.1
 .obtain ⟨k,a,e⟩:=Qd3.1 b
  exact(h k a).sN u v e
theorem KX:∀(e:Nat) (t:Term),TIn A (QF y cs hs zs d c A e t)
 |0,_=>Pe _ _
 |e+1,t=>by
  unfold QF;split
  .exact xW _ _ λk _=>KX e k
  split
  .exact (xW (λk=>⟨(QF y cs hs zs d c A e k).N,(QF y cs hs zs d c A e k).Y⟩) t.kids_ λk _=>(KX e k).turn).turn
  split
  .exact (KX e _).turn
  .exact Z4H t
structure PL (p:Place) (y:Int) (cs:List Crop) (hs:List Rg_) (zs:List A2_) (d c:Int) (A:List Rect):Prop where
 yr:p.world_.year_=y
 cs:p.world_.crops_=cs
 hs:p.world_.history_=hs
 zs:p.world_.zones_=zs
 dd:p.world_.day_=d
 cr:p.line_.c_=c
 re:p.t_=A
theorem Q9Z{n:Nat}{L:List A2_}(h:∀f∈L,QN n f.g_.t_)(d:Int)(p:Int->Bool):QN n (Ze L d p):=λr a=>by
 unfold Ze at a;obtain⟨f,e,b⟩:=Qc1.1 a
 exact h f (Qe6.1 e).1 r b
theorem Z0J{t:Term}(hn:Wd t=true)(q:t.op_=6):2<=t.num_/\t.num_<=10:=by
 unfold Wd at hn;simp[q]at hn
 omega
theorem Z0I{t:Term}(hn:Wd t=true)(q:t.op_=7):(1<=t.num_/\t.num_<=10)/\YK t.more_=true:=by
 unfold Wd at hn;simp[q]at hn
 exact⟨by omega,hn.2.1⟩
theorem Z0H{t:Term}(hn:Wd t=true)(q:t.op_=8):1<=t.num_/\t.num_<=10:=by
 unfold Wd at hn;simp[q]at hn
 omega
theorem Q0N{n:Nat}{L:List A2_}(h:LB n L){f:A2_}(hf:f∈L):K7 f.g_.t_:=((yw f).1 (h.vl.one f hf)).2.2.2.2.2.2.2.2
theorem LB.few'{n:Nat}{L:List A2_}(h:LB n L)(d:Int)(p:Int->Bool):(Ze L d p).length<=7200:=by
 have i:=h.vl.len;have:∀(M:List A2_),(∀f∈M,f.g_.t_.length<=120)->(Ze M d p).length<=120*M.length:=by
  intro M
  induction M with
  |nil=>intro _;simp[Ze]
  |cons f M ih=>
   intro a;rw[yb]
   have k:=a f Qg5;have j:=ih λg b=>a g (Qf9 _ b)
   rw[Qb5,Qb0];split
   .omega
   .simp;omega
 have:=this L λf e=>(Q0N h e).1
 omega
theorem Q4Y(hF:Q7<=F)(h:EV y cs hs zs c A){p:Place}(hp:PL p y cs hs zs d c A){t:Term}(hn:Wd t=true):Mv F p t=some ((Pb y cs hs zs d c A t).sqs A):=by
 have b:=h.tr.val;have l:=h.crop
 unfold Mv Pb;refine Z9 (λq=>?_) λG=>Z9 (λq=>?_) λD=>Z9 (λq=>?_) λJ=>Z9 (λq=>?_) λB=>Z9 (λq=>?_) λK=>Z9 (λq=>?_) λC=>Z9 (λq=>?_) λs=>?_
 .have q:=eq_of_beq q
  rw[Qa2 q,hp.cr];exact Q4 (Mk hp.re b _) rfl
 .have q:=eq_of_beq q
  rw[Qa1 (by omega),Qa2 q,hp.cr,hp.cs];exact Q9 l (Q4 (Mk hp.re b _) rfl)
 .have q:=eq_of_beq q
  rw[Qa1 (by omega),Qa1 (by omega),Qa2 q,hp.cr,hp.cs];exact Q4 (xC F cs c t.num_) (Q4 (Mk hp.re b _) rfl)
 .have q:=eq_of_beq q
  rw[Qa1 (by omega),Qa1 (by omega),Qa1 (by omega),Qa2 q,hp.zs,hp.dd];have E:=Q9Z h.zs.box d λk=>k==t.num_
  refine Q4 (Q1O hF (by have:=h.zs.vl.len;omega) (λf x=>(Q0N h.zs x).1) d (λk=>k==t.num_) λf _=>rfl) ?_;refine Q4 (WH hF (a:=p.t_) (by rw[hp.re];exact b.le8) (by have:=h.zs.few' d λk=>k==t.num_;omega) (by rw[hp.re];exact b.pos) (λr H=>(E r H).2.1) (S:=Q8 A) (by rw[hp.re]) rfl (k:=λu v=>u&&v) rfl (ME F)) ?_
  exact Q4 (gp hF hp.re h.tr (QX _)) rfl
 .have q:=eq_of_beq q
  rw[Qa1 (by omega),Qa1 (by omega),Qa1 (by omega),Qa1 (by omega),Qa2 q];have o:=Z0J hn q
  have:=Q4F hF h hp.hs hp.yr hp.re hp.cs hp.cr (n:=t.num_.toNat) (by omega) (by omega)
  rw[Int.toNat_of_nonneg (by omega)]at this;exact Q4 this rfl
 .have q:=eq_of_beq q
  rw[Qa1 (by omega),Qa1 (by omega),Qa1 (by omega),Qa1 (by omega),Qa1 (by omega),Qa2 q];have o:=(Z0I hn q).1
  have i:∀f∈hs,PJ F f.c_ p t=some (VE cs f.c_ t.more_):=λf _=>by
   unfold PJ;rw[hp.cs]
   exact Q4 (xC F cs _ _) rfl
  have w:∀f∈hs,PI F f.c_ p t=some (!VE cs f.c_ t.more_):=λf _=>by
   unfold PI;rw[hp.cs]
   exact Q4 (xC F cs _ _) rfl
  have I:TIn A ⟨VC A hs (y-t.num_) λk=>VE cs k t.more_,VC A hs (y-t.num_) λk=> !VE cs k t.more_⟩:=⟨UI _ _ _ _,UI _ _ _ _,λ_ _ h=>Xv h,λ_ _ h=>Xv h⟩;have j:=PK hF h hp.hs hp.yr hp.re (n:=t.num_) (q:=λg=>PJ F g p t) (by omega) (by omega) (λk=>VE cs k t.more_) i
  have m:=PK hF h hp.hs hp.yr hp.re (n:=t.num_) (q:=λg=>PI F g p t) (by omega) (by omega) (λk=> !VE cs k t.more_) w;have L:=Lx hF hp.re h.tr I
  exact Q4 j (Q4 m (Q4 L rfl))
 .have q:=eq_of_beq q
  rw[Qa1 (by omega),Qa1 (by omega),Qa1 (by omega),Qa1 (by omega),Qa1 (by omega),Qa1 (by omega),Qa2 q];have o:=Z0H hn q
  have i:∀f∈hs,Cq F f.c_=some true:=λ_ _=>rfl
  have j:=PK hF h hp.hs hp.yr hp.re (n:=t.num_) (q:=λg=>Cq F g) (by omega) (by omega) (λ_=>true) i;have m:=gp hF hp.re h.tr (S:=Q8 (Zj hs (y-t.num_) λ_=>true)) (QX _)
  exact Q4 j (Q4 m rfl)
 .have z:∀{k:Int},(t.op_==k)=false->¬t.op_=k:=λh e=>by rw[e]at h;simp at h
  rw[Qa1 (z G),Qa1 (z D),Qa1 (z J),Qa1 (z B),Qa1 (z K),Qa1 (z C),Qa1 (z s)];exact Q4 (Mk hp.re b _) rfl
def Wg(A:List Rect)(l:List TS):TS:=⟨λu v=>Q8 A u v&&l.all λk=>k.Y u v,λu v=>l.any λk=>k.N u v⟩
theorem Q2J{l:List TS}(h:∀s∈l,TIn A s):TIn A (Wg A l):=xW (λk=>k) l h
theorem Z4n(l:List TS)(s:TS):Wg A (l++[s])=⟨λu v=>(Wg A l).Y u v&&s.Y u v,λu v=>(Wg A l).N u v||s.N u v⟩:=by
 unfold Wg;congr 1
 .funext u v;simp[List.all_append,Qs1]
 .funext u v;simp[Qv5]
theorem Q4Z(hF:Q7<=F){p:Place}(e3:p.t_=A)(ht:TR A){l:List TS}(hl:∀s∈l,TIn A s)(hlen:l.length<=1000000):GH F p (l.map (TS.sqs A))=some ((Wg A l).sqs A):=by
 have h:=hF;unfold Q7 at h
 unfold GH;have e:∀(m f k:Nat),k+m=l.length->m<f->Y3 (λagain (z:(List Rect)×(List Rect)×Int)=>GG F p (l.map (TS.sqs A)) again z.1 z.2.1 z.2.2) f (cn (Wg A (l.take k)).Y,cn (Wg A (l.take k)).N,((k:Nat):Int))=some ((Wg A l).sqs A):=by
  intro m
  induction m with
  |zero=>
   intro f k j o;obtain⟨f,rfl⟩:∃g,f=g+1:=⟨f-1,by omega⟩
   show GG F p (l.map (TS.sqs A)) (Y3 _ f) _ _ ((k:Nat):Int)=_;unfold GG
   refine Z8 (Qa7 (by rw[Qg1];omega)) ?_;unfold LE
   rw[show k=l.length by omega,Qe5];exact Q4 (Lx hF e3 ht (Q2J hl)) rfl
  |succ m ih=>
   intro f k j o;obtain⟨f,rfl⟩:∃g,f=g+1:=⟨f-1,by omega⟩
   show GG F p (l.map (TS.sqs A)) (Y3 _ f) _ _ ((k:Nat):Int)=_;unfold GG
   have a:k<l.length:=by omega
   have b:TIn A (Wg A (l.take k)):=Q2J λs hs=>hl s (Qh5 hs)
   have hs:=hl _ (Qf6 a);have q:gl (l.map (TS.sqs A)) ((k:Nat):Int).toNat=(l[k]).sqs A:=by
    rw[Qa3,y7 (by simpa using a),List.getElem_map]
   have i:=ih f (k+1) (by omega) (by omega);have n:l.take (k+1)=l.take k++[l[k]]:=by rw[List.take_append_getElem a]
   rw[n,Z4n]at i;rw[q]
   refine U3 (Qa5 (by rw[Qg1];omega)) (Q9 (by rw[Qg1];omega) (Q4 (WH hF (b.vY ht).le8 (hs.vY ht).le8 (b.vY ht).pos (hs.vY ht).pos (ZY b.fY) (ZY hs.fY) (k:=λu v=>u&&v) rfl (ME F)) (Q4 (WH hF (b.vN ht).le8 (hs.vN ht).le8 (b.vN ht).pos (hs.vN ht).pos (ZY b.fN) (ZY hs.fN) (k:=λu v=>u||v) rfl (gm F)) (Q9 (Y8 (by omega) (by omega)) ?_))));exact i
 have:=e l.length F 0 (by omega) (by omega)
 have r:Wg A (l.take 0)=⟨Q8 A,λ_ _=>false⟩:=by unfold Wg;simp
 rw[r]at this;simp only[XY ht.val,JL]at this
 rw[e3];exact this
end
end Go.Ab
end
section
namespace Go.Ab
set_option maxRecDepth 20000
noncomputable section
def TS.turn(s:TS):TS:=⟨s.N,s.Y⟩
theorem Q4u(A:List Rect)(s:TS):s.turn.O A=s.O A:=by
 funext u v
 simp only[TS.turn,TS.O]
 cases Q8 A u v<;>cases s.Y u v<;>cases s.N u v<;>rfl
theorem kQ(F:Nat)(A:List Rect)(s:TS):PB F (s.sqs A)=some (s.turn.sqs A):=by
 unfold PB TS.sqs;rw[Q4u]
 rfl
def YY(op:Int)(s:TS):TS:=if op=9 then s else s.turn
theorem Q4E{A:List Rect}{s:TS}(h:TIn A s)(op:Int):TIn A (YY op s):=by
 unfold YY;split
 .exact h
 .exact h.turn
variable {cs:List Crop} {hs:List Rg_} {zs:List A2_} {y c d:Int} {A:List Rect}
theorem gg{p:Place}(h:EV y cs hs zs c A)(hp:PL p y cs hs zs d c A):∀(e:Nat) {F:Nat} (_:Q7+e<=F) {t:Term} (_:TD e t) (_:Yb e t=true),Vn F p t=some ((QF y cs hs zs d c A e t).sqs A)
 |0,_,_,_,ht,_=>ht.elim
 |e+1,0,hF,_,_,_=>by unfold Q7 at hF;omega
 |e+1,F+1,hF,t,ht,l=>by
  have H : Q7+e<=F:=by omega
  have B:Q7<=F:=by omega
  have C:=B;unfold Q7 at C
  obtain⟨K,_,v,J⟩:=ht;have n:Wd t=true/\∀k∈t.kids_,Yb e k=true:=by
   unfold Yb at l;rw[Qa4,Qb8]at l
   exact l
  have b:=n.1;show Mr F (Vn F) p t=_
  unfold Mr;have D:∀s∈t.kids_.map (λk=>YY t.op_ (QF y cs hs zs d c A e k)),TIn A s:=λs hs=>by
   obtain⟨k,_,rfl⟩:=Qc7.1 hs;exact Q4E (KX e k) _
  have E:∀(m f i:Nat),i+m=t.kids_.length->m<f->Y3 (λagain (z:Int×(List Squares))=>JW F (Vn F) p t again z.1 z.2) f (((i:Nat):Int),(t.kids_.take i).map λk=>(YY t.op_ (QF y cs hs zs d c A e k)).sqs A)=some ((QF y cs hs zs d c A (e+1) t).sqs A):=by
   intro m
   induction m with
   |zero=>
    intro f i M l;obtain⟨f,rfl⟩:∃g,f=g+1:=⟨f-1,by omega⟩
    show JW F (Vn F) p t (Y3 _ f) ((i:Nat):Int) _=_;unfold JW
    refine Z8 (Qa7 (by omega)) ?_;rw[show i=t.kids_.length by omega,Qe5]
    unfold LC;have a:=Q4Z B hp.re h.tr D (by rw[Qg1];exact v)
    rw[Qn3]at a;have a:GH F p (t.kids_.map λk=>(YY t.op_ (QF y cs hs zs d c A e k)).sqs A)=_:=a
    have z:∀{k:Int},(t.op_==k)=false->¬t.op_=k:=λh e=>by rw[e]at h;simp at h
    refine Z9 (λq=>?_) λo=>Z9 (λq=>?_) λr=>Z9 (λq=>?_) λx=>?_
    .have q:=eq_of_beq q
     refine Q4 a ?_;have:Wg A (t.kids_.map λk=>YY t.op_ (QF y cs hs zs d c A e k))=QF y cs hs zs d c A (e+1) t:=by
      conv=>rhs;unfold QF
      unfold Wg YY;rw[Qa2 q]
      simp only[Qx4,Qu2,Qa2 q];rfl
     rw[this]
    .have q:=eq_of_beq q
     refine Q4 a (Q4 (kQ F A _) ?_);have:(Wg A (t.kids_.map λk=>YY t.op_ (QF y cs hs zs d c A e k))).turn=QF y cs hs zs d c A (e+1) t:=by
      conv=>rhs;unfold QF
      unfold Wg YY TS.turn;rw[Qa1 (z o),Qa2 q]
      simp only[Qx4,Qu2,Qa1 (z o)];rfl
     rw[this]
    .have q:=eq_of_beq q
     have N:t.kids_.length=1:=by
      unfold Wd at b;simp[q]at b
      omega
     refine Q9 (by rw[Qg1];omega) ?_;rw[y7 (by rw[Qg1];show 0<_;omega),List.getElem_map]
     have:YY t.op_ (QF y cs hs zs d c A e (gl t.kids_ 0))=QF y cs hs zs d c A (e+1) t:=by
      conv=>rhs;unfold QF
      unfold YY TS.turn;rw[Qa1 (z o),Qa1 (z o),Qa1 (z r),Qa2 q]
     rw[<-this,y7 (by omega)];rfl
    .have:Pb y cs hs zs d c A t=QF y cs hs zs d c A (e+1) t:=by
      unfold QF;rw[Qa1 (z o),Qa1 (z r),Qa1 (z x)]
     rw[<-this];exact Q4 (Q4Y B h hp b) rfl
   |succ m ih=>
    intro f i M l;obtain⟨f,rfl⟩:∃g,f=g+1:=⟨f-1,by omega⟩
    show JW F (Vn F) p t (Y3 _ f) ((i:Nat):Int) _=_;have j:i<t.kids_.length:=by omega
    have u:=J _ (J9 j);have w:=gg h hp e H u (n.2 _ (J9 j))
    have G:=ih f (i+1) (by omega) (by omega);rw[QB j,Qe0,List.map_singleton]at G
    generalize Y3 (λagain (z:Int×(List Squares))=>JW F (Vn F) p t again z.1 z.2) f=ag at G⊢;unfold JW
    have I:((i:Nat):Int).toNat=i:=Qa3 i;have L:((t.kids_.take i).map λk=>(YY t.op_ (QF y cs hs zs d c A e k)).sqs A).length<=1000000:=by
     rw[Qg1,Qd1];omega
    refine U3 (Qa5 (by omega)) (Q9 (by omega) (Q9 (by rw[I];exact u.op) (Q4 (by rw[I];exact w) ?_)));have k1:∀s:TS,s=YY t.op_ (QF y cs hs zs d c A e (gl t.kids_ i))->PD F (Vn F) ((i:Nat):Int) ((t.kids_.take i).map λk=>(YY t.op_ (QF y cs hs zs d c A e k)).sqs A) ag (s.sqs A).yes_ (s.sqs A).no_ (s.sqs A).open_=some ((QF y cs hs zs d c A (e+1) t).sqs A):=λs hs=>by
     subst hs;unfold PD
     exact Q9 (by unfold Y6;simp only[List.length_singleton];omega) (Q9 (Y8 (by omega) (by omega)) G)
    refine Z9 (λq=>?_) λq=>?_
    .have q:¬t.op_=9:=λe=>by rw[e]at q;simp at q
     refine Q4 (kQ F A _) (k1 _ ?_);unfold YY;rw[Qa1 q]
    .have q:t.op_=9:=by simpa using q
     refine k1 _ ?_;unfold YY;rw[Qa2 q]
  have:=E t.kids_.length F 0 (by omega) (by omega)
  simpa using this
end
end Go.Ab
end
section
namespace Go.Ab
set_option maxRecDepth 20000
noncomputable section
variable {F:Nat} {cs:List Crop} {hs:List Rg_} {zs:List A2_} {y c d:Int} {A:List Rect}
end
end Go.Ab
end
section
namespace Go.Ab
set_option maxRecDepth 20000
noncomputable section
variable {cs:List Crop} {hs:List Rg_} {zs:List A2_} {y c d:Int} {A:List Rect}
end
end Go.Ab
end
section
namespace Go.Ab
set_option maxRecDepth 20000
noncomputable section
def WM(cs:List Crop)(c:Int):Bool:=decide (c<0)||decide (((cs.length:Nat):Int)<=c)
def Wv(e:Nat)(t:Term)(cs:List Crop)(c:Int)(hs:List Rg_)(y:Int)(zs:List A2_)(d:Int)(A:List Rect):Int:=
 if YG e t≠0 then YG e t else if crC cs≠0 then crC cs else if(WM cs c||hs.any λr=>WM cs r.c_)=true then 13
 else if Zo hs≠0 then Zo hs else if y<0\/100<y then 18 else if Zp zs≠0 then Zp zs else if d<0\/36864<d then 9 else if Qr A=true then 0 else 7
theorem Q2X(F:Nat)(k:Int)(p:Place):PH F k p=some (WM p.world_.crops_ k):=by
 unfold PH Mt WM;refine Z9 (λh=>?_) (λh=>?_)
 .rw [h];rfl
 .rw [h];rfl
theorem Z4m{F:Nat}(hF:Q7<=F){l:List Rg_}(hl:l.length<=1000000)(p:Place):MY F l p=some (l.any λr=>WM p.world_.crops_ r.c_):=by
 have h:=hF;unfold Q7 at h
 have:∃i:Int,MR F l p=some i/\(decide (0<=i))=l.any λr=>WM p.world_.crops_ r.c_:=by
  unfold MR;have b:∀(m f i:Nat),i+m=l.length->m<f->∃v:Int,Y3 (λagain (z:Int)=>Kc F l p again z) f ((i:Nat):Int)=some v/\(decide (0<=v))=(l.drop i).any λr=>WM p.world_.crops_ r.c_:=by
   intro m
   induction m with
   |zero=>
    intro f i t o;obtain⟨f,rfl⟩:∃g,f=g+1:=⟨f-1,by omega⟩
    show ∃v:Int,Kc F l p (Y3 _ f) ((i:Nat):Int)=some v/\_;unfold Kc
    refine⟨-1,Z8 (Qa7 (by omega)) rfl,?_⟩;rw[Qq0 (by omega)];rfl
   |succ m ih=>
    intro f i t o;obtain⟨f,rfl⟩:∃g,f=g+1:=⟨f-1,by omega⟩
    have a:i<l.length:=by omega
    obtain⟨v,k,s⟩:=ih f (i+1) (by omega) (by omega);show ∃v:Int,Kc F l p (Y3 _ f) ((i:Nat):Int)=some v/\_
    generalize Y3 (λagain (z:Int)=>Kc F l p again z) f=ag at k⊢;unfold Kc
    have j:Ms F (gl l ((i:Nat):Int).toNat) p=some (WM p.world_.crops_ (gl l i).c_):=by
     unfold Ms;rw[Qa3]
     exact Q4 (Q2X F _ p) rfl
    have e:l.drop i=gl l i::l.drop (i+1):=by rw[Qk1 a,y7 a]
    rw[e,Qk5]
    cases hw:WM p.world_.crops_ (gl l i).c_ with
    |true=>
     refine⟨(i:Int),U3 (Qa5 (by omega)) (Q9 (by omega) (Q4 (j.trans (by rw[hw])) (U3 rfl rfl))),?_⟩;simp
    |false=>
     refine⟨v,U3 (Qa5 (by omega)) (Q9 (by omega) (Q4 (j.trans (by rw[hw])) (Z8 rfl (Q9 (Y8 (by omega) (by omega)) k)))),?_⟩;rw[s];rfl
  have:=b l.length F 0 (by omega) (by omega)
  simpa using this
 obtain⟨i,q,n⟩:=this;unfold MY
 refine Q4 q ?_;rw[<-n]
theorem Q4X{e F:Nat}(hF:Q7+e<=F){p:Place}{t:Term}(ht:TD e t)(hl:p.world_.history_.length<=1000000)(hc:Pi p.world_.crops_):Mu F p t=some (Wv e t p.world_.crops_ p.line_.c_ p.world_.history_ p.world_.year_ p.world_.zones_ p.world_.day_ p.line_.g_.t_):=by
 have a:Q7<=F:=by omega
 unfold Mu Wv;refine Q4 (gv hF ht) (Z9 (λq=>?_) λq=>?_)
 .rw [Qa2 (by simpa using q)]
 rw[Qa1 (by simpa using q)];refine Q4 (Q2G a hc) (Z9 (λq=>?_) λq=>?_)
 .rw [Qa2 (by simpa using q)]
 rw[Qa1 (by simpa using q)];have k1:∀b:Bool,PF F p b=some (if b=true then 18 else if Zp p.world_.zones_≠0 then Zp p.world_.zones_ else if p.world_.day_<0\/36864<p.world_.day_ then 9 else if Qr p.line_.g_.t_=true then 0 else 7):=λb=>by
  unfold PF;cases b
  .simp only[Qi1,Qi0]
   refine Z8 rfl (Q4 (Q1Q a _ _) ?_)
   by_cases h1:Zp p.world_.zones_≠0
   .rw [Qa2 h1,Qa2 h1]
    exact U3 (by simpa using h1) rfl
   rw[Qa1 h1,Qa1 h1]
   by_cases h2:p.world_.day_<0\/36864<p.world_.day_
   .rw [Qa2 h2,Qa2 h2]
    exact U3 rfl rfl
   rw[Qa1 h2,Qa1 h2];refine Z8 rfl (Q4 (Vw a _) ?_)
   cases Qr p.line_.g_.t_<;>rfl
  .exact U3 rfl rfl
 have f:∀b:Bool,PG F p b=some (if b=true then 13 else if Zo p.world_.history_≠0 then Zo p.world_.history_ else if p.world_.year_<0\/100<p.world_.year_ then 18 else if Zp p.world_.zones_≠0 then Zp p.world_.zones_ else if p.world_.day_<0\/36864<p.world_.day_ then 9 else if Qr p.line_.g_.t_=true then 0 else 7):=λb=>by
  unfold PG;cases b
  .simp only[Qi1,Qi0]
   refine Z8 rfl (Q4 (Z2s a _) ?_);refine Z9 (λq=>?_) λq=>?_
   .rw [Qa2 (by simpa using q)]
   rw[Qa1 (by simpa using q)];refine Z9 (λq=>?_) λq=>?_
   .rw [k1,Qa2 rfl,Qa2 (.inl (Qa6 q))]
   .rw [k1]
    by_cases h1:100<p.world_.year_
    .rw [Qa2 (Qa5 h1),Qa2 (.inr h1)]
    .have g:¬decide (100<p.world_.year_)=true:=by simpa using h1
     have h:¬(p.world_.year_<0\/100<p.world_.year_):=by have:=Qa8 q;omega
     rw[Qa1 g,Qa1 h]
  .exact U3 rfl rfl
 refine Q4 (Q2X F _ p) (Z9 (λq=>?_) λq=>?_)
 .rw [f,q];rfl
 .refine Q4 (Z4m a hl p) ?_
  rw[f,q];rfl
end
end Go.Ab
end
section
namespace Go.Ab
set_option maxRecDepth 20000
noncomputable section
def Xs:Truth:=⟨⟨[]⟩,⟨[]⟩,⟨[]⟩⟩
def TS.t3(A:List Rect)(s:TS):Truth:=⟨⟨cn s.Y⟩,⟨cn s.N⟩,⟨cn (s.O A)⟩⟩
def Ud(e:Nat)(t:Term)(l:Line)(y:Int)(cs:List Crop)(hs:List Rg_)(zs:List A2_)(d:Int):Truth×Int:=
 if Wv e t cs l.c_ hs y zs d l.g_.t_≠0 then(Xs,Wv e t cs l.c_ hs y zs d l.g_.t_)else((QF y cs hs zs d l.c_ l.g_.t_ e t).t3 l.g_.t_,0)
theorem Z4y{e:Nat}{t:Term}{cs:List Crop}{c:Int}{hs:List Rg_}{y:Int}{zs:List A2_}{d:Int}{A:List Rect}(ht:TD e t)(h:Wv e t cs c hs y zs d A=0):Yb e t=true:=by
 have a:YG e t=0:=Qt5 λb=>by
  unfold Wv at h;rw[Qa2 b]at h
  exact b h
 unfold YG at a
 by_cases hz:40<QI e t
 .rw [Qa2 hz]at a;cases a
 .rw [Qa1 hz]at a
  by_cases hr:YZ e 8 t=true
  .rw [RE e 8 t ht,Qa4]at hr
   exact hr.2
  .rw [Qa1 hr]at a;cases a
variable {F:Nat} {cs:List Crop} {hs:List Rg_} {zs:List A2_} {y d:Int}
theorem Q5b{e:Nat}(hF:Q7+e<=F){t:Term}(ht:TD e t){l:Line}(hl:hs.length<=1000000)(hc:Pi cs)(hev:Wv e t cs l.c_ hs y zs d l.g_.t_=0->EV y cs hs zs l.c_ l.g_.t_):MG F t l y cs hs zs d=some (Ud e t l y cs hs zs d):=by
 have k:Q7<=F:=by omega
 unfold MG Ud;refine Q4 (Q4X (p:=⟨⟨y,cs,hs,zs,d⟩,l,l.g_.t_⟩) hF ht hl hc) (Z9 (λq=>?_) λq=>?_)
 .rw [Qa2 (by simpa using q)];rfl
 have q:Wv e t cs l.c_ hs y zs d l.g_.t_=0:=by simpa using q
 rw[Qa1 (by rw[q];simp)];have h:=hev q
 have b:=KX (y:=y) (cs:=cs) (hs:=hs) (zs:=zs) (d:=d) (c:=l.c_) (A:=l.g_.t_) e t;refine Q4 (gg (p:=⟨⟨y,cs,hs,zs,d⟩,l,l.g_.t_⟩) h ⟨rfl,rfl,rfl,rfl,rfl,rfl,rfl⟩ e hF ht (Z4y ht q)) ?_
 have i:=(b.vY h.tr).1;have g:=(b.vN h.tr).1
 have f:=(b.vO h.tr).1;generalize QF y cs hs zs d l.c_ l.g_.t_ e t=s at i g f⊢
 have a:∀m:List Rect,m.length<=120->GK F m=some ⟨m⟩:=λm j=>by
  unfold GK;refine Q4 (jz (by unfold Y6;omega)) rfl
 refine Z8 (Qa7 ?_) (Q4 (a _ i) (Q4 (a _ g) (Q4 (a _ f) rfl)));show ¬(120:Int)<y3 (y3 ((cn s.Y).length:Int) ((cn s.N).length:Int)) ((cn (s.O l.g_.t_)).length:Int)
 unfold y3;split<;>split<;>omega
end
end Go.Ab
end
section
namespace Go.Ab
set_option maxRecDepth 20000
noncomputable section
theorem Q2t(F:Nat)(u v:Bool):Hr F u v=some (u&&v):=by
 unfold Hr Fn;cases u<;>rfl
theorem Z3O(F:Nat)(u v:Bool):Fj F u v=some (u && !v):=by
 unfold Fj Fi;cases u<;>rfl
theorem ve{F:Nat}(hF:Q7<=F){l:List Rect}(h:K7 l):Uw F l=some (⟨l⟩,0):=by
 have a:=h.1;refine(za hF (by omega) h.pos).trans ?_
 rw[XY h,Qa1 (by omega)]
theorem Q0q{F:Nat}(hF:Q7<=F){a b c:List Rect}(ha:K7 a)(hb:K7 b)(hc:K7 c):Hp F ⟨a,b,c⟩=some (⟨⟨a⟩,⟨b⟩,⟨c⟩⟩,0):=by
 unfold Hp;exact Q4 (ve hF ha) (Z8 rfl (Q9 (Y8 (by omega) (by omega)) (Q4 (ve hF hb) (Z8 rfl (Q9 (Y8 (by omega) (by omega)) (Q4 (ve hF hc) (Z8 rfl (Q9 (Y8 (by omega) (by omega)) rfl))))))))
end
end Go.Ab
end
section
namespace Go.Ab
set_option maxRecDepth 20000
noncomputable section
def VY(A:List Rect)(s:TS)(G:Sq):TS:=⟨λu v=>s.Y u v&&G u v,λu v=>Q8 A u v && !((s.Y u v&&G u v)||(s.O A u v&&G u v))⟩
theorem Z1j{A:List Rect}{s:TS}(h:TIn A s)(G:Sq):(VY A s G).O A=λu v=>s.O A u v&&G u v:=by
 funext u v
 simp only[VY,TS.O];have:=h.sY u v
 have:=h.sN u v
 cases hA:Q8 A u v<;>cases hY:s.Y u v<;>cases hN:s.N u v<;>cases G u v<;>simp_all
theorem Q0M{A:List Rect}{s:TS}(h:TIn A s){G:Sq}(hG:Fin G):TIn A (VY A s G):=by
 refine⟨UJ h.fY hG,XM (QX A) (vQ (UJ h.fY hG) (UJ h.fO hG)),λu v a=>?_,λu v a=>?_⟩
 .simp only[VY,Qa4]at a
  exact h.sY u v a.1
 .simp only[VY,Qa4]at a
  exact a.1
end
end Go.Ab
end
section
namespace Go.Ab
set_option maxRecDepth 20000
noncomputable section
def ZS(e n:Int):Bool:=QK .i64 (e.fdiv (2 ^ (min n.toNat (IntKind.bits .i64)))) 1==1
theorem Z4G(x:Int):QK .i64 x 1=0\/QK .i64 x 1=1:=by
 unfold QK;have h:(BitVec.ofInt 64 x &&& BitVec.ofInt 64 1).toNat<=1:=by
  rw[BitVec.toNat_and];exact Qc9 Nat.and_le_right (by decide)
 show IntKind.wrap .i64 ((BitVec.ofInt 64 x &&& BitVec.ofInt 64 1).toNat:Nat)=0\/IntKind.wrap .i64 ((BitVec.ofInt 64 x &&& BitVec.ofInt 64 1).toNat:Nat)=1;have a:(BitVec.ofInt 64 x &&& BitVec.ofInt 64 1).toNat=0\/(BitVec.ofInt 64 x &&& BitVec.ofInt 64 1).toNat=1:=by omega
 rcases a with a|a<;>rw[a]
 .left;rfl
 .right;rfl
theorem Vh(e n:Int):(QK .i64 (e.fdiv (2 ^ (min n.toNat (IntKind.bits .i64)))) 1==0)=!ZS e n:=by
 unfold ZS;rcases Z4G (e.fdiv (2 ^ (min n.toNat (IntKind.bits .i64))))with h|h<;>rw[h]<;>rfl
def Vg(p:Int)(b:Bracket):Bool:=decide (p<b.up_)&&(decide (b.up_<=268435456)&&(decide (0<=b.rate_)&&decide (b.rate_<=1048576)))
def YJ(l:List Bracket)(i:Nat):Int:=if i=0 then 0 else(gl l (i-1)).up_
def Ul(l:List Bracket):Bool:=decide (1<=l.length)&&(decide (l.length<=6) && !(List.range l.length).any λi=> !Vg (YJ l i) (gl l i))
theorem Q7H{R:Type}{body:(Int->Option R)->Int->Option R}{c y:Option R}(N:Nat)(p:Nat->Bool)(bad:∀again (i:Nat),i<N->(∀j,j<i->p j=false)->p i=true->body again (i:Int)=c)(good:∀again (i:Nat) z,i<N->(∀j,j<i->p j=false)->p i=false->again ((i:Int)+1)=z->body again (i:Int)=z)(stop:∀again,body again (N:Int)=y){F:Nat}(hF:N<F):Y3 body F 0=if(List.range N).any p=true then c else y:=by
 refine Qa (λz:Int=>∃i:Nat,z=i/\i<=N/\∀j,j<i->p j=false) (λz=>N-z.toNat) (λagain z e f=>?_) ⟨0,rfl,Qc2 _,λj h=>absurd h (Qd7 j)⟩ (by simp;omega);obtain⟨i,rfl,g,a⟩:=e
 rcases Qc8 i N with h|h
 .cases hpi:p i with
  |true=>
   rw[Qa2 (Qd3.2 ⟨i,Qe4.2 h,hpi⟩)];exact bad again i h a hpi
  |false=>
   refine good again i _ h a hpi (f _ ⟨i+1,by omega,h,λj b=>?_⟩ (by omega))
   by_cases hji:j=i
   .rw [hji];exact hpi
   .exact a j (by omega)
 .have:i=N:=by omega
  subst this;rw[Qa1 (by rw[Qf7,Qf0];intro j b;rw[a j (Qe4.1 b)];simp)]
  exact stop again
theorem Q7A{F:Nat}{l:List Bracket}(hF:l.length<F)(hl:l.length<=1000000):Rq F l=some (Ul l):=by
 unfold Rq;refine(Q7H (c:=some false) (y:=some (decide (1<=l.length)&&decide (l.length<=6))) l.length (λi=> !Vg (YJ l i) (gl l i)) (λa i v n o=>?_) (λa i z v n o t=>?_) (λa=>?_) hF).trans ?_
 all_goals try (
  have f:i=0\/(1<=i/\1<=(gl l (i-1)).up_):=by
   rcases Qj8 i with h|h
   .exact .inl h
   .refine .inr ⟨h,?_⟩
    have s:∀j,j<i->1<=(gl l j).up_:=by
     intro j
     induction j with
     |zero=>
      intro r;have:=n 0 r
      rw[Ql4]at this;unfold Vg YJ at this
      rw[Qa2 rfl]at this;simp only[Qa4,Qb7]at this;omega
     |succ j ih=>
      intro u;have e:=ih (by omega)
      have:=n (j+1) u
      rw[Ql4]at this;unfold Vg YJ at this
      rw[Qa1 (by omega),Qs8]at this;simp only[Qa4,Qb7]at this;omega
    exact s (i-1) (by omega)
  have q:(((i:Nat):Int)-1).toNat=i-1:=by omega)
 .show Kg F l a (i:Int)=_
  unfold Kg;have k1:Uv F (i:Int) a true=some false:=rfl
  refine U3 (Qa5 (by omega)) (Q9 (by omega) (Z9 (λ_=>k1) (λe=>Z9 (λ_=>k1) (λg=>Z9 (λ_=>k1) (λk=>Z9 (λ_=>k1) (λm=>?_))))));have e:=Qa8 e
  have g:=Qa8 g;have k:=Qa8 k
  have m:=Qa8 m;simp only[Qa3]at e g k m
  have b : Vg (YJ l i) (gl l i)=false:=by simpa using o
  unfold Vg YJ at b;rcases f with h|⟨h,w⟩
  .subst h
   rw[Qa2 rfl,Qa5 (by omega),Qa5 (by omega),Qa5 (by omega),Qa5 (by omega)]at b;simp at b
  .rw [Qa1 (by omega)]at b
   refine U3 (Qa5 (by omega)) (Q9 (Y8 (by omega) (by omega)) (Q9 (by omega) ?_));rw[q,Qa5 (p:=(gl l ((i:Nat):Int).toNat).up_<=_)]
   .exact k1
   .simp only[Qa3]
    by_cases h6:(gl l (i-1)).up_<(gl l i).up_
    .rw [Qa5 h6,Qa5 (by omega),Qa5 (by omega),Qa5 (by omega)]at b
     simp at b
    .omega
 .show Kg F l a (i:Int)=_
  unfold Kg;have b : Vg (YJ l i) (gl l i)=true:=by simpa using o
  unfold Vg YJ at b;simp only[Qa4,Qb7]at b
  obtain⟨e,g,k,m⟩:=b;have k1:Uv F (i:Int) a false=z:=Z8 rfl (Q9 (Y8 (by omega) (by omega)) t)
  have x:1<=(gl l i).up_:=by
   rcases f with h|⟨h,w⟩
   .rw [Qa2 h]at e;omega
   .rw [Qa1 (by omega)]at e;omega
  refine U3 (Qa5 (by omega)) (Q9 (by omega) (Z8 (Qa7 (by simp only[Qa3];omega)) (Z8 (Qa7 (by simp only[Qa3];omega)) (Z8 (Qa7 (by simp only[Qa3];omega)) (Z8 (Qa7 (by simp only[Qa3];omega)) ?_)))));refine Z9 (λh=>?_) (λ_=>k1)
  have h:=Qa6 h;refine Q9 (Y8 (by omega) (by omega)) (Q9 (by omega) ?_)
  rw[q,Qa7]
  .exact k1
  .rw [Qa1 (by omega)]at e
   simp only[Qa3];omega
 .show Kg F l a (l.length:Int)=_
  unfold Kg qs Rp;refine Z8 (Qa7 (by omega)) ?_
  rw[show decide ((1:Int)<=((l.length:Nat):Int))=decide (1<=l.length)from Qq5.2 (by omega),show decide (((l.length:Nat):Int)<=(6:Int))=decide (l.length<=6)from Qq5.2 (by omega)]
  cases decide (1<=l.length)<;>rfl
 .unfold Ul
  cases(List.range l.length).any λi=> !Vg (YJ l i) (gl l i)<;>simp
theorem Q9j{F:Nat}{l:List Bracket}(hF:l.length<F)(hl:l.length<=1000000):Sr F l=some (Ul l):=by
 unfold Sr Ul;have e:BN F l true=some false:=rfl
 by_cases h1:1<=l.length
 .refine Z8 (Qa7 (by omega)) ?_
  by_cases h2:l.length<=6
  .rw [Qa5 h1,Qa5 h2,Qa7 (by omega)]
   unfold BN;refine Z8 rfl ?_
   suffices hs:∀(n i:Nat),l.length-i<n->i<=l.length->Y3 (λagain (z:Int×Int)=>Xd F l again z.1 z.2) n (YJ l i,(i:Int))=some (!((List.range l.length).drop i).any λi=> !Vg (YJ l i) (gl l i)) by
    have:=hs F 0 (by omega) (by omega)
    simpa[YJ]using this
   intro n
   induction n with
   |zero=>intro i h;omega
   |succ n ih=>
    intro i j g;have b:=ih (i+1)
    revert b
    show _->Xd F l (Y3 (λagain (z:Int×Int)=>Xd F l again z.1 z.2) n) (YJ l i) (i:Int)=_;generalize Y3 (λagain (z:Int×Int)=>Xd F l again z.1 z.2) n=ag
    intro b;unfold Xd
    by_cases hil:i<l.length
    .rw [show(List.range l.length).drop i=i::(List.range l.length).drop (i+1) by rw[Qk1 (by simpa using hil),List.getElem_range]]
     rw[Qk5];refine U3 (Qa5 (by omega)) (Q9 (by omega) ?_)
     simp only[Qa3];have a:Jp F l (i:Int) ag true=some false:=rfl
     have f:Jp F l (i:Int) ag false=some (!((List.range l.length).drop (i+1)).any λi=> !Vg (YJ l i) (gl l i)):=by
      unfold Jp;refine Z8 rfl (Q9 (Y8 (by omega) (by omega)) ?_)
      rw[<-b (by omega) (by omega)];congr 1
     rw[show Vg (YJ l i) (gl l i)=(decide (YJ l i<(gl l i).up_)&&(decide ((gl l i).up_<=268435456)&&(decide (0<=(gl l i).rate_)&&decide ((gl l i).rate_<=1048576))))from rfl]
     by_cases g1:YJ l i<(gl l i).up_
     .rw [Qa5 g1]
      refine Z8 (Qa7 (by omega)) ?_
      by_cases g2:(gl l i).up_<=268435456
      .rw [Qa5 g2]
       refine Z8 (Qa7 (by omega)) ?_
       by_cases g3:0<=(gl l i).rate_
       .rw [Qa5 g3]
        refine Z8 (Qa7 (by omega)) ?_
        by_cases g4:(gl l i).rate_<=1048576
        .rw [Qa5 g4,Qa7 (by omega),f];simp
        .rw [Qa7 g4,Qa5 (by omega),a];simp
       .rw [Qa7 g3]
        exact U3 (Qa5 (by omega)) a
      .rw [Qa7 g2]
       exact U3 (Qa5 (by omega)) a
     .rw [Qa7 g1]
      exact U3 (Qa5 (by omega)) a
    .have:i=l.length:=by omega
     subst this;refine Z8 (Qa7 (by omega)) ?_
     rw[Qq0 (by simp)];rfl
  .rw [Qa7 h2,Qa5 (by omega),Qn8,Bool.and_false];exact e
 .rw [Qa7 h1]
  exact U3 (Qa5 (by omega)) e
structure SD (d:Nat) (s:Scheme):Prop where
 cond:TD d s.cond_
 name:s.n_.size<=4294967296
 brl:s.brackets_.length<=1000000
def Za(d:Nat)(s:Scheme):Int:=
 if s.N_<0\/15<s.N_\/s.least_<0\/268435456<s.least_ then 2 else if QV s.n_=false then 5 else if YG d s.cond_≠0 then YG d s.cond_
 else if Ul s.brackets_=false\/s.excludes_<0\/65536<=s.excludes_\/ZS s.excludes_ s.N_=true then 3 else 0
theorem Rs{d F:Nat}(hd:d<=2000000)(hF:Q7+d<=F){s:Scheme}(h:SD d s):GO F s=some (Za d s):=by
 have f:Q7<=F:=by omega
 have e:=f;unfold Q7 at e
 unfold GO Za;have b:Ki F s true=some 2:=rfl
 by_cases h1:s.N_<0
 .rw [Qa2 (.inl h1)];exact U3 (Qa5 h1) b
 refine Z8 (Qa7 h1) ?_
 by_cases h2:15<s.N_
 .rw [Qa2 (.inr (.inl h2))];exact U3 (Qa5 h2) b
 refine Z8 (Qa7 h2) ?_
 by_cases h3:s.least_<0
 .rw [Qa2 (.inr (.inr (.inl h3)))];exact U3 (Qa5 h3) b
 refine Z8 (Qa7 h3) ?_
 by_cases h4:268435456<s.least_
 .rw [Qa2 (.inr (.inr (.inr h4))),Qa5 h4];exact b
 rw[Qa1 (by omega),Qa7 h4];unfold Ki
 refine Z8 rfl (Q4 (Li (by have:=h.name;omega) h.name) ?_)
 cases hn:QV s.n_ with
 |false=>rfl
 |true=>
  rw[Qa1 (by simp)];refine Z8 rfl (Q4 (gv hF h.cond) ?_)
  by_cases h5:YG d s.cond_=0
  .rw [Qa1 (by simpa using h5)]
   refine Z8 (by simp[h5]) (Q4 (Q7A (by have:=h.brl;omega) h.brl) ?_);have a:Kh F true=some 3:=rfl
   cases hbr:Ul s.brackets_ with
   |false=>rw[Qa2 (.inl rfl)];exact U3 rfl a
   |true=>
    refine Z8 rfl ?_
    by_cases h6:s.excludes_<0
    .rw [Qa2 (.inr (.inl h6))];exact U3 (Qa5 h6) a
    refine Z8 (Qa7 h6) ?_
    by_cases h7:65536<=s.excludes_
    .rw [Qa2 (.inr (.inr (.inl h7)))];exact U3 (Qa5 h7) a
    refine Z8 (Qa7 h7) (Q9 (by omega) ?_);show Kh F (ZS s.excludes_ s.N_)=_
    cases ZS s.excludes_ s.N_ with
    |true=>rw[Qa2 (.inr (.inr (.inr rfl)))];exact a
    |false=>rw[Qa1 (by simp;omega)];rfl
  .rw [Qa2 h5]
   exact U3 (by simpa using h5) rfl
theorem cY{d F:Nat}(hd:d<=2000000)(hF:Q7+d<=F){s:Scheme}(h:SD d s):Ss F s=some (Za d s):=by
 have f:Q7<=F:=by omega
 have e:=f;unfold Q7 at e
 unfold Ss Za;have b:Ky F s true=some 2:=rfl
 by_cases h1:s.N_<0
 .rw [Qa2 (.inl h1)];exact U3 (Qa5 h1) b
 refine Z8 (Qa7 h1) ?_
 by_cases h2:15<s.N_
 .rw [Qa2 (.inr (.inl h2))];exact U3 (Qa5 h2) b
 refine Z8 (Qa7 h2) ?_
 by_cases h3:s.least_<0
 .rw [Qa2 (.inr (.inr (.inl h3)))];exact U3 (Qa5 h3) b
 refine Z8 (Qa7 h3) ?_
 by_cases h4:268435456<s.least_
 .rw [Qa2 (.inr (.inr (.inr h4))),Qa5 h4];exact b
 rw[Qa1 (by omega),Qa7 h4];unfold Ky
 refine Z8 rfl (Q4 (Q9S f _) ?_)
 cases hn:QV s.n_ with
 |false=>rfl
 |true=>
  rw[Qa1 (by simp)];refine Z8 rfl (Q4 (Q9s hd hF h.cond) ?_)
  by_cases h5:YG d s.cond_=0
  .rw [Qa1 (by simpa using h5)]
   refine Z8 (by simp[h5]) (Q4 (Q9j (by have:=h.brl;omega) h.brl) ?_);have a:Kx F true=some 3:=rfl
   cases hbr:Ul s.brackets_ with
   |false=>rw[Qa2 (.inl rfl)];exact U3 rfl a
   |true=>
    refine Z8 rfl ?_
    by_cases h6:s.excludes_<0
    .rw [Qa2 (.inr (.inl h6))];exact U3 (Qa5 h6) a
    refine Z8 (Qa7 h6) ?_
    by_cases h7:65536<=s.excludes_
    .rw [Qa2 (.inr (.inr (.inl h7)))];exact U3 (Qa5 h7) a
    refine Z8 (Qa7 h7) (Q9 (by omega) ?_);show Kx F (ZS s.excludes_ s.N_)=_
    cases ZS s.excludes_ s.N_ with
    |true=>rw[Qa2 (.inr (.inr (.inr rfl)))];exact a
    |false=>rw[Qa1 (by simp;omega)];rfl
  .rw [Qa2 h5]
   exact U3 (by simpa using h5) rfl
end
end Go.Ab
end
section
namespace Go.Ab
set_option maxRecDepth 20000
noncomputable section
theorem Q8A(F:Nat)(u v:Bool):RS F u v=some (u && !v):=by
 unfold RS RR;cases u<;>rfl
theorem Q8K{F:Nat}(hF:Q7<=F)(a b:Re_):RT F a b=some (Gx a b):=by
 unfold RT Gx Bg;refine Q4 (Vw hF a) (Z9 (λh=>?_) λh=>?_)
 .rw [h,Qc6]
  refine Q4 (Vw hF b) (Z9 (λe=>?_) λe=>?_)
  .rw [e,Qc6]
   have f:=(Wh _).1 h;have vb:=(Wh _).1 e
   refine Q4 (WH hF f.le8 vb.le8 f.pos vb.pos rfl rfl (k:=λu v=>u && !v) rfl (Q8A F)) ?_;congr 1
   show _=decide (cn (λx y=>Q8 a.t_ x y && !Q8 b.t_ x y)=[])
   cases cn λx y=>Q8 a.t_ x y && !Q8 b.t_ x y with
   |nil=>rfl
   |cons r l=>simp;omega
  .rw [e];rfl
 .rw [h];rfl
theorem jL{e:Nat}{s:Scheme}(h:Za e s=0):0<=s.N_:=by
 unfold Za at h
 by_cases hn:s.N_<0\/15<s.N_\/s.least_<0\/268435456<s.least_
 .rw [Qa2 hn]at h;cases h
 .omega
def yH(e:Nat)(l:Line)(parcel:Re_)(s:Scheme)(w:World)(v:Re_×Int):Truth×Int:=
 if Qr parcel.t_=false then(Xs,7)
 else if(Ud e s.cond_ l w.year_ w.crops_ w.history_ w.zones_ w.day_).2≠0 then(Xs,(Ud e s.cond_ l w.year_ w.crops_ w.history_ w.zones_ w.day_).2)
 else if Za e s≠0 then(Xs,17)
 else if v.2≠0 then(Xs,v.2)
 else if Gx l.g_ parcel=false then(Xs,12)
 else if ZS l.s_ s.N_=false then(⟨⟨[]⟩,l.g_,⟨[]⟩⟩,0)
 else((VY l.g_.t_ (QF w.year_ w.crops_ w.history_ w.zones_ w.day_ l.c_ l.g_.t_ e s.cond_) (Q8 v.1.t_)).t3 l.g_.t_,0)
theorem Z3r{e:Nat}{t:Term}{l:Line}{y:Int}{cs:List Crop}{hs:List Rg_}{zs:List A2_}{d:Int}(h:(Ud e t l y cs hs zs d).2=0):Wv e t cs l.c_ hs y zs d l.g_.t_=0/\Ud e t l y cs hs zs d=((QF y cs hs zs d l.c_ l.g_.t_ e t).t3 l.g_.t_,0):=by
 unfold Ud at h⊢
 by_cases hz:Wv e t cs l.c_ hs y zs d l.g_.t_=0
 .rw [Qa1 (by rw[hz];simp)]
  exact⟨hz,rfl⟩
 .rw [Qa2 hz]at h
  exact(hz h).elim
theorem Z3U{e F:Nat}(he:e<=2000000)(hF:Q7+e<=F){l:Line}{parcel:Re_}{s:Scheme}{w:World}(hs:SD e s)(hl:w.history_.length<=1000000)(hc:Pi w.crops_)(hev:Wv e s.cond_ w.crops_ l.c_ w.history_ w.year_ w.zones_ w.day_ l.g_.t_=0->EV w.year_ w.crops_ w.history_ w.zones_ l.c_ l.g_.t_){v:Re_×Int}(hv:Pq F parcel w.zones_ w.day_ w.most_=some v)(hval:v.2=0->K7 v.1.t_):Gc F l parcel s w=some (yH e l parcel s w v):=by
 have g:Q7<=F:=by omega
 unfold Gc yH;refine Q4 (Vw g _) (Z9 (λq=>?_) λq=>?_)
 .rw [Qa2 (by simpa using q)];rfl
 rw[Qa1 (by simpa using q)];refine Q4 (Q5b hF hs.cond hl hc hev) (Z9 (λq=>?_) λq=>?_)
 .rw [Qa2 (by simpa using q)];rfl
 have q:(Ud e s.cond_ l w.year_ w.crops_ w.history_ w.zones_ w.day_).2=0:=by simpa using q
 rw[Qa1 (by rw[q];simp)];obtain⟨D,hE⟩:=Z3r q
 have h:=hev D;rw[hE]
 refine Q4 (Rs he hF hs) (Z9 (λq=>?_) λj=>?_)
 .rw [Qa2 (by simpa using q)];rfl
 have j:Za e s=0:=by simpa using j
 rw[Qa1 (by rw[j];simp)];refine Q4 hv (Z9 (λq=>?_) λq=>?_)
 .rw [Qa2 (by simpa using q)];rfl
 have q:v.2=0:=by simpa using q
 rw[Qa1 (by rw[q];simp)];have m:=hval q
 refine Q4 (Q8K g _ _) (Z9 (λq=>?_) λq=>?_)
 .rw [Qa2 (by simpa using q)];rfl
 rw[Qa1 (by simpa using q)];have f:=KX (y:=w.year_) (cs:=w.crops_) (hs:=w.history_) (zs:=w.zones_) (d:=w.day_) (c:=l.c_) (A:=l.g_.t_) e s.cond_
 generalize QF w.year_ w.crops_ w.history_ w.zones_ w.day_ l.c_ l.g_.t_ e s.cond_=T at f⊢;have o:=Q0M f (QX v.1.t_)
 have x:=Z1j f (Q8 v.1.t_);have p:=o.vY h.tr
 have B:=o.vN h.tr;have n:=o.vO h.tr
 refine Q9 (jL j) (Z9 (λq=>?_) λq=>?_)
 .rw [Vh]at q
  rw[Qa2 (by simpa using q)];exact Q4 (Q0q g K7.nil h.tr.val K7.nil) rfl
 .rw [Vh]at q
  rw[Qa1 (by simpa using q)];have G:=p.1
  have t:=n.1;rw[x]at n t
  have H:=WH g (a:=cn T.Y) (b:=v.1.t_) (f.vY h.tr).le8 m.le8 (f.vY h.tr).pos m.pos (ZY f.fY) rfl (k:=λu v=>u&&v) rfl (Q2t F);have I:=WH g (a:=cn (T.O l.g_.t_)) (b:=v.1.t_) (f.vO h.tr).le8 m.le8 (f.vO h.tr).pos m.pos (ZY f.fO) rfl (k:=λu v=>u&&v) rfl (Q2t F)
  have z:Q8 (cn (VY l.g_.t_ T (Q8 v.1.t_)).Y++cn λu w=>T.O l.g_.t_ u w&&Q8 v.1.t_ u w)=λu w=>(T.Y u w&&Q8 v.1.t_ u w)||(T.O l.g_.t_ u w&&Q8 v.1.t_ u w):=by
   funext u w
   rw[Ch,Yj o.fY,Yj (UJ f.fO (QX _))];rfl
  have C:=WH g (a:=l.g_.t_) (b:=cn (VY l.g_.t_ T (Q8 v.1.t_)).Y++cn λu w=>T.O l.g_.t_ u w&&Q8 v.1.t_ u w) h.tr.val.le8 (by rw[Qb5];omega) h.tr.val.pos (λr i=>by
   rcases Qb2.1 i with i|i
   .exact p.pos r i
   .exact n.pos r i) rfl z (k:=λu v=>u && !v) rfl (Z3O F)
  have E:=Q0q g p B n;unfold TS.t3
  rw[x];exact Q4 H (Q4 I (Q4 (qf g (by exact Qc9 G (by omega)) (by exact Qc9 t (by omega))) (Q4 C (Q4 E rfl))))
end
end Go.Ab
end
