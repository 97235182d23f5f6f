/- Abstract states over the model. -/
import Derived.Test.YtdmkoclpbbcapaaGreatDoorLwA
set_option linter.unusedVariables false
set_option linter.unusedSimpArgs false
set_option maxRecDepth 20000
namespace Go.Ab
noncomputable section
variable {l:List Span}{i:Nat}{rs:List Re_}
theorem Yn.half2{l:List Rect}(hc:Yn l){x0:Int}{w h:Nat}(hb:∀r∈l,x0<=r.L_/\r.R_<=x0+w/\0<=r.w_/\r.H_<=h):l.length<=h*((w+1) / 2):=by
 obtain⟨b,d,rfl⟩:=hc;have g:∀c∈b,∃s,s∈c.v:=λc hc=>Qp2 _ (d.ne c hc)
 have f:∀c∈b,∀s∈c.v,(⟨s.L_,c.lo,s.R_,c.hi⟩:Rect)∈flat b:=λc hc s e=>Qb8.2 ⟨c,hc,Qc5.2 ⟨s,e,rfl⟩⟩
 have k:(b.length:Int)<=h-0:=d.runs.len (by omega) λc hc=>by
  grind
 have i:∀c∈b,c.v.length<=(w+1) / 2:=λc hc=>by
  have:=(d.sp c hc).half (n:=x0+w) (a:=x0) (by omega) λs e=>by
   grind
  omega
 have j:=CA i;have m:b.length*((w+1) / 2)<=h*((w+1) / 2):=Qb3 _ (by omega)
 omega
def PZ(d:Int)(S:Int->Int->Bool):Prop:=∀u v,S u v=true->d<=u/\u<d+9/\0<=v/\v<9
theorem Q0s{S:Int->Int->Bool}(hf:Fin S){d:Int}(h0:0<=d/\d<=100)(hb:PZ d S):J1 (cn S)/\∀r∈cn S,d<=r.L_/\r.R_<=d+9/\0<=r.w_/\r.H_<=9:=by
 have e:=UN hf;have c:∀r∈cn S,d<=r.L_/\r.R_<=d+9/\0<=r.w_/\r.H_<=9:=by
  intro r c;obtain⟨f,g⟩:=e.pos c
  have a:=hb r.L_ r.w_ (by rw[<-QN hf];exact Uy c ((QG _ _ _).2 (by omega)));have b:=hb (r.R_-1) (r.H_-1) (by rw[<-QN hf];exact Uy c ((QG _ _ _).2 (by omega)))
  omega
 have i:=e.half2 (x0:=d) (w:=9) (h:=9) λr h=>by have:=c r h;omega
 refine⟨⟨by omega,λr h=>?_,e⟩,c⟩;obtain⟨f,g⟩:=e.pos h
 have:=c r h
 rw[Yr];omega
theorem Z2g(F:Nat)(t:Tape)(n m:Int):yL F t n m=GA F t n m:=rfl
def VI(d:Int)(r:Rect):Rect:=⟨r.L_+d,r.w_,r.R_+d,r.H_⟩
theorem jG(d:Int)(l:List Rect)(u v:Int):Q2 (l.map (VI d)) u v=Q2 l (u-d) v:=by
 unfold Q2;rw[Qu5]
 congr 1
 funext r
 show(VI d r).has u v=r.has (u-d) v;rw[Qe1,QG,QG]
 show r.L_+d<=u/\u<r.R_+d/\r.w_<=v/\v<r.H_↔r.L_<=u-d/\u-d<r.R_/\r.w_<=v/\v<r.H_;omega
theorem vg{α:Type}[Emb α](l:List α)(i j:Nat)(x:α)(hj:j<l.length):gl (l.set i x) j=if i=j then x else gl l j:=by
 unfold gl
 grind
theorem Uz{α:Type}[Emb α](l:List α)(i:Nat)(h:i<l.length):gl l i=l[i]:=by
 unfold gl;rw[Qa0,Qb9 h];rfl
theorem Z3f{α:Type}[Emb α]{l m:List α}(h:l.length=m.length)(hg:∀i,i<l.length->gl l i=gl m i):l=m:=by
 apply Qu6 h;intro i a b
 have:=hg i a
 rwa [Uz l i a,Uz m i b]at this
theorem Z3d{α β:Type}[Emb α][Emb β](f:α->β)(l:List α)(i:Nat)(h:i<l.length):gl (l.map f) i=f (gl l i):=by
 rw[Uz _ i (by simpa using h),Uz l i h];simp
def Fi(q r:Rect):Rect:=⟨max q.L_ r.L_,max q.w_ r.w_,min q.R_ r.R_,min q.H_ r.H_⟩
theorem Z4t(q:Rect)(l:List Rect)(u v:Int):Q2 (l.map (Fi q)) u v=(Q2 l u v&&Q2 [q] u v):=by
 rw[Qe1,Qa4,YP,YP,YP];constructor
 .rintro ⟨r,a,h⟩
  obtain⟨s,b,rfl⟩:=Qc5.1 a;rw[QG]at h
  simp only[Fi]at h;exact⟨⟨s,b,(QG _ _ _).2 (by omega)⟩,q,by simp,(QG _ _ _).2 (by omega)⟩
 .rintro ⟨⟨s,b,c⟩,r,a,d⟩
  rw[Qb0]at a;subst a
  rw[QG]at c d;refine⟨_,Qc5.2 ⟨s,b,rfl⟩,(QG _ _ _).2 ?_⟩
  simp only[Fi];omega
theorem Q1E{α:Type}[Emb α](l m:List α)(h:i<l.length):gl (l++m) i=gl l i:=by
 unfold gl;rw[Qa0,Qg0 h, <-Qa0]
theorem Q1D{α:Type}[Emb α](l:List α)(x:α):gl (l++[x]) l.length=x:=by
 unfold gl;rw[Qa0,Qk1 (Qb4 _)];simp
structure ParT (rs:List Re_):Prop where
 len:1<=rs.length/\rs.length<=3
 one:∀i,i<rs.length->∃w h:Int,2<=w/\w<=9/\2<=h/\h<=9/\gl rs i=⟨[⟨10*i,0,10*i+w,h⟩]⟩
theorem ParT.pl(h:ParT rs)(hi:i<rs.length):PZ (10*i) (Q2 (gl rs i).t_):=by
 intro u v a;obtain⟨w,k,f,j,g,e,c⟩:=h.one i hi
 rw[c,YP]at a;obtain⟨r,b,d⟩:=a
 rw[Qb0]at b;subst b
 rw[QG]at d
 grind
theorem ParT.val(h:ParT rs)(hi:i<rs.length):J1 (gl rs i).t_:=by
 obtain⟨w,k,d,b,e,c,a⟩:=h.one i hi;have:=h.len
 rw[a];exact Mv ((Yr _).2 (by simp only;omega))
structure LinO (K:Int) (rs:List Re_) (x:Line):Prop where
 crop:0<=x.c_/\x.c_<K
 par:1<=x.p_/\x.p_<=rs.length
 sch:1<=x.s_/\x.s_<=15
 val:J1 x.g_.t_
 ne:x.g_.t_.length≠0
 sub:∀u v,Q2 x.g_.t_ u v=true->Q2 (gl rs (x.p_-1).toNat).t_ u v=true
def Q4x(a b:Line):Prop:=∀u v,Q2 a.g_.t_ u v=true->Q2 b.g_.t_ u v=true->False
structure LinT (K:Int) (rs:List Re_) (l:List Line):Prop where
 one:∀x∈l,LinO K rs x
 apart:l.Pairwise Q4x
 two:∀i,i<l.length->∃R:List Rect,R.length<=2/\∀u v,Q2 (gl l i).g_.t_ u v=(Q2 R u v && !(l.take i).any λx=>Q2 x.g_.t_ u v)
theorem LinO.pl{K:Int}(hp:ParT rs){x:Line}(h:LinO K rs x):PZ (10*(x.p_-1)) (Q2 x.g_.t_):=by
 intro u v a;have:=h.par
 have b:=hp.pl (i:=(x.p_-1).toNat) (by omega) u v (h.sub u v a);omega
theorem LinT.nil(K:Int)(rs:List Re_):LinT K rs []:=⟨λx b=>by simp at b,.nil,λi a=>by simp at a⟩
theorem Z1X{F:Nat}(hF:Q6<=F){t:Tape}(ht:TOk t){cs:List Crop}(hcs:1<=cs.length/\cs.length<=100){most:Int}(m1:0<=most)(m2:most<=10):
  ∃t' l ns rs,TQ F t cs most=some (t',l,ns,rs)/\TOk t' /\ ParT rs/\LinT (cs.length:Nat) rs l/\(l.length:Int)<=most:=by
 have P:=hF;unfold Q6 at hF
 obtain⟨t1,c,e1,o1,c1,c2⟩:=WE (F:=F) ht (lo:=1) (hi:=3) (by omega) (by omega) (by omega);have N:∀(rs:List Re_) (ns:List Int) (tl:List Int) (L:Int),ParT rs->ns.length=rs.length->TOk ⟨tl,L⟩->∃t' l,TP F cs most tl L ns rs=some (t',l,ns,rs)/\TOk t' /\ LinT (cs.length:Nat) rs l/\(l.length:Int)<=most:=by
  intro rs ns tl L I A hT;have e6:=I.len
  obtain ⟨G,k,e2,o2,k1,k2⟩:=QK (F:=F) hT (n:=most+1) (by omega) (by omega);have K:∀ (k f:Nat) (t:Tape) (l:List Line),k<f->(l.length:Int)+k<=most->TOk t->LinT (cs.length:Nat) rs l ->
    ∃t' l',Y3 (λd (z:Int×List Int×Int×List Line)=>Pj F cs ns rs d z.1 z.2.1 z.2.2.1 z.2.2.2) f ((k:Int),t.l_,t.at_,l)=some (t',l',ns,rs)/\TOk t' /\ LinT (cs.length:Nat) rs l' /\ (l'.length:Int)<=most:=by
   intro k
   induction k with
   |zero=>
    intro f t l hf b7 ht Y
    cases f with
    |zero=>omega
    |succ f=>exact⟨⟨t.l_,t.at_⟩,l,rfl,ht,Y,by omega⟩
   |succ k ih=>
    intro f t l hf b7 ht Y
    cases f with
    |zero=>omega
    |succ f=>
     obtain⟨L,p,ea,oa,p1,p2⟩:=QK (F:=F) ht (n:=(ns.length:Nat)) (by omega) (by omega);obtain⟨tb,a,R0,eb,ob,ha,g0,e3,b8⟩:=Z2c P oa (n:=9) (most:=2) (by omega) (by omega) (by omega) (by omega)
     obtain⟨tc,c,ec,oc,c1,c2⟩:=QK (F:=F) ob (n:=(cs.length:Nat)) (by omega) (by omega);obtain⟨td,s,ed,od,s1,s2⟩:=QK (F:=F) oc (n:=15) (by omega) (by omega)
     have H:p.toNat<rs.length:=by omega
     have d8:=ha.val.1
     let S:Nat->Int->Int->Bool:=λn u v=>(Q2 (a.t_.map (VI (10*p))) u v&&Q2 (gl rs p.toNat).t_ u v) && !((l.take n).any λx=>Q2 x.g_.t_ u v)
     have b3:∀n,PZ (10*p) (S n):=λn u v h=>by
      have h1:Q2 (gl rs p.toNat).t_ u v=true:=by
       grind
      have:=I.pl H u v h1
      omega
     have a5:S 0=λu v=>Qn (Q2 (a.t_.map (VI (10*p))) u v) (Q2 (gl rs p.toNat).t_ u v) 2:=by
      funext u v
      simp[S,Qn]
     have a3:∀r∈a.t_,0<=r.L_/\r.L_<r.R_/\r.R_<=9/\0<=r.w_/\r.w_<r.H_/\r.H_<=9:=ha.box;have c6:∀r∈a.t_.map (VI (10*p)),QQ r=true:=λr hr=>by
      obtain⟨q,hq,rfl⟩:=Qc5.1 hr;have:=a3 q hq
      rw[Yr];simp only[VI]
      omega
     have m:∀n,n<=l.length->Fin (S n):=by
      intro n
      induction n with
      |zero=>intro _;rw[a5];exact Vu _ _ 2
      |succ n ihn=>
       intro J;have h0:=ihn (by omega)
       have e:S (n+1)=λu v=>Qn (Q2 (cn (S n)) u v) (Q2 (gl l n).g_.t_ u v) 3:=by
        funext u v
        rw[QN h0];simp only[S,Qn]
        rw[Qr (by omega),Qs1]
        grind
       rw[e];exact Vu _ _ 3
     have O:∀n,n<l.length->(cn λu v=>Qn (Q2 (cn (S n)) u v) (Q2 (gl l n).g_.t_ u v) 3)=cn (S (n+1)):=λn J=>by
      congr 1
      funext u v
      rw[QN (m n (by omega))];simp only[S,Qn]
      rw[Qr J,Qs1]
      grind
     have E:∀n,n<=l.length->J1 (cn (S n)):=λn J=>(Q0s (m n J) (by omega) (b3 n)).1
     have a6:∃t' l',TO F cs rs ((k+1:Nat):Int) l (L,p) (tb,a) (Y3 (λd (z:Int×List Int×Int×List Line)=>Pj F cs ns rs d z.1 z.2.1 z.2.2.1 z.2.2.2) f) (a.t_.map (VI (10*p)))=some (t',l',ns,rs)/\TOk t' /\ LinT (cs.length:Nat) rs l' /\ (l'.length:Int)<=most:=by
      have b2:∃t' l',DW F cs ((k+1:Nat):Int) l (L,p) (tb,a) (Y3 (λd (z:Int×List Int×Int×List Line)=>Pj F cs ns rs d z.1 z.2.1 z.2.2.1 z.2.2.2) f) (cn (S l.length))=some (t',l',ns,rs)/\TOk t' /\ LinT (cs.length:Nat) rs l' /\ (l'.length:Int)<=most:=by
       have ek:((k+1:Nat):Int)-1=(k:Int):=by omega
       by_cases Z:(cn (S l.length)).length=0
       .obtain ⟨G,M,g,o,D⟩:=ih f tb l (by omega) (by omega) ob Y
        refine⟨G,M,?_,o,D⟩;unfold DW
        refine Z4 (by simp[Z]) ?_;unfold DV
        simp only
        rw[ek];exact Q9 (V9 (by omega) (by omega)) g
       .have hx:LinO (cs.length:Nat) rs ⟨p+1,⟨cn (S l.length)⟩,c,1+s⟩:=by
         refine⟨⟨c1,c2⟩,by simp only;omega,by simp only;omega,E _ (Qb4 _),Z,λu v B=>?_⟩;have B:Q2 (cn (S l.length)) u v=true:=B
         rw[QN (m _ (Qb4 _))]at B;simp only[S,Qa4]at B
         have e5:(p+1-1:Int)=p:=by omega
         simp only[e5];exact B.1.2
        have c4:LinT (cs.length:Nat) rs (l++[⟨p+1,⟨cn (S l.length)⟩,c,1+s⟩]):=by
         refine⟨λx h=>?_,?_,λi hi=>?_⟩
         .rcases Qa9.1 h with h|h
          .exact Y.one x h
          .rw [Qb0]at h;subst h;exact hx
         .rw [Qd5]
          refine⟨Y.apart,Qe6 _ _,λx h y hy u v h1 h2=>?_⟩;rw[Qb0]at hy
          subst hy;have h2:Q2 (cn (S l.length)) u v=true:=h2
          rw[QN (m _ (Qb4 _))]at h2;simp only[S,Qa4,Qh7,Qe5]at h2
          have:=Qf6.1 h2.2 x h
          exact this h1
         .rcases Qd3 i l.length with T|T
          .obtain ⟨R,r1,r2⟩:=Y.two i T
           refine⟨R,r1,λu v=>?_⟩;rw[Q1E _ _ T,List.take_append_of_le_length (by omega)]
           exact r2 u v
          .have h6:i=l.length:=by simp at hi;omega
           subst h6;obtain⟨w,k2,_,_,_,_,e5⟩:=I.one p.toNat H
           refine⟨(R0.map (VI (10*p))).map (Fi ⟨10*(p.toNat:Int),0,10*(p.toNat:Int)+w,k2⟩),by simp;omega,λu v=>?_⟩;rw[Q1D,List.take_left' rfl,Z4t,jG]
           show Q2 (cn (S l.length)) u v=_;rw[QN (m _ (Qb4 _))]
           simp only[S,Qe5];rw[jG,e5,b8]
        obtain⟨G,M,g,o,D⟩:=ih f td (l++[⟨p+1,⟨cn (S l.length)⟩,c,1+s⟩]) (by omega) (by simp;omega) od c4;refine⟨G,M,?_,o,D⟩
        unfold DW;refine Y9 (Qa6 (by omega)) ?_
        refine Q9 (V9 (by simp only;omega) (by simp only;omega)) (Q4 ec (Q4 ed ?_));refine Q9 (V9 (by simp only;omega) (by simp only;omega)) (Q9 (by simp[Z9];omega) ?_)
        unfold DV;simp only
        rw[ek];exact Q9 (V9 (by omega) (by omega)) g
      obtain⟨G,M,g,o,D⟩:=b2;refine⟨G,M,?_,o,D⟩
      unfold TO;refine Q9 (by simp only;omega) ?_
      refine Q4 ((Te P (a:=a.t_.map (VI (10*p))) (b:=(gl rs p.toNat).t_) (how:=2) (by simp;omega) (by have:=(I.val H).1;omega) c6 (I.val H).2.1).trans (congrArg some (congrArg cn a5.symm))) ?_;refine z5 (λz:List Rect×Int=>∃n:Nat,z.2=n/\n<=l.length/\z.1=cn (S n)) (λz=>l.length-z.2.toNat) (λd z Z U=>?_) ⟨0,rfl,by omega,rfl⟩ (by simp only;omega)
      obtain⟨V,n0⟩:=z;obtain⟨n,rfl,J,rfl⟩:=Z
      simp only at J⊢;unfold Q1e
      refine Z6 (λh=>?_) (λh=>?_)
      .have h:n<l.length:=by simpa using h
       refine Q9 (by omega) ?_;simp only[Qa3]
       have hx:=Y.one _ (K3 h);refine Q4 ((Te P (a:=cn (S n)) (b:=(gl l n).g_.t_) (how:=3) (by have:=(E n J).1;omega) (by have:=hx.val.1;omega) (E n J).2.1 hx.val.2.1).trans (congrArg some (O n h))) ?_
       refine Q9 (V9 (by omega) (by omega)) (U _ ⟨n+1,by simp,h,rfl⟩ (by simp only;omega))
      .have h:n=l.length:=by
        have:¬n<l.length:=by simpa using h
        omega
       subst h;exact g
     obtain⟨G,M,g,o,D⟩:=a6;refine⟨G,M,?_,o,D⟩
     show Pj F cs ns rs _ ((k+1:Nat):Int) t.l_ t.at_ l=_;unfold Pj
     refine Y9 (by simp) (Q4 ea ?_);rw[Z2g]
     refine Q4 eb ?_;refine z5 (λz:Int×List Rect=>∃i:Nat,z.1=i/\i<=a.t_.length/\z.2.length=a.t_.length/\∀j,j<a.t_.length->gl z.2 j=if j<i then VI (10*p) (gl a.t_ j)else gl a.t_ j) (λz=>a.t_.length-z.1.toNat) (λd z Z U=>?_)
      ⟨0,rfl,by omega,rfl,λj _=>by rw[Qa1 (by omega)]⟩ (by simp only;omega)
     obtain⟨i0,V⟩:=z;obtain⟨i,rfl,hi,Q,hV⟩:=Z
     simp only at Q hV⊢;unfold Q1f
     simp only[Qa3];refine Z6 (λh=>?_) (λh=>?_)
     .have h:i<a.t_.length:=by simpa using h
      have c8:gl V i=gl a.t_ i:=by rw[hV i h,Qa1 (by omega)]
      have hb:=a3 _ (K3 h);have a4:∀x,gl (V.set i x) i=x:=λx=>by rw[vg V i i x (by omega),Qa2 rfl]
      simp only[c8,a4];refine Q9 (by omega) (Q9 (V9 (by omega) (by omega)) (Q9 (V9 (by omega) (by omega)) (Q9 (by omega) (Q9 (V9 (by omega) (by omega)) (Q9 (V9 (by omega) (by omega)) (Q9 (by omega) (Q9 (by rw[List.length_set];omega) (Q9 (V9 (by omega) (by omega)) ?_))))))))
      refine U _ ⟨i+1,by simp,h,by simp[Q],λj hj=>?_⟩ (by simp only;omega);rw[vg _ i j _ (by simp;omega)]
      by_cases hij:i=j
      .subst hij
       rw[Qa2 rfl,Qa2 (by omega)];rfl
      .rw [Qa1 hij,vg V i j _ (by omega),Qa1 hij,hV j hj]
       by_cases h6:j<i
       .rw [Qa2 h6,Qa2 (by omega)]
       .rw [Qa1 h6,Qa1 (by omega)]
     .have h:i=a.t_.length:=by
       have:¬i<a.t_.length:=by simpa using h
       omega
      have b5:V=a.t_.map (VI (10*p)):=Z3f (by simp[Q]) λj hj=>by
       rw[hV j (by omega),Qa2 (by omega),Z3d _ _ _ (by omega)]
      rw[b5];exact g
  obtain⟨t',l,g,o,D,q4⟩:=K k.toNat F G [] (by omega) (by simp;omega) o2 (LinT.nil _ _);refine⟨t',l,?_,o,D,q4⟩
  unfold TP;refine Q9 (V9 (by omega) (by omega)) (Q4 e2 ?_)
  have:(k.toNat:Int)=k:=by omega
  rw[this]at g;exact g
 have K:∀ (k f:Nat) (t:Tape) (ns:List Int) (rs:List Re_),k<f->TOk t->ns.length=rs.length->rs.length+k=c.toNat->(∀ i,i<rs.length->∃ w h:Int,2<=w/\w<=9/\2<=h/\h<=9/\gl rs i=⟨[⟨10*i,0,10*i+w,h⟩]⟩) ->
   ∃t' l X C,Y3 (λd (z:Int×List Int×Int×List Int×List Re_)=>Pk F cs most d z.1 z.2.1 z.2.2.1 z.2.2.2.1 z.2.2.2.2) f ((k:Int),t.l_,t.at_,ns,rs)=some (t',l,X,C)/\TOk t' /\ ParT C /\ LinT (cs.length:Nat) C l/\(l.length:Int)<=most:=by
  intro k
  induction k with
  |zero=>
   intro f t ns rs hf ht A hk W
   cases f with
   |zero=>omega
   |succ f=>
    have I:ParT rs:=⟨by omega,W⟩;obtain⟨t',l,g,o,D,q4⟩:=N rs ns t.l_ t.at_ I A ht
    refine⟨t',l,ns,rs,?_,o,I,D,q4⟩;show Pk F cs most _ 0 t.l_ t.at_ ns rs=_
    unfold Pk;exact Z4 rfl g
  |succ k ih=>
   intro f t ns rs hf ht A hk W
   cases f with
   |zero=>omega
   |succ f=>
    obtain⟨L,w,ea,oa,w1,w2⟩:=WE (F:=F) ht (lo:=2) (hi:=9) (by omega) (by omega) (by omega);obtain⟨tb,h,eb,ob,h1,h2⟩:=WE (F:=F) oa (lo:=2) (hi:=9) (by omega) (by omega) (by omega)
    obtain⟨t',l,X,C,g,o⟩:=ih f tb (ns++[((ns.length:Nat):Int)+1]) (rs++[⟨[⟨10*((ns.length:Nat):Int),0,10*((ns.length:Nat):Int)+w,h⟩]⟩]) (by omega) ob (by simp[A]) (by simp;omega) (λi hi=>by
     rcases Qd3 i rs.length with T|T
     .have e:gl (rs++[(⟨[⟨10*((ns.length:Nat):Int),0,10*((ns.length:Nat):Int)+w,h⟩]⟩:Re_)]) i=gl rs i:=by
       unfold gl;rw[Qa0,Qg0 T, <-Qa0]
      rw[e];exact W i T
     .have h6:i=rs.length:=by simp at hi;omega
      subst h6;refine⟨w,h,by omega,by omega,by omega,by omega,?_⟩
      unfold gl;rw[Qa0,Qk1 (Qb4 _),A]
      simp)
    refine⟨t',l,X,C,?_,o⟩;show Pk F cs most _ ((k+1:Nat):Int) t.l_ t.at_ ns rs=_
    unfold Pk;have ek:((k+1:Nat):Int)-1=(k:Int):=by omega
    refine Y9 (by simp) (Q9 (V9 (by omega) (by omega)) (Q9 (by simp[Z9];omega) (Q9 (V9 (by omega) (by omega)) (Q9 (V9 (by omega) (by omega)) (Q4 ea (Q9 (V9 (by omega) (by omega)) (Q4 eb (Q9 (by simp[Z9];omega) (Q9 (V9 (by omega) (by omega)) ?_)))))))));rw[ek]
    exact g
 obtain⟨t',l,ns,rs,g,o⟩:=K c.toNat F t1 [] [] (by omega) o1 rfl (by simp) (λi hi=>by simp at hi);refine⟨t',l,ns,rs,?_,o⟩
 unfold TQ;refine Q4 e1 ?_
 have:(c.toNat:Int)=c:=by omega
 rw[this]at g;exact g
theorem FT{α:Type}{d:α}:∀{l:List (Rn α)},Runs l->∀{c:Rn α},c∈l->K5 d l c.lo=c.v
 |[],_,_,b=>(Qe7 b).elim
 |a::l,h,c,b=>by
  rw[K5];rcases Qf0.1 b with rfl|b
  .rw [Qa2 ⟨Qn3 _,h.pos _ (by simp)⟩]
  .have e:=(h.head c b).1
   have f:=h.pos a (by simp);rw[Qa1 (by omega)]
   exact FT h.tail b
theorem SpOk.two(h:SpOk l){s q:Span}(hs:s∈l)(hq:q∈l):s=q\/s.R_<q.L_\/q.R_<s.L_:=by
 obtain⟨i,b,rfl⟩:=Qs2.1 hs;obtain⟨j,c,rfl⟩:=Qs2.1 hq
 have a:=Qc8.1 h.ch
 grind
theorem yT(l:List Span)(x:Int):J8 l x=true↔∃s∈l,s.L_<=x/\x<s.R_:=by
 unfold J8;rw[Qc6]
 constructor
 .rintro ⟨s,a,h⟩
  unfold Span.has at h
  grind
 .rintro ⟨s,a,h⟩
  refine⟨s,a,?_⟩;unfold Span.has
  simp;exact h
theorem SpOk.start(h:SpOk l){s:Span}(hs:s∈l):J8 l s.L_=true/\J8 l (s.L_-1)=false:=by
 have d:=h.pos s hs;refine⟨(yT _ _).2 ⟨s,hs,by omega,by omega⟩,?_⟩
 rw[<-Qg3,yT];rintro⟨q,a,e,c⟩
 have b:=h.pos q a;rcases h.two hs a with rfl|h3|h3<;>omega
theorem SpOk.filt(h:SpOk l)(p:Span->Bool):SpOk (l.filter p):=⟨λs a=>h.pos s (Qf9.1 a).1,h.ch.filter p⟩
def WW(k u:Int):Prop:=10*k<=u/\u<10*k+9
end
end Go.Ab
