/- Abstract states over the model. -/
import Derived.Test.YtjafnaffdfaokaaGreatDoorLwB
import Derived.Test.YtjafnaffdfaokaaGreatDoorLwA
set_option linter.unusedVariables false
set_option linter.unusedSimpArgs false
section
namespace Go.Ab
set_option maxRecDepth 20000
noncomputable section
theorem Yg.half2{l:List Rect}(hc:Yg l){x0:Int}{w h:Nat}(hb:∀ r ∈ l,x0<=r.L_/\r.R_<=x0+w/\0<=r.w_/\r.H_<=h):l.length<=h*((w+1) / 2):=by
 obtain ⟨b,hB,rfl⟩:=hc;have f:∀ c ∈ b,∃ s,s ∈ c.v:=fun c hc=>List.exists_mem_of_ne_nil _ (hB.ne c hc)
 have d:∀ c ∈ b,∀ s ∈ c.v,(⟨s.L_,c.lo,s.R_,c.hi⟩:Rect) ∈ flat b:=fun c hc s e=>List.mem_flatMap.2 ⟨c,hc,List.mem_map.2 ⟨s,e,rfl⟩⟩
 have i:(b.length:Int)<=h-0:=hB.runs.len (by omega) fun c hc=>by
  obtain ⟨s,e⟩:=f c hc;have:=hb _ (d c hc s e)
  simp only at this;omega
 have g:∀ c ∈ b,c.v.length<=(w+1) / 2:=fun c hc=>by
  have:=(hB.sp c hc).half (n:=x0+w) (a:=x0) (by omega) fun s e=>by
   have:=hb _ (d c hc s e)
   simp only at this ⊢;omega
  omega
 have j:=Q0r g;have k:b.length*((w+1) / 2)<=h*((w+1) / 2):=Nat.mul_le_mul_right _ (by omega)
 omega
def Hi(d:Int)(S:Int->Int->Bool):Prop:=∀ u v,S u v=true->d<=u/\u<d+9/\0<=v/\v<9
theorem qT{S:Int->Int->Bool}(hf:Fin S){d:Int}(h0:0<=d/\d<=100)(hb:Hi d S):J2 (cn S)/\∀ r ∈ cn S,d<=r.L_/\r.R_<=d+9/\0<=r.w_/\r.H_<=9:=by
 have e:=UT hf;have c:∀ r ∈ cn S,d<=r.L_/\r.R_<=d+9/\0<=r.w_/\r.H_<=9:=by
  intro r c;obtain ⟨f,g⟩:=e.pos c
  have a:=hb r.L_ r.w_ (by rw [<-ZM hf];exact Th c ((Zp _ _ _).2 (by omega)));have b:=hb (r.R_-1) (r.H_-1) (by rw [<-ZM hf];exact Th c ((Zp _ _ _).2 (by omega)))
  omega
 have i:=e.half2 (x0:=d) (w:=9) (h:=9) fun r h=>by have:=c r h;omega
 refine ⟨⟨by omega,fun r h=>?_,e⟩,c⟩;obtain ⟨f,g⟩:=e.pos h
 have:=c r h
 rw [ZT];omega
theorem Z0v(F:Nat)(t:Tape)(n m:Int):zF F t n m=Ga F t n m:=rfl
def VC(d:Int)(r:Rect):Rect:=⟨r.L_+d,r.w_,r.R_+d,r.H_⟩
theorem gj(d:Int)(l:List Rect)(u v:Int):Q4 (l.map (VC d)) u v=Q4 l (u-d) v:=by
 unfold Q4;rw [List.any_map]
 congr 1
 funext r
 show (VC d r).has u v=r.has (u-d) v;rw [Bool.eq_iff_iff,Zp,Zp]
 show r.L_+d<=u/\u<r.R_+d/\r.w_<=v/\v<r.H_↔r.L_<=u-d/\u-d<r.R_/\r.w_<=v/\v<r.H_;omega
theorem zV{α:Type}[Emb α](l:List α)(i j:Nat)(x:α)(hj:j<l.length):gl (l.set i x) j=if i=j then x else gl l j:=by
 unfold gl;rw [List.getD_eq_getElem?_getD,List.getElem?_set]
 by_cases h:i=j
 .subst h;rw [if_pos rfl,if_pos rfl,if_pos hj];rfl
 .rw [if_neg h,if_neg h, <-List.getD_eq_getElem?_getD]
theorem JJ{α:Type}[Emb α](l:List α)(i:Nat)(h:i<l.length):gl l i=l[i]:=by
 unfold gl;rw [List.getD_eq_getElem?_getD,List.getElem?_eq_getElem h];rfl
theorem Z1t{α:Type}[Emb α]{l m:List α}(h:l.length=m.length)(hg:∀ i,i<l.length->gl l i=gl m i):l=m:=by
 apply List.ext_getElem h;intro i a b
 have:=hg i a
 rwa [JJ l i a,JJ m i b] at this
theorem Q0f{α β:Type}[Emb α][Emb β](f:α->β)(l:List α)(i:Nat)(h:i<l.length):gl (l.map f) i=f (gl l i):=by
 rw [JJ _ i (by simpa using h),JJ l i h];simp
def Co(q r:Rect):Rect:=⟨max q.L_ r.L_,max q.w_ r.w_,min q.R_ r.R_,min q.H_ r.H_⟩
theorem Z2B(q:Rect)(l:List Rect)(u v:Int):Q4 (l.map (Co q)) u v=(Q4 l u v&&Q4 [q] u v):=by
 rw [Bool.eq_iff_iff,Bool.and_eq_true,WQ,WQ,WQ];constructor
 .rintro ⟨r,a,h⟩
  obtain ⟨s,b,rfl⟩:=List.mem_map.1 a;rw [Zp] at h
  simp only [Co] at h;exact ⟨⟨s,b,(Zp _ _ _).2 (by omega)⟩,q,by simp,(Zp _ _ _).2 (by omega)⟩
 .rintro ⟨⟨s,b,c⟩,r,a,d⟩
  rw [List.mem_singleton] at a;subst a
  rw [Zp] at c d;refine ⟨_,List.mem_map.2 ⟨s,b,rfl⟩,(Zp _ _ _).2 ?_⟩
  simp only [Co];omega
theorem zX{α:Type}[Emb α](l m:List α){i:Nat}(h:i<l.length):gl (l++m) i=gl l i:=by
 unfold gl;rw [List.getD_eq_getElem?_getD,List.getElem?_append_left h, <-List.getD_eq_getElem?_getD]
theorem zW{α:Type}[Emb α](l:List α)(x:α):gl (l++[x]) l.length=x:=by
 unfold gl;rw [List.getD_eq_getElem?_getD,List.getElem?_append_right (Nat.le_refl _)];simp
structure ParT (rs:List Re_):Prop where
 len:1<=rs.length/\rs.length<=3
 one:∀ i,i<rs.length->∃ w h:Int,2<=w/\w<=9/\2<=h/\h<=9/\gl rs i=⟨[⟨10*i,0,10*i+w,h⟩]⟩
theorem ParT.pl{rs:List Re_}(h:ParT rs){i:Nat}(hi:i<rs.length):Hi (10*i) (Q4 (gl rs i).t_):=by
 intro u v a;obtain ⟨w,k,f,g,e,j,d⟩:=h.one i hi
 rw [d,WQ] at a;obtain ⟨r,c,b⟩:=a
 rw [List.mem_singleton] at c;subst c
 rw [Zp] at b;simp only at b
 omega
theorem ParT.val{rs:List Re_}(h:ParT rs){i:Nat}(hi:i<rs.length):J2 (gl rs i).t_:=by
 obtain ⟨w,k,c,d,b,e,a⟩:=h.one i hi;have:=h.len
 rw [a];exact Pw ((ZT _).2 (by simp only;omega))
structure LinO (K:Int) (rs:List Re_) (x:Line):Prop where
 crop:0<=x.c_/\x.c_<K
 par:1<=x.p_/\x.p_<=rs.length
 sch:1<=x.s_/\x.s_<=15
 val:J2 x.g_.t_
 ne:x.g_.t_.length≠0
 sub:∀ u v,Q4 x.g_.t_ u v=true->Q4 (gl rs (x.p_-1).toNat).t_ u v=true
def Q2H(a b:Line):Prop:=∀ u v,Q4 a.g_.t_ u v=true->Q4 b.g_.t_ u v=true->False
structure LinT (K:Int) (rs:List Re_) (l:List Line):Prop where
 one:∀ x ∈ l,LinO K rs x
 apart:l.Pairwise Q2H
 two:∀ i,i<l.length->∃ R:List Rect,R.length<=2/\∀ u v,Q4 (gl l i).g_.t_ u v=(Q4 R u v && !(l.take i).any fun x=>Q4 x.g_.t_ u v)
theorem LinO.pl{K:Int}{rs:List Re_}(hp:ParT rs){x:Line}(h:LinO K rs x):Hi (10*(x.p_-1)) (Q4 x.g_.t_):=by
 intro u v a;have:=h.par
 have b:=hp.pl (i:=(x.p_-1).toNat) (by omega) u v (h.sub u v a);omega
theorem LinT.nil(K:Int)(rs:List Re_):LinT K rs []:=⟨fun x a=>by simp at a,.nil,fun i b=>by simp at b⟩
theorem Z0m{F:Nat}(hF:Q7<=F){t:Tape}(ht:TOk t){cs:List Crop}(hcs:1<=cs.length/\cs.length<=100){most:Int}(m1:0<=most)(m2:most<=10):
  ∃ t' l ns rs,SQ F t cs most=some (t',l,ns,rs)/\TOk t' /\ ParT rs/\LinT (cs.length:Nat) rs l/\(l.length:Int)<=most:=by
 have X:=hF;unfold Q7 at hF
 obtain ⟨t1,c,e1,o1,c1,c2⟩:=Wy (F:=F) ht (lo:=1) (hi:=3) (by omega) (by omega) (by omega);have K:∀ (rs:List Re_) (ns:List Int) (tl:List Int) (Q:Int),ParT rs->ns.length=rs.length->TOk ⟨tl,Q⟩->∃ t' l,SO F cs most tl Q ns rs=some (t',l,ns,rs)/\TOk t' /\ LinT (cs.length:Nat) rs l/\(l.length:Int)<=most:=by
  intro rs ns tl Q I E hT;have f6:=I.len
  obtain ⟨H,k,e2,o2,k1,k2⟩:=QQ (F:=F) hT (n:=most+1) (by omega) (by omega);have U:∀ (k f:Nat) (t:Tape) (l:List Line),k<f->(l.length:Int)+k<=most->TOk t->LinT (cs.length:Nat) rs l ->
    ∃ t' l',Z9 (fun d (z:Int×List Int×Int×List Line)=>XB F cs ns rs d z.1 z.2.1 z.2.2.1 z.2.2.2) f ((k:Int),t.l_,t.at_,l)=some (t',l',ns,rs)/\TOk t' /\ LinT (cs.length:Nat) rs l' /\ (l'.length:Int)<=most:=by
   intro k
   induction k with
   | zero=>
    intro f t l hf c0 ht L
    cases f with
    | zero=>omega
    | succ f=>exact ⟨⟨t.l_,t.at_⟩,l,rfl,ht,L,by omega⟩
   | succ k ih=>
    intro f t l hf c0 ht L
    cases f with
    | zero=>omega
    | succ f=>
     obtain ⟨Q,p,ea,oa,p1,p2⟩:=QQ (F:=F) ht (n:=(ns.length:Nat)) (by omega) (by omega);obtain ⟨tb,a,R0,eb,ob,ha,e7,f5,c3⟩:=Z0r X oa (n:=9) (most:=2) (by omega) (by omega) (by omega) (by omega)
     obtain ⟨tc,c,ec,oc,c1,c2⟩:=QQ (F:=F) ob (n:=(cs.length:Nat)) (by omega) (by omega);obtain ⟨td,s,ed,od,s1,s2⟩:=QQ (F:=F) oc (n:=15) (by omega) (by omega)
     have G:p.toNat<rs.length:=by omega
     have f2:=ha.val.1
     let S:Nat->Int->Int->Bool:=fun n u v=>(Q4 (a.t_.map (VC (10*p))) u v&&Q4 (gl rs p.toNat).t_ u v) && !((l.take n).any fun x=>Q4 x.g_.t_ u v)
     have b3:∀ n,Hi (10*p) (S n):=fun n u v h=>by
      have h1:Q4 (gl rs p.toNat).t_ u v=true:=by
       simp only [S,Bool.and_eq_true] at h;exact h.1.2
      have:=I.pl G u v h1
      omega
     have a5:S 0=fun u v=>z6 (Q4 (a.t_.map (VC (10*p))) u v) (Q4 (gl rs p.toNat).t_ u v) 2:=by
      funext u v
      simp [S,z6]
     have a6:∀ r ∈ a.t_,0<=r.L_/\r.L_<r.R_/\r.R_<=9/\0<=r.w_/\r.w_<r.H_/\r.H_<=9:=ha.box;have b5:∀ r ∈ a.t_.map (VC (10*p)),QP r=true:=fun r hr=>by
      obtain ⟨q,hq,rfl⟩:=List.mem_map.1 hr;have:=a6 q hq
      rw [ZT];simp only [VC]
      omega
     have g:∀ n,n<=l.length->Fin (S n):=by
      intro n
      induction n with
      | zero=>intro _;rw [a5];exact Vn _ _ 2
      | succ n ihn=>
       intro J;have h0:=ihn (by omega)
       have e:S (n+1)=fun u v=>z6 (Q4 (cn (S n)) u v) (Q4 (gl l n).g_.t_ u v) 3:=by
        funext u v
        rw [ZM h0];simp only [S,z6]
        rw [Qx (by omega),List.any_append];simp [Bool.and_assoc]
       rw [e];exact Vn _ _ 3
     have O:∀ n,n<l.length->(cn fun u v=>z6 (Q4 (cn (S n)) u v) (Q4 (gl l n).g_.t_ u v) 3)=cn (S (n+1)):=fun n J=>by
      congr 1
      funext u v
      rw [ZM (g n (by omega))];simp only [S,z6]
      rw [Qx J,List.any_append];simp [Bool.and_assoc]
     have D:∀ n,n<=l.length->J2 (cn (S n)):=fun n J=>(qT (g n J) (by omega) (b3 n)).1
     have a3:∃ t' l',SN F cs rs ((k+1:Nat):Int) l (Q,p) (tb,a) (Z9 (fun d (z:Int×List Int×Int×List Line)=>XB F cs ns rs d z.1 z.2.1 z.2.2.1 z.2.2.2) f) (a.t_.map (VC (10*p)))=some (t',l',ns,rs)/\TOk t' /\ LinT (cs.length:Nat) rs l' /\ (l'.length:Int)<=most:=by
      have b7:∃ t' l',Dl F cs ((k+1:Nat):Int) l (Q,p) (tb,a) (Z9 (fun d (z:Int×List Int×Int×List Line)=>XB F cs ns rs d z.1 z.2.1 z.2.2.1 z.2.2.2) f) (cn (S l.length))=some (t',l',ns,rs)/\TOk t' /\ LinT (cs.length:Nat) rs l' /\ (l'.length:Int)<=most:=by
       have ek:((k+1:Nat):Int)-1=(k:Int):=by omega
       by_cases hz:(cn (S l.length)).length=0
       .obtain ⟨H,T,m,o,B⟩:=ih f tb l (by omega) (by omega) ob L
        refine ⟨H,T,?_,o,B⟩;unfold Dl
        refine Z5 (by simp [hz]) ?_;unfold Dk
        simp only
        rw [ek];exact Q8 (V9 (by omega) (by omega)) m
       .have hx:LinO (cs.length:Nat) rs ⟨p+1,⟨cn (S l.length)⟩,c,1+s⟩:=by
         refine ⟨⟨c1,c2⟩,by simp only;omega,by simp only;omega,D _ (Nat.le_refl _),hz,fun u v A=>?_⟩;have A:Q4 (cn (S l.length)) u v=true:=A
         rw [ZM (g _ (Nat.le_refl _))] at A;simp only [S,Bool.and_eq_true] at A
         have e5:(p+1-1:Int)=p:=by omega
         simp only [e5];exact A.1.2
        have c5:LinT (cs.length:Nat) rs (l++[⟨p+1,⟨cn (S l.length)⟩,c,1+s⟩]):=by
         refine ⟨fun x h=>?_,?_,fun i hi=>?_⟩
         .rcases List.mem_append.1 h with h|h
          .exact L.one x h
          .rw [List.mem_singleton] at h;subst h;exact hx
         .rw [List.pairwise_append]
          refine ⟨L.apart,List.pairwise_singleton _ _,fun x h y hy u v h1 Z=>?_⟩;rw [List.mem_singleton] at hy
          subst hy;have Z:Q4 (cn (S l.length)) u v=true:=Z
          rw [ZM (g _ (Nat.le_refl _))] at Z;simp only [S,Bool.and_eq_true,Bool.not_eq_true',List.take_length] at Z
          have:=List.any_eq_false.1 Z.2 x h
          exact this h1
         .rcases Nat.lt_or_ge i l.length with M|M
          .obtain ⟨R,r1,r2⟩:=L.two i M
           refine ⟨R,r1,fun u v=>?_⟩;rw [zX _ _ M,List.take_append_of_le_length (by omega)]
           exact r2 u v
          .have h6:i=l.length:=by simp at hi;omega
           subst h6;obtain ⟨w,k2,_,_,_,_,e5⟩:=I.one p.toNat G
           refine ⟨(R0.map (VC (10*p))).map (Co ⟨10*(p.toNat:Int),0,10*(p.toNat:Int)+w,k2⟩),by simp;omega,fun u v=>?_⟩;rw [zW,List.take_left' rfl,Z2B,gj]
           show Q4 (cn (S l.length)) u v=_;rw [ZM (g _ (Nat.le_refl _))]
           simp only [S,List.take_length];rw [gj,e5,c3]
        obtain ⟨H,T,m,o,B⟩:=ih f td (l++[⟨p+1,⟨cn (S l.length)⟩,c,1+s⟩]) (by omega) (by simp;omega) od c5;refine ⟨H,T,?_,o,B⟩
        unfold Dl;refine Y7 (decide_eq_true (by omega)) ?_
        refine Q8 (V9 (by simp only;omega) (by simp only;omega)) (Q3 ec (Q3 ed ?_));refine Q8 (V9 (by simp only;omega) (by simp only;omega)) (Q8 (by simp [Y5];omega) ?_)
        unfold Dk;simp only
        rw [ek];exact Q8 (V9 (by omega) (by omega)) m
      obtain ⟨H,T,m,o,B⟩:=b7;refine ⟨H,T,?_,o,B⟩
      unfold SN;refine Q8 (by simp only;omega) ?_
      refine Q3 ((Sd X (a:=a.t_.map (VC (10*p))) (b:=(gl rs p.toNat).t_) (how:=2) (by simp;omega) (by have:=(I.val G).1;omega) b5 (I.val G).2.1).trans (congrArg some (congrArg cn a5.symm))) ?_;refine K9 (fun z:List Rect×Int=>∃ n:Nat,z.2=n/\n<=l.length/\z.1=cn (S n)) (fun z=>l.length-z.2.toNat) (fun d z hz N=>?_) ⟨0,rfl,by omega,rfl⟩ (by simp only;omega)
      obtain ⟨V,n0⟩:=z;obtain ⟨n,rfl,J,rfl⟩:=hz
      simp only at J ⊢;unfold bB
      refine Z6 (fun h=>?_) (fun h=>?_)
      .have h:n<l.length:=by simpa using h
       refine Q8 (by omega) ?_;simp only [Int.toNat_natCast]
       have hx:=L.one _ (J7 h);refine Q3 ((Sd X (a:=cn (S n)) (b:=(gl l n).g_.t_) (how:=3) (by have:=(D n J).1;omega) (by have:=hx.val.1;omega) (D n J).2.1 hx.val.2.1).trans (congrArg some (O n h))) ?_
       refine Q8 (V9 (by omega) (by omega)) (N _ ⟨n+1,by simp,h,rfl⟩ (by simp only;omega))
      .have h:n=l.length:=by
        have:¬ n<l.length:=by simpa using h
        omega
       subst h;exact m
     obtain ⟨H,T,m,o,B⟩:=a3;refine ⟨H,T,?_,o,B⟩
     show XB F cs ns rs _ ((k+1:Nat):Int) t.l_ t.at_ l=_;unfold XB
     refine Y7 (by simp) (Q3 ea ?_);rw [Z0v]
     refine Q3 eb ?_;refine K9 (fun z:Int×List Rect=>∃ i:Nat,z.1=i/\i<=a.t_.length/\z.2.length=a.t_.length/\∀ j,j<a.t_.length->gl z.2 j=if j<i then VC (10*p) (gl a.t_ j) else gl a.t_ j) (fun z=>a.t_.length-z.1.toNat) (fun d z hz N=>?_)
      ⟨0,rfl,by omega,rfl,fun j _=>by rw [if_neg (by omega)]⟩ (by simp only;omega)
     obtain ⟨i0,V⟩:=z;obtain ⟨i,rfl,hi,P,hV⟩:=hz
     simp only at P hV ⊢;unfold bC
     simp only [Int.toNat_natCast];refine Z6 (fun h=>?_) (fun h=>?_)
     .have h:i<a.t_.length:=by simpa using h
      have b4:gl V i=gl a.t_ i:=by rw [hV i h,if_neg (by omega)]
      have hb:=a6 _ (J7 h);have a4:∀ x,gl (V.set i x) i=x:=fun x=>by rw [zV V i i x (by omega),if_pos rfl]
      simp only [b4,a4];refine Q8 (by omega) (Q8 (V9 (by omega) (by omega)) (Q8 (V9 (by omega) (by omega)) (Q8 (by omega) (Q8 (V9 (by omega) (by omega)) (Q8 (V9 (by omega) (by omega)) (Q8 (by omega) (Q8 (by rw [List.length_set];omega) (Q8 (V9 (by omega) (by omega)) ?_))))))))
      refine N _ ⟨i+1,by simp,h,by simp [P],fun j hj=>?_⟩ (by simp only;omega);rw [zV _ i j _ (by simp;omega)]
      by_cases hij:i=j
      .subst hij
       rw [if_pos rfl,if_pos (by omega)];rfl
      .rw [if_neg hij,zV V i j _ (by omega),if_neg hij,hV j hj]
       by_cases h6:j<i
       .rw [if_pos h6,if_pos (by omega)]
       .rw [if_neg h6,if_neg (by omega)]
     .have h:i=a.t_.length:=by
       have:¬ i<a.t_.length:=by simpa using h
       omega
      have b2:V=a.t_.map (VC (10*p)):=Z1t (by simp [P]) fun j hj=>by
       rw [hV j (by omega),if_pos (by omega),Q0f _ _ _ (by omega)]
      rw [b2];exact m
  obtain ⟨t',l,m,o,B,q4⟩:=U k.toNat F H [] (by omega) (by simp;omega) o2 (LinT.nil _ _);refine ⟨t',l,?_,o,B,q4⟩
  unfold SO;refine Q8 (V9 (by omega) (by omega)) (Q3 e2 ?_)
  have:(k.toNat:Int)=k:=by omega
  rw [this] at m;exact m
 have U:∀ (k f:Nat) (t:Tape) (ns:List Int) (rs:List Re_),k<f->TOk t->ns.length=rs.length->rs.length+k=c.toNat->(∀ i,i<rs.length->∃ w h:Int,2<=w/\w<=9/\2<=h/\h<=9/\gl rs i=⟨[⟨10*i,0,10*i+w,h⟩]⟩) ->
   ∃ t' l W C,Z9 (fun d (z:Int×List Int×Int×List Int×List Re_)=>XC F cs most d z.1 z.2.1 z.2.2.1 z.2.2.2.1 z.2.2.2.2) f ((k:Int),t.l_,t.at_,ns,rs)=some (t',l,W,C)/\TOk t' /\ ParT C /\ LinT (cs.length:Nat) C l/\(l.length:Int)<=most:=by
  intro k
  induction k with
  | zero=>
   intro f t ns rs hf ht E hk Y
   cases f with
   | zero=>omega
   | succ f=>
    have I:ParT rs:=⟨by omega,Y⟩;obtain ⟨t',l,m,o,B,q4⟩:=K rs ns t.l_ t.at_ I E ht
    refine ⟨t',l,ns,rs,?_,o,I,B,q4⟩;show XC F cs most _ 0 t.l_ t.at_ ns rs=_
    unfold XC;exact Z5 rfl m
  | succ k ih=>
   intro f t ns rs hf ht E hk Y
   cases f with
   | zero=>omega
   | succ f=>
    obtain ⟨Q,w,ea,oa,w1,w2⟩:=Wy (F:=F) ht (lo:=2) (hi:=9) (by omega) (by omega) (by omega);obtain ⟨tb,h,eb,ob,h1,Z⟩:=Wy (F:=F) oa (lo:=2) (hi:=9) (by omega) (by omega) (by omega)
    obtain ⟨t',l,W,C,m,o⟩:=ih f tb (ns++[((ns.length:Nat):Int)+1]) (rs++[⟨[⟨10*((ns.length:Nat):Int),0,10*((ns.length:Nat):Int)+w,h⟩]⟩]) (by omega) ob (by simp [E]) (by simp;omega) (fun i hi=>by
     rcases Nat.lt_or_ge i rs.length with M|M
     .have e:gl (rs++[(⟨[⟨10*((ns.length:Nat):Int),0,10*((ns.length:Nat):Int)+w,h⟩]⟩:Re_)]) i=gl rs i:=by
       unfold gl;rw [List.getD_eq_getElem?_getD,List.getElem?_append_left M, <-List.getD_eq_getElem?_getD]
      rw [e];exact Y i M
     .have h6:i=rs.length:=by simp at hi;omega
      subst h6;refine ⟨w,h,by omega,by omega,by omega,by omega,?_⟩
      unfold gl;rw [List.getD_eq_getElem?_getD,List.getElem?_append_right (Nat.le_refl _),E]
      simp)
    refine ⟨t',l,W,C,?_,o⟩;show XC F cs most _ ((k+1:Nat):Int) t.l_ t.at_ ns rs=_
    unfold XC;have ek:((k+1:Nat):Int)-1=(k:Int):=by omega
    refine Y7 (by simp) (Q8 (V9 (by omega) (by omega)) (Q8 (by simp [Y5];omega) (Q8 (V9 (by omega) (by omega)) (Q8 (V9 (by omega) (by omega)) (Q3 ea (Q8 (V9 (by omega) (by omega)) (Q3 eb (Q8 (by simp [Y5];omega) (Q8 (V9 (by omega) (by omega)) ?_)))))))));rw [ek]
    exact m
 obtain ⟨t',l,ns,rs,m,o⟩:=U c.toNat F t1 [] [] (by omega) o1 rfl (by simp) (fun i hi=>by simp at hi);refine ⟨t',l,ns,rs,?_,o⟩
 unfold SQ;refine Q3 e1 ?_
 have:(c.toNat:Int)=c:=by omega
 rw [this] at m;exact m
end
end Go.Ab
end
section
namespace Go.Ab
set_option maxRecDepth 20000
noncomputable section
abbrev Sq:=Int->Int->Bool
structure TR (A:List Rect):Prop where
 val:J2 A
 sub:∀ {S:Sq},Fin S->(∀ x y,S x y=true->Q4 A x y=true)->J2 (cn S)
theorem vu{A:List Rect}(hv:J2 A){d:Int}(h0:0<=d/\d<=100)(hb:Hi d (Q4 A)):TR A:=⟨hv,fun b a=>(qT b h0 fun x y h=>hb x y (a x y h)).1⟩
theorem J2.pos{l:List Rect}(h:J2 l):∀ r ∈ l,r.L_<r.R_:=fun _ a=>(h.2.2.pos a).1
theorem XZ{A:List Rect}(h:J2 A):cn (Q4 A)=A:=(Gs A).1 h.2.2
theorem TB:Fin fun _ _=>false:=by
 have:=QZ []
 exact this
theorem JR:cn (fun _ _=>false)=[]:=(Gs []).1 Q1J
theorem WU{F:Nat}(hF:Q7<=F){a b:List Rect}(la:a.length<=8000)(lb:b.length<=8000)(pa:∀ r ∈ a,r.L_<r.R_)(pb:∀ r ∈ b,r.L_<r.R_){S T:Sq}(ea:Q4 a=S)(eb:Q4 b=T){k:Bool->Bool->Bool}(hk:k false false=false){q:Bool->Bool->Option Bool}(hq:∀ u v,q u v=some (k u v)):
  Zn F a b q=some (cn fun x y=>k (S x y) (T x y)):=by
 subst ea eb;exact KB hF (by omega) pa pb hk hq
theorem ym{a b:List Rect}{S T:Sq}(ea:Q4 a=S)(eb:Q4 b=T)(how:Int):Fin fun x y=>z6 (S x y) (T x y) how:=by
 subst ea eb;exact Vn a b how
theorem ZE{S:Sq}(h:Fin S):Q4 (cn S)=S:=by
 funext x y;exact ZM h x y
theorem UK{S T:Sq}(hS:Fin S)(hT:Fin T):Fin fun x y=>S x y&&T x y:=ym (ZE hS) (ZE hT) 2
theorem yk{S T:Sq}(hS:Fin S)(hT:Fin T):Fin fun x y=>S x y||T x y:=ym (ZE hS) (ZE hT) 1
theorem XO{S T:Sq}(hS:Fin S)(hT:Fin T):Fin fun x y=>S x y && !T x y:=ym (ZE hS) (ZE hT) 3
theorem HX(F:Nat)(u v:Bool):Kc F u v=some (u&&v):=by
 unfold Kc HY;cases u <;> rfl
theorem xt(F:Nat)(u v:Bool):PM F u v=some (u||v):=by
 unfold PM HT;cases u <;> rfl
theorem Fl(F:Nat)(u v:Bool):GL F u v=some (u && !v):=by
 unfold GL HB;cases u <;> rfl
structure TS where
 Y:Sq
 N:Sq
def TS.O(A:List Rect)(s:TS):Sq:=fun x y=>(Q4 A x y && !s.Y x y) && !s.N x y
structure TIn (A:List Rect) (s:TS):Prop where
 fY:Fin s.Y
 fN:Fin s.N
 sY:∀ x y,s.Y x y=true->Q4 A x y=true
 sN:∀ x y,s.N x y=true->Q4 A x y=true
theorem TIn.fO{A:List Rect}{s:TS}(h:TIn A s):Fin (s.O A):=XO (XO (QZ A) h.fY) h.fN
theorem TIn.vY{A:List Rect}(ht:TR A){s:TS}(h:TIn A s):J2 (cn s.Y):=ht.sub h.fY h.sY
theorem TIn.vN{A:List Rect}(ht:TR A){s:TS}(h:TIn A s):J2 (cn s.N):=ht.sub h.fN h.sN
theorem TIn.vO{A:List Rect}(ht:TR A){s:TS}(h:TIn A s):J2 (cn (s.O A)):=ht.sub h.fO fun x y a=>by
 unfold TS.O at a
 cases hA:Q4 A x y with
 | true=>rfl
 | false=>rw [hA] at a;cases a
def TS.sqs(A:List Rect)(s:TS):Squares:=⟨cn s.Y,cn s.N,cn (s.O A)⟩
theorem J2.le8{l:List Rect}(h:J2 l):l.length<=8000:=by have:=h.1;omega
theorem Fp{F:Nat}(hF:Q7<=F){p:Vv}{A:List Rect}(hp:p.t_=A)(ht:TR A){s:TS}(h:TIn A s):GO F p (cn s.Y) (cn s.N)=some (s.sqs A):=by
 unfold GO;subst hp
 have b:J2 (cn fun x y=>Q4 p.t_ x y && !s.Y x y):=ht.sub (XO (QZ _) h.fY) fun x y a=>by
  cases hA:Q4 p.t_ x y with
  | true=>rfl
  | false=>rw [hA] at a;cases a
 refine Q3 (WU hF ht.val.le8 (h.vY ht).le8 ht.val.pos (h.vY ht).pos rfl (ZE h.fY) (k:=fun u v=>u && !v) rfl (Fl F)) (Q3 (WU hF b.le8 (h.vN ht).le8 b.pos (h.vN ht).pos (ZE (XO (QZ _) h.fY)) (ZE h.fN) (k:=fun u v=>u && !v) rfl (Fl F)) rfl)
end
end Go.Ab
end
section
namespace Go.Ab
set_option maxRecDepth 20000
noncomputable section
structure EV (y:Int) (cs:List Crop) (hs:List Rg_) (zs:List A2_) (c:Int) (A:List Rect):Prop where
 tr:TR A
 crop:0<=c/\c<(cs.length:Nat)
 fam:0<=(gl cs c.toNat).f_
 mrk:0<=(gl cs c.toNat).m_/\(gl cs c.toNat).m_<=31
 few:FewR hs
 hb:∀ f ∈ hs,QN (15:Nat) f.g_.t_
 hc:∀ f ∈ hs,0<=f.c_/\f.c_<(cs.length:Nat)
 yr:0<=y/\y<=100
 zs:LB 15 zs
theorem Q3b{l:List Rg_}(hb:∀ f ∈ l,QN (15:Nat) f.g_.t_)(y:Int)(p:Int->Bool):QN (15:Nat) (Zd l y p):=fun r a=>by
 unfold Zd at a;obtain ⟨f,b,h⟩:=List.mem_flatMap.1 a
 exact hb f (List.mem_filter.1 b).1 r h
theorem Q3c(a b:List Rg_)(y:Int)(p:Int->Bool):Zd (a++b) y p=Zd a y p++Zd b y p:=by simp [Zd]
theorem Z1D{l:List Rg_}(h:FewR l)(y:Int)(p:Int->Bool):(Zd l y p).length<=420:=by
 by_cases h0:l.length=0
 .rw [List.eq_nil_of_length_eq_zero h0];simp [Zd]
 .have c:=h.few y p (l.length-1) (by omega)
  have e:l=l.take (l.length-1)++[gl l (l.length-1)]:=by
   have:=Qx (l:=l) (i:=l.length-1) (by omega)
   rw [<-this,show l.length-1+1=l.length by omega,List.take_length]
  have d:(Zd [gl l (l.length-1)] y p).length<=120:=by
   have a:=((KO _).1 (h.hl.one _ (J7 (l:=l) (i:=l.length-1) (by omega)))).2.2.2.2.2;have:=a.1
   unfold Zd;rw [List.filter_cons]
   split
   .simpa using this
   .simp
  have b:=congrArg (fun m=>(Zd m y p).length) e;simp only [Q3c,List.length_append] at b
  omega
def Wd(A:List Rect)(hs:List Rg_)(y:Int)(p:Int->Bool):Sq:=fun u v=>Q4 A u v&&Q4 (Zd hs y p) u v
theorem UJ(A:List Rect)(hs:List Rg_)(y:Int)(p:Int->Bool):Fin (Wd A hs y p):=UK (QZ A) (QZ _)
theorem Xy{A:List Rect}{hs:List Rg_}{y:Int}{p:Int->Bool}{u v:Int}(h:Wd A hs y p u v=true):Q4 A u v=true:=by
 unfold Wd at h;rw [Bool.and_eq_true] at h
 exact h.1
variable {F:Nat} {cs:List Crop} {hs:List Rg_} {zs:List A2_} {y c d:Int} {A:List Rect}
theorem PK(hF:Q7<=F)(h:EV y cs hs zs c A){p:Vv}(e1:p.world_.history_=hs)(e2:p.world_.year_=y)(e3:p.t_=A){n:Int}(n0:0<=n)(n1:n<=1000){q:Int->Option Bool}(s:Int->Bool)(hq:∀ f ∈ hs,q f.c_=some (s f.c_)):Je F p n q=some (cn (Wd A hs (y-n) s)):=by
 subst e1 e2 e3;have e:=h.yr
 unfold Je;have b:=Q3b h.hb (p.world_.year_-n) s
 have:=Z1D h.few (p.world_.year_-n) s
 exact Q8 (V9 (by omega) (by omega)) (Q3 (Z1a hF h.few.hl _ s hq) (Q3 (WU hF h.tr.val.le8 (by omega) h.tr.val.pos (fun r a=>(b r a).2.1) rfl rfl (k:=fun u v=>u&&v) rfl (HX F)) rfl))
end
end Go.Ab
end
section
namespace Go.Ab
set_option maxRecDepth 20000
noncomputable section
def yv(cs:List Crop)(f:Int)(k:Int):Bool:=(gl cs k.toNat).f_==f
def ze(cs:List Crop)(f:Int)(k:Int):Bool:=(gl cs k.toNat).f_ != f
def YJ(A:List Rect)(hs:List Rg_)(cs:List Crop)(y f:Int):Nat->TS
 | 0=>⟨Q4 A,fun _ _=>false⟩
 | k+1=>⟨fun u v=>(YJ A hs cs y f k).Y u v&&Wd A hs (y-((k+1:Nat):Int)) (yv cs f) u v,fun u v=>(YJ A hs cs y f k).N u v||Wd A hs (y-((k+1:Nat):Int)) (ze cs f) u v⟩
theorem Md(A:List Rect)(hs:List Rg_)(cs:List Crop)(y f:Int):∀ k,TIn A (YJ A hs cs y f k)
 | 0=>⟨QZ A,TB,fun _ _ h=>h,fun _ _ h=>by cases h⟩
 | k+1=>by
  have a:=Md A hs cs y f k;refine ⟨UK a.fY (UJ _ _ _ _),yk a.fN (UJ _ _ _ _),fun u v h=>?_,fun u v h=>?_⟩
  .unfold YJ at h
   simp only [Bool.and_eq_true] at h;exact a.sY u v h.1
  .unfold YJ at h
   simp only [Bool.or_eq_true] at h;rcases h with h|h
   .exact a.sN u v h
   .exact Xy h
variable {F:Nat} {cs:List Crop} {hs:List Rg_} {zs:List A2_} {y c d:Int} {A:List Rect}
theorem EV.kn_val(h:EV y cs hs zs c A)(k:Int)(p:Int->Bool):J2 (cn (Wd A hs k p)):=h.tr.sub (UJ _ _ _ _) fun _ _ h=>Xy h
theorem Q3x(hF:Q7<=F)(h:EV y cs hs zs c A){p:Vv}(e1:p.world_.history_=hs)(e2:p.world_.year_=y)(e3:p.t_=A)(e4:p.world_.crops_=cs)(e5:p.line_.c_=c){n:Nat}(n0:1<=n)(n1:n<=100):
  HI F p (n:Int)=some ((YJ A hs cs y (gl cs c.toNat).f_ (n-1)).sqs A):=by
 have b:=hF;unfold Q7 at b
 have j:=h.crop;unfold HI
 have i:∀ (m f k:Nat),k+m=n-1->m<f->Z9 (fun again (z:(List Rect)×(List Rect)×Int)=>GN F p (n:Int) again z.1 z.2.1 z.2.2) f (cn (YJ A hs cs y (gl cs c.toNat).f_ k).Y,cn (YJ A hs cs y (gl cs c.toNat).f_ k).N,((k:Nat):Int)+1)=some ((YJ A hs cs y (gl cs c.toNat).f_ (n-1)).sqs A):=by
  intro m
  induction m with
  | zero=>
   intro f k s r;obtain ⟨f,rfl⟩:∃ g,f=g+1:=⟨f-1,by omega⟩
   show GN F p (n:Int) (Z9 _ f) _ _ (((k:Nat):Int)+1)=_;unfold GN
   refine Z5 (decide_eq_false (by omega)) ?_;unfold Fq
   rw [show n-1=k by omega];exact Q3 (Fp hF e3 h.tr (Md _ _ _ _ _ k)) rfl
  | succ m ih=>
   intro f k s r;obtain ⟨f,rfl⟩:∃ g,f=g+1:=⟨f-1,by omega⟩
   show GN F p (n:Int) (Z9 _ f) _ _ (((k:Nat):Int)+1)=_;unfold GN
   have a:=Md A hs cs y (gl cs c.toNat).f_ k;have q:∀ g ∈ hs,HH F g.c_ p (gl p.world_.crops_ p.line_.c_.toNat).f_=some (yv cs (gl cs c.toNat).f_ g.c_):=fun g e=>by
    unfold HH;rw [e4,e5]
    exact Q8 (h.hc g e) rfl
   have w:∀ g ∈ hs,HG F g.c_ p (gl p.world_.crops_ p.line_.c_.toNat).f_=some (ze cs (gl cs c.toNat).f_ g.c_):=fun g e=>by
    unfold HG;rw [e4,e5]
    exact Q8 (h.hc g e) rfl
   have l:=h.kn_val (y-(((k:Nat):Int)+1)) (yv cs (gl cs c.toNat).f_);have o:=h.kn_val (y-(((k:Nat):Int)+1)) (ze cs (gl cs c.toNat).f_)
   have t:=ih f (k+1) (by omega) (by omega);refine Y7 (decide_eq_true (by omega)) (Q3 (PK hF h e1 e2 e3 (by omega) (by omega) _ q) (Q3 (PK hF h e1 e2 e3 (by omega) (by omega) _ w) (Q3 (WU hF (a.vY h.tr).le8 l.le8 (a.vY h.tr).pos l.pos (ZE a.fY) (ZE (UJ _ _ _ _)) (k:=fun u v=>u&&v) rfl (HX F)) (Q3 (WU hF (a.vN h.tr).le8 o.le8 (a.vN h.tr).pos o.pos (ZE a.fN) (ZE (UJ _ _ _ _)) (k:=fun u v=>u||v) rfl (xt F)) (Q8 (V9 (by omega) (by omega)) ?_)))))
   exact t
 refine Q8 (by rw [e4,e5];exact j) ?_;have:=i (n-1) F 0 (by omega) (by omega)
 show Z9 _ F (p.t_,[],(1:Int))=_;rw [e3]
 rw [show (YJ A hs cs y (gl cs c.toNat).f_ 0)=⟨Q4 A,fun _ _=>false⟩ from rfl] at this;simp only [XZ h.tr.val,JR] at this
 exact this
def WX(A:List Rect)(b:Bool):TS:=if b then ⟨Q4 A,fun _ _=>false⟩ else ⟨fun _ _=>false,Q4 A⟩
theorem Pe(A:List Rect)(b:Bool):TIn A (WX A b):=by
 cases b
 .exact ⟨TB,QZ A,fun _ _ h=>(by cases h),fun _ _ h=>h⟩
 .exact ⟨QZ A,TB,fun _ _ h=>h,fun _ _ h=>by cases h⟩
theorem Q2h(A:List Rect)(b:Bool):(WX A b).O A=fun _ _=>false:=by
 funext u v
 cases b <;> simp [WX,TS.O]
theorem HC{p:Vv}(e3:p.t_=A)(hv:J2 A)(b:Bool):Ka F p b=some ((WX A b).sqs A):=by
 unfold Ka TS.sqs;rw [Q2h,JR,e3]
 cases b
 .refine Z5 rfl ?_
  show some _=some (Squares.mk (cn fun _ _=>false) (cn (Q4 A)) []);rw [JR,XZ hv]
 .refine Y7 rfl ?_
  show some _=some (Squares.mk (cn (Q4 A)) (cn fun _ _=>false) []);rw [JR,XZ hv]
def WS(A:List Rect)(S:Sq):TS:=⟨fun u v=>Q4 A u v&&S u v,fun u v=>Q4 A u v && !S u v⟩
theorem Q1d{A:List Rect}{S:Sq}(h:Fin S):TIn A (WS A S):=by
 refine ⟨UK (QZ A) h,XO (QZ A) h,fun u v a=>?_,fun u v a=>?_⟩
 .simp only [WS,Bool.and_eq_true] at a
  exact a.1
 .simp only [WS,Bool.and_eq_true] at a
  exact a.1
theorem Z2y(A:List Rect)(S:Sq):(WS A S).O A=fun _ _=>false:=by
 funext u v
 simp only [WS,TS.O]
 cases Q4 A u v <;> cases S u v <;> rfl
theorem xu(hF:Q7<=F){p:Vv}(e3:p.t_=A)(ht:TR A){S:Sq}(h:Fin S):PE F p (cn fun u v=>Q4 A u v&&S u v)=some ((WS A S).sqs A):=by
 unfold PE TS.sqs;have b:=UK (QZ A) h
 have a:=ht.sub b fun u v e=>by
  simp only [Bool.and_eq_true] at e;exact e.1
 rw [Z2y,JR,e3];refine Q3 (WU hF ht.val.le8 a.le8 ht.val.pos a.pos rfl (ZE b) (k:=fun u v=>u && !v) rfl (Fl F)) ?_
 rw [show (fun u v=>Q4 A u v && !(Q4 A u v&&S u v))=(WS A S).N from ?_]
 .rfl
 .funext u v
  simp only [WS]
  cases Q4 A u v <;> cases S u v <;> rfl
end
end Go.Ab
end
section
namespace Go.Ab
set_option maxRecDepth 20000
noncomputable section
theorem Lq{R:Type}{body:(Int->Option R)->Int->Option R}{c y:Option R}(N:Nat)(p:Nat->Bool)(bad:∀ again (i:Nat),i<N->p i=true->body again (i:Int)=c)(good:∀ again (i:Nat) z,i<N->p i=false->again ((i:Int)+1)=z->body again (i:Int)=z)(stop:∀ again,body again (N:Int)=y){F:Nat}(hF:N<F):Z9 body F 0=if (List.range N).any p=true then c else y:=by
 refine K9 (fun z:Int=>∃ i:Nat,z=i/\i<=N/\∀ j,j<i->p j=false) (fun z=>N-z.toNat) (fun again z e f=>?_) ⟨0,rfl,Nat.zero_le _,fun j h=>absurd h (Nat.not_lt_zero j)⟩ (by simp;omega);obtain ⟨i,rfl,g,b⟩:=e
 rcases Nat.lt_or_ge i N with h|h
 .cases hpi:p i with
  | true=>
   rw [if_pos (List.any_eq_true.2 ⟨i,List.mem_range.2 h,hpi⟩)];exact bad again i h hpi
  | false=>
   refine good again i _ h hpi (f _ ⟨i+1,by omega,h,fun j a=>?_⟩ (by omega))
   by_cases hji:j=i
   .rw [hji];exact hpi
   .exact b j (by omega)
 .have:i=N:=by omega
  subst this;rw [if_neg (by rw [Bool.not_eq_true,List.any_eq_false];intro j a;rw [b j (List.mem_range.1 a)];simp)]
  exact stop again
end
end Go.Ab
end
section
namespace Go.Ab
set_option maxRecDepth 20000
noncomputable section
end
end Go.Ab
end
section
namespace Go.Ab
set_option maxRecDepth 20000
noncomputable section
theorem Q8I{F:Nat}(hF:Q7<=F)(s:ByteArray):Sg F s=some (QX s):=by
 unfold Q7 at hF;unfold Sg
 have g:QX s=false->JA F s true=some (QX s):=fun h=>by unfold JA;rw [h];exact Y7 rfl rfl
 refine Z6 (fun h=>g ?_) (fun h=>?_)
 .have h:=of_decide_eq_true h
  unfold QX;rw [decide_eq_false (by omega:¬ 1<=s.size)];rfl
 have r:1<=s.size:=by have:=of_decide_eq_false h;omega
 refine Z6 (fun h=>g ?_) (fun h=>?_)
 .have h:=of_decide_eq_true h
  unfold QX;rw [decide_eq_false (by omega:¬ s.size<=12)];simp
 have t:s.size<=12:=by have:=of_decide_eq_false h;omega
 have m:QX s=decide (∀ i,i<s.size->(YC (K2 s (i:Nat))||(!decide (i=0)&&Uk (K2 s (i:Nat))))=true):=by
  unfold QX;rw [decide_eq_true r,decide_eq_true t];simp
 have j:YC (K2 s (0:Int))=false->QX s=false:=fun h=>by
  rw [m,decide_eq_false_iff_not];intro f
  have:=f 0 (by omega)
  rw [show (((0:Nat):Int))=0 from rfl,h] at this;simp at this
 refine Q8 (by omega) (Z6 (fun h=>g (j ?_)) (fun h=>?_))
 .have h:=of_decide_eq_true h
  unfold YC;rw [decide_eq_false (by omega)];rfl
 have u:=of_decide_eq_false h;refine Q8 (by omega) ?_
 by_cases h4:122<K2 s (0:Int)
 .rw [decide_eq_true h4]
  refine g (j ?_);unfold YC;rw [decide_eq_false (by omega:¬ K2 s (0:Int)<=122)];simp
 rw [decide_eq_false h4];have o:YC (K2 s (0:Int))=true:=by
  unfold YC;rw [decide_eq_true (by omega),decide_eq_true (by omega)];rfl
 unfold JA;refine Z5 rfl ?_
 refine (Lq (c:=some false) (y:=some true) s.size (fun i=> !(YC (K2 s (i:Nat))||Uk (K2 s (i:Nat)))) (fun a i l b=>?_) (fun a i z l b m=>?_) (fun a=>?_) (by omega)).trans ?_
 .rw [Bool.not_eq_true',Bool.or_eq_false_iff] at b
  unfold YC Uk at b;unfold Sf
  have k2:Vf F (i:Int) a true=some false:=by unfold Vf;exact Y7 rfl rfl
  refine Y7 (decide_eq_true (by omega)) (Q8 (by omega) ?_);have q:gd (0<=(i:Int)/\(i:Int)<((s.size:Nat):Int)) (br (decide (K2 s (i:Nat)<48)) (Vf F (i:Int) a true) (gd (0<=(i:Int)/\(i:Int)<((s.size:Nat):Int)) (Vf F (i:Int) a (decide (57<K2 s (i:Nat))))))=some false:=by
   refine Q8 (by omega) (Z6 (fun _=>k2) (fun e=>Q8 (by omega) ?_));have e:=of_decide_eq_false e
   rw [decide_eq_true (p:=57<K2 s (i:Nat))]
   .exact k2
   .have k:=b.2
    rw [decide_eq_true (by omega:48<=K2 s (i:Nat)),Bool.true_and,decide_eq_false_iff_not] at k;omega
  refine Z6 (fun _=>q) (fun e=>Q8 (by omega) ?_);refine Y7 ?_ q
  have e:=of_decide_eq_false e;have k:=b.1
  rw [decide_eq_true (by omega:97<=K2 s (i:Nat)),Bool.true_and,decide_eq_false_iff_not] at k;exact decide_eq_true (by omega)
 .rw [Bool.not_eq_false',Bool.or_eq_true] at b
  unfold YC Uk at b;rw [Bool.and_eq_true,Bool.and_eq_true,decide_eq_true_eq,decide_eq_true_eq,decide_eq_true_eq,decide_eq_true_eq] at b
  unfold Sf;have k2:Vf F (i:Int) a false=z:=by unfold Vf;exact Z5 rfl (Q8 (V9 (by omega) (by omega)) m)
  refine Y7 (decide_eq_true (by omega)) (Q8 (by omega) ?_);refine Z6 (fun e=>?_) (fun e=>?_)
  .have e:=of_decide_eq_true e
   refine Q8 (by omega) (Z5 (decide_eq_false (by omega)) (Q8 (by omega) ?_));rw [decide_eq_false (p:=57<K2 s (i:Nat)) (by omega)];exact k2
  .have e:=of_decide_eq_false e
   refine Q8 (by omega) (Z6 (fun k=>?_) (fun k=>k2));have k:=of_decide_eq_true k
   refine Q8 (by omega) (Z5 (decide_eq_false (by omega)) (Q8 (by omega) ?_));rw [decide_eq_false (p:=57<K2 s (i:Nat)) (by omega)];exact k2
 .unfold Sf
  exact Z5 (decide_eq_false (by omega)) rfl
 .rw [m]
  split
  .rename_i n
   congr 1
   symm
   rw [decide_eq_false_iff_not];intro f
   obtain ⟨i,l,b⟩:=List.any_eq_true.1 n;have:=f i (List.mem_range.1 l)
   rw [Bool.not_eq_true',Bool.or_eq_false_iff] at b;rw [b.1,b.2] at this
   simp at this
  .rename_i n
   congr 1
   symm
   rw [decide_eq_true_eq];intro i l
   rw [Bool.not_eq_true,List.any_eq_false] at n;have:=n i (List.mem_range.2 l)
   rw [Bool.not_eq_true,Bool.not_eq_false'] at this
   by_cases h0:i=0
   .subst h0;rw [show (((0:Nat):Int))=0 from rfl,o];rfl
   .rw [decide_eq_false h0];simpa using this
theorem Q6F{body:(Int->Option Int)->Int->Option Int}(N:Nat)(p:Nat->Int)(bad:∀ again (i:Nat),i<N->p i≠0->body again (i:Int)=some (p i))(good:∀ again (i:Nat) z,i<N->p i=0->again ((i:Int)+1)=z->body again (i:Int)=z)(stop:∀ again,body again (N:Int)=some 0){F:Nat}(hF:N<F):Z9 body F 0=some ((((List.range N).map p).find? fun c=>c != 0).getD 0):=by
 refine K9 (fun z:Int=>∃ i:Nat,z=i/\i<=N/\∀ j,j<i->p j=0) (fun z=>N-z.toNat) (fun again z l n=>?_) ⟨0,rfl,Nat.zero_le _,fun j h=>absurd h (Nat.not_lt_zero j)⟩ (by simp;omega);obtain ⟨i,rfl,o,f⟩:=l
 rcases Nat.lt_or_ge i N with h|h
 .by_cases hpi:p i=0
  .refine good again i _ h hpi (n _ ⟨i+1,by omega,h,fun j a=>?_⟩ (by omega))
   by_cases hji:j=i
   .rw [hji];exact hpi
   .exact f j (by omega)
  .rw [bad again i h hpi]
   congr 1
   have e:List.range N=List.range i++i::(List.range N).drop (i+1):=by
    have m:(List.range N).take i=List.range i:=by rw [List.take_range];congr 1;omega
    have k:=List.take_append_drop i (List.range N);rw [m,List.drop_eq_getElem_cons (by simpa using h)] at k
    rw [List.getElem_range] at k;exact k.symm
   have g:(((List.range i).map p).find? fun c=>c != 0)=none:=List.find?_eq_none.2 fun c b=>by
    obtain ⟨j,a,rfl⟩:=List.mem_map.1 b;rw [f j (List.mem_range.1 a)];simp
   rw [e,List.map_append,List.find?_append,g,Option.none_or,List.map_cons,List.find?_cons];have:(p i != 0)=true:=by simpa using hpi
   rw [this];rfl
 .have:i=N:=by omega
  subst this;rw [stop again]
  congr 1
  have g:(((List.range i).map p).find? fun c=>c != 0)=none:=List.find?_eq_none.2 fun c b=>by
   obtain ⟨j,a,rfl⟩:=List.mem_map.1 b;rw [f j (List.mem_range.1 a)];simp
  rw [g];rfl
def YE(l:List Crop)(i:Nat):Int:=
 if QX (gl l i).n_=false then 5 else if (gl l i).f_<0\/40<(gl l i).f_ then 2 else if (gl l i).m_<0\/31<(gl l i).m_ then 14
 else if 0<i/\(VE (gl l i).n_ (gl l (i-1)).n_||Zm (gl l i).n_ (gl l (i-1)).n_)=true then 6 else 0
def crC(l:List Crop):Int:=if 40<l.length then 1 else (((List.range l.length).map (YE l)).find? fun c=>c != 0).getD 0
def Pj(l:List Crop):Prop:=∀ x ∈ l,x.n_.size<=4294967296
theorem Z2G{l:List Crop}{i:Nat}(h:QX (gl l i).n_=false):YE l i=5:=by unfold YE;rw [if_pos h]
theorem Z2H{l:List Crop}{i:Nat}(h:QX (gl l i).n_=true)(h2:(gl l i).f_<0\/40<(gl l i).f_):YE l i=2:=by
 unfold YE;rw [if_neg (by rw [h];simp),if_pos h2]
theorem Z2I{l:List Crop}{i:Nat}(h:QX (gl l i).n_=true)(h2:¬ ((gl l i).f_<0\/40<(gl l i).f_))(h3:(gl l i).m_<0\/31<(gl l i).m_):YE l i=14:=by
 unfold YE;rw [if_neg (by rw [h];simp),if_neg h2,if_pos h3]
theorem Z2F{l:List Crop}{i:Nat}(h:QX (gl l i).n_=true)(h2:¬ ((gl l i).f_<0\/40<(gl l i).f_))(h3:¬ ((gl l i).m_<0\/31<(gl l i).m_))(h4:0<i/\(VE (gl l i).n_ (gl l (i-1)).n_||Zm (gl l i).n_ (gl l (i-1)).n_)=true):YE l i=6:=by
 unfold YE;rw [if_neg (by rw [h];simp),if_neg h2,if_neg h3,if_pos h4]
theorem Q1o{l:List Crop}{i:Nat}(h:QX (gl l i).n_=true)(h2:¬ ((gl l i).f_<0\/40<(gl l i).f_))(h3:¬ ((gl l i).m_<0\/31<(gl l i).m_))(h4:¬ (0<i/\(VE (gl l i).n_ (gl l (i-1)).n_||Zm (gl l i).n_ (gl l (i-1)).n_)=true)):YE l i=0:=by
 unfold YE;rw [if_neg (by rw [h];simp),if_neg h2,if_neg h3,if_neg h4]
theorem Q1m{F:Nat}(hF:Q7<=F){l:List Crop}(hn:Pj l):XW F l=some (crC l):=by
 have u:=hF;unfold Q7 at hF
 unfold XW crC;refine Z6 (fun h=>?_) (fun h=>?_)
 .rw [if_pos (by have:=of_decide_eq_true h;omega)]
 have w:l.length<=40:=by have:=of_decide_eq_false h;omega
 rw [if_neg (by omega)];have e:∀ (a:Int->Option Int) (i:Nat),i<l.length->XV F l a (i:Int)=if YE l i=0 then a ((i:Int)+1) else some (YE l i):=by
  intro a i k;unfold XV
  simp only [Int.toNat_natCast];have hs:=hn _ (J7 k)
  refine Y7 (decide_eq_true (by omega)) (Q8 (by omega) (Q3 (CT (by omega) hs) ?_));refine Z6 (fun b=>?_) (fun b=>?_)
  .have b:QX (gl l i).n_=false:=by simpa using b
   rw [Z2G b,if_neg (by decide)]
  have b:QX (gl l i).n_=true:=by simpa using b
  have j:(gl l i).f_<0\/40<(gl l i).f_->Gm F l (i:Int) a true=if YE l i=0 then a ((i:Int)+1) else some (YE l i):=fun h=>by
   rw [Z2H b h,if_neg (by decide)];unfold Gm
   exact Y7 rfl rfl
  refine Z6 (fun o=>j (.inl (of_decide_eq_true o))) (fun o=>?_);have o:=of_decide_eq_false o
  by_cases h3:40<(gl l i).f_
  .rw [decide_eq_true h3];exact j (.inr h3)
  have m:¬ ((gl l i).f_<0\/40<(gl l i).f_):=by omega
  rw [decide_eq_false h3];unfold Gm
  simp only [Int.toNat_natCast];refine Z5 rfl ?_
  have g:(gl l i).m_<0\/31<(gl l i).m_->Gl F l (i:Int) a true=if YE l i=0 then a ((i:Int)+1) else some (YE l i):=fun h=>by
   rw [Z2I b m h,if_neg (by decide)];unfold Gl
   exact Y7 rfl rfl
  refine Z6 (fun n=>g (.inl (of_decide_eq_true n))) (fun n=>?_);have n:=of_decide_eq_false n
  by_cases h5:31<(gl l i).m_
  .rw [decide_eq_true h5];exact g (.inr h5)
  have q:¬ ((gl l i).m_<0\/31<(gl l i).m_):=by omega
  rw [decide_eq_false h5];unfold Gl
  simp only [Int.toNat_natCast];refine Z5 rfl ?_
  refine Z6 (fun f=>?_) (fun f=>?_)
  .have f:0<i:=by have:=of_decide_eq_true f;omega
   have v:((i:Int)-1).toNat=i-1:=by omega
   refine Q8 (V9 (by omega) (by omega)) (Q8 (by omega) ?_);rw [v]
   unfold Gk;refine Z6 (fun p=>?_) (fun p=>?_)
   .rw [Z2F b m q ⟨f,p⟩,if_neg (by decide)]
   .rw [Q1o b m q (fun s=>by rw [s.2] at p;cases p),if_pos rfl]
    exact Q8 (V9 (by omega) (by omega)) rfl
  .have f:¬ 0<i:=by have:=of_decide_eq_false f;omega
   rw [Q1o b m q (fun s=>f s.1),if_pos rfl];unfold Gk
   exact Z5 rfl (Q8 (V9 (by omega) (by omega)) rfl)
 refine Q6F l.length (YE l) (fun a i k r=>?_) (fun a i z k r t=>?_) (fun a=>?_) (by omega)
 .rw [e a i k,if_neg r]
 .rw [e a i k,if_pos r];exact t
 .unfold XV
  exact Z5 (decide_eq_false (by omega)) rfl
theorem CropT.nm{l:List Crop}(h:CropT l):Pj l:=fun x e=>by
 obtain ⟨i,a,rfl⟩:=List.getElem_of_mem e;have b:=(h.one i a).1
 have:=h.len
 rw [JJ l i a] at b;rw [b]
 have:=(Q1n i (by omega)).2
 omega
theorem CropT.crC{l:List Crop}(h:CropT l):crC l=0:=by
 have a:=Z2D (F:=Q7) (Nat.le_refl _) h;rw [Q1m (Nat.le_refl _) h.nm] at a
 exact Option.some.inj a
end
end Go.Ab
end
section
end
section
namespace Go.Ab
set_option maxRecDepth 20000
noncomputable section
def TD:Nat->Term->Prop
 | 0,_=>False
 | d+1,t=>Q6 t.op_/\Q6 t.num_/\t.kids_.length<=1000000/\∀ k ∈ t.kids_,TD d k
theorem TD.op{d:Nat}{t:Term}(h:TD d t):Q6 t.op_:=by
 cases d with
 | zero=>exact h.elim
 | succ d=>exact h.1
def QG:Nat->Term->Nat
 | 0,_=>0
 | d+1,t=>1+(t.kids_.map (QG d)).sum
theorem Q3Y{d:Nat}{t:Term}(h:TD d t):1<=QG d t:=by
 cases d with
 | zero=>exact h.elim
 | succ d=>unfold QG;omega
def Wu(d:Nat)(t:Term)(i:Nat):Nat:=1+((t.kids_.take i).map (QG d)).sum
theorem FF{d i:Nat}{t:Term}(h:i<t.kids_.length):Wu d t (i+1)=Wu d t i+QG d (gl t.kids_ i):=by
 unfold Wu;rw [Qx h,List.map_append,List.sum_append];simp;omega
theorem FG{d i:Nat}{t:Term}:Wu d t i<=QG (d+1) t:=by
 unfold Wu QG;have:(t.kids_.map (QG d)).sum=((t.kids_.take i).map (QG d)).sum+((t.kids_.drop i).map (QG d)).sum:=by
  rw [<-List.sum_append, <-List.map_append,List.take_append_drop]
 omega
theorem xH{d:Nat}{t:Term}:Wu d t t.kids_.length=QG (d+1) t:=by unfold Wu QG;rw [List.take_length]
theorem xw:∀ (d:Nat) {F:Nat} (_:Q7+d<=F) {t:Term} (_:TD d t) {m:Int} (_:0<=m) (_:m<=40),∃ v,Jf F t m=some v/\1<=v/\v<=m+1/\(m<v↔m<(QG d t:Int))/\((QG d t:Int)<=m->v=QG d t)
 | 0,_,_,_,h,_,_,_=>h.elim
 | d+1,0,hF,_,_,_,_,_=>by unfold Q7 at hF;omega
 | d+1,F+1,hF,t,h,m,m0,m1=>by
  obtain ⟨_,_,G,D⟩:=h;show ∃ v,HV F (Jf F) t m=some v/\_
  unfold HV;have a : Q7+d<=F:=by omega
  have hB:=a;unfold Q7 at hB
  suffices hs:∀ (n:Nat) (i:Nat) (v:Int),t.kids_.length-i<n->i<=t.kids_.length->1<=v->v<=m+1->(v<=m->v=(Wu d t i:Int))->(m<v->m<(Wu d t i:Int)) ->
    ∃ u,Z9 (fun again (z:Int×Int)=>HU F (Jf F) t m again z.1 z.2) n (v,(i:Int))=some u/\1<=u/\u<=m+1/\(m<u↔m<(QG (d+1) t:Int))/\((QG (d+1) t:Int)<=m->u=QG (d+1) t) by
   refine hs F 0 1 (by omega) (by omega) (by omega) (by omega) (fun _=>by simp [Wu]) (fun h=>?_);simp [Wu];omega
  intro n
  induction n with
  | zero=>intro i v h;omega
  | succ n ih=>
   intro i v I H l o g f;show ∃ u,HU F (Jf F) t m (Z9 _ n) v (i:Int)=some u/\_
   unfold HU
   by_cases hil:i<t.kids_.length
   .rw [show decide ((i:Int)<((t.kids_.length:Nat):Int))=true from decide_eq_true (by omega)]
    have e:=D _ (J7 hil);have b:=e.op
    by_cases hv:m<v
    .refine ⟨v,?_,l,o,?_,fun h=>?_⟩
     .refine Y7 rfl (Q8 (by omega) (Q8 b (Y7 (decide_eq_true hv) rfl)))
     .exact ⟨fun _=>by have:=f hv;have:=FG (d:=d) (i:=i) (t:=t);omega,fun _=>hv⟩
     .have:=f hv;have:=FG (d:=d) (i:=i) (t:=t);omega
    .obtain ⟨w,C,J,E,q,x⟩:=xw d a e (m:=m-v) (by omega) (by omega)
     have p:=FF (d:=d) hil;have r:=g (by omega)
     have j:=ih (i+1) (v+w) (by omega) (by omega) (by omega) (by omega) (fun h=>by
      have:=x (by
       have:¬ m-v<w:=by omega
       have:=mt q.2 this
       omega)
      omega) (fun h=>by
      have:=q.1 (by omega)
      omega)
     obtain ⟨u,B,s⟩:=j;refine ⟨u,?_,s⟩
     refine Y7 rfl (Q8 (by omega) (Q8 b (Z5 (decide_eq_false hv) (Q8 (V9 (by omega) (by omega)) (Q3 C (Q8 (V9 (by omega) (by omega)) (Q8 (V9 (by omega) (by omega)) ?_)))))));rw [<-B];congr 1
   .have k:i=t.kids_.length:=by omega
    subst k;rw [xH] at g f
    refine ⟨v,Z5 (decide_eq_false (by omega)) rfl,l,o,⟨f,fun h=>?_⟩,fun h=>?_⟩
    .by_cases hv:m<v
     .exact hv
     .have:=g (by omega);omega
    .by_cases hv:m<v
     .have:=f hv;omega
     .exact g (by omega)
theorem jp:∀ (d:Nat) (_:d<=2000000) {F:Nat} (_:Q7+d<=F) {t:Term} (_:TD d t),∃ v,Jv F t=some v/\1<=v/\v<=41*d/\(40<v↔40<(QG d t:Int))/\((QG d t:Int)<=40->v=QG d t)
 | 0,_,_,_,_,h=>h.elim
 | d+1,_,0,hF,_,_=>by unfold Q7 at hF;omega
 | d+1,hd,F+1,hF,t,h=>by
  obtain ⟨_,_,D,B⟩:=h;show ∃ v,RL F (Jv F) t=some v/\_
  unfold RL;have a : Q7+d<=F:=by omega
  have hB:=a;unfold Q7 at hB
  suffices hs:∀ (n:Nat) (i:Nat) (v:Int),t.kids_.length-i<n->i<=t.kids_.length->1<=v->v<=41*((d+1:Nat):Int)->(v<=40->v=(Wu d t i:Int))->(40<v->40<(Wu d t i:Int)) ->
    ∃ u,Z9 (fun again (z:Int×Int)=>RK F (Jv F) t again z.1 z.2) n (v,(i:Int))=some u/\1<=u/\u<=41*((d+1:Nat):Int)/\(40<u↔40<(QG (d+1) t:Int))/\((QG (d+1) t:Int)<=40->u=QG (d+1) t) by
   exact hs F 0 1 (by omega) (by omega) (by omega) (by omega) (fun _=>by simp [Wu]) (fun h=>by omega)
  intro n
  induction n with
  | zero=>intro i v h;omega
  | succ n ih=>
   intro i v G E p q g f;show ∃ u,RK F (Jv F) t (Z9 _ n) v (i:Int)=some u/\_
   unfold RK
   by_cases hil:i<t.kids_.length
   .rw [show decide ((i:Int)<((t.kids_.length:Nat):Int))=true from decide_eq_true (by omega)]
    have e:=B _ (J7 hil);have b:=e.op
    have r:=FF (d:=d) hil
    by_cases hv:v<=40
    .obtain ⟨w,x,H,C,m,o⟩:=jp d (by omega) a e
     have s:=g hv;obtain ⟨u,k,j⟩:=ih (i+1) (v+w) (by omega) (by omega) (by omega) (by omega) (fun h=>by
      have:=o (by
       have:¬ 40<w:=by omega
       have:=mt m.2 this
       omega)
      omega) (fun h=>by
      by_cases h40:40<w
      .have:=m.1 h40;omega
      .have:=o (by have:=mt m.2 h40;omega);omega)
     refine ⟨u,?_,j⟩;refine Y7 rfl (Q8 (by omega) (Q8 b (Y7 (decide_eq_true hv) (Q3 x (Q8 (V9 (by omega) (by omega)) ?_)))))
     unfold Bz;refine Q8 (V9 (by omega) (by omega)) ?_
     rw [<-k];congr 1
    .obtain ⟨u,k,j⟩:=ih (i+1) v (by omega) (by omega) p q (fun h=>by omega) (fun h=>by have:=f h;omega)
     refine ⟨u,?_,j⟩;refine Y7 rfl (Q8 (by omega) (Q8 b (Z5 (decide_eq_false hv) ?_)))
     unfold Bz;refine Q8 (V9 (by omega) (by omega)) ?_
     rw [<-k];congr 1
   .have l:i=t.kids_.length:=by omega
    subst l;rw [xH] at g f
    refine ⟨v,Z5 (decide_eq_false (by omega)) rfl,p,q,⟨f,fun h=>?_⟩,fun h=>?_⟩
    .by_cases hv:40<v
     .exact hv
     .have:=g (by omega);omega
    .by_cases hv:40<v
     .have:=f hv;omega
     .exact g (by omega)
def YK(n:Int):Bool:=n==1||(n==2||(n==4||(n==8||n==16)))
theorem qj(F:Nat)(n:Int):Xi F n=some (YK n):=by
 unfold Xi KI YK
 cases h1:(n==(1:Int)) <;> cases h2:(n==(2:Int)) <;> cases h3:(n==(4:Int)) <;> cases h4:(n==(8:Int)) <;> rfl
theorem xj(F:Nat)(n:Int):Jc F n=some (YK n):=by
 unfold Jc
 by_cases h:1<=n/\n<=16
 .have f:n=1\/n=2\/n=3\/n=4\/n=5\/n=6\/n=7\/n=8\/n=9\/n=10\/n=11\/n=12\/n=13\/n=14\/n=15\/n=16:=by omega
  rcases f with rfl|rfl|rfl|rfl|rfl|rfl|rfl|rfl|rfl|rfl|rfl|rfl|rfl|rfl|rfl|rfl <;> rfl
 .have a:YK n=false:=by
   unfold YK;simp only [Bool.or_eq_false_iff,beq_eq_false_iff_ne]
   omega
  rw [a];refine Z6 (fun b=>Z6 (fun e=>?_) (fun _=>rfl)) (fun _=>rfl)
  exact absurd ⟨of_decide_eq_true b,of_decide_eq_true e⟩ h
end
end Go.Ab
end
section
namespace Go.Ab
set_option maxRecDepth 20000
noncomputable section
def Wb(t:Term):Bool:=
 if t.op_=1 then t.num_==0&&(t.more_==0&&t.kids_.length==0)
 else if t.op_=2 then (decide (0<=t.num_)&&decide (t.num_<=39))&&(t.more_==0&&t.kids_.length==0)
 else if t.op_=3 then (decide (0<=t.num_)&&decide (t.num_<=40))&&(t.more_==0&&t.kids_.length==0)
 else if t.op_=4 then YK t.num_&&(t.more_==0&&t.kids_.length==0)
 else if t.op_=5 then (decide (0<=t.num_)&&decide (t.num_<=15))&&(t.more_==0&&t.kids_.length==0)
 else if t.op_=6 then (decide (2<=t.num_)&&decide (t.num_<=10))&&(t.more_==0&&t.kids_.length==0)
 else if t.op_=7 then (decide (1<=t.num_)&&decide (t.num_<=10))&&(YK t.more_&&t.kids_.length==0)
 else if t.op_=8 then (decide (1<=t.num_)&&decide (t.num_<=10))&&(t.more_==0&&t.kids_.length==0)
 else if t.op_=9\/t.op_=10 then t.num_==0&&(t.more_==0&&decide (1<=t.kids_.length))
 else if t.op_=11 then t.num_==0&&(t.more_==0&&t.kids_.length==1)
 else false
def ZY:Nat->Term->Bool
 | 0,_=>false
 | d+1,t=>Wb t&&t.kids_.all (ZY d)
def YP:Nat->Term->Nat
 | 0,_=>0
 | d+1,t=>1+t.kids_.foldl (fun n k=>max n (YP d k)) 0
def YZ:Nat->Nat->Term->Bool
 | 0,_,_=>false
 | d+1,n,t=> !decide (n=0)&&(Wb t&&t.kids_.all (YZ d (n-1)))
theorem ye{α:Type}(f:α->Nat):∀ (l:List α) (a n:Nat),l.foldl (fun n k=>max n (f k)) a<=n↔a<=n/\∀ k ∈ l,f k<=n
 | [],a,n=>by simp
 | x::l,a,n=>by
  rw [List.foldl_cons,ye f l];simp only [List.mem_cons,forall_eq_or_imp]
  constructor
  .rintro ⟨e,b⟩;exact ⟨by omega,by omega,b⟩
  .rintro ⟨e,b,g⟩;exact ⟨by omega,g⟩
theorem Ra:∀ (d n:Nat) (t:Term),TD d t->YZ d n t=(decide (YP d t<=n)&&ZY d t)
 | 0,_,_,h=>h.elim
 | d+1,n,t,h=>by
  unfold YZ YP ZY;have b:=h.2.2.2
  cases n with
  | zero=>simp
  | succ n=>
   have i:t.kids_.all (YZ d (n+1-1))=(t.kids_.all (fun k=>decide (YP d k<=n))&&t.kids_.all (ZY d)):=by
    rw [Bool.eq_iff_iff,Bool.and_eq_true,List.all_eq_true,List.all_eq_true,List.all_eq_true];constructor
    .intro h
     refine ⟨fun k a=>?_,fun k a=>?_⟩ <;> (have:=h k a;rw [Nat.add_sub_cancel,Ra d n k (b k a),Bool.and_eq_true] at this)
     .exact this.1
     .exact this.2
    .rintro ⟨e,g⟩ k a
     rw [Nat.add_sub_cancel,Ra d n k (b k a),e k a,g k a];rfl
   have f:decide (1+t.kids_.foldl (fun n k=>max n (YP d k)) 0<=n+1)=t.kids_.all (fun k=>decide (YP d k<=n)):=by
    rw [Bool.eq_iff_iff,decide_eq_true_eq,List.all_eq_true];have:=ye (YP d) t.kids_ 0 n
    simp only [decide_eq_true_eq];constructor
    .intro h;exact (this.1 (by omega)).2
    .intro h;have:=this.2 ⟨by omega,h⟩;omega
   rw [i,f]
   cases Wb t <;> cases t.kids_.all (fun k=>decide (YP d k<=n)) <;> cases t.kids_.all (ZY d) <;> simp
theorem ql:∀ (d:Nat) (_:d<=2000000) {F:Nat} (_:Q7+d<=F) {t:Term} (_:TD d t),Ju F t=some (YP d t:Int)/\YP d t<=d
 | 0,_,_,_,_,h=>h.elim
 | d+1,_,0,hF,_,_=>by unfold Q7 at hF;omega
 | d+1,hd,F+1,hF,t,h=>by
  obtain ⟨_,_,p,l⟩:=h;have a : Q7+d<=F:=by omega
  have hB:=a;unfold Q7 at hB
  have o:t.kids_.foldl (fun n k=>max n (YP d k)) 0<=d:=(ye _ _ _ _).2 ⟨by omega,fun k f=>(ql d (by omega) a (l k f)).2⟩;refine ⟨?_,by unfold YP;omega⟩
  show RJ F (Ju F) t=_;unfold RJ
  suffices hs:∀ (n:Nat) (i:Nat) (v:Nat),t.kids_.length-i<n->i<=t.kids_.length->(t.kids_.drop i).foldl (fun n k=>max n (YP d k)) v=t.kids_.foldl (fun n k=>max n (YP d k)) 0->v<=d ->
    Z9 (fun again (z:Int×Int)=>RI F (Ju F) t again z.1 z.2) n ((v:Int),(i:Int))=some ((YP (d+1) t:Nat):Int) by
   exact hs F 0 0 (by omega) (by omega) rfl (by omega)
  intro n
  induction n with
  | zero=>intro i v h;omega
  | succ n ih=>
   intro i v u s e r;show RI F (Ju F) t (Z9 _ n) (v:Int) (i:Int)=_
   unfold RI
   by_cases hil:i<t.kids_.length
   .have b:=l _ (J7 hil)
    obtain ⟨m,q⟩:=ql d (by omega) a b;rw [Yq hil,List.foldl_cons] at e
    have g:=ih (i+1) (max v (YP d (gl t.kids_ i))) (by omega) (by omega) e (by omega);refine Y7 (decide_eq_true (by omega)) (Q8 (by omega) (Q8 b.op (Q3 m (Q8 (V9 (by omega) (by omega)) ?_))))
    rw [<-g];congr 1
    refine Prod.ext ?_ rfl;show G7 _ _=_
    unfold G7;split <;> omega
   .have j:i=t.kids_.length:=by omega
    subst j;rw [List.drop_length,List.foldl_nil] at e
    refine Z5 (decide_eq_false (by omega)) ?_;unfold qm
    refine Q8 (V9 (by omega) (by omega)) ?_;unfold YP
    rw [<-e];congr 1;omega
theorem jl:∀ (d:Nat) {F:Nat} (_:Q7+d<=F) {t:Term} (_:TD d t),Wa F t=some (ZY d t)
 | 0,_,_,_,h=>h.elim
 | d+1,0,hF,_,_=>by unfold Q7 at hF;omega
 | d+1,F+1,hF,t,h=>by
  obtain ⟨_,_,C,v⟩:=h;have o : Q7+d<=F:=by omega
  have hB:=o;unfold Q7 at hB
  show RH F (Wa F) t=_;have k:Z9 (fun f (z:Int)=>Xl F (Wa F) t f z) F (0:Int)=some (t.kids_.all (ZY d)):=by
   refine cl (fun l=>some (l.all (ZY d))) (fun f i q r=>?_) (fun f=>?_) (by omega)
   .show Xl F (Wa F) t f (i:Int)=_
    unfold Xl;have p:=v _ (J7 q)
    refine Y7 (decide_eq_true (by omega)) (Q8 (by omega) (Q8 p.op (Q3 (jl d o p) ?_)));show br (!ZY d (gl t.kids_ i)) _ _=some (ZY d (gl t.kids_ i)&&_)
    cases ZY d (gl t.kids_ i) with
    | false=>rfl
    | true=>exact Z5 rfl (Q8 (V9 (by omega) (by omega)) r)
   .show Xl F (Wa F) t f (t.kids_.length:Int)=_
    unfold Xl;exact Z5 (decide_eq_false (by omega)) rfl
  have k2:∀ b,Xj F (Wa F) t b=some (!b&&t.kids_.all (ZY d)):=fun b=>by
   unfold Xj
   cases b with
   | true=>rfl
   | false=>exact Z5 rfl k
  have k1:∀ (n:Int) (a b:Bool),Zv F (Wa F) t n a b=some ((b&&(a&&((t.kids_.length:Nat):Int)==n))&&t.kids_.all (ZY d)):=fun n a b=>by
   unfold Zv
   cases b <;> cases a
   .rw [k2];rfl
   .rw [k2];rfl
   .exact Z5 rfl (Y7 rfl (k2 _))
   .refine Z5 rfl (Z5 rfl ((k2 _).trans ?_))
    congr 2
    rw [bne,Bool.not_not];rfl
  have s:∀ (n:Nat),(((t.kids_.length:Nat):Int)==(n:Int))=(t.kids_.length==n):=fun n=>by
   rw [Bool.eq_iff_iff,beq_iff_eq,beq_iff_eq];omega
  have u:(((t.kids_.length:Nat):Int)==((t.kids_.length:Nat):Int))=true:=by simp
  have w:(decide ((0:Int)<((t.kids_.length:Nat):Int)))=decide (1<=t.kids_.length):=by rw [Bool.eq_iff_iff,decide_eq_true_eq,decide_eq_true_eq];omega
  have j:(((t.kids_.length:Nat):Int)==0)=(t.kids_.length==0):=s 0;have B:(((t.kids_.length:Nat):Int)==1)=(t.kids_.length==1):=s 1
  unfold RH ZY Wb;have K:∀ {x:Option Bool} {n:Int} {a b c:Bool},x=Zv F (Wa F) t n a b->(b&&(a&&((t.kids_.length:Nat):Int)==n))=c->x=some (c&&t.kids_.all (ZY d)):=fun h e=>by rw [h,k1,e]
  have R:∀ {lo q:Int} {a:Bool} {c:Bool},(Zv F (Wa F) t 0 a (decide (lo<=t.num_)&&decide (t.num_<=q)))=some c->br (decide (lo<=t.num_)) (Zv F (Wa F) t 0 a (decide (t.num_<=q))) (Zv F (Wa F) t 0 a false)=some c:=fun h=>by
   rw [<-h];cases decide (_<=t.num_) <;> rfl
  by_cases h1:t.op_=1
  .rw [if_pos h1]
   exact Y7 (by simp [h1]) (K rfl (by rw [j]))
  rw [if_neg h1];refine Z5 (by simp [h1]) ?_
  by_cases h2:t.op_=2
  .rw [if_pos h2]
   refine Y7 (by simp [h2]) ?_;rw [show decide (t.num_<40)=decide (t.num_<=39) from decide_eq_decide.2 (by omega)]
   exact R (K rfl (by rw [j]))
  rw [if_neg h2];refine Z5 (by simp [h2]) ?_
  by_cases h3:t.op_=3
  .rw [if_pos h3]
   exact Y7 (by simp [h3]) (R (K rfl (by rw [j])))
  rw [if_neg h3];refine Z5 (by simp [h3]) ?_
  by_cases h4:t.op_=4
  .rw [if_pos h4]
   exact Y7 (by simp [h4]) (Q3 (qj F _) (K rfl (by rw [j])))
  rw [if_neg h4];refine Z5 (by simp [h4]) ?_
  by_cases h5:t.op_=5
  .rw [if_pos h5]
   exact Y7 (by simp [h5]) (R (K rfl (by rw [j])))
  rw [if_neg h5];refine Z5 (by simp [h5]) ?_
  by_cases h6:t.op_=6
  .rw [if_pos h6]
   exact Y7 (by simp [h6]) (R (K rfl (by rw [j])))
  rw [if_neg h6];refine Z5 (by simp [h6]) ?_
  by_cases h7:t.op_=7
  .rw [if_pos h7]
   refine Y7 (by simp [h7]) ?_;refine Z6 (fun g=>Q3 (qj F _) (K rfl ?_)) (fun g=>Q3 (qj F _) (K rfl ?_))
   .rw [j,g,Bool.true_and]
   .rw [g];rfl
  rw [if_neg h7];refine Z5 (by simp [h7]) ?_
  by_cases g:t.op_=8
  .rw [if_pos g]
   exact Y7 (by simp [g]) (R (K rfl (by rw [j])))
  rw [if_neg g];refine Z5 (by simp [g]) ?_
  have m:Xk F (Wa F) t true=some ((t.num_==0&&(t.more_==0&&decide (1<=t.kids_.length)))&&t.kids_.all (ZY d)):=by
   unfold Xk;refine Y7 rfl (Z6 (fun h=>K rfl ?_) (fun h=>K rfl ?_))
   .rw [u,w,h,Bool.true_and,Bool.and_true,Bool.and_comm]
   .rw [h];rfl
  by_cases h9:t.op_=9\/t.op_=10
  .rw [if_pos h9]
   refine Z6 (fun h=>?_) (fun h=>?_)
   .rw [h];exact m
   .have:t.op_=10:=by simp at h;omega
    rw [this];exact m
  rw [if_neg h9];refine Z5 (by simp;omega) ?_
  rw [show (t.op_==(10:Int))=false by simp;omega];unfold Xk
  refine Z5 rfl ?_
  by_cases h11:t.op_=11
  .rw [if_pos h11]
   exact Y7 (by simp [h11]) (K rfl (by rw [B]))
  .rw [if_neg h11]
   exact Z5 (by simp [h11]) (K rfl rfl)
end
end Go.Ab
end
section
namespace Go.Ab
set_option maxRecDepth 20000
noncomputable section
theorem Q5E{F:Nat}{l:List Term}{q:Term->Option Bool}(p:Term->Bool)(hF:l.length<F)(hl:l.length<=1000000000)(ho:∀ r ∈ l,Q6 r.op_)(hq:∀ r ∈ l,q r=some (p r)):∃ i:Int,Mg F l q=some i/\(0<=i↔l.any p=true):=by
 unfold Mg
 suffices hs:∀ (n i:Nat),l.length-i<n->i<=l.length->∃ j:Int,Z9 (fun again (z:Int)=>Mf F l q again z) n (i:Int)=some j/\(0<=j↔(l.drop i).any p=true) by
  simpa using hs F 0 (by omega) (by omega)
 intro n
 induction n with
 | zero=>intro i h;omega
 | succ n ih=>
  intro i g f;show ∃ j:Int,Mf F l q (Z9 _ n) (i:Int)=some j/\_
  unfold Mf
  by_cases hil:i<l.length
  .have a:=J7 hil
   rw [vo hil]
   cases hp:p (gl l i) with
   | true=>exact ⟨i,Y7 (decide_eq_true (by omega)) (Q8 (by omega) (Q8 (ho _ a) (Q3 (hq _ a) (Y7 hp rfl)))),by simp⟩
   | false=>
    obtain ⟨j,b,e⟩:=ih (i+1) (by omega) (by omega);refine ⟨j,Y7 (decide_eq_true (by omega)) (Q8 (by omega) (Q8 (ho _ a) (Q3 (hq _ a) (Z5 hp (Q8 (V9 (by omega) (by omega)) ?_))))),by simpa using e⟩
    rw [<-b];congr 1
  .refine ⟨-1,Z5 (decide_eq_false (by omega)) rfl,?_⟩
   rw [List.drop_eq_nil_of_le (by omega)];simp
theorem Q6a{F:Nat}{l:List Term}{q:Term->Option Bool}(p:Term->Bool)(hF:l.length<F)(hl:l.length<=1000000000)(ho:∀ r ∈ l,Q6 r.op_)(hq:∀ r ∈ l,q r=some (p r)):Mr F l q=some (l.any p):=by
 obtain ⟨i,a,b⟩:=Q5E p hF hl ho hq;unfold Mr
 refine Q3 a ?_;rw [Option.some.injEq,Bool.eq_iff_iff,decide_eq_true_eq];exact b
def WN(n:Int):Int×Int×Bool:=if n=2 then (0,39,true) else if n=3 then (0,40,true) else if n=4 then (1,16,true) else if n=5 then (0,15,true) else if n=6 then (2,10,true) else if n=7\/n=8 then (1,10,true) else (0,0,false)
def ZX(n:Int):Int×Int:=if n=9\/n=10 then (1,40) else if n=11 then (1,1) else (0,0)
theorem Q3L(F:Nat)(n:Int):HQ F n=some (WN n):=by
 unfold HQ WN HP
 by_cases h2:n=2
 .subst h2;rfl
 by_cases h3:n=3
 .subst h3;rfl
 by_cases h4:n=4
 .subst h4;rfl
 by_cases h5:n=5
 .subst h5;rfl
 by_cases h6:n=6
 .subst h6;rfl
 by_cases h7:n=7
 .subst h7;rfl
 by_cases h8:n=8
 .subst h8;rfl
 have e:∀ m:Int,n≠m->(n==m)=false:=fun m h=>by simpa using h
 rw [e 2 h2,e 3 h3,e 4 h4,e 5 h5,e 6 h6,e 7 h7,e 8 h8,if_neg h2,if_neg h3,if_neg h4,if_neg h5,if_neg h6,if_neg (by omega)];rfl
theorem Q3N(F:Nat)(n:Int):HS F n=some (ZX n):=by
 unfold HS ZX HR;have e:∀ m:Int,n≠m->(n==m)=false:=fun m h=>by simpa using h
 by_cases h2:n=9
 .subst h2;rfl
 by_cases h3:n=10
 .subst h3;rfl
 by_cases h4:n=11
 .subst h4;rfl
 rw [e 9 h2,e 10 h3,e 11 h4,if_neg (by omega),if_neg h4];rfl
def Hb(t:Term):Bool:=((WN t.op_).2.2&&(decide (t.num_<(WN t.op_).1)||decide ((WN t.op_).2.1<t.num_)))||(!(WN t.op_).2.2&&t.num_ != 0)
def Gt(t:Term):Bool:=(t.op_==4 && !YK t.num_)||((t.op_==7 && !YK t.more_)||(t.op_ != 7&&t.more_ != 0))
def JS(t:Term):Bool:=decide (((t.kids_.length:Nat):Int)<(ZX t.op_).1)||decide ((ZX t.op_).2<((t.kids_.length:Nat):Int))
theorem Q9x{t:Term}(hl:t.kids_.length<=40):(!(decide (t.op_<1)||decide (11<t.op_))&&(!Hb t&&(!Gt t && !JS t)))=Wb t:=by
 have g:∀ n:Int,YK n=true->1<=n/\n<=16:=fun n h=>by
  unfold YK at h;simp only [Bool.or_eq_true,beq_iff_eq] at h;omega
 have k:∀ n:Nat,(t.kids_.length==n)=decide (t.kids_.length=n):=fun n=>by rw [Bool.eq_iff_iff,beq_iff_eq,decide_eq_true_eq]
 rw [Bool.eq_iff_iff];unfold Hb Gt JS WN ZX Wb
 generalize t.op_=o,t.num_=n,t.more_=m at *;have j:∀ {p q:Prop},(p↔q)->(p↔q):=fun h=>h
 by_cases h:o<1\/11<o
 .rw [show (decide (o<1)||decide (11<o))=true by simpa using h]
  have e:∀ m:Int,1<=m->m<=11->¬ o=m:=fun m _ _=>by omega
  simp [e 1,e 2,e 3,e 4,e 5,e 6,e 7,e 8,e 9,e 10,e 11]
 have i:o=1\/o=2\/o=3\/o=4\/o=5\/o=6\/o=7\/o=8\/o=9\/o=10\/o=11:=by omega
 rcases i with rfl|rfl|rfl|rfl|rfl|rfl|rfl|rfl|rfl|rfl|rfl <;> simp <;> (try omega)
 constructor
 .rintro ⟨_,⟨a,f⟩,b⟩;exact ⟨a,f,b⟩
 .rintro ⟨a,f,b⟩;exact ⟨g _ a,⟨a,f⟩,b⟩
theorem xl:∀ (d:Nat) {F:Nat} (_:Q7+d<=F) {t:Term} (_:TD d t) (_:QG d t<=40) (n:Nat) (_:n<=8),ZA F t (n:Int)=some (YZ d n t)
 | 0,_,_,_,h,_,_,_=>h.elim
 | d+1,0,hF,_,_,_,_,_=>by unfold Q7 at hF;omega
 | d+1,F+1,hF,t,h,hs,n,hn=>by
  obtain ⟨_,_,D,g⟩:=h;have f : Q7+d<=F:=by omega
  have hB:=f;unfold Q7 at hB
  have p:t.kids_.length<=39:=by
   have:t.kids_.length<=(t.kids_.map (QG d)).sum:=by
    have:∀ l:List Term,(∀ k ∈ l,TD d k)->l.length<=(l.map (QG d)).sum:=by
     intro l
     induction l with
     | nil=>intro _;simp
     | cons x l ih=>intro q;have:=Q3Y (q x (by simp));have:=ih fun k g=>q k (by simp [g]);simp;omega
    exact this _ g
   unfold QG at hs;omega
  have j:∀ k ∈ t.kids_,QG d k<=40:=fun k a=>by
   obtain ⟨i,r,rfl⟩:=List.getElem_of_mem a;have u:=FF (d:=d) r
   have E:=FG (d:=d) (i:=i+1) (t:=t);rw [G8 r] at u;omega
  show HE F (ZA F) t (n:Int)=_;unfold HE
  refine Q3 (Q3L F _) (Q3 (Q3N F _) ?_);have w:∀ b,n≠0->GM F (ZA F) t (n:Int) b=some (!b&&t.kids_.all (YZ d (n-1))):=fun b e=>by
   unfold GM
   cases b with
   | true=>rfl
   | false=>
    refine Z5 rfl (Q3 (Q6a (fun k=> !YZ d (n-1) k) (by omega) (by omega) (fun k a=>(g k a).op) fun k a=>?_) ?_)
    .unfold Fn
     refine Q8 (V9 (by omega) (by omega)) ?_;rw [show ((n:Int)-1)=((n-1:Nat):Int) by omega]
     exact Q3 (xl d f (g k a) (j k a) (n-1) (by omega)) rfl
    .rw [Bool.not_false,Bool.true_and,List.not_any_eq_all_not];simp
  have k2:∀ b,n≠0->Zz F (ZA F) t (n:Int) (ZX t.op_) b=some (!b&&(!JS t&&t.kids_.all (YZ d (n-1)))):=fun b e=>by
   unfold Zz JS
   cases b with
   | true=>rfl
   | false=>
    refine Z5 rfl ?_;rw [Yd (fun b=>GM F (ZA F) t (n:Int) b),w _ e];rfl
  have k1:∀ b,n≠0->VS F (ZA F) t (n:Int) (ZX t.op_) b=some (!b&&(!Gt t&&(!JS t&&t.kids_.all (YZ d (n-1))))):=fun b e=>by
   unfold VS Gt
   cases b with
   | true=>rfl
   | false=>
    refine Z5 rfl ?_;have v:(Jc F t.more_).bind (fun z=>br (!z) (Zz F (ZA F) t (n:Int) (ZX t.op_) true) (br (t.op_ != (7:Int)) (Zz F (ZA F) t (n:Int) (ZX t.op_) (t.more_ != (0:Int))) (Zz F (ZA F) t (n:Int) (ZX t.op_) false)))=Zz F (ZA F) t (n:Int) (ZX t.op_) (!YK t.more_||(t.op_ != 7&&t.more_ != 0)):=by
     refine Q3 (xj F _) ?_
     cases YK t.more_ <;> cases (t.op_ != (7:Int)) <;> rfl
    have s:(br (t.op_==(7:Int)) ((Jc F t.more_).bind (fun z=>br (!z) (Zz F (ZA F) t (n:Int) (ZX t.op_) true) (br (t.op_ != (7:Int)) (Zz F (ZA F) t (n:Int) (ZX t.op_) (t.more_ != (0:Int))) (Zz F (ZA F) t (n:Int) (ZX t.op_) false)))) (br (t.op_ != (7:Int)) (Zz F (ZA F) t (n:Int) (ZX t.op_) (t.more_ != (0:Int))) (Zz F (ZA F) t (n:Int) (ZX t.op_) false)))
      = Zz F (ZA F) t (n:Int) (ZX t.op_) ((t.op_==7 && !YK t.more_)||(t.op_ != 7&&t.more_ != 0)):=by
     rw [v]
     cases h7:(t.op_==(7:Int)) with
     | true=>rw [show (t.op_ != (7:Int))=false by rw [bne,h7];rfl];cases YK t.more_ <;> rfl
     | false=>rw [show (t.op_ != (7:Int))=true by rw [bne,h7];rfl];rfl
    rw [s];refine Z6 (fun m=>Q3 (xj F _) ?_) (fun m=>?_)
    .rw [m,Bool.true_and]
     cases YK t.num_ with
     | false=>refine Y7 rfl ((k2 _ e).trans ?_);rfl
     | true=>refine Z5 rfl ((k2 _ e).trans ?_);rfl
    .rw [m];exact k2 _ e
  have B:∀ b,(b=false->n≠0)->Jd F (ZA F) t (n:Int) (WN t.op_) (ZX t.op_) b=some (!b&&(!Hb t&&(!Gt t&&(!JS t&&t.kids_.all (YZ d (n-1)))))):=fun b C=>by
   unfold Jd Hb
   cases b with
   | true=>rfl
   | false=>
    have e:=C rfl;refine Z5 rfl ?_
    have k1:=fun b=>k1 b e
    generalize hK:VS F (ZA F) t (n:Int) (ZX t.op_)=K at k1 ⊢;generalize (!Gt t&&(!JS t&&t.kids_.all (YZ d (n-1))))=rest at k1 ⊢
    generalize (t.num_ != 0)=nz
    cases (WN t.op_).2.2 <;> cases decide (t.num_<(WN t.op_).1) <;> cases decide ((WN t.op_).2.1<t.num_) <;> cases nz <;> simp only [br,k1] <;> rfl
  have o:(((n:Int))==0)=decide (n=0):=by rw [Bool.eq_iff_iff,beq_iff_eq,decide_eq_true_eq];omega
  rw [o];rw [Yd (fun b=>Jd F (ZA F) t (n:Int) (WN t.op_) (ZX t.op_) b),Yd (fun b=>Jd F (ZA F) t (n:Int) (WN t.op_) (ZX t.op_) b)]
  rw [B _ (fun h=>by simp only [Bool.or_eq_false_iff,decide_eq_false_iff_not] at h;exact h.2.2)];unfold YZ
  rw [<-Q9x (t:=t) (by omega)]
  cases decide (t.op_<1) <;> cases decide (11<t.op_) <;> cases decide (n=0) <;> cases Hb t <;> cases Gt t <;> cases JS t <;> rfl
def YI(d:Nat)(t:Term):Int:=if 40<QG d t then 1 else if YZ d 8 t=true then 0 else 16
theorem xy{d F:Nat}(hF:Q7+d<=F){t:Term}(h:TD d t):PN F t=some (YI d t):=by
 unfold PN YI;obtain ⟨v,e,_,_,b,_⟩:=xw d hF h (m:=40) (by omega) (by omega)
 refine Q3 e (Z6 (fun a=>?_) (fun a=>?_))
 .have:=b.1 (of_decide_eq_true a);rw [if_pos (by omega)]
 .have f:¬ 40<QG d t:=fun h=>of_decide_eq_false a (b.2 (by omega))
  rw [if_neg f];refine Q3 (xl d hF h (by omega) 8 (by omega)) ?_
  cases YZ d 8 t <;> rfl
theorem Q8i{d F:Nat}(hd:d<=2000000)(hF:Q7+d<=F){t:Term}(h:TD d t):RN F t=some (YI d t):=by
 unfold RN YI;obtain ⟨v,f,_,_,e,_⟩:=jp d hd hF h
 refine Q3 f (Z6 (fun b=>?_) (fun b=>?_))
 .have:=e.1 (of_decide_eq_true b);rw [if_pos (by omega)]
 .have g:¬ 40<QG d t:=fun h=>of_decide_eq_false b (e.2 (by omega))
  rw [if_neg g,Ra d 8 t h];refine Q3 (ql d hd hF h).1 (Z6 (fun a=>?_) (fun a=>?_))
  .have a:=of_decide_eq_true a
   rw [decide_eq_false (by omega)];rfl
  .have a:=of_decide_eq_false a
   rw [decide_eq_true (by omega)];refine Q3 (jl d hF h) ?_
   unfold RM
   cases ZY d t <;> rfl
theorem Q3U(d:Nat):YI (d+1) ⟨1,0,0,[]⟩=0:=by
 unfold YI;rw [if_neg (by simp [QG]),if_pos]
 simp [YZ,Wb]
end
end Go.Ab
end
section
namespace Go.Ab
set_option maxRecDepth 20000
noncomputable section
def UQ(y:Int)(cs:List Crop)(hs:List Rg_)(zs:List A2_)(d c:Int)(A:List Rect)(t:Term):TS:=
 if t.op_=2 then WX A (c==t.num_)
 else if t.op_=3 then WX A ((gl cs c.toNat).f_==t.num_)
 else if t.op_=4 then WX A (VM cs c t.num_)
 else if t.op_=5 then WS A (Q4 (Zf zs d fun k=>k==t.num_))
 else if t.op_=6 then YJ A hs cs y (gl cs c.toNat).f_ (t.num_.toNat-1)
 else if t.op_=7 then ⟨Wd A hs (y-t.num_) fun k=>VM cs k t.more_,Wd A hs (y-t.num_) fun k=> !VM cs k t.more_⟩
 else if t.op_=8 then WS A (Q4 (Zd hs (y-t.num_) fun _=>true))
 else WX A true
def Qe(y:Int)(cs:List Crop)(hs:List Rg_)(zs:List A2_)(d c:Int)(A:List Rect):Nat->Term->TS
 | 0,_=>WX A true
 | e+1,t=>
  if t.op_=9 then ⟨fun u v=>Q4 A u v&&t.kids_.all fun k=>(Qe y cs hs zs d c A e k).Y u v,fun u v=>t.kids_.any fun k=>(Qe y cs hs zs d c A e k).N u v⟩
  else if t.op_=10 then ⟨fun u v=>t.kids_.any fun k=>(Qe y cs hs zs d c A e k).Y u v,fun u v=>Q4 A u v&&t.kids_.all fun k=>(Qe y cs hs zs d c A e k).N u v⟩
  else if t.op_=11 then ⟨(Qe y cs hs zs d c A e (gl t.kids_ 0)).N,(Qe y cs hs zs d c A e (gl t.kids_ 0)).Y⟩
  else UQ y cs hs zs d c A t
variable {F:Nat} {cs:List Crop} {hs:List Rg_} {zs:List A2_} {y c d:Int} {A:List Rect}
theorem TIn.turn{s:TS}(h:TIn A s):TIn A ⟨s.N,s.Y⟩:=⟨h.fN,h.fY,h.sN,h.sY⟩
theorem Z3i(t:Term):TIn A (UQ y cs hs zs d c A t):=by
 unfold UQ
 repeat' split
 .exact Pe _ _
 .exact Pe _ _
 .exact Pe _ _
 .exact Q1d (QZ _)
 .exact Md _ _ _ _ _ _
 .exact ⟨UJ _ _ _ _,UJ _ _ _ _,fun _ _ h=>Xy h,fun _ _ h=>Xy h⟩
 .exact Q1d (QZ _)
 .exact Pe _ _
theorem Q0y{B:Sq}(hB:Fin B){α:Type}(f:α->Sq):∀ (l:List α),(∀ k ∈ l,Fin (f k))->Fin fun u v=>B u v&&l.all fun k=>f k u v
 | [],_=>by simpa using hB
 | k::l,h=>by
  have a:=UK (Q0y hB f l fun j b=>h j (List.mem_cons_of_mem _ b)) (h k List.mem_cons_self);have e:(fun u v=>(B u v&&l.all fun k=>f k u v)&&f k u v)=fun u v=>B u v&&(k::l).all fun k=>f k u v:=by
   funext u v
   rw [List.all_cons]
   cases B u v <;> cases f k u v <;> simp
  rw [<-e];exact a
theorem Q0w{α:Type}(f:α->Sq):∀ (l:List α),(∀ k ∈ l,Fin (f k))->Fin fun u v=>l.any fun k=>f k u v
 | [],_=>by simpa using TB
 | k::l,h=>by
  have a:=yk (h k List.mem_cons_self) (Q0w f l fun j b=>h j (List.mem_cons_of_mem _ b));simpa using a
theorem vp{α:Type}(f:α->TS)(l:List α)(h:∀ k ∈ l,TIn A (f k)):TIn A ⟨fun u v=>Q4 A u v&&l.all fun k=>(f k).Y u v,fun u v=>l.any fun k=>(f k).N u v⟩:=by
 refine ⟨Q0y (QZ A) (fun k=>(f k).Y) l fun k a=>(h k a).fY,Q0w (fun k=>(f k).N) l fun k a=>(h k a).fN,fun u v b=>?_,fun u v b=>?_⟩
 .simp only [Bool.and_eq_true] at b
  exact b.1
 .obtain ⟨k,a,e⟩:=List.any_eq_true.1 b
  exact (h k a).sN u v e
theorem Gg:∀ (e:Nat) (t:Term),TIn A (Qe y cs hs zs d c A e t)
 | 0,_=>Pe _ _
 | e+1,t=>by
  unfold Qe;split
  .exact vp _ _ fun k _=>Gg e k
  split
  .exact (vp (fun k=>⟨(Qe y cs hs zs d c A e k).N,(Qe y cs hs zs d c A e k).Y⟩) t.kids_ fun k _=>(Gg e k).turn).turn
  split
  .exact (Gg e _).turn
  .exact Z3i t
structure PL (p:Vv) (y:Int) (cs:List Crop) (hs:List Rg_) (zs:List A2_) (d c:Int) (A:List Rect):Prop where
 yr:p.world_.year_=y
 cs:p.world_.crops_=cs
 hs:p.world_.history_=hs
 zs:p.world_.zones_=zs
 dd:p.world_.day_=d
 cr:p.line_.c_=c
 re:p.t_=A
theorem Q8N{n:Nat}{L:List A2_}(h:∀ f ∈ L,QN n f.g_.t_)(d:Int)(p:Int->Bool):QN n (Zf L d p):=fun r a=>by
 unfold Zf at a;obtain ⟨f,e,b⟩:=List.mem_flatMap.1 a
 exact h f (List.mem_filter.1 e).1 r b
theorem Q9A{t:Term}(hn:Wb t=true)(q:t.op_=6):2<=t.num_/\t.num_<=10:=by
 unfold Wb at hn;simp [q] at hn
 omega
theorem Q9z{t:Term}(hn:Wb t=true)(q:t.op_=7):(1<=t.num_/\t.num_<=10)/\YK t.more_=true:=by
 unfold Wb at hn;simp [q] at hn
 exact ⟨by omega,hn.2.1⟩
theorem Q9y{t:Term}(hn:Wb t=true)(q:t.op_=8):1<=t.num_/\t.num_<=10:=by
 unfold Wb at hn;simp [q] at hn
 omega
theorem bk{n:Nat}{L:List A2_}(h:LB n L){f:A2_}(hf:f ∈ L):J2 f.g_.t_:=((za f).1 (h.vl.one f hf)).2.2.2.2.2.2.2.2
theorem LB.few'{n:Nat}{L:List A2_}(h:LB n L)(d:Int)(p:Int->Bool):(Zf L d p).length<=7200:=by
 have e:=h.vl.len;have:∀ (M:List A2_),(∀ f ∈ M,f.g_.t_.length<=120)->(Zf M d p).length<=120*M.length:=by
  intro M
  induction M with
  | nil=>intro _;simp [Zf]
  | cons f M ih=>
   intro a;rw [qG]
   have j:=a f List.mem_cons_self;have k:=ih fun g b=>a g (List.mem_cons_of_mem _ b)
   rw [List.length_append,List.length_cons];split
   .omega
   .simp;omega
 have:=this L fun f i=>(bk h i).1
 omega
theorem Q3Q(hF:Q7<=F)(h:EV y cs hs zs c A){p:Vv}(hp:PL p y cs hs zs d c A){t:Term}(hn:Wb t=true):HO F p t=some ((UQ y cs hs zs d c A t).sqs A):=by
 have b:=h.tr.val;have m:=h.crop
 unfold HO UQ;refine Z6 (fun q=>?_) fun L=>Z6 (fun q=>?_) fun J=>Z6 (fun q=>?_) fun K=>Z6 (fun q=>?_) fun H=>Z6 (fun q=>?_) fun x=>Z6 (fun q=>?_) fun I=>Z6 (fun q=>?_) fun w=>?_
 .have q:=eq_of_beq q
  rw [if_pos q,hp.cr];exact Q3 (HC hp.re b _) rfl
 .have q:=eq_of_beq q
  rw [if_neg (by omega),if_pos q,hp.cr,hp.cs];exact Q8 m (Q3 (HC hp.re b _) rfl)
 .have q:=eq_of_beq q
  rw [if_neg (by omega),if_neg (by omega),if_pos q,hp.cr,hp.cs];exact Q3 (yN F cs c t.num_) (Q3 (HC hp.re b _) rfl)
 .have q:=eq_of_beq q
  rw [if_neg (by omega),if_neg (by omega),if_neg (by omega),if_pos q,hp.zs,hp.dd];have s:=Q8N h.zs.box d fun k=>k==t.num_
  refine Q3 (Q0E hF (by have:=h.zs.vl.len;omega) (fun f D=>(bk h.zs D).1) d (fun k=>k==t.num_) fun f _=>rfl) ?_;refine Q3 (WU hF (a:=p.t_) (by rw [hp.re];exact b.le8) (by have:=h.zs.few' d fun k=>k==t.num_;omega) (by rw [hp.re];exact b.pos) (fun r C=>(s r C).2.1) (S:=Q4 A) (by rw [hp.re]) rfl (k:=fun u v=>u&&v) rfl (HX F)) ?_
  exact Q3 (xu hF hp.re h.tr (QZ _)) rfl
 .have q:=eq_of_beq q
  rw [if_neg (by omega),if_neg (by omega),if_neg (by omega),if_neg (by omega),if_pos q];have o:=Q9A hn q
  have:=Q3x hF h hp.hs hp.yr hp.re hp.cs hp.cr (n:=t.num_.toNat) (by omega) (by omega)
  rw [Int.toNat_of_nonneg (by omega)] at this;exact Q3 this rfl
 .have q:=eq_of_beq q
  rw [if_neg (by omega),if_neg (by omega),if_neg (by omega),if_neg (by omega),if_neg (by omega),if_pos q];have o:=(Q9z hn q).1
  have l:∀ f ∈ hs,PJ F f.c_ p t=some (VM cs f.c_ t.more_):=fun f _=>by
   unfold PJ;rw [hp.cs]
   exact Q3 (yN F cs _ _) rfl
  have G:∀ f ∈ hs,PI F f.c_ p t=some (!VM cs f.c_ t.more_):=fun f _=>by
   unfold PI;rw [hp.cs]
   exact Q3 (yN F cs _ _) rfl
  have E:TIn A ⟨Wd A hs (y-t.num_) fun k=>VM cs k t.more_,Wd A hs (y-t.num_) fun k=> !VM cs k t.more_⟩:=⟨UJ _ _ _ _,UJ _ _ _ _,fun _ _ h=>Xy h,fun _ _ h=>Xy h⟩;have j:=PK hF h hp.hs hp.yr hp.re (n:=t.num_) (q:=fun g=>PJ F g p t) (by omega) (by omega) (fun k=>VM cs k t.more_) l
  have i:=PK hF h hp.hs hp.yr hp.re (n:=t.num_) (q:=fun g=>PI F g p t) (by omega) (by omega) (fun k=> !VM cs k t.more_) G;have B:=Fp hF hp.re h.tr E
  exact Q3 j (Q3 i (Q3 B rfl))
 .have q:=eq_of_beq q
  rw [if_neg (by omega),if_neg (by omega),if_neg (by omega),if_neg (by omega),if_neg (by omega),if_neg (by omega),if_pos q];have o:=Q9y hn q
  have l:∀ f ∈ hs,Ts F f.c_=some true:=fun _ _=>rfl
  have j:=PK hF h hp.hs hp.yr hp.re (n:=t.num_) (q:=fun g=>Ts F g) (by omega) (by omega) (fun _=>true) l;have i:=xu hF hp.re h.tr (S:=Q4 (Zd hs (y-t.num_) fun _=>true)) (QZ _)
  exact Q3 j (Q3 i rfl)
 .have z:∀ {k:Int},(t.op_==k)=false->¬ t.op_=k:=fun h e=>by rw [e] at h;simp at h
  rw [if_neg (z L),if_neg (z J),if_neg (z K),if_neg (z H),if_neg (z x),if_neg (z I),if_neg (z w)];exact Q3 (HC hp.re b _) rfl
def Wf(A:List Rect)(l:List TS):TS:=⟨fun u v=>Q4 A u v&&l.all fun k=>k.Y u v,fun u v=>l.any fun k=>k.N u v⟩
theorem Q1p{l:List TS}(h:∀ s ∈ l,TIn A s):TIn A (Wf A l):=vp (fun k=>k) l h
theorem Z2K(l:List TS)(s:TS):Wf A (l++[s])=⟨fun u v=>(Wf A l).Y u v&&s.Y u v,fun u v=>(Wf A l).N u v||s.N u v⟩:=by
 unfold Wf;congr 1
 .funext u v;simp [List.all_append,Bool.and_assoc]
 .funext u v;simp [List.any_append]
theorem Q3R(hF:Q7<=F){p:Vv}(e3:p.t_=A)(ht:TR A){l:List TS}(hl:∀ s ∈ l,TIn A s)(hlen:l.length<=1000000):GQ F p (l.map (TS.sqs A))=some ((Wf A l).sqs A):=by
 have e:=hF;unfold Q7 at e
 unfold GQ;have h:∀ (m f k:Nat),k+m=l.length->m<f->Z9 (fun again (z:(List Rect)×(List Rect)×Int)=>GP F p (l.map (TS.sqs A)) again z.1 z.2.1 z.2.2) f (cn (Wf A (l.take k)).Y,cn (Wf A (l.take k)).N,((k:Nat):Int))=some ((Wf A l).sqs A):=by
  intro m
  induction m with
  | zero=>
   intro f k r o;obtain ⟨f,rfl⟩:∃ g,f=g+1:=⟨f-1,by omega⟩
   show GP F p (l.map (TS.sqs A)) (Z9 _ f) _ _ ((k:Nat):Int)=_;unfold GP
   refine Z5 (decide_eq_false (by rw [List.length_map];omega)) ?_;unfold Fv
   rw [show k=l.length by omega,List.take_length];exact Q3 (Fp hF e3 ht (Q1p hl)) rfl
  | succ m ih=>
   intro f k r o;obtain ⟨f,rfl⟩:∃ g,f=g+1:=⟨f-1,by omega⟩
   show GP F p (l.map (TS.sqs A)) (Z9 _ f) _ _ ((k:Nat):Int)=_;unfold GP
   have a:k<l.length:=by omega
   have b:TIn A (Wf A (l.take k)):=Q1p fun s hs=>hl s (List.mem_of_mem_take hs)
   have hs:=hl _ (List.getElem_mem a);have j:gl (l.map (TS.sqs A)) ((k:Nat):Int).toNat=(l[k]).sqs A:=by
    rw [Int.toNat_natCast,G8 (by simpa using a),List.getElem_map]
   have i:=ih f (k+1) (by omega) (by omega);have n:l.take (k+1)=l.take k++[l[k]]:=by rw [List.take_append_getElem a]
   rw [n,Z2K] at i;rw [j]
   refine Y7 (decide_eq_true (by rw [List.length_map];omega)) (Q8 (by rw [List.length_map];omega) (Q3 (WU hF (b.vY ht).le8 (hs.vY ht).le8 (b.vY ht).pos (hs.vY ht).pos (ZE b.fY) (ZE hs.fY) (k:=fun u v=>u&&v) rfl (HX F)) (Q3 (WU hF (b.vN ht).le8 (hs.vN ht).le8 (b.vN ht).pos (hs.vN ht).pos (ZE b.fN) (ZE hs.fN) (k:=fun u v=>u||v) rfl (xt F)) (Q8 (V9 (by omega) (by omega)) ?_))));exact i
 have:=h l.length F 0 (by omega) (by omega)
 have q:Wf A (l.take 0)=⟨Q4 A,fun _ _=>false⟩:=by unfold Wf;simp
 rw [q] at this;simp only [XZ ht.val,JR] at this
 rw [e3];exact this
end
end Go.Ab
end
section
namespace Go.Ab
set_option maxRecDepth 20000
noncomputable section
def TS.turn(s:TS):TS:=⟨s.N,s.Y⟩
theorem Q3m(A:List Rect)(s:TS):s.turn.O A=s.O A:=by
 funext u v
 simp only [TS.turn,TS.O]
 cases Q4 A u v <;> cases s.Y u v <;> cases s.N u v <;> rfl
theorem xf(F:Nat)(A:List Rect)(s:TS):PB F (s.sqs A)=some (s.turn.sqs A):=by
 unfold PB TS.sqs;rw [Q3m]
 rfl
def YY(op:Int)(s:TS):TS:=if op=9 then s else s.turn
theorem Q3w{A:List Rect}{s:TS}(h:TIn A s)(op:Int):TIn A (YY op s):=by
 unfold YY;split
 .exact h
 .exact h.turn
variable {cs:List Crop} {hs:List Rg_} {zs:List A2_} {y c d:Int} {A:List Rect}
theorem xq{p:Vv}(h:EV y cs hs zs c A)(hp:PL p y cs hs zs d c A):∀ (e:Nat) {F:Nat} (_:Q7+e<=F) {t:Term} (_:TD e t) (_:ZY e t=true),Vy F p t=some ((Qe y cs hs zs d c A e t).sqs A)
 | 0,_,_,_,ht,_=>ht.elim
 | e+1,0,hF,_,_,_=>by unfold Q7 at hF;omega
 | e+1,F+1,hF,t,ht,n=>by
  have E : Q7+e<=F:=by omega
  have hB:Q7<=F:=by omega
  have B:=hB;unfold Q7 at B
  obtain ⟨K,_,l,J⟩:=ht;have u:Wb t=true/\∀ k ∈ t.kids_,ZY e k=true:=by
   unfold ZY at n;rw [Bool.and_eq_true,List.all_eq_true] at n
   exact n
  have b:=u.1;show HJ F (Vy F) p t=_
  unfold HJ;have D:∀ s ∈ t.kids_.map (fun k=>YY t.op_ (Qe y cs hs zs d c A e k)),TIn A s:=fun s hs=>by
   obtain ⟨k,_,rfl⟩:=List.mem_map.1 hs;exact Q3w (Gg e k) _
  have C:∀ (m f i:Nat),i+m=t.kids_.length->m<f->Z9 (fun again (z:Int×(List Squares))=>Kb F (Vy F) p t again z.1 z.2) f (((i:Nat):Int),(t.kids_.take i).map fun k=>(YY t.op_ (Qe y cs hs zs d c A e k)).sqs A)=some ((Qe y cs hs zs d c A (e+1) t).sqs A):=by
   intro m
   induction m with
   | zero=>
    intro f i L n;obtain ⟨f,rfl⟩:∃ g,f=g+1:=⟨f-1,by omega⟩
    show Kb F (Vy F) p t (Z9 _ f) ((i:Nat):Int) _=_;unfold Kb
    refine Z5 (decide_eq_false (by omega)) ?_;rw [show i=t.kids_.length by omega,List.take_length]
    unfold Ft;have a:=Q3R hB hp.re h.tr D (by rw [List.length_map];exact l)
    rw [List.map_map] at a;have a:GQ F p (t.kids_.map fun k=>(YY t.op_ (Qe y cs hs zs d c A e k)).sqs A)=_:=a
    have z:∀ {k:Int},(t.op_==k)=false->¬ t.op_=k:=fun h e=>by rw [e] at h;simp at h
    refine Z6 (fun q=>?_) fun r=>Z6 (fun q=>?_) fun o=>Z6 (fun q=>?_) fun x=>?_
    .have q:=eq_of_beq q
     refine Q3 a ?_;have:Wf A (t.kids_.map fun k=>YY t.op_ (Qe y cs hs zs d c A e k))=Qe y cs hs zs d c A (e+1) t:=by
      conv=>rhs;unfold Qe
      unfold Wf YY;rw [if_pos q]
      simp only [List.all_map,List.any_map,if_pos q];rfl
     rw [this]
    .have q:=eq_of_beq q
     refine Q3 a (Q3 (xf F A _) ?_);have:(Wf A (t.kids_.map fun k=>YY t.op_ (Qe y cs hs zs d c A e k))).turn=Qe y cs hs zs d c A (e+1) t:=by
      conv=>rhs;unfold Qe
      unfold Wf YY TS.turn;rw [if_neg (z r),if_pos q]
      simp only [List.all_map,List.any_map,if_neg (z r)];rfl
     rw [this]
    .have q:=eq_of_beq q
     have M:t.kids_.length=1:=by
      unfold Wb at b;simp [q] at b
      omega
     refine Q8 (by rw [List.length_map];omega) ?_;rw [G8 (by rw [List.length_map];show 0<_;omega),List.getElem_map]
     have:YY t.op_ (Qe y cs hs zs d c A e (gl t.kids_ 0))=Qe y cs hs zs d c A (e+1) t:=by
      conv=>rhs;unfold Qe
      unfold YY TS.turn;rw [if_neg (z r),if_neg (z r),if_neg (z o),if_pos q]
     rw [<-this,G8 (by omega)];rfl
    .have:UQ y cs hs zs d c A t=Qe y cs hs zs d c A (e+1) t:=by
      unfold Qe;rw [if_neg (z r),if_neg (z o),if_neg (z x)]
     rw [<-this];exact Q3 (Q3Q hB h hp b) rfl
   | succ m ih=>
    intro f i L n;obtain ⟨f,rfl⟩:∃ g,f=g+1:=⟨f-1,by omega⟩
    show Kb F (Vy F) p t (Z9 _ f) ((i:Nat):Int) _=_;have j:i<t.kids_.length:=by omega
    have v:=J _ (J7 j);have w:=xq h hp e E v (u.2 _ (J7 j))
    have G:=ih f (i+1) (by omega) (by omega);rw [Qx j,List.map_append,List.map_singleton] at G
    generalize Z9 (fun again (z:Int×(List Squares))=>Kb F (Vy F) p t again z.1 z.2) f=ag at G ⊢;unfold Kb
    have H:((i:Nat):Int).toNat=i:=Int.toNat_natCast i;have I:((t.kids_.take i).map fun k=>(YY t.op_ (Qe y cs hs zs d c A e k)).sqs A).length<=1000000:=by
     rw [List.length_map,List.length_take];omega
    refine Y7 (decide_eq_true (by omega)) (Q8 (by omega) (Q8 (by rw [H];exact v.op) (Q3 (by rw [H];exact w) ?_)));have k1:∀ s:TS,s=YY t.op_ (Qe y cs hs zs d c A e (gl t.kids_ i))->PD F (Vy F) ((i:Nat):Int) ((t.kids_.take i).map fun k=>(YY t.op_ (Qe y cs hs zs d c A e k)).sqs A) ag (s.sqs A).yes_ (s.sqs A).no_ (s.sqs A).open_=some ((Qe y cs hs zs d c A (e+1) t).sqs A):=fun s hs=>by
     subst hs;unfold PD
     exact Q8 (by unfold Y5;simp only [List.length_singleton];omega) (Q8 (V9 (by omega) (by omega)) G)
    refine Z6 (fun q=>?_) fun q=>?_
    .have q:¬ t.op_=9:=fun e=>by rw [e] at q;simp at q
     refine Q3 (xf F A _) (k1 _ ?_);unfold YY;rw [if_neg q]
    .have q:t.op_=9:=by simpa using q
     refine k1 _ ?_;unfold YY;rw [if_pos q]
  have:=C t.kids_.length F 0 (by omega) (by omega)
  simpa using this
end
end Go.Ab
end
section
namespace Go.Ab
set_option maxRecDepth 20000
noncomputable section
variable {F:Nat} {cs:List Crop} {hs:List Rg_} {zs:List A2_} {y c d:Int} {A:List Rect}
end
end Go.Ab
end
section
namespace Go.Ab
set_option maxRecDepth 20000
noncomputable section
variable {cs:List Crop} {hs:List Rg_} {zs:List A2_} {y c d:Int} {A:List Rect}
end
end Go.Ab
end
section
namespace Go.Ab
set_option maxRecDepth 20000
noncomputable section
def Va(cs:List Crop)(c:Int):Bool:=decide (c<0)||decide (((cs.length:Nat):Int)<=c)
def WD(e:Nat)(t:Term)(cs:List Crop)(c:Int)(hs:List Rg_)(y:Int)(zs:List A2_)(d:Int)(A:List Rect):Int:=
 if YI e t≠0 then YI e t else if crC cs≠0 then crC cs else if (Va cs c||hs.any fun r=>Va cs r.c_)=true then 13
 else if Zq hs≠0 then Zq hs else if y<0\/100<y then 18 else if Zs zs≠0 then Zs zs else if d<0\/36864<d then 9 else if Qn A=true then 0 else 7
theorem Q1G(F:Nat)(k:Int)(p:Vv):PH F k p=some (Va p.world_.crops_ k):=by
 unfold PH HM Va;refine Z6 (fun h=>?_) (fun h=>?_)
 .rw [h];rfl
 .rw [h];rfl
theorem Z2J{F:Nat}(hF:Q7<=F){l:List Rg_}(hl:l.length<=1000000)(p:Vv):Mu F l p=some (l.any fun r=>Va p.world_.crops_ r.c_):=by
 have b:=hF;unfold Q7 at b
 have:∃ i:Int,Mi F l p=some i/\(decide (0<=i))=l.any fun r=>Va p.world_.crops_ r.c_:=by
  unfold Mi;have h:∀ (m f i:Nat),i+m=l.length->m<f->∃ v:Int,Z9 (fun again (z:Int)=>Kj F l p again z) f ((i:Nat):Int)=some v/\(decide (0<=v))=(l.drop i).any fun r=>Va p.world_.crops_ r.c_:=by
   intro m
   induction m with
   | zero=>
    intro f i t o;obtain ⟨f,rfl⟩:∃ g,f=g+1:=⟨f-1,by omega⟩
    show ∃ v:Int,Kj F l p (Z9 _ f) ((i:Nat):Int)=some v/\_;unfold Kj
    refine ⟨-1,Z5 (decide_eq_false (by omega)) rfl,?_⟩;rw [List.drop_eq_nil_of_le (by omega)];rfl
   | succ m ih=>
    intro f i t o;obtain ⟨f,rfl⟩:∃ g,f=g+1:=⟨f-1,by omega⟩
    have a:i<l.length:=by omega
    obtain ⟨v,k,q⟩:=ih f (i+1) (by omega) (by omega);show ∃ v:Int,Kj F l p (Z9 _ f) ((i:Nat):Int)=some v/\_
    generalize Z9 (fun again (z:Int)=>Kj F l p again z) f=ag at k ⊢;unfold Kj
    have j:HK F (gl l ((i:Nat):Int).toNat) p=some (Va p.world_.crops_ (gl l i).c_):=by
     unfold HK;rw [Int.toNat_natCast]
     exact Q3 (Q1G F _ p) rfl
    have e:l.drop i=gl l i::l.drop (i+1):=by rw [List.drop_eq_getElem_cons a,G8 a]
    rw [e,List.any_cons]
    cases hw:Va p.world_.crops_ (gl l i).c_ with
    | true=>
     refine ⟨(i:Int),Y7 (decide_eq_true (by omega)) (Q8 (by omega) (Q3 (j.trans (by rw [hw])) (Y7 rfl rfl))),?_⟩;simp
    | false=>
     refine ⟨v,Y7 (decide_eq_true (by omega)) (Q8 (by omega) (Q3 (j.trans (by rw [hw])) (Z5 rfl (Q8 (V9 (by omega) (by omega)) k)))),?_⟩;rw [q];rfl
  have:=h l.length F 0 (by omega) (by omega)
  simpa using this
 obtain ⟨i,n,s⟩:=this;unfold Mu
 refine Q3 n ?_;rw [<-s]
theorem Q3P{e F:Nat}(hF:Q7+e<=F){p:Vv}{t:Term}(ht:TD e t)(hl:p.world_.history_.length<=1000000)(hc:Pj p.world_.crops_):HN F p t=some (WD e t p.world_.crops_ p.line_.c_ p.world_.history_ p.world_.year_ p.world_.zones_ p.world_.day_ p.line_.g_.t_):=by
 have hB:Q7<=F:=by omega
 unfold HN WD;refine Q3 (xy hF ht) (Z6 (fun q=>?_) fun q=>?_)
 .rw [if_pos (by simpa using q)]
 rw [if_neg (by simpa using q)];refine Q3 (Q1m hB hc) (Z6 (fun q=>?_) fun q=>?_)
 .rw [if_pos (by simpa using q)]
 rw [if_neg (by simpa using q)];have k1:∀ b:Bool,PF F p b=some (if b=true then 18 else if Zs p.world_.zones_≠0 then Zs p.world_.zones_ else if p.world_.day_<0\/36864<p.world_.day_ then 9 else if Qn p.line_.g_.t_=true then 0 else 7):=fun b=>by
  unfold PF;cases b
  .simp only [Bool.false_eq_true,if_false]
   refine Z5 rfl (Q3 (Q0G hB _ _) ?_)
   by_cases h1:Zs p.world_.zones_≠0
   .rw [if_pos h1,if_pos h1]
    exact Y7 (by simpa using h1) rfl
   rw [if_neg h1,if_neg h1]
   by_cases h2:p.world_.day_<0\/36864<p.world_.day_
   .rw [if_pos h2,if_pos h2]
    exact Y7 rfl rfl
   rw [if_neg h2,if_neg h2];refine Z5 rfl (Q3 (Wn hB _) ?_)
   cases Qn p.line_.g_.t_ <;> rfl
  .exact Y7 rfl rfl
 have a:∀ b:Bool,PG F p b=some (if b=true then 13 else if Zq p.world_.history_≠0 then Zq p.world_.history_ else if p.world_.year_<0\/100<p.world_.year_ then 18 else if Zs p.world_.zones_≠0 then Zs p.world_.zones_ else if p.world_.day_<0\/36864<p.world_.day_ then 9 else if Qn p.line_.g_.t_=true then 0 else 7):=fun b=>by
  unfold PG;cases b
  .simp only [Bool.false_eq_true,if_false]
   refine Z5 rfl (Q3 (Z1c hB _) ?_);refine Z6 (fun q=>?_) fun q=>?_
   .rw [if_pos (by simpa using q)]
   rw [if_neg (by simpa using q)];refine Z6 (fun q=>?_) fun q=>?_
   .rw [k1,if_pos rfl,if_pos (.inl (of_decide_eq_true q))]
   .rw [k1]
    by_cases h1:100<p.world_.year_
    .rw [if_pos (decide_eq_true h1),if_pos (.inr h1)]
    .have g:¬ decide (100<p.world_.year_)=true:=by simpa using h1
     have f:¬ (p.world_.year_<0\/100<p.world_.year_):=by have:=of_decide_eq_false q;omega
     rw [if_neg g,if_neg f]
  .exact Y7 rfl rfl
 refine Q3 (Q1G F _ p) (Z6 (fun q=>?_) fun q=>?_)
 .rw [a,q];rfl
 .refine Q3 (Z2J hB hl p) ?_
  rw [a,q];rfl
end
end Go.Ab
end
section
namespace Go.Ab
set_option maxRecDepth 20000
noncomputable section
def Xu:Truth:=⟨⟨[]⟩,⟨[]⟩,⟨[]⟩⟩
def TS.t3(A:List Rect)(s:TS):Truth:=⟨⟨cn s.Y⟩,⟨cn s.N⟩,⟨cn (s.O A)⟩⟩
def Uh(e:Nat)(t:Term)(l:Line)(y:Int)(cs:List Crop)(hs:List Rg_)(zs:List A2_)(d:Int):Truth×Int:=
 if WD e t cs l.c_ hs y zs d l.g_.t_≠0 then (Xu,WD e t cs l.c_ hs y zs d l.g_.t_) else ((Qe y cs hs zs d l.c_ l.g_.t_ e t).t3 l.g_.t_,0)
theorem Z2X{e:Nat}{t:Term}{cs:List Crop}{c:Int}{hs:List Rg_}{y:Int}{zs:List A2_}{d:Int}{A:List Rect}(ht:TD e t)(h:WD e t cs c hs y zs d A=0):ZY e t=true:=by
 have a:YI e t=0:=Classical.byContradiction fun b=>by
  unfold WD at h;rw [if_pos b] at h
  exact b h
 unfold YI at a
 by_cases hz:40<QG e t
 .rw [if_pos hz] at a;cases a
 .rw [if_neg hz] at a
  by_cases hr:YZ e 8 t=true
  .rw [Ra e 8 t ht,Bool.and_eq_true] at hr
   exact hr.2
  .rw [if_neg hr] at a;cases a
variable {F:Nat} {cs:List Crop} {hs:List Rg_} {zs:List A2_} {y d:Int}
theorem Q3T{e:Nat}(hF:Q7+e<=F){t:Term}(ht:TD e t){l:Line}(hl:hs.length<=1000000)(hc:Pj cs)(hev:WD e t cs l.c_ hs y zs d l.g_.t_=0->EV y cs hs zs l.c_ l.g_.t_):HZ F t l y cs hs zs d=some (Uh e t l y cs hs zs d):=by
 have hB:Q7<=F:=by omega
 unfold HZ Uh;refine Q3 (Q3P (p:=⟨⟨y,cs,hs,zs,d⟩,l,l.g_.t_⟩) hF ht hl hc) (Z6 (fun q=>?_) fun q=>?_)
 .rw [if_pos (by simpa using q)];rfl
 have q:WD e t cs l.c_ hs y zs d l.g_.t_=0:=by simpa using q
 rw [if_neg (by rw [q];simp)];have h:=hev q
 have b:=Gg (y:=y) (cs:=cs) (hs:=hs) (zs:=zs) (d:=d) (c:=l.c_) (A:=l.g_.t_) e t;refine Q3 (xq (p:=⟨⟨y,cs,hs,zs,d⟩,l,l.g_.t_⟩) h ⟨rfl,rfl,rfl,rfl,rfl,rfl,rfl⟩ e hF ht (Z2X ht q)) ?_
 have i:=(b.vY h.tr).1;have g:=(b.vN h.tr).1
 have f:=(b.vO h.tr).1;generalize Qe y cs hs zs d l.c_ l.g_.t_ e t=s at i g f ⊢
 have a:∀ m:List Rect,m.length<=120->GR F m=some ⟨m⟩:=fun m j=>by
  unfold GR;refine Q3 (kX (by unfold Y5;omega)) rfl
 refine Z5 (decide_eq_false ?_) (Q3 (a _ i) (Q3 (a _ g) (Q3 (a _ f) rfl)));show ¬ (120:Int)<G7 (G7 ((cn s.Y).length:Int) ((cn s.N).length:Int)) ((cn (s.O l.g_.t_)).length:Int)
 unfold G7;split <;> split <;> omega
end
end Go.Ab
end
section
namespace Go.Ab
set_option maxRecDepth 20000
noncomputable section
theorem Q0W(F:Nat)(u v:Bool):DO F u v=some (u&&v):=by
 unfold DO Ch;cases u <;> rfl
theorem Z2m(F:Nat)(u v:Bool):Ce F u v=some (u && !v):=by
 unfold Ce Cd;cases u <;> rfl
theorem zI{F:Nat}(hF:Q7<=F){l:List Rect}(h:J2 l):UB F l=some (⟨l⟩,0):=by
 have a:=h.1;refine (LX hF (by omega) h.pos).trans ?_
 rw [XZ h,if_neg (by omega)]
theorem cv{F:Nat}(hF:Q7<=F){a b c:List Rect}(ha:J2 a)(hb:J2 b)(hc:J2 c):DM F ⟨a,b,c⟩=some (⟨⟨a⟩,⟨b⟩,⟨c⟩⟩,0):=by
 unfold DM;exact Q3 (zI hF ha) (Z5 rfl (Q8 (V9 (by omega) (by omega)) (Q3 (zI hF hb) (Z5 rfl (Q8 (V9 (by omega) (by omega)) (Q3 (zI hF hc) (Z5 rfl (Q8 (V9 (by omega) (by omega)) rfl))))))))
end
end Go.Ab
end
section
namespace Go.Ab
set_option maxRecDepth 20000
noncomputable section
def Ww(A:List Rect)(s:TS)(G:Sq):TS:=⟨fun u v=>s.Y u v&&G u v,fun u v=>Q4 A u v && !((s.Y u v&&G u v)||(s.O A u v&&G u v))⟩
theorem Z0a{A:List Rect}{s:TS}(h:TIn A s)(G:Sq):(Ww A s G).O A=fun u v=>s.O A u v&&G u v:=by
 funext u v
 simp only [Ww,TS.O];have:=h.sY u v
 have:=h.sN u v
 cases hA:Q4 A u v <;> cases hY:s.Y u v <;> cases hN:s.N u v <;> cases G u v <;> simp_all
theorem bg{A:List Rect}{s:TS}(h:TIn A s){G:Sq}(hG:Fin G):TIn A (Ww A s G):=by
 refine ⟨UK h.fY hG,XO (QZ A) (yk (UK h.fY hG) (UK h.fO hG)),fun u v a=>?_,fun u v a=>?_⟩
 .simp only [Ww,Bool.and_eq_true] at a
  exact h.sY u v a.1
 .simp only [Ww,Bool.and_eq_true] at a
  exact a.1
end
end Go.Ab
end
section
namespace Go.Ab
set_option maxRecDepth 20000
noncomputable section
theorem kp{F:Nat}(hF:Q7<=F){l:List Scheme}{q:Scheme->Option Bool}(p:Scheme->Bool)(hl:l.length<=1000000000)(hq:∀ r ∈ l,q r=some (p r)):PR F l q=some (QB p l):=by
 unfold Q7 at hF;unfold PR
 refine K9 (fun z:Int=>∃ i:Nat,z=i/\i<=l.length/\∀ j,j<i->p (gl l j)=false) (fun z=>l.length-z.toNat) (fun e z m n=>?_) ⟨0,rfl,by omega,fun j o=>by omega⟩ (by simp;omega);obtain ⟨i,rfl,s,f⟩:=m
 unfold kr;refine Z6 (fun h=>?_) (fun h=>?_)
 .have h:i<l.length:=by simpa using h
  refine Q9 (k:=?_);refine Q3 (hq _ (J7 h)) ?_
  simp only [Int.toNat_natCast];refine Z6 (fun a=>?_) (fun a=>?_)
  .have b:l.any p=true:=List.any_eq_true.2 ⟨_,J7 h,a⟩
   rw [QB,if_pos b,Gf h f a]
  .refine Q9 (k:=?_)
   refine n _ ⟨i+1,by omega,h,fun j o=>?_⟩ (by omega);rcases Nat.lt_or_ge j i with g|g
   .exact f j g
   .have:j=i:=by omega
    subst this;exact a
 .have h:¬ i<l.length:=by simpa using h
  have:i=l.length:=by omega
  subst this;have b:=JU f
  rw [QB,b];rfl
theorem kK{F:Nat}(hF:Q7<=F){l:List Scheme}{q:Scheme->Option Bool}(p:Scheme->Bool)(hl:l.length<=1000000000)(hq:∀ r ∈ l,q r=some (p r)):Kk F l q=some (l.any p):=by
 unfold Kk;refine Q3 (kp hF p hl hq) ?_
 unfold QB
 cases l.any p with
 | true=>rw [if_pos rfl,decide_eq_true (by omega)]
 | false=>rw [if_neg (by simp)];rfl
theorem Q5N{F:Nat}(hF:Q7<=F){l:List Line}{q:Line->Option Bool}(p:Line->Bool)(hl:l.length<=1000000000)(hq:∀ r ∈ l,q r=some (p r)):Mk F l q=some (QB p l):=by
 unfold Q7 at hF;unfold Mk
 refine K9 (fun z:Int=>∃ i:Nat,z=i/\i<=l.length/\∀ j,j<i->p (gl l j)=false) (fun z=>l.length-z.toNat) (fun e z m n=>?_) ⟨0,rfl,by omega,fun j o=>by omega⟩ (by simp;omega);obtain ⟨i,rfl,s,f⟩:=m
 unfold kA;refine Z6 (fun h=>?_) (fun h=>?_)
 .have h:i<l.length:=by simpa using h
  refine Q9 (k:=?_);refine Q3 (hq _ (J7 h)) ?_
  simp only [Int.toNat_natCast];refine Z6 (fun a=>?_) (fun a=>?_)
  .have b:l.any p=true:=List.any_eq_true.2 ⟨_,J7 h,a⟩
   rw [QB,if_pos b,Gf h f a]
  .refine Q9 (k:=?_)
   refine n _ ⟨i+1,by omega,h,fun j o=>?_⟩ (by omega);rcases Nat.lt_or_ge j i with g|g
   .exact f j g
   .have:j=i:=by omega
    subst this;exact a
 .have h:¬ i<l.length:=by simpa using h
  have:i=l.length:=by omega
  subst this;have b:=JU f
  rw [QB,b];rfl
theorem Q6g{F:Nat}(hF:Q7<=F){l:List Line}{q:Line->Option Bool}(p:Line->Bool)(hl:l.length<=1000000000)(hq:∀ r ∈ l,q r=some (p r)):PU F l q=some (l.any p):=by
 unfold PU;refine Q3 (Q5N hF p hl hq) ?_
 unfold QB
 cases l.any p with
 | true=>rw [if_pos rfl,decide_eq_true (by omega)]
 | false=>rw [if_neg (by simp)];rfl
def ZG(e n:Int):Bool:=QE .i64 (e.fdiv (2 ^ (min n.toNat (IntKind.bits .i64)))) 1==1
theorem Z3h(x:Int):QE .i64 x 1=0\/QE .i64 x 1=1:=by
 unfold QE;have h:(BitVec.ofInt 64 x &&& BitVec.ofInt 64 1).toNat<=1:=by
  rw [BitVec.toNat_and];exact Nat.le_trans Nat.and_le_right (by decide)
 show IntKind.wrap .i64 ((BitVec.ofInt 64 x &&& BitVec.ofInt 64 1).toNat:Nat)=0\/IntKind.wrap .i64 ((BitVec.ofInt 64 x &&& BitVec.ofInt 64 1).toNat:Nat)=1;have a:(BitVec.ofInt 64 x &&& BitVec.ofInt 64 1).toNat=0\/(BitVec.ofInt 64 x &&& BitVec.ofInt 64 1).toNat=1:=by omega
 rcases a with a|a <;> rw [a]
 .left;rfl
 .right;rfl
theorem Vs(e n:Int):(QE .i64 (e.fdiv (2 ^ (min n.toNat (IntKind.bits .i64)))) 1==0)=!ZG e n:=by
 unfold ZG;rcases Z3h (e.fdiv (2 ^ (min n.toNat (IntKind.bits .i64)))) with h|h <;> rw [h] <;> rfl
def WW(p:Int)(b:Bracket):Bool:=decide (p<b.up_)&&(decide (b.up_<=268435456)&&(decide (0<=b.rate_)&&decide (b.rate_<=1048576)))
def Yc(l:List Bracket)(i:Nat):Int:=if i=0 then 0 else (gl l (i-1)).up_
def Vr(l:List Bracket):Bool:=decide (1<=l.length)&&(decide (l.length<=6) && !(List.range l.length).any fun i=> !WW (Yc l i) (gl l i))
theorem Q6E{R:Type}{body:(Int->Option R)->Int->Option R}{c y:Option R}(N:Nat)(p:Nat->Bool)(bad:∀ again (i:Nat),i<N->(∀ j,j<i->p j=false)->p i=true->body again (i:Int)=c)(good:∀ again (i:Nat) z,i<N->(∀ j,j<i->p j=false)->p i=false->again ((i:Int)+1)=z->body again (i:Int)=z)(stop:∀ again,body again (N:Int)=y){F:Nat}(hF:N<F):Z9 body F 0=if (List.range N).any p=true then c else y:=by
 refine K9 (fun z:Int=>∃ i:Nat,z=i/\i<=N/\∀ j,j<i->p j=false) (fun z=>N-z.toNat) (fun again z e f=>?_) ⟨0,rfl,Nat.zero_le _,fun j h=>absurd h (Nat.not_lt_zero j)⟩ (by simp;omega);obtain ⟨i,rfl,g,a⟩:=e
 rcases Nat.lt_or_ge i N with h|h
 .cases hpi:p i with
  | true=>
   rw [if_pos (List.any_eq_true.2 ⟨i,List.mem_range.2 h,hpi⟩)];exact bad again i h a hpi
  | false=>
   refine good again i _ h a hpi (f _ ⟨i+1,by omega,h,fun j b=>?_⟩ (by omega))
   by_cases hji:j=i
   .rw [hji];exact hpi
   .exact a j (by omega)
 .have:i=N:=by omega
  subst this;rw [if_neg (by rw [Bool.not_eq_true,List.any_eq_false];intro j b;rw [a j (List.mem_range.1 b)];simp)]
  exact stop again
theorem Q6y{F:Nat}{l:List Bracket}(hF:l.length<F)(hl:l.length<=1000000):MN F l=some (Vr l):=by
 unfold MN;refine (Q6E (c:=some false) (y:=some (decide (1<=l.length)&&decide (l.length<=6))) l.length (fun i=> !WW (Yc l i) (gl l i)) (fun a i w o n=>?_) (fun a i z w o n r=>?_) (fun a=>?_) hF).trans ?_
 all_goals try (
  have f:i=0\/(1<=i/\1<=(gl l (i-1)).up_):=by
   rcases Nat.eq_zero_or_pos i with h|h
   .exact .inl h
   .refine .inr ⟨h,?_⟩
    have u:∀ j,j<i->1<=(gl l j).up_:=by
     intro j
     induction j with
     | zero=>
      intro s;have:=o 0 s
      rw [Bool.not_eq_false'] at this;unfold WW Yc at this
      rw [if_pos rfl] at this;simp only [Bool.and_eq_true,decide_eq_true_eq] at this;omega
     | succ j ih=>
      intro t;have e:=ih (by omega)
      have:=o (j+1) t
      rw [Bool.not_eq_false'] at this;unfold WW Yc at this
      rw [if_neg (by omega),Nat.add_sub_cancel] at this;simp only [Bool.and_eq_true,decide_eq_true_eq] at this;omega
    exact u (i-1) (by omega)
  have q:(((i:Nat):Int)-1).toNat=i-1:=by omega)
 .show Kt F l a (i:Int)=_
  unfold Kt;have k1:Uy F (i:Int) a true=some false:=rfl
  refine Y7 (decide_eq_true (by omega)) (Q8 (by omega) (Z6 (fun _=>k1) (fun e=>Z6 (fun _=>k1) (fun m=>Z6 (fun _=>k1) (fun k=>Z6 (fun _=>k1) (fun g=>?_))))));have e:=of_decide_eq_false e
  have m:=of_decide_eq_false m;have k:=of_decide_eq_false k
  have g:=of_decide_eq_false g;simp only [Int.toNat_natCast] at e m k g
  have b : WW (Yc l i) (gl l i)=false:=by simpa using n
  unfold WW Yc at b;rcases f with h|⟨h,v⟩
  .subst h
   rw [if_pos rfl,decide_eq_true (by omega),decide_eq_true (by omega),decide_eq_true (by omega),decide_eq_true (by omega)] at b;simp at b
  .rw [if_neg (by omega)] at b
   refine Y7 (decide_eq_true (by omega)) (Q8 (V9 (by omega) (by omega)) (Q8 (by omega) ?_));rw [q,decide_eq_true (p:=(gl l ((i:Nat):Int).toNat).up_<=_)]
   .exact k1
   .simp only [Int.toNat_natCast]
    by_cases h6:(gl l (i-1)).up_<(gl l i).up_
    .rw [decide_eq_true h6,decide_eq_true (by omega),decide_eq_true (by omega),decide_eq_true (by omega)] at b
     simp at b
    .omega
 .show Kt F l a (i:Int)=_
  unfold Kt;have b : WW (Yc l i) (gl l i)=true:=by simpa using n
  unfold WW Yc at b;simp only [Bool.and_eq_true,decide_eq_true_eq] at b
  obtain ⟨e,m,k,g⟩:=b;have k1:Uy F (i:Int) a false=z:=Z5 rfl (Q8 (V9 (by omega) (by omega)) r)
  have x:1<=(gl l i).up_:=by
   rcases f with h|⟨h,v⟩
   .rw [if_pos h] at e;omega
   .rw [if_neg (by omega)] at e;omega
  refine Y7 (decide_eq_true (by omega)) (Q8 (by omega) (Z5 (decide_eq_false (by simp only [Int.toNat_natCast];omega)) (Z5 (decide_eq_false (by simp only [Int.toNat_natCast];omega)) (Z5 (decide_eq_false (by simp only [Int.toNat_natCast];omega)) (Z5 (decide_eq_false (by simp only [Int.toNat_natCast];omega)) ?_)))));refine Z6 (fun h=>?_) (fun _=>k1)
  have h:=of_decide_eq_true h;refine Q8 (V9 (by omega) (by omega)) (Q8 (by omega) ?_)
  rw [q,decide_eq_false]
  .exact k1
  .rw [if_neg (by omega)] at e
   simp only [Int.toNat_natCast];omega
 .show Kt F l a (l.length:Int)=_
  unfold Kt Lk MM;refine Z5 (decide_eq_false (by omega)) ?_
  rw [show decide ((1:Int)<=((l.length:Nat):Int))=decide (1<=l.length) from decide_eq_decide.2 (by omega),show decide (((l.length:Nat):Int)<=(6:Int))=decide (l.length<=6) from decide_eq_decide.2 (by omega)]
  cases decide (1<=l.length) <;> rfl
 .unfold Vr
  cases (List.range l.length).any fun i=> !WW (Yc l i) (gl l i) <;> simp
theorem Q7Z{F:Nat}{l:List Bracket}(hF:l.length<F)(hl:l.length<=1000000):RB F l=some (Vr l):=by
 unfold RB Vr;have e:Bx F l true=some false:=rfl
 by_cases h1:1<=l.length
 .refine Z5 (decide_eq_false (by omega)) ?_
  by_cases h2:l.length<=6
  .rw [decide_eq_true h1,decide_eq_true h2,decide_eq_false (by omega)]
   unfold Bx;refine Z5 rfl ?_
   suffices hs:∀ (n i:Nat),l.length-i<n->i<=l.length->Z9 (fun again (z:Int×Int)=>Xg F l again z.1 z.2) n (Yc l i,(i:Int))=some (!((List.range l.length).drop i).any fun i=> !WW (Yc l i) (gl l i)) by
    have:=hs F 0 (by omega) (by omega)
    simpa [Yc] using this
   intro n
   induction n with
   | zero=>intro i h;omega
   | succ n ih=>
    intro i j g;have b:=ih (i+1)
    revert b
    show _->Xg F l (Z9 (fun again (z:Int×Int)=>Xg F l again z.1 z.2) n) (Yc l i) (i:Int)=_;generalize Z9 (fun again (z:Int×Int)=>Xg F l again z.1 z.2) n=ag
    intro b;unfold Xg
    by_cases hil:i<l.length
    .rw [show (List.range l.length).drop i=i::(List.range l.length).drop (i+1) by rw [List.drop_eq_getElem_cons (by simpa using hil),List.getElem_range]]
     rw [List.any_cons];refine Y7 (decide_eq_true (by omega)) (Q8 (by omega) ?_)
     simp only [Int.toNat_natCast];have a:Jr F l (i:Int) ag true=some false:=rfl
     have f:Jr F l (i:Int) ag false=some (!((List.range l.length).drop (i+1)).any fun i=> !WW (Yc l i) (gl l i)):=by
      unfold Jr;refine Z5 rfl (Q8 (V9 (by omega) (by omega)) ?_)
      rw [<-b (by omega) (by omega)];congr 1
     rw [show WW (Yc l i) (gl l i)=(decide (Yc l i<(gl l i).up_)&&(decide ((gl l i).up_<=268435456)&&(decide (0<=(gl l i).rate_)&&decide ((gl l i).rate_<=1048576)))) from rfl]
     by_cases g1:Yc l i<(gl l i).up_
     .rw [decide_eq_true g1]
      refine Z5 (decide_eq_false (by omega)) ?_
      by_cases g2:(gl l i).up_<=268435456
      .rw [decide_eq_true g2]
       refine Z5 (decide_eq_false (by omega)) ?_
       by_cases g3:0<=(gl l i).rate_
       .rw [decide_eq_true g3]
        refine Z5 (decide_eq_false (by omega)) ?_
        by_cases g4:(gl l i).rate_<=1048576
        .rw [decide_eq_true g4,decide_eq_false (by omega),f];simp
        .rw [decide_eq_false g4,decide_eq_true (by omega),a];simp
       .rw [decide_eq_false g3]
        exact Y7 (decide_eq_true (by omega)) a
      .rw [decide_eq_false g2]
       exact Y7 (decide_eq_true (by omega)) a
     .rw [decide_eq_false g1]
      exact Y7 (decide_eq_true (by omega)) a
    .have:i=l.length:=by omega
     subst this;refine Z5 (decide_eq_false (by omega)) ?_
     rw [List.drop_eq_nil_of_le (by simp)];rfl
  .rw [decide_eq_false h2,decide_eq_true (by omega),Bool.false_and,Bool.and_false];exact e
 .rw [decide_eq_false h1]
  exact Y7 (decide_eq_true (by omega)) e
structure SD (d:Nat) (s:Scheme):Prop where
 cond:TD d s.cond_
 name:s.n_.size<=4294967296
 brl:s.brackets_.length<=1000000
def QV(d:Nat)(s:Scheme):Int:=
 if s.N_<0\/15<s.N_\/s.least_<0\/268435456<s.least_ then 2 else if QX s.n_=false then 5 else if YI d s.cond_≠0 then YI d s.cond_
 else if Vr s.brackets_=false\/s.excludes_<0\/65536<=s.excludes_\/ZG s.excludes_ s.N_=true then 3 else 0
theorem Bb{d F:Nat}(hd:d<=2000000)(hF:Q7+d<=F){s:Scheme}(h:SD d s):GV F s=some (QV d s):=by
 have hB:Q7<=F:=by omega
 have e:=hB;unfold Q7 at e
 unfold GV QV;have b:Kv F s true=some 2:=rfl
 by_cases h1:s.N_<0
 .rw [if_pos (.inl h1)];exact Y7 (decide_eq_true h1) b
 refine Z5 (decide_eq_false h1) ?_
 by_cases h2:15<s.N_
 .rw [if_pos (.inr (.inl h2))];exact Y7 (decide_eq_true h2) b
 refine Z5 (decide_eq_false h2) ?_
 by_cases h3:s.least_<0
 .rw [if_pos (.inr (.inr (.inl h3)))];exact Y7 (decide_eq_true h3) b
 refine Z5 (decide_eq_false h3) ?_
 by_cases h4:268435456<s.least_
 .rw [if_pos (.inr (.inr (.inr h4))),decide_eq_true h4];exact b
 rw [if_neg (by omega),decide_eq_false h4];unfold Kv
 refine Z5 rfl (Q3 (CT (by have:=h.name;omega) h.name) ?_)
 cases hn:QX s.n_ with
 | false=>rfl
 | true=>
  rw [if_neg (by simp)];refine Z5 rfl (Q3 (xy hF h.cond) ?_)
  by_cases h5:YI d s.cond_=0
  .rw [if_neg (by simpa using h5)]
   refine Z5 (by simp [h5]) (Q3 (Q6y (by have:=h.brl;omega) h.brl) ?_);have a:Ku F true=some 3:=rfl
   cases hbr:Vr s.brackets_ with
   | false=>rw [if_pos (.inl rfl)];exact Y7 rfl a
   | true=>
    refine Z5 rfl ?_
    by_cases h6:s.excludes_<0
    .rw [if_pos (.inr (.inl h6))];exact Y7 (decide_eq_true h6) a
    refine Z5 (decide_eq_false h6) ?_
    by_cases h7:65536<=s.excludes_
    .rw [if_pos (.inr (.inr (.inl h7)))];exact Y7 (decide_eq_true h7) a
    refine Z5 (decide_eq_false h7) (Q8 (by omega) ?_);show Ku F (ZG s.excludes_ s.N_)=_
    cases ZG s.excludes_ s.N_ with
    | true=>rw [if_pos (.inr (.inr (.inr rfl)))];exact a
    | false=>rw [if_neg (by simp;omega)];rfl
  .rw [if_pos h5]
   exact Y7 (by simpa using h5) rfl
theorem je{d F:Nat}(hd:d<=2000000)(hF:Q7+d<=F){s:Scheme}(h:SD d s):RC F s=some (QV d s):=by
 have hB:Q7<=F:=by omega
 have e:=hB;unfold Q7 at e
 unfold RC QV;have b:KE F s true=some 2:=rfl
 by_cases h1:s.N_<0
 .rw [if_pos (.inl h1)];exact Y7 (decide_eq_true h1) b
 refine Z5 (decide_eq_false h1) ?_
 by_cases h2:15<s.N_
 .rw [if_pos (.inr (.inl h2))];exact Y7 (decide_eq_true h2) b
 refine Z5 (decide_eq_false h2) ?_
 by_cases h3:s.least_<0
 .rw [if_pos (.inr (.inr (.inl h3)))];exact Y7 (decide_eq_true h3) b
 refine Z5 (decide_eq_false h3) ?_
 by_cases h4:268435456<s.least_
 .rw [if_pos (.inr (.inr (.inr h4))),decide_eq_true h4];exact b
 rw [if_neg (by omega),decide_eq_false h4];unfold KE
 refine Z5 rfl (Q3 (Q8I hB _) ?_)
 cases hn:QX s.n_ with
 | false=>rfl
 | true=>
  rw [if_neg (by simp)];refine Z5 rfl (Q3 (Q8i hd hF h.cond) ?_)
  by_cases h5:YI d s.cond_=0
  .rw [if_neg (by simpa using h5)]
   refine Z5 (by simp [h5]) (Q3 (Q7Z (by have:=h.brl;omega) h.brl) ?_);have a:KD F true=some 3:=rfl
   cases hbr:Vr s.brackets_ with
   | false=>rw [if_pos (.inl rfl)];exact Y7 rfl a
   | true=>
    refine Z5 rfl ?_
    by_cases h6:s.excludes_<0
    .rw [if_pos (.inr (.inl h6))];exact Y7 (decide_eq_true h6) a
    refine Z5 (decide_eq_false h6) ?_
    by_cases h7:65536<=s.excludes_
    .rw [if_pos (.inr (.inr (.inl h7)))];exact Y7 (decide_eq_true h7) a
    refine Z5 (decide_eq_false h7) (Q8 (by omega) ?_);show KD F (ZG s.excludes_ s.N_)=_
    cases ZG s.excludes_ s.N_ with
    | true=>rw [if_pos (.inr (.inr (.inr rfl)))];exact a
    | false=>rw [if_neg (by simp;omega)];rfl
  .rw [if_pos h5]
   exact Y7 (by simpa using h5) rfl
end
end Go.Ab
end
section
namespace Go.Ab
set_option maxRecDepth 20000
noncomputable section
theorem Q7x(F:Nat)(u v:Bool):Rq F u v=some (u && !v):=by
 unfold Rq Rp;cases u <;> rfl
theorem Q7K{F:Nat}(hF:Q7<=F)(a b:Re_):Rs F a b=some (GF a b):=by
 unfold Rs GF Bl;refine Q3 (Wn hF a) (Z6 (fun h=>?_) fun h=>?_)
 .rw [h,Bool.true_and]
  refine Q3 (Wn hF b) (Z6 (fun e=>?_) fun e=>?_)
  .rw [e,Bool.true_and]
   have f:=(Wj _).1 h;have vb:=(Wj _).1 e
   refine Q3 (WU hF f.le8 vb.le8 f.pos vb.pos rfl rfl (k:=fun u v=>u && !v) rfl (Q7x F)) ?_;congr 1
   show _=decide (cn (fun x y=>Q4 a.t_ x y && !Q4 b.t_ x y)=[])
   cases cn fun x y=>Q4 a.t_ x y && !Q4 b.t_ x y with
   | nil=>rfl
   | cons r l=>simp;omega
  .rw [e];rfl
 .rw [h];rfl
theorem gq{e:Nat}{s:Scheme}(h:QV e s=0):0<=s.N_:=by
 unfold QV at h
 by_cases hn:s.N_<0\/15<s.N_\/s.least_<0\/268435456<s.least_
 .rw [if_pos hn] at h;cases h
 .omega
def zo(e:Nat)(l:Line)(parcel:Re_)(s:Scheme)(w:World)(v:Re_×Int):Truth×Int:=
 if Qn parcel.t_=false then (Xu,7)
 else if (Uh e s.cond_ l w.year_ w.crops_ w.history_ w.zones_ w.day_).2≠0 then (Xu,(Uh e s.cond_ l w.year_ w.crops_ w.history_ w.zones_ w.day_).2)
 else if QV e s≠0 then (Xu,17)
 else if v.2≠0 then (Xu,v.2)
 else if GF l.g_ parcel=false then (Xu,12)
 else if ZG l.s_ s.N_=false then (⟨⟨[]⟩,l.g_,⟨[]⟩⟩,0)
 else ((Ww l.g_.t_ (Qe w.year_ w.crops_ w.history_ w.zones_ w.day_ l.c_ l.g_.t_ e s.cond_) (Q4 v.1.t_)).t3 l.g_.t_,0)
theorem Z2e{e:Nat}{t:Term}{l:Line}{y:Int}{cs:List Crop}{hs:List Rg_}{zs:List A2_}{d:Int}(h:(Uh e t l y cs hs zs d).2=0):WD e t cs l.c_ hs y zs d l.g_.t_=0/\Uh e t l y cs hs zs d=((Qe y cs hs zs d l.c_ l.g_.t_ e t).t3 l.g_.t_,0):=by
 unfold Uh at h ⊢
 by_cases hz:WD e t cs l.c_ hs y zs d l.g_.t_=0
 .rw [if_neg (by rw [hz];simp)]
  exact ⟨hz,rfl⟩
 .rw [if_pos hz] at h
  exact (hz h).elim
theorem Z2s{e F:Nat}(he:e<=2000000)(hF:Q7+e<=F){l:Line}{parcel:Re_}{s:Scheme}{w:World}(hs:SD e s)(hl:w.history_.length<=1000000)(hc:Pj w.crops_)(hev:WD e s.cond_ w.crops_ l.c_ w.history_ w.year_ w.zones_ w.day_ l.g_.t_=0->EV w.year_ w.crops_ w.history_ w.zones_ l.c_ l.g_.t_){v:Re_×Int}(hv:Pp F parcel w.zones_ w.day_ w.most_=some v)(hval:v.2=0->J2 v.1.t_):Gh F l parcel s w=some (zo e l parcel s w v):=by
 have hB:Q7<=F:=by omega
 unfold Gh zo;refine Q3 (Wn hB _) (Z6 (fun q=>?_) fun q=>?_)
 .rw [if_pos (by simpa using q)];rfl
 rw [if_neg (by simpa using q)];refine Q3 (Q3T hF hs.cond hl hc hev) (Z6 (fun q=>?_) fun q=>?_)
 .rw [if_pos (by simpa using q)];rfl
 have q:(Uh e s.cond_ l w.year_ w.crops_ w.history_ w.zones_ w.day_).2=0:=by simpa using q
 rw [if_neg (by rw [q];simp)];obtain ⟨x,hE⟩:=Z2e q
 have h:=hev x;rw [hE]
 refine Q3 (Bb he hF hs) (Z6 (fun q=>?_) fun i=>?_)
 .rw [if_pos (by simpa using q)];rfl
 have i:QV e s=0:=by simpa using i
 rw [if_neg (by rw [i];simp)];refine Q3 hv (Z6 (fun q=>?_) fun q=>?_)
 .rw [if_pos (by simpa using q)];rfl
 have q:v.2=0:=by simpa using q
 rw [if_neg (by rw [q];simp)];have j:=hval q
 refine Q3 (Q7K hB _ _) (Z6 (fun q=>?_) fun q=>?_)
 .rw [if_pos (by simpa using q)];rfl
 rw [if_neg (by simpa using q)];have f:=Gg (y:=w.year_) (cs:=w.crops_) (hs:=w.history_) (zs:=w.zones_) (d:=w.day_) (c:=l.c_) (A:=l.g_.t_) e s.cond_
 generalize Qe w.year_ w.crops_ w.history_ w.zones_ w.day_ l.c_ l.g_.t_ e s.cond_=T at f ⊢;have m:=bg f (QZ v.1.t_)
 have p:=Z0a f (Q4 v.1.t_);have o:=m.vY h.tr
 have E:=m.vN h.tr;have n:=m.vO h.tr
 refine Q8 (gq i) (Z6 (fun q=>?_) fun q=>?_)
 .rw [Vs] at q
  rw [if_pos (by simpa using q)];exact Q3 (cv hB J2.nil h.tr.val J2.nil) rfl
 .rw [Vs] at q
  rw [if_neg (by simpa using q)];have C:=o.1
  have t:=n.1;rw [p] at n t
  have z:=WU hB (a:=cn T.Y) (b:=v.1.t_) (f.vY h.tr).le8 j.le8 (f.vY h.tr).pos j.pos (ZE f.fY) rfl (k:=fun u v=>u&&v) rfl (Q0W F);have G:=WU hB (a:=cn (T.O l.g_.t_)) (b:=v.1.t_) (f.vO h.tr).le8 j.le8 (f.vO h.tr).pos j.pos (ZE f.fO) rfl (k:=fun u v=>u&&v) rfl (Q0W F)
  have D:Q4 (cn (Ww l.g_.t_ T (Q4 v.1.t_)).Y++cn fun u w=>T.O l.g_.t_ u w&&Q4 v.1.t_ u w)=fun u w=>(T.Y u w&&Q4 v.1.t_ u w)||(T.O l.g_.t_ u w&&Q4 v.1.t_ u w):=by
   funext u w
   rw [Tj,ZM m.fY,ZM (UK f.fO (QZ _))];rfl
  have H:=WU hB (a:=l.g_.t_) (b:=cn (Ww l.g_.t_ T (Q4 v.1.t_)).Y++cn fun u w=>T.O l.g_.t_ u w&&Q4 v.1.t_ u w) h.tr.val.le8 (by rw [List.length_append];omega) h.tr.val.pos (fun r g=>by
   rcases List.mem_append.1 g with g|g
   .exact o.pos r g
   .exact n.pos r g) rfl D (k:=fun u v=>u && !v) rfl (Z2m F)
  have B:=cv hB o E n;unfold TS.t3
  rw [p];exact Q3 z (Q3 G (Q3 (kL hB (by exact Nat.le_trans C (by omega)) (by exact Nat.le_trans t (by omega))) (Q3 H (Q3 B rfl))))
end
end Go.Ab
end
