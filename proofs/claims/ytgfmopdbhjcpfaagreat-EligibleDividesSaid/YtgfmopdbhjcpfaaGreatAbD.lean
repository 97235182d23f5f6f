/- Abstract states over the model. -/
import Derived.Test.YtgfmopdbhjcpfaaGreatLwB
import Derived.Test.YtgfmopdbhjcpfaaGreatLwA
set_option linter.unusedVariables false
set_option linter.unusedSimpArgs false
section
namespace Go.Ab
set_option maxRecDepth 20000
noncomputable section
theorem Q0f.half2{l:List Rect}(hc:Q0f l){x0:Int}{w h:Nat}(hb:∀ r ∈ l,x0<=r.L_/\r.R_<=x0+w/\0<=r.w_/\r.H_<=h):l.length<=h*((w+1) / 2):=by
 obtain ⟨b,f,rfl⟩:=hc;have g:∀ c ∈ b,∃ s,s ∈ c.v:=fun c hc=>List.exists_mem_of_ne_nil _ (f.ne c hc)
 have d:∀ c ∈ b,∀ s ∈ c.v,(⟨s.L_,c.lo,s.R_,c.hi⟩:Rect) ∈ flat b:=fun c hc s e=>List.mem_flatMap.2 ⟨c,hc,List.mem_map.2 ⟨s,e,rfl⟩⟩
 have m:(b.length:Int)<=h-0:=f.runs.len (by omega) fun c hc=>by
  obtain ⟨s,e⟩:=g c hc;have:=hb _ (d c hc s e)
  simp only at this;omega
 have i:∀ c ∈ b,c.v.length<=(w+1) / 2:=fun c hc=>by
  have:=(f.sp c hc).half (n:=x0+w) (a:=x0) (by omega) fun s e=>by
   have:=hb _ (d c hc s e)
   simp only at this ⊢;omega
  omega
 have k:=Y5j i;have j:b.length*((w+1) / 2)<=h*((w+1) / 2):=Nat.mul_le_mul_right _ (by omega)
 omega
def PlB(d:Int)(S:Int->Int->Bool):Prop:=∀ u v,S u v=true->d<=u/\u<d+9/\0<=v/\v<9
theorem W2F{S:Int->Int->Bool}(hf:Fin S){d:Int}(h0:0<=d/\d<=100)(hb:PlB d S):Val (cn S)/\∀ r ∈ cn S,d<=r.L_/\r.R_<=d+9/\0<=r.w_/\r.H_<=9:=by
 have e:=Q0f.cn hf;have c:∀ r ∈ cn S,d<=r.L_/\r.R_<=d+9/\0<=r.w_/\r.H_<=9:=by
  intro r c;obtain ⟨g,f⟩:=e.pos c
  have a:=hb r.L_ r.w_ (by rw [<-J5 hf];exact Q6Y c ((J0 _ _ _).2 (by omega)));have b:=hb (r.R_-1) (r.H_-1) (by rw [<-J5 hf];exact Q6Y c ((J0 _ _ _).2 (by omega)))
  omega
 have i:=e.half2 (x0:=d) (w:=9) (h:=9) fun r h=>by have:=c r h;omega
 refine ⟨⟨by omega,fun r h=>?_,e⟩,c⟩;obtain ⟨g,f⟩:=e.pos h
 have:=c r h
 rw [Q0b];omega
theorem Z7z(F:Nat)(t:Tape)(n m:Int):Q9k F t n m=Q2r F t n m:=rfl
def shR(d:Int)(r:Rect):Rect:=⟨r.L_+d,r.w_,r.R_+d,r.H_⟩
theorem Y9G(d:Int)(l:List Rect)(u v:Int):inR (l.map (shR d)) u v=inR l (u-d) v:=by
 unfold inR;rw [List.any_map]
 congr 1
 funext r
 show (shR d r).has u v=r.has (u-d) v;rw [Bool.eq_iff_iff,J0,J0]
 show r.L_+d<=u/\u<r.R_+d/\r.w_<=v/\v<r.H_↔r.L_<=u-d/\u-d<r.R_/\r.w_<=v/\v<r.H_;omega
theorem W0q{α:Type}[Emb α](l:List α)(i j:Nat)(x:α)(hj:j<l.length):gl (l.set i x) j=if i=j then x else gl l j:=by
 unfold gl;rw [List.getD_eq_getElem?_getD,List.getElem?_set]
 by_cases h:i=j
 .subst h;rw [if_pos rfl,if_pos rfl,if_pos hj];rfl
 .rw [if_neg h,if_neg h, <-List.getD_eq_getElem?_getD]
theorem Y6h{α:Type}[Emb α](l:List α)(i:Nat)(h:i<l.length):gl l i=l[i]:=by
 unfold gl;rw [List.getD_eq_getElem?_getD,List.getElem?_eq_getElem h];rfl
theorem W3d{α:Type}[Emb α]{l m:List α}(h:l.length=m.length)(hg:∀ i,i<l.length->gl l i=gl m i):l=m:=by
 apply List.ext_getElem h;intro i a b
 have:=hg i a
 rwa [Y6h l i a,Y6h m i b] at this
theorem W2b{α β:Type}[Emb α][Emb β](f:α->β)(l:List α)(i:Nat)(h:i<l.length):gl (l.map f) i=f (gl l i):=by
 rw [Y6h _ i (by simpa using h),Y6h l i h];simp
def W2p(q r:Rect):Rect:=⟨max q.L_ r.L_,max q.w_ r.w_,min q.R_ r.R_,min q.H_ r.H_⟩
theorem W2o(q:Rect)(l:List Rect)(u v:Int):inR (l.map (W2p q)) u v=(inR l u v&&inR [q] u v):=by
 rw [Bool.eq_iff_iff,Bool.and_eq_true,J8,J8,J8];constructor
 .rintro ⟨r,a,h⟩
  obtain ⟨s,b,rfl⟩:=List.mem_map.1 a;rw [J0] at h
  simp only [W2p] at h;exact ⟨⟨s,b,(J0 _ _ _).2 (by omega)⟩,q,by simp,(J0 _ _ _).2 (by omega)⟩
 .rintro ⟨⟨s,b,c⟩,r,a,d⟩
  rw [List.mem_singleton] at a;subst a
  rw [J0] at c d;refine ⟨_,List.mem_map.2 ⟨s,b,rfl⟩,(J0 _ _ _).2 ?_⟩
  simp only [W2p];omega
theorem W0s{α:Type}[Emb α](l m:List α){i:Nat}(h:i<l.length):gl (l++m) i=gl l i:=by
 unfold gl;rw [List.getD_eq_getElem?_getD,List.getElem?_append_left h, <-List.getD_eq_getElem?_getD]
theorem W0r{α:Type}[Emb α](l:List α)(x:α):gl (l++[x]) l.length=x:=by
 unfold gl;rw [List.getD_eq_getElem?_getD,List.getElem?_append_right (Nat.le_refl _)];simp
structure ParT (rs:List Re_):Prop where
 len:1<=rs.length/\rs.length<=3
 one:∀ i,i<rs.length->∃ w h:Int,2<=w/\w<=9/\2<=h/\h<=9/\gl rs i=⟨[⟨10*i,0,10*i+w,h⟩]⟩
theorem ParT.pl{rs:List Re_}(h:ParT rs){i:Nat}(hi:i<rs.length):PlB (10*i) (inR (gl rs i).t_):=by
 intro u v a;obtain ⟨w,k,j,f,e,g,d⟩:=h.one i hi
 rw [d,J8] at a;obtain ⟨r,c,b⟩:=a
 rw [List.mem_singleton] at c;subst c
 rw [J0] at b;simp only at b
 omega
theorem ParT.val{rs:List Re_}(h:ParT rs){i:Nat}(hi:i<rs.length):Val (gl rs i).t_:=by
 obtain ⟨w,k,e,c,b,d,a⟩:=h.one i hi;have:=h.len
 rw [a];exact val_one ((Q0b _).2 (by simp only;omega))
structure LinO (K:Int) (rs:List Re_) (x:Line):Prop where
 crop:0<=x.c_/\x.c_<K
 par:1<=x.p_/\x.p_<=rs.length
 sch:1<=x.s_/\x.s_<=15
 val:Val x.g_.t_
 ne:x.g_.t_.length≠0
 sub:∀ u v,inR x.g_.t_ u v=true->inR (gl rs (x.p_-1).toNat).t_ u v=true
def W3M(a b:Line):Prop:=∀ u v,inR a.g_.t_ u v=true->inR b.g_.t_ u v=true->False
structure LinT (K:Int) (rs:List Re_) (l:List Line):Prop where
 one:∀ x ∈ l,LinO K rs x
 apart:l.Pairwise W3M
 two:∀ i,i<l.length->∃ R:List Rect,R.length<=2/\∀ u v,inR (gl l i).g_.t_ u v=(inR R u v && !(l.take i).any fun x=>inR x.g_.t_ u v)
theorem LinO.pl{K:Int}{rs:List Re_}(hp:ParT rs){x:Line}(h:LinO K rs x):PlB (10*(x.p_-1)) (inR x.g_.t_):=by
 intro u v a;have:=h.par
 have b:=hp.pl (i:=(x.p_-1).toNat) (by omega) u v (h.sub u v a);omega
theorem LinT.nil(K:Int)(rs:List Re_):LinT K rs []:=⟨fun x b=>by simp at b,.nil,fun i a=>by simp at a⟩
theorem Z8B{F:Nat}(hF:BIG<=F){t:Tape}(ht:TOk t){cs:List Crop}(hcs:1<=cs.length/\cs.length<=100){most:Int}(m1:0<=most)(m2:most<=10):
  ∃ t' l ns rs,Q4r F t cs most=some (t',l,ns,rs)/\TOk t' /\ ParT rs/\LinT (cs.length:Nat) rs l/\(l.length:Int)<=most:=by
 have P:=hF;unfold BIG at hF
 obtain ⟨t1,c,e1,o1,c1,c2⟩:=U5 (F:=F) ht (lo:=1) (hi:=3) (by omega) (by omega) (by omega);have N:∀ (rs:List Re_) (ns:List Int) (tl:List Int) (L:Int),ParT rs->ns.length=rs.length->TOk ⟨tl,L⟩->∃ t' l,Q4f F cs most tl L ns rs=some (t',l,ns,rs)/\TOk t' /\ LinT (cs.length:Nat) rs l/\(l.length:Int)<=most:=by
  intro rs ns tl L J D hT;have e9:=J.len
  obtain ⟨H,k,e2,o2,k1,k2⟩:=Z6 (F:=F) hT (n:=most+1) (by omega) (by omega);have X:∀ (k f:Nat) (t:Tape) (l:List Line),k<f->(l.length:Int)+k<=most->TOk t->LinT (cs.length:Nat) rs l ->
    ∃ t' l',Z2 (fun d (z:Int×List Int×Int×List Line)=>Q1f F cs ns rs d z.1 z.2.1 z.2.2.1 z.2.2.2) f ((k:Int),t.l_,t.at_,l)=some (t',l',ns,rs)/\TOk t' /\ LinT (cs.length:Nat) rs l' /\ (l'.length:Int)<=most:=by
   intro k
   induction k with
   | zero=>
    intro f t l hf c8 ht W
    cases f with
    | zero=>omega
    | succ f=>exact ⟨⟨t.l_,t.at_⟩,l,rfl,ht,W,by omega⟩
   | succ k ih=>
    intro f t l hf c8 ht W
    cases f with
    | zero=>omega
    | succ f=>
     obtain ⟨L,p,ea,oa,p1,p2⟩:=Z6 (F:=F) ht (n:=(ns.length:Nat)) (by omega) (by omega);obtain ⟨tb,a,R0,eb,ob,ha,d9,e7,b7⟩:=Z8E P oa (n:=9) (most:=2) (by omega) (by omega) (by omega) (by omega)
     obtain ⟨tc,c,ec,oc,c1,c2⟩:=Z6 (F:=F) ob (n:=(cs.length:Nat)) (by omega) (by omega);obtain ⟨td,s,ed,od,s1,s2⟩:=Z6 (F:=F) oc (n:=15) (by omega) (by omega)
     have G:p.toNat<rs.length:=by omega
     have d8:=ha.val.1
     let S:Nat->Int->Int->Bool:=fun n u v=>(inR (a.t_.map (shR (10*p))) u v&&inR (gl rs p.toNat).t_ u v) && !((l.take n).any fun x=>inR x.g_.t_ u v)
     have b6:∀ n,PlB (10*p) (S n):=fun n u v h=>by
      have h1:inR (gl rs p.toNat).t_ u v=true:=by
       simp only [S,Bool.and_eq_true] at h;exact h.1.2
      have:=J.pl G u v h1
      omega
     have a3:S 0=fun u v=>Q0j (inR (a.t_.map (shR (10*p))) u v) (inR (gl rs p.toNat).t_ u v) 2:=by
      funext u v
      simp [S,Q0j]
     have a2:∀ r ∈ a.t_,0<=r.L_/\r.L_<r.R_/\r.R_<=9/\0<=r.w_/\r.w_<r.H_/\r.H_<=9:=ha.box;have c5:∀ r ∈ a.t_.map (shR (10*p)),Q1j r=true:=fun r hr=>by
      obtain ⟨q,hq,rfl⟩:=List.mem_map.1 hr;have:=a2 q hq
      rw [Q0b];simp only [shR]
      omega
     have m:∀ n,n<=l.length->Fin (S n):=by
      intro n
      induction n with
      | zero=>intro _;rw [a3];exact Q3K _ _ 2
      | succ n ihn=>
       intro I;have h0:=ihn (by omega)
       have e:S (n+1)=fun u v=>Q0j (inR (cn (S n)) u v) (inR (gl l n).g_.t_ u v) 3:=by
        funext u v
        rw [J5 h0];simp only [S,Q0j]
        rw [Q0c (by omega),List.any_append];simp [Bool.and_assoc]
       rw [e];exact Q3K _ _ 3
     have Y:∀ n,n<l.length->(cn fun u v=>Q0j (inR (cn (S n)) u v) (inR (gl l n).g_.t_ u v) 3)=cn (S (n+1)):=fun n I=>by
      congr 1
      funext u v
      rw [J5 (m n (by omega))];simp only [S,Q0j]
      rw [Q0c I,List.any_append];simp [Bool.and_assoc]
     have E:∀ n,n<=l.length->Val (cn (S n)):=fun n I=>(W2F (m n I) (by omega) (b6 n)).1
     have a6:∃ t' l',Q4e F cs rs ((k+1:Nat):Int) l (L,p) (tb,a) (Z2 (fun d (z:Int×List Int×Int×List Line)=>Q1f F cs ns rs d z.1 z.2.1 z.2.2.1 z.2.2.2) f) (a.t_.map (shR (10*p)))=some (t',l',ns,rs)/\TOk t' /\ LinT (cs.length:Nat) rs l' /\ (l'.length:Int)<=most:=by
      have b3:∃ t' l',Q2p F cs ((k+1:Nat):Int) l (L,p) (tb,a) (Z2 (fun d (z:Int×List Int×Int×List Line)=>Q1f F cs ns rs d z.1 z.2.1 z.2.2.1 z.2.2.2) f) (cn (S l.length))=some (t',l',ns,rs)/\TOk t' /\ LinT (cs.length:Nat) rs l' /\ (l'.length:Int)<=most:=by
       have ek:((k+1:Nat):Int)-1=(k:Int):=by omega
       by_cases hz:(cn (S l.length)).length=0
       .obtain ⟨H,U,g,o,B⟩:=ih f tb l (by omega) (by omega) ob W
        refine ⟨H,U,?_,o,B⟩;unfold Q2p
        refine Q5 (by simp [hz]) ?_;unfold Q2o
        simp only
        rw [ek];exact Q7 (Z7 (by omega) (by omega)) g
       .have hx:LinO (cs.length:Nat) rs ⟨p+1,⟨cn (S l.length)⟩,c,1+s⟩:=by
         refine ⟨⟨c1,c2⟩,by simp only;omega,by simp only;omega,E _ (Nat.le_refl _),hz,fun u v A=>?_⟩;have A:inR (cn (S l.length)) u v=true:=A
         rw [J5 (m _ (Nat.le_refl _))] at A;simp only [S,Bool.and_eq_true] at A
         have e5:(p+1-1:Int)=p:=by omega
         simp only [e5];exact A.1.2
        have b8:LinT (cs.length:Nat) rs (l++[⟨p+1,⟨cn (S l.length)⟩,c,1+s⟩]):=by
         refine ⟨fun x h=>?_,?_,fun i hi=>?_⟩
         .rcases List.mem_append.1 h with h|h
          .exact W.one x h
          .rw [List.mem_singleton] at h;subst h;exact hx
         .rw [List.pairwise_append]
          refine ⟨W.apart,List.pairwise_singleton _ _,fun x h y hy u v h1 h2=>?_⟩;rw [List.mem_singleton] at hy
          subst hy;have h2:inR (cn (S l.length)) u v=true:=h2
          rw [J5 (m _ (Nat.le_refl _))] at h2;simp only [S,Bool.and_eq_true,Bool.not_eq_true',List.take_length] at h2
          have:=List.any_eq_false.1 h2.2 x h
          exact this h1
         .rcases Nat.lt_or_ge i l.length with K|K
          .obtain ⟨R,r1,r2⟩:=W.two i K
           refine ⟨R,r1,fun u v=>?_⟩;rw [W0s _ _ K,List.take_append_of_le_length (by omega)]
           exact r2 u v
          .have Z:i=l.length:=by simp at hi;omega
           subst Z;obtain ⟨w,k2,_,_,_,_,e5⟩:=J.one p.toNat G
           refine ⟨(R0.map (shR (10*p))).map (W2p ⟨10*(p.toNat:Int),0,10*(p.toNat:Int)+w,k2⟩),by simp;omega,fun u v=>?_⟩;rw [W0r,List.take_left' rfl,W2o,Y9G]
           show inR (cn (S l.length)) u v=_;rw [J5 (m _ (Nat.le_refl _))]
           simp only [S,List.take_length];rw [Y9G,e5,b7]
        obtain ⟨H,U,g,o,B⟩:=ih f td (l++[⟨p+1,⟨cn (S l.length)⟩,c,1+s⟩]) (by omega) (by simp;omega) od b8;refine ⟨H,U,?_,o,B⟩
        unfold Q2p;refine Z4 (decide_eq_true (by omega)) ?_
        refine Q7 (Z7 (by simp only;omega) (by simp only;omega)) (Q2 ec (Q2 ed ?_));refine Q7 (Z7 (by simp only;omega) (by simp only;omega)) (Q7 (by simp [LIM];omega) ?_)
        unfold Q2o;simp only
        rw [ek];exact Q7 (Z7 (by omega) (by omega)) g
      obtain ⟨H,U,g,o,B⟩:=b3;refine ⟨H,U,?_,o,B⟩
      unfold Q4e;refine Q7 (by simp only;omega) ?_
      refine Q2 ((Q0E P (a:=a.t_.map (shR (10*p))) (b:=(gl rs p.toNat).t_) (how:=2) (by simp;omega) (by have:=(J.val G).1;omega) c5 (J.val G).2.1).trans (congrArg some (congrArg cn a3.symm))) ?_;refine Y8 (fun z:List Rect×Int=>∃ n:Nat,z.2=n/\n<=l.length/\z.1=cn (S n)) (fun z=>l.length-z.2.toNat) (fun d z hz M=>?_) ⟨0,rfl,by omega,rfl⟩ (by simp only;omega)
      obtain ⟨V,n0⟩:=z;obtain ⟨n,rfl,I,rfl⟩:=hz
      simp only at I ⊢;unfold Z2o
      refine Q6 (fun h=>?_) (fun h=>?_)
      .have h:n<l.length:=by simpa using h
       refine Q7 (by omega) ?_;simp only [Int.toNat_natCast]
       have hx:=W.one _ (V7 h);refine Q2 ((Q0E P (a:=cn (S n)) (b:=(gl l n).g_.t_) (how:=3) (by have:=(E n I).1;omega) (by have:=hx.val.1;omega) (E n I).2.1 hx.val.2.1).trans (congrArg some (Y n h))) ?_
       refine Q7 (Z7 (by omega) (by omega)) (M _ ⟨n+1,by simp,h,rfl⟩ (by simp only;omega))
      .have h:n=l.length:=by
        have:¬ n<l.length:=by simpa using h
        omega
       subst h;exact g
     obtain ⟨H,U,g,o,B⟩:=a6;refine ⟨H,U,?_,o,B⟩
     show Q1f F cs ns rs _ ((k+1:Nat):Int) t.l_ t.at_ l=_;unfold Q1f
     refine Z4 (by simp) (Q2 ea ?_);rw [Z7z]
     refine Q2 eb ?_;refine Y8 (fun z:Int×List Rect=>∃ i:Nat,z.1=i/\i<=a.t_.length/\z.2.length=a.t_.length/\∀ j,j<a.t_.length->gl z.2 j=if j<i then shR (10*p) (gl a.t_ j) else gl a.t_ j) (fun z=>a.t_.length-z.1.toNat) (fun d z hz M=>?_)
      ⟨0,rfl,by omega,rfl,fun j _=>by rw [if_neg (by omega)]⟩ (by simp only;omega)
     obtain ⟨i0,V⟩:=z;obtain ⟨i,rfl,hi,T,hV⟩:=hz
     simp only at T hV ⊢;unfold Z2p
     simp only [Int.toNat_natCast];refine Q6 (fun h=>?_) (fun h=>?_)
     .have h:i<a.t_.length:=by simpa using h
      have b5:gl V i=gl a.t_ i:=by rw [hV i h,if_neg (by omega)]
      have hb:=a2 _ (V7 h);have a4:∀ x,gl (V.set i x) i=x:=fun x=>by rw [W0q V i i x (by omega),if_pos rfl]
      simp only [b5,a4];refine Q7 (by omega) (Q7 (Z7 (by omega) (by omega)) (Q7 (Z7 (by omega) (by omega)) (Q7 (by omega) (Q7 (Z7 (by omega) (by omega)) (Q7 (Z7 (by omega) (by omega)) (Q7 (by omega) (Q7 (by rw [List.length_set];omega) (Q7 (Z7 (by omega) (by omega)) ?_))))))))
      refine M _ ⟨i+1,by simp,h,by simp [T],fun j hj=>?_⟩ (by simp only;omega);rw [W0q _ i j _ (by simp;omega)]
      by_cases hij:i=j
      .subst hij
       rw [if_pos rfl,if_pos (by omega)];rfl
      .rw [if_neg hij,W0q V i j _ (by omega),if_neg hij,hV j hj]
       by_cases Z:j<i
       .rw [if_pos Z,if_pos (by omega)]
       .rw [if_neg Z,if_neg (by omega)]
     .have h:i=a.t_.length:=by
       have:¬ i<a.t_.length:=by simpa using h
       omega
      have b9:V=a.t_.map (shR (10*p)):=W3d (by simp [T]) fun j hj=>by
       rw [hV j (by omega),if_pos (by omega),W2b _ _ _ (by omega)]
      rw [b9];exact g
  obtain ⟨t',l,g,o,B,q4⟩:=X k.toNat F H [] (by omega) (by simp;omega) o2 (LinT.nil _ _);refine ⟨t',l,?_,o,B,q4⟩
  unfold Q4f;refine Q7 (Z7 (by omega) (by omega)) (Q2 e2 ?_)
  have:(k.toNat:Int)=k:=by omega
  rw [this] at g;exact g
 have X:∀ (k f:Nat) (t:Tape) (ns:List Int) (rs:List Re_),k<f->TOk t->ns.length=rs.length->rs.length+k=c.toNat->(∀ i,i<rs.length->∃ w h:Int,2<=w/\w<=9/\2<=h/\h<=9/\gl rs i=⟨[⟨10*i,0,10*i+w,h⟩]⟩) ->
   ∃ t' l O C,Z2 (fun d (z:Int×List Int×Int×List Int×List Re_)=>Q1g F cs most d z.1 z.2.1 z.2.2.1 z.2.2.2.1 z.2.2.2.2) f ((k:Int),t.l_,t.at_,ns,rs)=some (t',l,O,C)/\TOk t' /\ ParT C /\ LinT (cs.length:Nat) C l/\(l.length:Int)<=most:=by
  intro k
  induction k with
  | zero=>
   intro f t ns rs hf ht D hk Q
   cases f with
   | zero=>omega
   | succ f=>
    have J:ParT rs:=⟨by omega,Q⟩;obtain ⟨t',l,g,o,B,q4⟩:=N rs ns t.l_ t.at_ J D ht
    refine ⟨t',l,ns,rs,?_,o,J,B,q4⟩;show Q1g F cs most _ 0 t.l_ t.at_ ns rs=_
    unfold Q1g;exact Q5 rfl g
  | succ k ih=>
   intro f t ns rs hf ht D hk Q
   cases f with
   | zero=>omega
   | succ f=>
    obtain ⟨L,w,ea,oa,w1,w2⟩:=U5 (F:=F) ht (lo:=2) (hi:=9) (by omega) (by omega) (by omega);obtain ⟨tb,h,eb,ob,h1,h2⟩:=U5 (F:=F) oa (lo:=2) (hi:=9) (by omega) (by omega) (by omega)
    obtain ⟨t',l,O,C,g,o⟩:=ih f tb (ns++[((ns.length:Nat):Int)+1]) (rs++[⟨[⟨10*((ns.length:Nat):Int),0,10*((ns.length:Nat):Int)+w,h⟩]⟩]) (by omega) ob (by simp [D]) (by simp;omega) (fun i hi=>by
     rcases Nat.lt_or_ge i rs.length with K|K
     .have e:gl (rs++[(⟨[⟨10*((ns.length:Nat):Int),0,10*((ns.length:Nat):Int)+w,h⟩]⟩:Re_)]) i=gl rs i:=by
       unfold gl;rw [List.getD_eq_getElem?_getD,List.getElem?_append_left K, <-List.getD_eq_getElem?_getD]
      rw [e];exact Q i K
     .have Z:i=rs.length:=by simp at hi;omega
      subst Z;refine ⟨w,h,by omega,by omega,by omega,by omega,?_⟩
      unfold gl;rw [List.getD_eq_getElem?_getD,List.getElem?_append_right (Nat.le_refl _),D]
      simp)
    refine ⟨t',l,O,C,?_,o⟩;show Q1g F cs most _ ((k+1:Nat):Int) t.l_ t.at_ ns rs=_
    unfold Q1g;have ek:((k+1:Nat):Int)-1=(k:Int):=by omega
    refine Z4 (by simp) (Q7 (Z7 (by omega) (by omega)) (Q7 (by simp [LIM];omega) (Q7 (Z7 (by omega) (by omega)) (Q7 (Z7 (by omega) (by omega)) (Q2 ea (Q7 (Z7 (by omega) (by omega)) (Q2 eb (Q7 (by simp [LIM];omega) (Q7 (Z7 (by omega) (by omega)) ?_)))))))));rw [ek]
    exact g
 obtain ⟨t',l,ns,rs,g,o⟩:=X c.toNat F t1 [] [] (by omega) o1 rfl (by simp) (fun i hi=>by simp at hi);refine ⟨t',l,ns,rs,?_,o⟩
 unfold Q4r;refine Q2 e1 ?_
 have:(c.toNat:Int)=c:=by omega
 rw [this] at g;exact g
end
end Go.Ab
end
section
namespace Go.Ab
set_option maxRecDepth 20000
noncomputable section
abbrev Sq:=Int->Int->Bool
structure TR (A:List Rect):Prop where
 val:Val A
 sub:∀ {S:Sq},Fin S->(∀ x y,S x y=true->inR A x y=true)->Val (cn S)
theorem TR.of_pl{A:List Rect}(hv:Val A){d:Int}(h0:0<=d/\d<=100)(hb:PlB d (inR A)):TR A:=⟨hv,fun b a=>(W2F b h0 fun x y h=>hb x y (a x y h)).1⟩
theorem Val.pos{l:List Rect}(h:Val l):∀ r ∈ l,r.L_<r.R_:=fun _ a=>(h.2.2.pos a).1
theorem Y7w{A:List Rect}(h:Val A):cn (inR A)=A:=(Z1B A).1 h.2.2
theorem Y8i:Fin fun _ _=>false:=by
 have:=V3 []
 exact this
theorem Y1I:cn (fun _ _=>false)=[]:=(Z1B []).1 Z1A
theorem Q3P{F:Nat}(hF:BIG<=F){a b:List Rect}(la:a.length<=8000)(lb:b.length<=8000)(pa:∀ r ∈ a,r.L_<r.R_)(pb:∀ r ∈ b,r.L_<r.R_){S T:Sq}(ea:inR a=S)(eb:inR b=T){k:Bool->Bool->Bool}(hk:k false false=false){q:Bool->Bool->Option Bool}(hq:∀ u v,q u v=some (k u v)):
  V8 F a b q=some (cn fun x y=>k (S x y) (T x y)):=by
 subst ea eb;exact Q1W hF (by omega) pa pb hk hq
theorem W0w{a b:List Rect}{S T:Sq}(ea:inR a=S)(eb:inR b=T)(how:Int):Fin fun x y=>Q0j (S x y) (T x y) how:=by
 subst ea eb;exact Q3K a b how
theorem Q0J{S:Sq}(h:Fin S):inR (cn S)=S:=by
 funext x y;exact J5 h x y
theorem Z4I{S T:Sq}(hS:Fin S)(hT:Fin T):Fin fun x y=>S x y&&T x y:=W0w (Q0J hS) (Q0J hT) 2
theorem Y7r{S T:Sq}(hS:Fin S)(hT:Fin T):Fin fun x y=>S x y||T x y:=W0w (Q0J hS) (Q0J hT) 1
theorem Z7m{S T:Sq}(hS:Fin S)(hT:Fin T):Fin fun x y=>S x y && !T x y:=W0w (Q0J hS) (Q0J hT) 3
theorem Z1a(F:Nat)(u v:Bool):Q8N F u v=some (u&&v):=by
 unfold Q8N Z1b;cases u <;> rfl
theorem Z5D(F:Nat)(u v:Bool):Q9L F u v=some (u||v):=by
 unfold Q9L Q7H;cases u <;> rfl
theorem Z0k(F:Nat)(u v:Bool):Q5O F u v=some (u && !v):=by
 unfold Q5O Q6J;cases u <;> rfl
structure TS where
 Y:Sq
 N:Sq
def TS.O(A:List Rect)(s:TS):Sq:=fun x y=>(inR A x y && !s.Y x y) && !s.N x y
structure TIn (A:List Rect) (s:TS):Prop where
 fY:Fin s.Y
 fN:Fin s.N
 sY:∀ x y,s.Y x y=true->inR A x y=true
 sN:∀ x y,s.N x y=true->inR A x y=true
theorem TIn.fO{A:List Rect}{s:TS}(h:TIn A s):Fin (s.O A):=Z7m (Z7m (V3 A) h.fY) h.fN
theorem TIn.vY{A:List Rect}(ht:TR A){s:TS}(h:TIn A s):Val (cn s.Y):=ht.sub h.fY h.sY
theorem TIn.vN{A:List Rect}(ht:TR A){s:TS}(h:TIn A s):Val (cn s.N):=ht.sub h.fN h.sN
theorem TIn.vO{A:List Rect}(ht:TR A){s:TS}(h:TIn A s):Val (cn (s.O A)):=ht.sub h.fO fun x y a=>by
 unfold TS.O at a
 cases hA:inR A x y with
 | true=>rfl
 | false=>rw [hA] at a;cases a
def TS.sqs(A:List Rect)(s:TS):Squares:=⟨cn s.Y,cn s.N,cn (s.O A)⟩
theorem Val.le8{l:List Rect}(h:Val l):l.length<=8000:=by have:=h.1;omega
theorem Z4f{F:Nat}(hF:BIG<=F){p:TermPlace}{A:List Rect}(hp:p.t_=A)(ht:TR A){s:TS}(h:TIn A s):Q2B F p (cn s.Y) (cn s.N)=some (s.sqs A):=by
 unfold Q2B;subst hp
 have b:Val (cn fun x y=>inR p.t_ x y && !s.Y x y):=ht.sub (Z7m (V3 _) h.fY) fun x y a=>by
  cases hA:inR p.t_ x y with
  | true=>rfl
  | false=>rw [hA] at a;cases a
 refine Q2 (Q3P hF ht.val.le8 (h.vY ht).le8 ht.val.pos (h.vY ht).pos rfl (Q0J h.fY) (k:=fun u v=>u && !v) rfl (Z0k F)) (Q2 (Q3P hF b.le8 (h.vN ht).le8 b.pos (h.vN ht).pos (Q0J (Z7m (V3 _) h.fY)) (Q0J h.fN) (k:=fun u v=>u && !v) rfl (Z0k F)) rfl)
end
end Go.Ab
end
section
namespace Go.Ab
set_option maxRecDepth 20000
noncomputable section
structure EV (y:Int) (cs:List Crop) (hs:List Rg_) (zs:List A2_) (c:Int) (A:List Rect):Prop where
 tr:TR A
 crop:0<=c/\c<(cs.length:Nat)
 fam:0<=(gl cs c.toNat).f_
 mrk:0<=(gl cs c.toNat).m_/\(gl cs c.toNat).m_<=31
 few:FewR hs
 hb:∀ f ∈ hs,Box (15:Nat) f.g_.t_
 hc:∀ f ∈ hs,0<=f.c_/\f.c_<(cs.length:Nat)
 yr:0<=y/\y<=100
 zs:LB 15 zs
theorem W2P{l:List Rg_}(hb:∀ f ∈ l,Box (15:Nat) f.g_.t_)(y:Int)(p:Int->Bool):Box (15:Nat) (yrs l y p):=fun r a=>by
 unfold yrs at a;obtain ⟨f,b,h⟩:=List.mem_flatMap.1 a
 exact hb f (List.mem_filter.1 b).1 r h
theorem W1v(a b:List Rg_)(y:Int)(p:Int->Bool):yrs (a++b) y p=yrs a y p++yrs b y p:=by simp [yrs]
theorem W2f{l:List Rg_}(h:FewR l)(y:Int)(p:Int->Bool):(yrs l y p).length<=420:=by
 by_cases h0:l.length=0
 .rw [List.eq_nil_of_length_eq_zero h0];simp [yrs]
 .have d:=h.few y p (l.length-1) (by omega)
  have e:l=l.take (l.length-1)++[gl l (l.length-1)]:=by
   have:=Q0c (l:=l) (i:=l.length-1) (by omega)
   rw [<-this,show l.length-1+1=l.length by omega,List.take_length]
  have c:(yrs [gl l (l.length-1)] y p).length<=120:=by
   have b:=((Q9b _).1 (h.hl.one _ (V7 (l:=l) (i:=l.length-1) (by omega)))).2.2.2.2.2;have:=b.1
   unfold yrs;rw [List.filter_cons]
   split
   .simpa using this
   .simp
  have a:=congrArg (fun m=>(yrs m y p).length) e;simp only [W1v,List.length_append] at a
  omega
def knS(A:List Rect)(hs:List Rg_)(y:Int)(p:Int->Bool):Sq:=fun u v=>inR A u v&&inR (yrs hs y p) u v
theorem Z4H(A:List Rect)(hs:List Rg_)(y:Int)(p:Int->Bool):Fin (knS A hs y p):=Z4I (V3 A) (V3 _)
theorem Y0z{A:List Rect}{hs:List Rg_}{y:Int}{p:Int->Bool}{u v:Int}(h:knS A hs y p u v=true):inR A u v=true:=by
 unfold knS at h;rw [Bool.and_eq_true] at h
 exact h.1
variable {F:Nat} {cs:List Crop} {hs:List Rg_} {zs:List A2_} {y c d:Int} {A:List Rect}
theorem Q6p(hF:BIG<=F)(h:EV y cs hs zs c A){p:TermPlace}(e1:p.world_.history_=hs)(e2:p.world_.y_=y)(e3:p.t_=A){n:Int}(n0:0<=n)(n1:n<=1000){q:Int->Option Bool}(s:Int->Bool)(hq:∀ f ∈ hs,q f.c_=some (s f.c_)):Q0G F p n q=some (cn (knS A hs (y-n) s)):=by
 subst e1 e2 e3;have e:=h.yr
 unfold Q0G;have b:=W2P h.hb (p.world_.y_-n) s
 have:=W2f h.few (p.world_.y_-n) s
 exact Q7 (Z7 (by omega) (by omega)) (Q2 (Y0D hF h.few.hl _ s hq) (Q2 (Q3P hF h.tr.val.le8 (by omega) h.tr.val.pos (fun r a=>(b r a).2.1) rfl rfl (k:=fun u v=>u&&v) rfl (Z1a F)) rfl))
end
end Go.Ab
end
section
namespace Go.Ab
set_option maxRecDepth 20000
noncomputable section
def W3f(cs:List Crop)(f:Int)(k:Int):Bool:=(gl cs k.toNat).f_==f
def Y9W(cs:List Crop)(f:Int)(k:Int):Bool:=(gl cs k.toNat).f_ != f
def smS(A:List Rect)(hs:List Rg_)(cs:List Crop)(y f:Int):Nat->TS
 | 0=>⟨inR A,fun _ _=>false⟩
 | k+1=>⟨fun u v=>(smS A hs cs y f k).Y u v&&knS A hs (y-((k+1:Nat):Int)) (W3f cs f) u v,fun u v=>(smS A hs cs y f k).N u v||knS A hs (y-((k+1:Nat):Int)) (Y9W cs f) u v⟩
theorem Y7O(A:List Rect)(hs:List Rg_)(cs:List Crop)(y f:Int):∀ k,TIn A (smS A hs cs y f k)
 | 0=>⟨V3 A,Y8i,fun _ _ h=>h,fun _ _ h=>by cases h⟩
 | k+1=>by
  have a:=Y7O A hs cs y f k;refine ⟨Z4I a.fY (Z4H _ _ _ _),Y7r a.fN (Z4H _ _ _ _),fun u v h=>?_,fun u v h=>?_⟩
  .unfold smS at h
   simp only [Bool.and_eq_true] at h;exact a.sY u v h.1
  .unfold smS at h
   simp only [Bool.or_eq_true] at h;rcases h with h|h
   .exact a.sN u v h
   .exact Y0z h
variable {F:Nat} {cs:List Crop} {hs:List Rg_} {zs:List A2_} {y c d:Int} {A:List Rect}
theorem EV.kn_val(h:EV y cs hs zs c A)(k:Int)(p:Int->Bool):Val (cn (knS A hs k p)):=h.tr.sub (Z4H _ _ _ _) fun _ _ h=>Y0z h
theorem Y4N(hF:BIG<=F)(h:EV y cs hs zs c A){p:TermPlace}(e1:p.world_.history_=hs)(e2:p.world_.y_=y)(e3:p.t_=A)(e4:p.world_.crops_=cs)(e5:p.line_.c_=c){n:Nat}(n0:1<=n)(n1:n<=100):
  Q6K F p (n:Int)=some ((smS A hs cs y (gl cs c.toNat).f_ (n-1)).sqs A):=by
 have j:=hF;unfold BIG at j
 have e:=h.crop;unfold Q6K
 have b:∀ (m f k:Nat),k+m=n-1->m<f->Z2 (fun again (z:(List Rect)×(List Rect)×Int)=>Q1d F p (n:Int) again z.1 z.2.1 z.2.2) f (cn (smS A hs cs y (gl cs c.toNat).f_ k).Y,cn (smS A hs cs y (gl cs c.toNat).f_ k).N,((k:Nat):Int)+1)=some ((smS A hs cs y (gl cs c.toNat).f_ (n-1)).sqs A):=by
  intro m
  induction m with
  | zero=>
   intro f k w r;obtain ⟨f,rfl⟩:∃ g,f=g+1:=⟨f-1,by omega⟩
   show Q1d F p (n:Int) (Z2 _ f) _ _ (((k:Nat):Int)+1)=_;unfold Q1d
   refine Q5 (decide_eq_false (by omega)) ?_;unfold Q7c
   rw [show n-1=k by omega];exact Q2 (Z4f hF e3 h.tr (Y7O _ _ _ _ _ k)) rfl
  | succ m ih=>
   intro f k w r;obtain ⟨f,rfl⟩:∃ g,f=g+1:=⟨f-1,by omega⟩
   show Q1d F p (n:Int) (Z2 _ f) _ _ (((k:Nat):Int)+1)=_;unfold Q1d
   have a:=Y7O A hs cs y (gl cs c.toNat).f_ k;have q:∀ g ∈ hs,Q4O F g.c_ p (gl p.world_.crops_ p.line_.c_.toNat).f_=some (W3f cs (gl cs c.toNat).f_ g.c_):=fun g i=>by
    unfold Q4O;rw [e4,e5]
    exact Q7 (h.hc g i) rfl
   have s:∀ g ∈ hs,Q4N F g.c_ p (gl p.world_.crops_ p.line_.c_.toNat).f_=some (Y9W cs (gl cs c.toNat).f_ g.c_):=fun g i=>by
    unfold Q4N;rw [e4,e5]
    exact Q7 (h.hc g i) rfl
   have l:=h.kn_val (y-(((k:Nat):Int)+1)) (W3f cs (gl cs c.toNat).f_);have o:=h.kn_val (y-(((k:Nat):Int)+1)) (Y9W cs (gl cs c.toNat).f_)
   have t:=ih f (k+1) (by omega) (by omega);refine Z4 (decide_eq_true (by omega)) (Q2 (Q6p hF h e1 e2 e3 (by omega) (by omega) _ q) (Q2 (Q6p hF h e1 e2 e3 (by omega) (by omega) _ s) (Q2 (Q3P hF (a.vY h.tr).le8 l.le8 (a.vY h.tr).pos l.pos (Q0J a.fY) (Q0J (Z4H _ _ _ _)) (k:=fun u v=>u&&v) rfl (Z1a F)) (Q2 (Q3P hF (a.vN h.tr).le8 o.le8 (a.vN h.tr).pos o.pos (Q0J a.fN) (Q0J (Z4H _ _ _ _)) (k:=fun u v=>u||v) rfl (Z5D F)) (Q7 (Z7 (by omega) (by omega)) ?_)))))
   exact t
 refine Q7 (by rw [e4,e5];exact e) ?_;have:=b (n-1) F 0 (by omega) (by omega)
 show Z2 _ F (p.t_,[],(1:Int))=_;rw [e3]
 rw [show (smS A hs cs y (gl cs c.toNat).f_ 0)=⟨inR A,fun _ _=>false⟩ from rfl] at this;simp only [Y7w h.tr.val,Y1I] at this
 exact this
def Z9T(A:List Rect)(b:Bool):TS:=if b then ⟨inR A,fun _ _=>false⟩ else ⟨fun _ _=>false,inR A⟩
theorem Y0U(A:List Rect)(b:Bool):TIn A (Z9T A b):=by
 cases b
 .exact ⟨Y8i,V3 A,fun _ _ h=>(by cases h),fun _ _ h=>h⟩
 .exact ⟨V3 A,Y8i,fun _ _ h=>h,fun _ _ h=>by cases h⟩
theorem Y8z(A:List Rect)(b:Bool):(Z9T A b).O A=fun _ _=>false:=by
 funext u v
 cases b <;> simp [Z9T,TS.O]
theorem Q9u{p:TermPlace}(e3:p.t_=A)(hv:Val A)(b:Bool):Q1c F p b=some ((Z9T A b).sqs A):=by
 unfold Q1c TS.sqs;rw [Y8z,Y1I,e3]
 cases b
 .refine Q5 rfl ?_
  show some _=some (Squares.mk (cn fun _ _=>false) (cn (inR A)) []);rw [Y1I,Y7w hv]
 .refine Z4 rfl ?_
  show some _=some (Squares.mk (cn (inR A)) (cn fun _ _=>false) []);rw [Y1I,Y7w hv]
def Y3X(A:List Rect)(S:Sq):TS:=⟨fun u v=>inR A u v&&S u v,fun u v=>inR A u v && !S u v⟩
theorem W0D{A:List Rect}{S:Sq}(h:Fin S):TIn A (Y3X A S):=by
 refine ⟨Z4I (V3 A) h,Z7m (V3 A) h,fun u v a=>?_,fun u v a=>?_⟩
 .simp only [Y3X,Bool.and_eq_true] at a
  exact a.1
 .simp only [Y3X,Bool.and_eq_true] at a
  exact a.1
theorem W3B(A:List Rect)(S:Sq):(Y3X A S).O A=fun _ _=>false:=by
 funext u v
 simp only [Y3X,TS.O]
 cases inR A u v <;> cases S u v <;> rfl
theorem Z4Q(hF:BIG<=F){p:TermPlace}(e3:p.t_=A)(ht:TR A){S:Sq}(h:Fin S):Q2d F p (cn fun u v=>inR A u v&&S u v)=some ((Y3X A S).sqs A):=by
 unfold Q2d TS.sqs;have e:=Z4I (V3 A) h
 have b:=ht.sub e fun u v a=>by
  simp only [Bool.and_eq_true] at a;exact a.1
 rw [W3B,Y1I,e3];refine Q2 (Q3P hF ht.val.le8 b.le8 ht.val.pos b.pos rfl (Q0J e) (k:=fun u v=>u && !v) rfl (Z0k F)) ?_
 rw [show (fun u v=>inR A u v && !(inR A u v&&S u v))=(Y3X A S).N from ?_]
 .rfl
 .funext u v
  simp only [Y3X]
  cases inR A u v <;> cases S u v <;> rfl
end
end Go.Ab
end
section
namespace Go.Ab
set_option maxRecDepth 20000
noncomputable section
theorem Y7P{R:Type}{body:(Int->Option R)->Int->Option R}{c y:Option R}(N:Nat)(p:Nat->Bool)(bad:∀ again (i:Nat),i<N->p i=true->body again (i:Int)=c)(good:∀ again (i:Nat) z,i<N->p i=false->again ((i:Int)+1)=z->body again (i:Int)=z)(stop:∀ again,body again (N:Int)=y){F:Nat}(hF:N<F):Z2 body F 0=if (List.range N).any p=true then c else y:=by
 refine Y8 (fun z:Int=>∃ i:Nat,z=i/\i<=N/\∀ j,j<i->p j=false) (fun z=>N-z.toNat) (fun again z f e=>?_) ⟨0,rfl,Nat.zero_le _,fun j h=>absurd h (Nat.not_lt_zero j)⟩ (by simp;omega);obtain ⟨i,rfl,g,b⟩:=f
 rcases Nat.lt_or_ge i N with h|h
 .cases hpi:p i with
  | true=>
   rw [if_pos (List.any_eq_true.2 ⟨i,List.mem_range.2 h,hpi⟩)];exact bad again i h hpi
  | false=>
   refine good again i _ h hpi (e _ ⟨i+1,by omega,h,fun j a=>?_⟩ (by omega))
   by_cases hji:j=i
   .rw [hji];exact hpi
   .exact b j (by omega)
 .have:i=N:=by omega
  subst this;rw [if_neg (by rw [Bool.not_eq_true,List.any_eq_false];intro j a;rw [b j (List.mem_range.1 a)];simp)]
  exact stop again
end
end Go.Ab
end
section
namespace Go.Ab
set_option maxRecDepth 20000
noncomputable section
end
end Go.Ab
end
section
namespace Go.Ab
set_option maxRecDepth 20000
noncomputable section
theorem Y2N{F:Nat}(hF:BIG<=F)(s:ByteArray):Z4x F s=some (Q2S s):=by
 unfold BIG at hF;unfold Z4x
 have g:Q2S s=false->Q1S F s true=some (Q2S s):=fun h=>by unfold Q1S;rw [h];exact Z4 rfl rfl
 refine Q6 (fun h=>g ?_) (fun h=>?_)
 .have h:=of_decide_eq_true h
  unfold Q2S;rw [decide_eq_false (by omega:¬ 1<=s.size)];rfl
 have r:1<=s.size:=by have:=of_decide_eq_false h;omega
 refine Q6 (fun h=>g ?_) (fun h=>?_)
 .have h:=of_decide_eq_true h
  unfold Q2S;rw [decide_eq_false (by omega:¬ s.size<=12)];simp
 have t:s.size<=12:=by have:=of_decide_eq_false h;omega
 have n:Q2S s=decide (∀ i,i<s.size->(Z5m (sAt s (i:Nat))||(!decide (i=0)&&Y3W (sAt s (i:Nat))))=true):=by
  unfold Q2S;rw [decide_eq_true r,decide_eq_true t];simp
 have j:Z5m (sAt s (0:Int))=false->Q2S s=false:=fun h=>by
  rw [n,decide_eq_false_iff_not];intro f
  have:=f 0 (by omega)
  rw [show (((0:Nat):Int))=0 from rfl,h] at this;simp at this
 refine Q7 (by omega) (Q6 (fun h=>g (j ?_)) (fun h=>?_))
 .have h:=of_decide_eq_true h
  unfold Z5m;rw [decide_eq_false (by omega)];rfl
 have u:=of_decide_eq_false h;refine Q7 (by omega) ?_
 by_cases h4:122<sAt s (0:Int)
 .rw [decide_eq_true h4]
  refine g (j ?_);unfold Z5m;rw [decide_eq_false (by omega:¬ sAt s (0:Int)<=122)];simp
 rw [decide_eq_false h4];have o:Z5m (sAt s (0:Int))=true:=by
  unfold Z5m;rw [decide_eq_true (by omega),decide_eq_true (by omega)];rfl
 unfold Q1S;refine Q5 rfl ?_
 refine (Y7P (c:=some false) (y:=some true) s.size (fun i=> !(Z5m (sAt s (i:Nat))||Y3W (sAt s (i:Nat)))) (fun a i l b=>?_) (fun a i z l b n=>?_) (fun a=>?_) (by omega)).trans ?_
 .rw [Bool.not_eq_true',Bool.or_eq_false_iff] at b
  unfold Z5m Y3W at b;unfold Q9D
  have k2:Q0h F (i:Int) a true=some false:=by unfold Q0h;exact Z4 rfl rfl
  refine Z4 (decide_eq_true (by omega)) (Q7 (by omega) ?_);have q:gd (0<=(i:Int)/\(i:Int)<((s.size:Nat):Int)) (br (decide (sAt s (i:Nat)<48)) (Q0h F (i:Int) a true) (gd (0<=(i:Int)/\(i:Int)<((s.size:Nat):Int)) (Q0h F (i:Int) a (decide (57<sAt s (i:Nat))))))=some false:=by
   refine Q7 (by omega) (Q6 (fun _=>k2) (fun e=>Q7 (by omega) ?_));have e:=of_decide_eq_false e
   rw [decide_eq_true (p:=57<sAt s (i:Nat))]
   .exact k2
   .have k:=b.2
    rw [decide_eq_true (by omega:48<=sAt s (i:Nat)),Bool.true_and,decide_eq_false_iff_not] at k;omega
  refine Q6 (fun _=>q) (fun e=>Q7 (by omega) ?_);refine Z4 ?_ q
  have e:=of_decide_eq_false e;have k:=b.1
  rw [decide_eq_true (by omega:97<=sAt s (i:Nat)),Bool.true_and,decide_eq_false_iff_not] at k;exact decide_eq_true (by omega)
 .rw [Bool.not_eq_false',Bool.or_eq_true] at b
  unfold Z5m Y3W at b;rw [Bool.and_eq_true,Bool.and_eq_true,decide_eq_true_eq,decide_eq_true_eq,decide_eq_true_eq,decide_eq_true_eq] at b
  unfold Q9D;have k2:Q0h F (i:Int) a false=z:=by unfold Q0h;exact Q5 rfl (Q7 (Z7 (by omega) (by omega)) n)
  refine Z4 (decide_eq_true (by omega)) (Q7 (by omega) ?_);refine Q6 (fun e=>?_) (fun e=>?_)
  .have e:=of_decide_eq_true e
   refine Q7 (by omega) (Q5 (decide_eq_false (by omega)) (Q7 (by omega) ?_));rw [decide_eq_false (p:=57<sAt s (i:Nat)) (by omega)];exact k2
  .have e:=of_decide_eq_false e
   refine Q7 (by omega) (Q6 (fun k=>?_) (fun k=>k2));have k:=of_decide_eq_true k
   refine Q7 (by omega) (Q5 (decide_eq_false (by omega)) (Q7 (by omega) ?_));rw [decide_eq_false (p:=57<sAt s (i:Nat)) (by omega)];exact k2
 .unfold Q9D
  exact Q5 (decide_eq_false (by omega)) rfl
 .rw [n]
  split
  .rename_i m
   congr 1
   symm
   rw [decide_eq_false_iff_not];intro f
   obtain ⟨i,l,b⟩:=List.any_eq_true.1 m;have:=f i (List.mem_range.1 l)
   rw [Bool.not_eq_true',Bool.or_eq_false_iff] at b;rw [b.1,b.2] at this
   simp at this
  .rename_i m
   congr 1
   symm
   rw [decide_eq_true_eq];intro i l
   rw [Bool.not_eq_true,List.any_eq_false] at m;have:=m i (List.mem_range.2 l)
   rw [Bool.not_eq_true,Bool.not_eq_false'] at this
   by_cases h0:i=0
   .subst h0;rw [show (((0:Nat):Int))=0 from rfl,o];rfl
   .rw [decide_eq_false h0];simpa using this
theorem Y9H{body:(Int->Option Int)->Int->Option Int}(N:Nat)(p:Nat->Int)(bad:∀ again (i:Nat),i<N->p i≠0->body again (i:Int)=some (p i))(good:∀ again (i:Nat) z,i<N->p i=0->again ((i:Int)+1)=z->body again (i:Int)=z)(stop:∀ again,body again (N:Int)=some 0){F:Nat}(hF:N<F):Z2 body F 0=some ((((List.range N).map p).find? fun c=>c != 0).getD 0):=by
 refine Y8 (fun z:Int=>∃ i:Nat,z=i/\i<=N/\∀ j,j<i->p j=0) (fun z=>N-z.toNat) (fun again z l n=>?_) ⟨0,rfl,Nat.zero_le _,fun j h=>absurd h (Nat.not_lt_zero j)⟩ (by simp;omega);obtain ⟨i,rfl,o,k⟩:=l
 rcases Nat.lt_or_ge i N with h|h
 .by_cases hpi:p i=0
  .refine good again i _ h hpi (n _ ⟨i+1,by omega,h,fun j a=>?_⟩ (by omega))
   by_cases hji:j=i
   .rw [hji];exact hpi
   .exact k j (by omega)
  .rw [bad again i h hpi]
   congr 1
   have e:List.range N=List.range i++i::(List.range N).drop (i+1):=by
    have m:(List.range N).take i=List.range i:=by rw [List.take_range];congr 1;omega
    have g:=List.take_append_drop i (List.range N);rw [m,List.drop_eq_getElem_cons (by simpa using h)] at g
    rw [List.getElem_range] at g;exact g.symm
   have b:(((List.range i).map p).find? fun c=>c != 0)=none:=List.find?_eq_none.2 fun c f=>by
    obtain ⟨j,a,rfl⟩:=List.mem_map.1 f;rw [k j (List.mem_range.1 a)];simp
   rw [e,List.map_append,List.find?_append,b,Option.none_or,List.map_cons,List.find?_cons];have:(p i != 0)=true:=by simpa using hpi
   rw [this];rfl
 .have:i=N:=by omega
  subst this;rw [stop again]
  congr 1
  have b:(((List.range i).map p).find? fun c=>c != 0)=none:=List.find?_eq_none.2 fun c f=>by
   obtain ⟨j,a,rfl⟩:=List.mem_map.1 f;rw [k j (List.mem_range.1 a)];simp
  rw [b];rfl
def crE(l:List Crop)(i:Nat):Int:=
 if Q2S (gl l i).n_=false then 5 else if (gl l i).f_<0\/40<(gl l i).f_ then 2 else if (gl l i).m_<0\/31<(gl l i).m_ then 14
 else if 0<i/\(sLt (gl l i).n_ (gl l (i-1)).n_||sEq (gl l i).n_ (gl l (i-1)).n_)=true then 6 else 0
def crC(l:List Crop):Int:=if 40<l.length then 1 else (((List.range l.length).map (crE l)).find? fun c=>c != 0).getD 0
def NmS(l:List Crop):Prop:=∀ x ∈ l,x.n_.size<=4294967296
theorem W3U{l:List Crop}{i:Nat}(h:Q2S (gl l i).n_=false):crE l i=5:=by unfold crE;rw [if_pos h]
theorem W3V{l:List Crop}{i:Nat}(h:Q2S (gl l i).n_=true)(h2:(gl l i).f_<0\/40<(gl l i).f_):crE l i=2:=by
 unfold crE;rw [if_neg (by rw [h];simp),if_pos h2]
theorem W3C{l:List Crop}{i:Nat}(h:Q2S (gl l i).n_=true)(h2:¬ ((gl l i).f_<0\/40<(gl l i).f_))(h3:(gl l i).m_<0\/31<(gl l i).m_):crE l i=14:=by
 unfold crE;rw [if_neg (by rw [h];simp),if_neg h2,if_pos h3]
theorem W3T{l:List Crop}{i:Nat}(h:Q2S (gl l i).n_=true)(h2:¬ ((gl l i).f_<0\/40<(gl l i).f_))(h3:¬ ((gl l i).m_<0\/31<(gl l i).m_))(h4:0<i/\(sLt (gl l i).n_ (gl l (i-1)).n_||sEq (gl l i).n_ (gl l (i-1)).n_)=true):crE l i=6:=by
 unfold crE;rw [if_neg (by rw [h];simp),if_neg h2,if_neg h3,if_pos h4]
theorem W3D{l:List Crop}{i:Nat}(h:Q2S (gl l i).n_=true)(h2:¬ ((gl l i).f_<0\/40<(gl l i).f_))(h3:¬ ((gl l i).m_<0\/31<(gl l i).m_))(h4:¬ (0<i/\(sLt (gl l i).n_ (gl l (i-1)).n_||sEq (gl l i).n_ (gl l (i-1)).n_)=true)):crE l i=0:=by
 unfold crE;rw [if_neg (by rw [h];simp),if_neg h2,if_neg h3,if_neg h4]
theorem Z6L{F:Nat}(hF:BIG<=F){l:List Crop}(hn:NmS l):Q9p F l=some (crC l):=by
 have u:=hF;unfold BIG at hF
 unfold Q9p crC;refine Q6 (fun h=>?_) (fun h=>?_)
 .rw [if_pos (by have:=of_decide_eq_true h;omega)]
 have w:l.length<=40:=by have:=of_decide_eq_false h;omega
 rw [if_neg (by omega)];have e:∀ (a:Int->Option Int) (i:Nat),i<l.length->Q4D F l a (i:Int)=if crE l i=0 then a ((i:Int)+1) else some (crE l i):=by
  intro a i g;unfold Q4D
  simp only [Int.toNat_natCast];have hs:=hn _ (V7 g)
  refine Z4 (decide_eq_true (by omega)) (Q7 (by omega) (Q2 (Z2Y (by omega) hs) ?_));refine Q6 (fun b=>?_) (fun b=>?_)
  .have b:Q2S (gl l i).n_=false:=by simpa using b
   rw [W3U b,if_neg (by decide)]
  have b:Q2S (gl l i).n_=true:=by simpa using b
  have j:(gl l i).f_<0\/40<(gl l i).f_->Q3n F l (i:Int) a true=if crE l i=0 then a ((i:Int)+1) else some (crE l i):=fun h=>by
   rw [W3V b h,if_neg (by decide)];unfold Q3n
   exact Z4 rfl rfl
  refine Q6 (fun o=>j (.inl (of_decide_eq_true o))) (fun o=>?_);have o:=of_decide_eq_false o
  by_cases h3:40<(gl l i).f_
  .rw [decide_eq_true h3];exact j (.inr h3)
  have n:¬ ((gl l i).f_<0\/40<(gl l i).f_):=by omega
  rw [decide_eq_false h3];unfold Q3n
  simp only [Int.toNat_natCast];refine Q5 rfl ?_
  have k:(gl l i).m_<0\/31<(gl l i).m_->Q3m F l (i:Int) a true=if crE l i=0 then a ((i:Int)+1) else some (crE l i):=fun h=>by
   rw [W3C b n h,if_neg (by decide)];unfold Q3m
   exact Z4 rfl rfl
  refine Q6 (fun p=>k (.inl (of_decide_eq_true p))) (fun p=>?_);have p:=of_decide_eq_false p
  by_cases h5:31<(gl l i).m_
  .rw [decide_eq_true h5];exact k (.inr h5)
  have r:¬ ((gl l i).m_<0\/31<(gl l i).m_):=by omega
  rw [decide_eq_false h5];unfold Q3m
  simp only [Int.toNat_natCast];refine Q5 rfl ?_
  refine Q6 (fun f=>?_) (fun f=>?_)
  .have f:0<i:=by have:=of_decide_eq_true f;omega
   have v:((i:Int)-1).toNat=i-1:=by omega
   refine Q7 (Z7 (by omega) (by omega)) (Q7 (by omega) ?_);rw [v]
   unfold Q3l;refine Q6 (fun m=>?_) (fun m=>?_)
   .rw [W3T b n r ⟨f,m⟩,if_neg (by decide)]
   .rw [W3D b n r (fun q=>by rw [q.2] at m;cases m),if_pos rfl]
    exact Q7 (Z7 (by omega) (by omega)) rfl
  .have f:¬ 0<i:=by have:=of_decide_eq_false f;omega
   rw [W3D b n r (fun q=>f q.1),if_pos rfl];unfold Q3l
   exact Q5 rfl (Q7 (Z7 (by omega) (by omega)) rfl)
 refine Y9H l.length (crE l) (fun a i g s=>?_) (fun a i z g s t=>?_) (fun a=>?_) (by omega)
 .rw [e a i g,if_neg s]
 .rw [e a i g,if_pos s];exact t
 .unfold Q4D
  exact Q5 (decide_eq_false (by omega)) rfl
theorem CropT.nm{l:List Crop}(h:CropT l):NmS l:=fun x e=>by
 obtain ⟨i,a,rfl⟩:=List.getElem_of_mem e;have b:=(h.one i a).1
 have:=h.len
 rw [Y6h l i a] at b;rw [b]
 have:=(Y3q i (by omega)).2
 omega
theorem CropT.crC{l:List Crop}(h:CropT l):crC l=0:=by
 have a:=Y3Y (F:=BIG) (Nat.le_refl _) h;rw [Z6L (Nat.le_refl _) h.nm] at a
 exact Option.some.inj a
end
end Go.Ab
end
section
end
section
namespace Go.Ab
set_option maxRecDepth 20000
noncomputable section
def TD:Nat->Term->Prop
 | 0,_=>False
 | d+1,t=>I64 t.op_/\I64 t.num_/\t.kids_.length<=1000000/\∀ k ∈ t.kids_,TD d k
theorem TD.op{d:Nat}{t:Term}(h:TD d t):I64 t.op_:=by
 cases d with
 | zero=>exact h.elim
 | succ d=>exact h.1
def szD:Nat->Term->Nat
 | 0,_=>0
 | d+1,t=>1+(t.kids_.map (szD d)).sum
theorem W1A{d:Nat}{t:Term}(h:TD d t):1<=szD d t:=by
 cases d with
 | zero=>exact h.elim
 | succ d=>unfold szD;omega
def Z9b(d:Nat)(t:Term)(i:Nat):Nat:=1+((t.kids_.take i).map (szD d)).sum
theorem Y0c{d i:Nat}{t:Term}(h:i<t.kids_.length):Z9b d t (i+1)=Z9b d t i+szD d (gl t.kids_ i):=by
 unfold Z9b;rw [Q0c h,List.map_append,List.sum_append];simp;omega
theorem Y0d{d i:Nat}{t:Term}:Z9b d t i<=szD (d+1) t:=by
 unfold Z9b szD;have:(t.kids_.map (szD d)).sum=((t.kids_.take i).map (szD d)).sum+((t.kids_.drop i).map (szD d)).sum:=by
  rw [<-List.sum_append, <-List.map_append,List.take_append_drop]
 omega
theorem Y5C{d:Nat}{t:Term}:Z9b d t t.kids_.length=szD (d+1) t:=by unfold Z9b szD;rw [List.take_length]
theorem Z7L:∀ (d:Nat) {F:Nat} (_:BIG+d<=F) {t:Term} (_:TD d t) {m:Int} (_:0<=m) (_:m<=40),∃ v,Q5j F t m=some v/\1<=v/\v<=m+1/\(m<v↔m<(szD d t:Int))/\((szD d t:Int)<=m->v=szD d t)
 | 0,_,_,_,h,_,_,_=>h.elim
 | d+1,0,hF,_,_,_,_,_=>by unfold BIG at hF;omega
 | d+1,F+1,hF,t,h,m,m0,m1=>by
  obtain ⟨_,_,G,D⟩:=h;show ∃ v,Z0Z F (Q5j F) t m=some v/\_
  unfold Z0Z;have e : BIG+d<=F:=by omega
  have s:=e;unfold BIG at s
  suffices hs:∀ (n:Nat) (i:Nat) (v:Int),t.kids_.length-i<n->i<=t.kids_.length->1<=v->v<=m+1->(v<=m->v=(Z9b d t i:Int))->(m<v->m<(Z9b d t i:Int)) ->
    ∃ u,Z2 (fun again (z:Int×Int)=>Q9v F (Q5j F) t m again z.1 z.2) n (v,(i:Int))=some u/\1<=u/\u<=m+1/\(m<u↔m<(szD (d+1) t:Int))/\((szD (d+1) t:Int)<=m->u=szD (d+1) t) by
   refine hs F 0 1 (by omega) (by omega) (by omega) (by omega) (fun _=>by simp [Z9b]) (fun h=>?_);simp [Z9b];omega
  intro n
  induction n with
  | zero=>intro i v h;omega
  | succ n ih=>
   intro i v H I p l g f;show ∃ u,Q9v F (Q5j F) t m (Z2 _ n) v (i:Int)=some u/\_
   unfold Q9v
   by_cases hil:i<t.kids_.length
   .rw [show decide ((i:Int)<((t.kids_.length:Nat):Int))=true from decide_eq_true (by omega)]
    have a:=D _ (V7 hil);have b:=a.op
    by_cases hv:m<v
    .refine ⟨v,?_,p,l,?_,fun h=>?_⟩
     .refine Z4 rfl (Q7 (by omega) (Q7 b (Z4 (decide_eq_true hv) rfl)))
     .exact ⟨fun _=>by have:=f hv;have:=Y0d (d:=d) (i:=i) (t:=t);omega,fun _=>hv⟩
     .have:=f hv;have:=Y0d (d:=d) (i:=i) (t:=t);omega
    .obtain ⟨w,r,K,J,q,B⟩:=Z7L d e a (m:=m-v) (by omega) (by omega)
     have o:=Y0c (d:=d) hil;have x:=g (by omega)
     have j:=ih (i+1) (v+w) (by omega) (by omega) (by omega) (by omega) (fun h=>by
      have:=B (by
       have:¬ m-v<w:=by omega
       have:=mt q.2 this
       omega)
      omega) (fun h=>by
      have:=q.1 (by omega)
      omega)
     obtain ⟨u,C,E⟩:=j;refine ⟨u,?_,E⟩
     refine Z4 rfl (Q7 (by omega) (Q7 b (Q5 (decide_eq_false hv) (Q7 (Z7 (by omega) (by omega)) (Q2 r (Q7 (Z7 (by omega) (by omega)) (Q7 (Z7 (by omega) (by omega)) ?_)))))));rw [<-C];congr 1
   .have k:i=t.kids_.length:=by omega
    subst k;rw [Y5C] at g f
    refine ⟨v,Q5 (decide_eq_false (by omega)) rfl,p,l,⟨f,fun h=>?_⟩,fun h=>?_⟩
    .by_cases hv:m<v
     .exact hv
     .have:=g (by omega);omega
    .by_cases hv:m<v
     .have:=f hv;omega
     .exact g (by omega)
theorem Z5X:∀ (d:Nat) (_:d<=2000000) {F:Nat} (_:BIG+d<=F) {t:Term} (_:TD d t),∃ v,Q3U F t=some v/\1<=v/\v<=41*d/\(40<v↔40<(szD d t:Int))/\((szD d t:Int)<=40->v=szD d t)
 | 0,_,_,_,_,h=>h.elim
 | d+1,_,0,hF,_,_=>by unfold BIG at hF;omega
 | d+1,hd,F+1,hF,t,h=>by
  obtain ⟨_,_,D,C⟩:=h;show ∃ v,Q9B F (Q3U F) t=some v/\_
  unfold Q9B;have e : BIG+d<=F:=by omega
  have x:=e;unfold BIG at x
  suffices hs:∀ (n:Nat) (i:Nat) (v:Int),t.kids_.length-i<n->i<=t.kids_.length->1<=v->v<=41*((d+1:Nat):Int)->(v<=40->v=(Z9b d t i:Int))->(40<v->40<(Z9b d t i:Int)) ->
    ∃ u,Z2 (fun again (z:Int×Int)=>Q7T F (Q3U F) t again z.1 z.2) n (v,(i:Int))=some u/\1<=u/\u<=41*((d+1:Nat):Int)/\(40<u↔40<(szD (d+1) t:Int))/\((szD (d+1) t:Int)<=40->u=szD (d+1) t) by
   exact hs F 0 1 (by omega) (by omega) (by omega) (by omega) (fun _=>by simp [Z9b]) (fun h=>by omega)
  intro n
  induction n with
  | zero=>intro i v h;omega
  | succ n ih=>
   intro i v E G r o f g;show ∃ u,Q7T F (Q3U F) t (Z2 _ n) v (i:Int)=some u/\_
   unfold Q7T
   by_cases hil:i<t.kids_.length
   .rw [show decide ((i:Int)<((t.kids_.length:Nat):Int))=true from decide_eq_true (by omega)]
    have a:=C _ (V7 hil);have b:=a.op
    have p:=Y0c (d:=d) hil
    by_cases hv:v<=40
    .obtain ⟨w,s,I,H,m,q⟩:=Z5X d (by omega) e a
     have B:=f hv;obtain ⟨u,k,l⟩:=ih (i+1) (v+w) (by omega) (by omega) (by omega) (by omega) (fun h=>by
      have:=q (by
       have:¬ 40<w:=by omega
       have:=mt m.2 this
       omega)
      omega) (fun h=>by
      by_cases h40:40<w
      .have:=m.1 h40;omega
      .have:=q (by have:=mt m.2 h40;omega);omega)
     refine ⟨u,?_,l⟩;refine Z4 rfl (Q7 (by omega) (Q7 b (Z4 (decide_eq_true hv) (Q2 s (Q7 (Z7 (by omega) (by omega)) ?_)))))
     unfold Q5q;refine Q7 (Z7 (by omega) (by omega)) ?_
     rw [<-k];congr 1
    .obtain ⟨u,k,l⟩:=ih (i+1) v (by omega) (by omega) r o (fun h=>by omega) (fun h=>by have:=g h;omega)
     refine ⟨u,?_,l⟩;refine Z4 rfl (Q7 (by omega) (Q7 b (Q5 (decide_eq_false hv) ?_)))
     unfold Q5q;refine Q7 (Z7 (by omega) (by omega)) ?_
     rw [<-k];congr 1
   .have j:i=t.kids_.length:=by omega
    subst j;rw [Y5C] at f g
    refine ⟨v,Q5 (decide_eq_false (by omega)) rfl,r,o,⟨g,fun h=>?_⟩,fun h=>?_⟩
    .by_cases hv:40<v
     .exact hv
     .have:=f (by omega);omega
    .by_cases hv:40<v
     .have:=g hv;omega
     .exact f (by omega)
def Q5F(n:Int):Bool:=n==1||(n==2||(n==4||(n==8||n==16)))
theorem Z0z(F:Nat)(n:Int):Q5Q F n=some (Q5F n):=by
 unfold Q5Q Q1H Q5F
 cases h1:(n==(1:Int)) <;> cases h2:(n==(2:Int)) <;> cases h3:(n==(4:Int)) <;> cases h4:(n==(8:Int)) <;> rfl
theorem Z5A(F:Nat)(n:Int):Q3R F n=some (Q5F n):=by
 unfold Q3R
 by_cases h:1<=n/\n<=16
 .have b:n=1\/n=2\/n=3\/n=4\/n=5\/n=6\/n=7\/n=8\/n=9\/n=10\/n=11\/n=12\/n=13\/n=14\/n=15\/n=16:=by omega
  rcases b with rfl|rfl|rfl|rfl|rfl|rfl|rfl|rfl|rfl|rfl|rfl|rfl|rfl|rfl|rfl|rfl <;> rfl
 .have f:Q5F n=false:=by
   unfold Q5F;simp only [Bool.or_eq_false_iff,beq_eq_false_iff_ne]
   omega
  rw [f];refine Q6 (fun e=>Q6 (fun a=>?_) (fun _=>rfl)) (fun _=>rfl)
  exact absurd ⟨of_decide_eq_true e,of_decide_eq_true a⟩ h
end
end Go.Ab
end
section
namespace Go.Ab
set_option maxRecDepth 20000
noncomputable section
def Z0R(t:Term):Bool:=
 if t.op_=1 then t.num_==0&&(t.more_==0&&t.kids_.length==0)
 else if t.op_=2 then (decide (0<=t.num_)&&decide (t.num_<=39))&&(t.more_==0&&t.kids_.length==0)
 else if t.op_=3 then (decide (0<=t.num_)&&decide (t.num_<=40))&&(t.more_==0&&t.kids_.length==0)
 else if t.op_=4 then Q5F t.num_&&(t.more_==0&&t.kids_.length==0)
 else if t.op_=5 then (decide (0<=t.num_)&&decide (t.num_<=15))&&(t.more_==0&&t.kids_.length==0)
 else if t.op_=6 then (decide (2<=t.num_)&&decide (t.num_<=10))&&(t.more_==0&&t.kids_.length==0)
 else if t.op_=7 then (decide (1<=t.num_)&&decide (t.num_<=10))&&(Q5F t.more_&&t.kids_.length==0)
 else if t.op_=8 then (decide (1<=t.num_)&&decide (t.num_<=10))&&(t.more_==0&&t.kids_.length==0)
 else if t.op_=9\/t.op_=10 then t.num_==0&&(t.more_==0&&decide (1<=t.kids_.length))
 else if t.op_=11 then t.num_==0&&(t.more_==0&&t.kids_.length==1)
 else false
def Q6C:Nat->Term->Bool
 | 0,_=>false
 | d+1,t=>Z0R t&&t.kids_.all (Q6C d)
def Z6H:Nat->Term->Nat
 | 0,_=>0
 | d+1,t=>1+t.kids_.foldl (fun n k=>max n (Z6H d k)) 0
def Q6j:Nat->Nat->Term->Bool
 | 0,_,_=>false
 | d+1,n,t=> !decide (n=0)&&(Z0R t&&t.kids_.all (Q6j d (n-1)))
theorem Y0I{α:Type}(f:α->Nat):∀ (l:List α) (a n:Nat),l.foldl (fun n k=>max n (f k)) a<=n↔a<=n/\∀ k ∈ l,f k<=n
 | [],a,n=>by simp
 | x::l,a,n=>by
  rw [List.foldl_cons,Y0I f l];simp only [List.mem_cons,forall_eq_or_imp]
  constructor
  .rintro ⟨g,b⟩;exact ⟨by omega,by omega,b⟩
  .rintro ⟨g,b,e⟩;exact ⟨by omega,e⟩
theorem Z6Y:∀ (d n:Nat) (t:Term),TD d t->Q6j d n t=(decide (Z6H d t<=n)&&Q6C d t)
 | 0,_,_,h=>h.elim
 | d+1,n,t,h=>by
  unfold Q6j Z6H Q6C;have b:=h.2.2.2
  cases n with
  | zero=>simp
  | succ n=>
   have f:t.kids_.all (Q6j d (n+1-1))=(t.kids_.all (fun k=>decide (Z6H d k<=n))&&t.kids_.all (Q6C d)):=by
    rw [Bool.eq_iff_iff,Bool.and_eq_true,List.all_eq_true,List.all_eq_true,List.all_eq_true];constructor
    .intro h
     refine ⟨fun k a=>?_,fun k a=>?_⟩ <;> (have:=h k a;rw [Nat.add_sub_cancel,Z6Y d n k (b k a),Bool.and_eq_true] at this)
     .exact this.1
     .exact this.2
    .rintro ⟨i,g⟩ k a
     rw [Nat.add_sub_cancel,Z6Y d n k (b k a),i k a,g k a];rfl
   have e:decide (1+t.kids_.foldl (fun n k=>max n (Z6H d k)) 0<=n+1)=t.kids_.all (fun k=>decide (Z6H d k<=n)):=by
    rw [Bool.eq_iff_iff,decide_eq_true_eq,List.all_eq_true];have:=Y0I (Z6H d) t.kids_ 0 n
    simp only [decide_eq_true_eq];constructor
    .intro h;exact (this.1 (by omega)).2
    .intro h;have:=this.2 ⟨by omega,h⟩;omega
   rw [f,e]
   cases Z0R t <;> cases t.kids_.all (fun k=>decide (Z6H d k<=n)) <;> cases t.kids_.all (Q6C d) <;> simp
theorem Z1X:∀ (d:Nat) (_:d<=2000000) {F:Nat} (_:BIG+d<=F) {t:Term} (_:TD d t),Q3T F t=some (Z6H d t:Int)/\Z6H d t<=d
 | 0,_,_,_,_,h=>h.elim
 | d+1,_,0,hF,_,_=>by unfold BIG at hF;omega
 | d+1,hd,F+1,hF,t,h=>by
  obtain ⟨_,_,q,l⟩:=h;have a : BIG+d<=F:=by omega
  have m:=a;unfold BIG at m
  have p:t.kids_.foldl (fun n k=>max n (Z6H d k)) 0<=d:=(Y0I _ _ _ _).2 ⟨by omega,fun k g=>(Z1X d (by omega) a (l k g)).2⟩;refine ⟨?_,by unfold Z6H;omega⟩
  show Q9A F (Q3T F) t=_;unfold Q9A
  suffices hs:∀ (n:Nat) (i:Nat) (v:Nat),t.kids_.length-i<n->i<=t.kids_.length->(t.kids_.drop i).foldl (fun n k=>max n (Z6H d k)) v=t.kids_.foldl (fun n k=>max n (Z6H d k)) 0->v<=d ->
    Z2 (fun again (z:Int×Int)=>Q7S F (Q3T F) t again z.1 z.2) n ((v:Int),(i:Int))=some ((Z6H (d+1) t:Nat):Int) by
   exact hs F 0 0 (by omega) (by omega) rfl (by omega)
  intro n
  induction n with
  | zero=>intro i v h;omega
  | succ n ih=>
   intro i v r s e u;show Q7S F (Q3T F) t (Z2 _ n) (v:Int) (i:Int)=_
   unfold Q7S
   by_cases hil:i<t.kids_.length
   .have b:=l _ (V7 hil)
    obtain ⟨o,w⟩:=Z1X d (by omega) a b;rw [Q1P hil,List.foldl_cons] at e
    have f:=ih (i+1) (max v (Z6H d (gl t.kids_ i))) (by omega) (by omega) e (by omega);refine Z4 (decide_eq_true (by omega)) (Q7 (by omega) (Q7 b.op (Q2 o (Q7 (Z7 (by omega) (by omega)) ?_))))
    rw [<-f];congr 1
    refine Prod.ext ?_ rfl;show G2 _ _=_
    unfold G2;split <;> omega
   .have j:i=t.kids_.length:=by omega
    subst j;rw [List.drop_length,List.foldl_nil] at e
    refine Q5 (decide_eq_false (by omega)) ?_;unfold Z1Y
    refine Q7 (Z7 (by omega) (by omega)) ?_;unfold Z6H
    rw [<-e];congr 1;omega
theorem Z7R:∀ (d:Nat) {F:Nat} (_:BIG+d<=F) {t:Term} (_:TD d t),Q0m F t=some (Q6C d t)
 | 0,_,_,_,h=>h.elim
 | d+1,0,hF,_,_=>by unfold BIG at hF;omega
 | d+1,F+1,hF,t,h=>by
  obtain ⟨_,_,D,B⟩:=h;have o : BIG+d<=F:=by omega
  have v:=o;unfold BIG at v
  show Z1n F (Q0m F) t=_;have k:Z2 (fun f (z:Int)=>Q4A F (Q0m F) t f z) F (0:Int)=some (t.kids_.all (Q6C d)):=by
   refine Y5V (fun l=>some (l.all (Q6C d))) (fun f i q r=>?_) (fun f=>?_) (by omega)
   .show Q4A F (Q0m F) t f (i:Int)=_
    unfold Q4A;have m:=B _ (V7 q)
    refine Z4 (decide_eq_true (by omega)) (Q7 (by omega) (Q7 m.op (Q2 (Z7R d o m) ?_)));show br (!Q6C d (gl t.kids_ i)) _ _=some (Q6C d (gl t.kids_ i)&&_)
    cases Q6C d (gl t.kids_ i) with
    | false=>rfl
    | true=>exact Q5 rfl (Q7 (Z7 (by omega) (by omega)) r)
   .show Q4A F (Q0m F) t f (t.kids_.length:Int)=_
    unfold Q4A;exact Q5 (decide_eq_false (by omega)) rfl
  have k2:∀ b,Q4y F (Q0m F) t b=some (!b&&t.kids_.all (Q6C d)):=fun b=>by
   unfold Q4y
   cases b with
   | true=>rfl
   | false=>exact Q5 rfl k
  have k1:∀ (n:Int) (a b:Bool),W5 F (Q0m F) t n a b=some ((b&&(a&&((t.kids_.length:Nat):Int)==n))&&t.kids_.all (Q6C d)):=fun n a b=>by
   unfold W5
   cases b <;> cases a
   .rw [k2];rfl
   .rw [k2];rfl
   .exact Q5 rfl (Z4 rfl (k2 _))
   .refine Q5 rfl (Q5 rfl ((k2 _).trans ?_))
    congr 2
    rw [bne,Bool.not_not];rfl
  have s:∀ (n:Nat),(((t.kids_.length:Nat):Int)==(n:Int))=(t.kids_.length==n):=fun n=>by
   rw [Bool.eq_iff_iff,beq_iff_eq,beq_iff_eq];omega
  have w:(((t.kids_.length:Nat):Int)==((t.kids_.length:Nat):Int))=true:=by simp
  have u:(decide ((0:Int)<((t.kids_.length:Nat):Int)))=decide (1<=t.kids_.length):=by rw [Bool.eq_iff_iff,decide_eq_true_eq,decide_eq_true_eq];omega
  have j:(((t.kids_.length:Nat):Int)==0)=(t.kids_.length==0):=s 0;have C:(((t.kids_.length:Nat):Int)==1)=(t.kids_.length==1):=s 1
  unfold Z1n Q6C Z0R;have K:∀ {x:Option Bool} {n:Int} {a b c:Bool},x=W5 F (Q0m F) t n a b->(b&&(a&&((t.kids_.length:Nat):Int)==n))=c->x=some (c&&t.kids_.all (Q6C d)):=fun h e=>by rw [h,k1,e]
  have R:∀ {lo q:Int} {a:Bool} {c:Bool},(W5 F (Q0m F) t 0 a (decide (lo<=t.num_)&&decide (t.num_<=q)))=some c->br (decide (lo<=t.num_)) (W5 F (Q0m F) t 0 a (decide (t.num_<=q))) (W5 F (Q0m F) t 0 a false)=some c:=fun h=>by
   rw [<-h];cases decide (_<=t.num_) <;> rfl
  by_cases h1:t.op_=1
  .rw [if_pos h1]
   exact Z4 (by simp [h1]) (K rfl (by rw [j]))
  rw [if_neg h1];refine Q5 (by simp [h1]) ?_
  by_cases h2:t.op_=2
  .rw [if_pos h2]
   refine Z4 (by simp [h2]) ?_;rw [show decide (t.num_<40)=decide (t.num_<=39) from decide_eq_decide.2 (by omega)]
   exact R (K rfl (by rw [j]))
  rw [if_neg h2];refine Q5 (by simp [h2]) ?_
  by_cases h3:t.op_=3
  .rw [if_pos h3]
   exact Z4 (by simp [h3]) (R (K rfl (by rw [j])))
  rw [if_neg h3];refine Q5 (by simp [h3]) ?_
  by_cases h4:t.op_=4
  .rw [if_pos h4]
   exact Z4 (by simp [h4]) (Q2 (Z0z F _) (K rfl (by rw [j])))
  rw [if_neg h4];refine Q5 (by simp [h4]) ?_
  by_cases h5:t.op_=5
  .rw [if_pos h5]
   exact Z4 (by simp [h5]) (R (K rfl (by rw [j])))
  rw [if_neg h5];refine Q5 (by simp [h5]) ?_
  by_cases h6:t.op_=6
  .rw [if_pos h6]
   exact Z4 (by simp [h6]) (R (K rfl (by rw [j])))
  rw [if_neg h6];refine Q5 (by simp [h6]) ?_
  by_cases h7:t.op_=7
  .rw [if_pos h7]
   refine Z4 (by simp [h7]) ?_;refine Q6 (fun g=>Q2 (Z0z F _) (K rfl ?_)) (fun g=>Q2 (Z0z F _) (K rfl ?_))
   .rw [j,g,Bool.true_and]
   .rw [g];rfl
  rw [if_neg h7];refine Q5 (by simp [h7]) ?_
  by_cases g:t.op_=8
  .rw [if_pos g]
   exact Z4 (by simp [g]) (R (K rfl (by rw [j])))
  rw [if_neg g];refine Q5 (by simp [g]) ?_
  have p:Q4z F (Q0m F) t true=some ((t.num_==0&&(t.more_==0&&decide (1<=t.kids_.length)))&&t.kids_.all (Q6C d)):=by
   unfold Q4z;refine Z4 rfl (Q6 (fun h=>K rfl ?_) (fun h=>K rfl ?_))
   .rw [w,u,h,Bool.true_and,Bool.and_true,Bool.and_comm]
   .rw [h];rfl
  by_cases h9:t.op_=9\/t.op_=10
  .rw [if_pos h9]
   refine Q6 (fun h=>?_) (fun h=>?_)
   .rw [h];exact p
   .have:t.op_=10:=by simp at h;omega
    rw [this];exact p
  rw [if_neg h9];refine Q5 (by simp;omega) ?_
  rw [show (t.op_==(10:Int))=false by simp;omega];unfold Q4z
  refine Q5 rfl ?_
  by_cases h11:t.op_=11
  .rw [if_pos h11]
   exact Z4 (by simp [h11]) (K rfl (by rw [C]))
  .rw [if_neg h11]
   exact Q5 (by simp [h11]) (K rfl rfl)
end
end Go.Ab
end
section
namespace Go.Ab
set_option maxRecDepth 20000
noncomputable section
theorem Z3b{F:Nat}{l:List Term}{q:Term->Option Bool}(p:Term->Bool)(hF:l.length<F)(hl:l.length<=1000000000)(ho:∀ r ∈ l,I64 r.op_)(hq:∀ r ∈ l,q r=some (p r)):∃ i:Int,Q2v F l q=some i/\(0<=i↔l.any p=true):=by
 unfold Q2v
 suffices hs:∀ (n i:Nat),l.length-i<n->i<=l.length->∃ j:Int,Z2 (fun again (z:Int)=>Q1l F l q again z) n (i:Int)=some j/\(0<=j↔(l.drop i).any p=true) by
  simpa using hs F 0 (by omega) (by omega)
 intro n
 induction n with
 | zero=>intro i h;omega
 | succ n ih=>
  intro i g f;show ∃ j:Int,Q1l F l q (Z2 _ n) (i:Int)=some j/\_
  unfold Q1l
  by_cases hil:i<l.length
  .have a:=V7 hil
   rw [Y3z hil]
   cases hp:p (gl l i) with
   | true=>exact ⟨i,Z4 (decide_eq_true (by omega)) (Q7 (by omega) (Q7 (ho _ a) (Q2 (hq _ a) (Z4 hp rfl)))),by simp⟩
   | false=>
    obtain ⟨j,b,e⟩:=ih (i+1) (by omega) (by omega);refine ⟨j,Z4 (decide_eq_true (by omega)) (Q7 (by omega) (Q7 (ho _ a) (Q2 (hq _ a) (Q5 hp (Q7 (Z7 (by omega) (by omega)) ?_))))),by simpa using e⟩
    rw [<-b];congr 1
  .refine ⟨-1,Q5 (decide_eq_false (by omega)) rfl,?_⟩
   rw [List.drop_eq_nil_of_le (by omega)];simp
theorem Z1e{F:Nat}{l:List Term}{q:Term->Option Bool}(p:Term->Bool)(hF:l.length<F)(hl:l.length<=1000000000)(ho:∀ r ∈ l,I64 r.op_)(hq:∀ r ∈ l,q r=some (p r)):Q1o F l q=some (l.any p):=by
 obtain ⟨i,a,b⟩:=Z3b p hF hl ho hq;unfold Q1o
 refine Q2 a ?_;rw [Option.some.injEq,Bool.eq_iff_iff,decide_eq_true_eq];exact b
def Y0x(n:Int):Int×Int×Bool:=if n=2 then (0,39,true) else if n=3 then (0,40,true) else if n=4 then (1,16,true) else if n=5 then (0,15,true) else if n=6 then (2,10,true) else if n=7\/n=8 then (1,10,true) else (0,0,false)
def Z3r(n:Int):Int×Int:=if n=9\/n=10 then (1,40) else if n=11 then (1,1) else (0,0)
theorem Y2h(F:Nat)(n:Int):Z2D F n=some (Y0x n):=by
 unfold Z2D Y0x Q7G
 by_cases h2:n=2
 .subst h2;rfl
 by_cases h3:n=3
 .subst h3;rfl
 by_cases h4:n=4
 .subst h4;rfl
 by_cases h5:n=5
 .subst h5;rfl
 by_cases h6:n=6
 .subst h6;rfl
 by_cases h7:n=7
 .subst h7;rfl
 by_cases h8:n=8
 .subst h8;rfl
 have e:∀ m:Int,n≠m->(n==m)=false:=fun m h=>by simpa using h
 rw [e 2 h2,e 3 h3,e 4 h4,e 5 h5,e 6 h6,e 7 h7,e 8 h8,if_neg h2,if_neg h3,if_neg h4,if_neg h5,if_neg h6,if_neg (by omega)];rfl
theorem Y4O(F:Nat)(n:Int):Z6U F n=some (Z3r n):=by
 unfold Z6U Z3r Z0Y;have e:∀ m:Int,n≠m->(n==m)=false:=fun m h=>by simpa using h
 by_cases h2:n=9
 .subst h2;rfl
 by_cases h3:n=10
 .subst h3;rfl
 by_cases h4:n=11
 .subst h4;rfl
 rw [e 9 h2,e 10 h3,e 11 h4,if_neg (by omega),if_neg h4];rfl
def W0U(t:Term):Bool:=((Y0x t.op_).2.2&&(decide (t.num_<(Y0x t.op_).1)||decide ((Y0x t.op_).2.1<t.num_)))||(!(Y0x t.op_).2.2&&t.num_ != 0)
def Y7C(t:Term):Bool:=(t.op_==4 && !Q5F t.num_)||((t.op_==7 && !Q5F t.more_)||(t.op_ != 7&&t.more_ != 0))
def Y6x(t:Term):Bool:=decide (((t.kids_.length:Nat):Int)<(Z3r t.op_).1)||decide ((Z3r t.op_).2<((t.kids_.length:Nat):Int))
theorem Y9V{t:Term}(hl:t.kids_.length<=40):(!(decide (t.op_<1)||decide (11<t.op_))&&(!W0U t&&(!Y7C t && !Y6x t)))=Z0R t:=by
 have g:∀ n:Int,Q5F n=true->1<=n/\n<=16:=fun n h=>by
  unfold Q5F at h;simp only [Bool.or_eq_true,beq_iff_eq] at h;omega
 have k:∀ n:Nat,(t.kids_.length==n)=decide (t.kids_.length=n):=fun n=>by rw [Bool.eq_iff_iff,beq_iff_eq,decide_eq_true_eq]
 rw [Bool.eq_iff_iff];unfold W0U Y7C Y6x Y0x Z3r Z0R
 generalize t.op_=o,t.num_=n,t.more_=m at *;have j:∀ {p q:Prop},(p↔q)->(p↔q):=fun h=>h
 by_cases h:o<1\/11<o
 .rw [show (decide (o<1)||decide (11<o))=true by simpa using h]
  have e:∀ m:Int,1<=m->m<=11->¬ o=m:=fun m _ _=>by omega
  simp [e 1,e 2,e 3,e 4,e 5,e 6,e 7,e 8,e 9,e 10,e 11]
 have i:o=1\/o=2\/o=3\/o=4\/o=5\/o=6\/o=7\/o=8\/o=9\/o=10\/o=11:=by omega
 rcases i with rfl|rfl|rfl|rfl|rfl|rfl|rfl|rfl|rfl|rfl|rfl <;> simp <;> (try omega)
 constructor
 .rintro ⟨_,⟨a,f⟩,b⟩;exact ⟨a,f,b⟩
 .rintro ⟨a,f,b⟩;exact ⟨g _ a,⟨a,f⟩,b⟩
theorem Z7K:∀ (d:Nat) {F:Nat} (_:BIG+d<=F) {t:Term} (_:TD d t) (_:szD d t<=40) (n:Nat) (_:n<=8),U7 F t (n:Int)=some (Q6j d n t)
 | 0,_,_,_,h,_,_,_=>h.elim
 | d+1,0,hF,_,_,_,_,_=>by unfold BIG at hF;omega
 | d+1,F+1,hF,t,h,hs,n,hn=>by
  obtain ⟨_,_,E,g⟩:=h;have f : BIG+d<=F:=by omega
  have u:=f;unfold BIG at u
  have p:t.kids_.length<=39:=by
   have:t.kids_.length<=(t.kids_.map (szD d)).sum:=by
    have:∀ l:List Term,(∀ k ∈ l,TD d k)->l.length<=(l.map (szD d)).sum:=by
     intro l
     induction l with
     | nil=>intro _;simp
     | cons x l ih=>intro r;have:=W1A (r x (by simp));have:=ih fun k g=>r k (by simp [g]);simp;omega
    exact this _ g
   unfold szD at hs;omega
  have m:∀ k ∈ t.kids_,szD d k<=40:=fun k a=>by
   obtain ⟨i,q,rfl⟩:=List.getElem_of_mem a;have v:=Y0c (d:=d) q
   have G:=Y0d (d:=d) (i:=i+1) (t:=t);rw [K8 q] at v;omega
  show Z0X F (U7 F) t (n:Int)=_;unfold Z0X
  refine Q2 (Y2h F _) (Q2 (Y4O F _) ?_);have D:∀ b,n≠0->Q4u F (U7 F) t (n:Int) b=some (!b&&t.kids_.all (Q6j d (n-1))):=fun b e=>by
   unfold Q4u
   cases b with
   | true=>rfl
   | false=>
    refine Q5 rfl (Q2 (Z1e (fun k=> !Q6j d (n-1) k) (by omega) (by omega) (fun k a=>(g k a).op) fun k a=>?_) ?_)
    .unfold Z4e
     refine Q7 (Z7 (by omega) (by omega)) ?_;rw [show ((n:Int)-1)=((n-1:Nat):Int) by omega]
     exact Q2 (Z7K d f (g k a) (m k a) (n-1) (by omega)) rfl
    .rw [Bool.not_false,Bool.true_and,List.not_any_eq_all_not];simp
  have k2:∀ b,n≠0->W9 F (U7 F) t (n:Int) (Z3r t.op_) b=some (!b&&(!Y6x t&&t.kids_.all (Q6j d (n-1)))):=fun b e=>by
   unfold W9 Y6x
   cases b with
   | true=>rfl
   | false=>
    refine Q5 rfl ?_;rw [Q7x (fun b=>Q4u F (U7 F) t (n:Int) b),D _ e];rfl
  have k1:∀ b,n≠0->Q0L F (U7 F) t (n:Int) (Z3r t.op_) b=some (!b&&(!Y7C t&&(!Y6x t&&t.kids_.all (Q6j d (n-1))))):=fun b e=>by
   unfold Q0L Y7C
   cases b with
   | true=>rfl
   | false=>
    refine Q5 rfl ?_;have C:(Q3R F t.more_).bind (fun z=>br (!z) (W9 F (U7 F) t (n:Int) (Z3r t.op_) true) (br (t.op_ != (7:Int)) (W9 F (U7 F) t (n:Int) (Z3r t.op_) (t.more_ != (0:Int))) (W9 F (U7 F) t (n:Int) (Z3r t.op_) false)))=W9 F (U7 F) t (n:Int) (Z3r t.op_) (!Q5F t.more_||(t.op_ != 7&&t.more_ != 0)):=by
     refine Q2 (Z5A F _) ?_
     cases Q5F t.more_ <;> cases (t.op_ != (7:Int)) <;> rfl
    have s:(br (t.op_==(7:Int)) ((Q3R F t.more_).bind (fun z=>br (!z) (W9 F (U7 F) t (n:Int) (Z3r t.op_) true) (br (t.op_ != (7:Int)) (W9 F (U7 F) t (n:Int) (Z3r t.op_) (t.more_ != (0:Int))) (W9 F (U7 F) t (n:Int) (Z3r t.op_) false)))) (br (t.op_ != (7:Int)) (W9 F (U7 F) t (n:Int) (Z3r t.op_) (t.more_ != (0:Int))) (W9 F (U7 F) t (n:Int) (Z3r t.op_) false)))
      = W9 F (U7 F) t (n:Int) (Z3r t.op_) ((t.op_==7 && !Q5F t.more_)||(t.op_ != 7&&t.more_ != 0)):=by
     rw [C]
     cases h7:(t.op_==(7:Int)) with
     | true=>rw [show (t.op_ != (7:Int))=false by rw [bne,h7];rfl];cases Q5F t.more_ <;> rfl
     | false=>rw [show (t.op_ != (7:Int))=true by rw [bne,h7];rfl];rfl
    rw [s];refine Q6 (fun o=>Q2 (Z5A F _) ?_) (fun o=>?_)
    .rw [o,Bool.true_and]
     cases Q5F t.num_ with
     | false=>refine Z4 rfl ((k2 _ e).trans ?_);rfl
     | true=>refine Q5 rfl ((k2 _ e).trans ?_);rfl
    .rw [o];exact k2 _ e
  have B:∀ b,(b=false->n≠0)->Q1R F (U7 F) t (n:Int) (Y0x t.op_) (Z3r t.op_) b=some (!b&&(!W0U t&&(!Y7C t&&(!Y6x t&&t.kids_.all (Q6j d (n-1)))))):=fun b w=>by
   unfold Q1R W0U
   cases b with
   | true=>rfl
   | false=>
    have e:=w rfl;refine Q5 rfl ?_
    have k1:=fun b=>k1 b e
    generalize hK:Q0L F (U7 F) t (n:Int) (Z3r t.op_)=K at k1 ⊢;generalize (!Y7C t&&(!Y6x t&&t.kids_.all (Q6j d (n-1))))=rest at k1 ⊢
    generalize (t.num_ != 0)=nz
    cases (Y0x t.op_).2.2 <;> cases decide (t.num_<(Y0x t.op_).1) <;> cases decide ((Y0x t.op_).2.1<t.num_) <;> cases nz <;> simp only [br,k1] <;> rfl
  have j:(((n:Int))==0)=decide (n=0):=by rw [Bool.eq_iff_iff,beq_iff_eq,decide_eq_true_eq];omega
  rw [j];rw [Q7x (fun b=>Q1R F (U7 F) t (n:Int) (Y0x t.op_) (Z3r t.op_) b),Q7x (fun b=>Q1R F (U7 F) t (n:Int) (Y0x t.op_) (Z3r t.op_) b)]
  rw [B _ (fun h=>by simp only [Bool.or_eq_false_iff,decide_eq_false_iff_not] at h;exact h.2.2)];unfold Q6j
  rw [<-Y9V (t:=t) (by omega)]
  cases decide (t.op_<1) <;> cases decide (11<t.op_) <;> cases decide (n=0) <;> cases W0U t <;> cases Y7C t <;> cases Y6x t <;> rfl
def Q8C(d:Nat)(t:Term):Int:=if 40<szD d t then 1 else if Q6j d 8 t=true then 0 else 16
theorem Z7M{d F:Nat}(hF:BIG+d<=F){t:Term}(h:TD d t):Z1G F t=some (Q8C d t):=by
 unfold Z1G Q8C;obtain ⟨v,f,_,_,b,_⟩:=Z7L d hF h (m:=40) (by omega) (by omega)
 refine Q2 f (Q6 (fun a=>?_) (fun a=>?_))
 .have:=b.1 (of_decide_eq_true a);rw [if_pos (by omega)]
 .have e:¬ 40<szD d t:=fun h=>of_decide_eq_false a (b.2 (by omega))
  rw [if_neg e];refine Q2 (Z7K d hF h (by omega) 8 (by omega)) ?_
  cases Q6j d 8 t <;> rfl
theorem Y2C{d F:Nat}(hd:d<=2000000)(hF:BIG+d<=F){t:Term}(h:TD d t):Z2L F t=some (Q8C d t):=by
 unfold Z2L Q8C;obtain ⟨v,g,_,_,e,_⟩:=Z5X d hd hF h
 refine Q2 g (Q6 (fun b=>?_) (fun b=>?_))
 .have:=e.1 (of_decide_eq_true b);rw [if_pos (by omega)]
 .have f:¬ 40<szD d t:=fun h=>of_decide_eq_false b (e.2 (by omega))
  rw [if_neg f,Z6Y d 8 t h];refine Q2 (Z1X d hd hF h).1 (Q6 (fun a=>?_) (fun a=>?_))
  .have a:=of_decide_eq_true a
   rw [decide_eq_false (by omega)];rfl
  .have a:=of_decide_eq_false a
   rw [decide_eq_true (by omega)];refine Q2 (Z7R d hF h) ?_
   unfold Q7U
   cases Q6C d t <;> rfl
theorem Y2k(d:Nat):Q8C (d+1) ⟨1,0,0,[]⟩=0:=by
 unfold Q8C;rw [if_neg (by simp [szD]),if_pos]
 simp [Q6j,Z0R]
end
end Go.Ab
end
section
namespace Go.Ab
set_option maxRecDepth 20000
noncomputable section
def atS(y:Int)(cs:List Crop)(hs:List Rg_)(zs:List A2_)(d c:Int)(A:List Rect)(t:Term):TS:=
 if t.op_=2 then Z9T A (c==t.num_)
 else if t.op_=3 then Z9T A ((gl cs c.toNat).f_==t.num_)
 else if t.op_=4 then Z9T A (Y3a cs c t.num_)
 else if t.op_=5 then Y3X A (inR (W4 zs d fun k=>k==t.num_))
 else if t.op_=6 then smS A hs cs y (gl cs c.toNat).f_ (t.num_.toNat-1)
 else if t.op_=7 then ⟨knS A hs (y-t.num_) fun k=>Y3a cs k t.more_,knS A hs (y-t.num_) fun k=> !Y3a cs k t.more_⟩
 else if t.op_=8 then Y3X A (inR (yrs hs (y-t.num_) fun _=>true))
 else Z9T A true
def evS(y:Int)(cs:List Crop)(hs:List Rg_)(zs:List A2_)(d c:Int)(A:List Rect):Nat->Term->TS
 | 0,_=>Z9T A true
 | e+1,t=>
  if t.op_=9 then ⟨fun u v=>inR A u v&&t.kids_.all fun k=>(evS y cs hs zs d c A e k).Y u v,fun u v=>t.kids_.any fun k=>(evS y cs hs zs d c A e k).N u v⟩
  else if t.op_=10 then ⟨fun u v=>t.kids_.any fun k=>(evS y cs hs zs d c A e k).Y u v,fun u v=>inR A u v&&t.kids_.all fun k=>(evS y cs hs zs d c A e k).N u v⟩
  else if t.op_=11 then ⟨(evS y cs hs zs d c A e (gl t.kids_ 0)).N,(evS y cs hs zs d c A e (gl t.kids_ 0)).Y⟩
  else atS y cs hs zs d c A t
variable {F:Nat} {cs:List Crop} {hs:List Rg_} {zs:List A2_} {y c d:Int} {A:List Rect}
theorem TIn.turn{s:TS}(h:TIn A s):TIn A ⟨s.N,s.Y⟩:=⟨h.fN,h.fY,h.sN,h.sY⟩
theorem W3F(t:Term):TIn A (atS y cs hs zs d c A t):=by
 unfold atS
 repeat' split
 .exact Y0U _ _
 .exact Y0U _ _
 .exact Y0U _ _
 .exact W0D (V3 _)
 .exact Y7O _ _ _ _ _ _
 .exact ⟨Z4H _ _ _ _,Z4H _ _ _ _,fun _ _ h=>Y0z h,fun _ _ h=>Y0z h⟩
 .exact W0D (V3 _)
 .exact Y0U _ _
theorem Y8h{B:Sq}(hB:Fin B){α:Type}(f:α->Sq):∀ (l:List α),(∀ k ∈ l,Fin (f k))->Fin fun u v=>B u v&&l.all fun k=>f k u v
 | [],_=>by simpa using hB
 | k::l,h=>by
  have b:=Z4I (Y8h hB f l fun j a=>h j (List.mem_cons_of_mem _ a)) (h k List.mem_cons_self);have e:(fun u v=>(B u v&&l.all fun k=>f k u v)&&f k u v)=fun u v=>B u v&&(k::l).all fun k=>f k u v:=by
   funext u v
   rw [List.all_cons]
   cases B u v <;> cases f k u v <;> simp
  rw [<-e];exact b
theorem Y8g{α:Type}(f:α->Sq):∀ (l:List α),(∀ k ∈ l,Fin (f k))->Fin fun u v=>l.any fun k=>f k u v
 | [],_=>by simpa using Y8i
 | k::l,h=>by
  have a:=Y7r (h k List.mem_cons_self) (Y8g f l fun j b=>h j (List.mem_cons_of_mem _ b));simpa using a
theorem Y7F{α:Type}(f:α->TS)(l:List α)(h:∀ k ∈ l,TIn A (f k)):TIn A ⟨fun u v=>inR A u v&&l.all fun k=>(f k).Y u v,fun u v=>l.any fun k=>(f k).N u v⟩:=by
 refine ⟨Y8h (V3 A) (fun k=>(f k).Y) l fun k a=>(h k a).fY,Y8g (fun k=>(f k).N) l fun k a=>(h k a).fN,fun u v b=>?_,fun u v b=>?_⟩
 .simp only [Bool.and_eq_true] at b
  exact b.1
 .obtain ⟨k,a,e⟩:=List.any_eq_true.1 b
  exact (h k a).sN u v e
theorem Y1i:∀ (e:Nat) (t:Term),TIn A (evS y cs hs zs d c A e t)
 | 0,_=>Y0U _ _
 | e+1,t=>by
  unfold evS;split
  .exact Y7F _ _ fun k _=>Y1i e k
  split
  .exact (Y7F (fun k=>⟨(evS y cs hs zs d c A e k).N,(evS y cs hs zs d c A e k).Y⟩) t.kids_ fun k _=>(Y1i e k).turn).turn
  split
  .exact (Y1i e _).turn
  .exact W3F t
structure PL (p:TermPlace) (y:Int) (cs:List Crop) (hs:List Rg_) (zs:List A2_) (d c:Int) (A:List Rect):Prop where
 yr:p.world_.y_=y
 cs:p.world_.crops_=cs
 hs:p.world_.history_=hs
 zs:p.world_.zones_=zs
 dd:p.world_.day_=d
 cr:p.line_.c_=c
 re:p.t_=A
theorem Y7b{n:Nat}{L:List A2_}(h:∀ f ∈ L,Box n f.g_.t_)(d:Int)(p:Int->Bool):Box n (W4 L d p):=fun r a=>by
 unfold W4 at a;obtain ⟨f,e,b⟩:=List.mem_flatMap.1 a
 exact h f (List.mem_filter.1 e).1 r b
theorem W3x{t:Term}(hn:Z0R t=true)(q:t.op_=6):2<=t.num_/\t.num_<=10:=by
 unfold Z0R at hn;simp [q] at hn
 omega
theorem W3w{t:Term}(hn:Z0R t=true)(q:t.op_=7):(1<=t.num_/\t.num_<=10)/\Q5F t.more_=true:=by
 unfold Z0R at hn;simp [q] at hn
 exact ⟨by omega,hn.2.1⟩
theorem W3v{t:Term}(hn:Z0R t=true)(q:t.op_=8):1<=t.num_/\t.num_<=10:=by
 unfold Z0R at hn;simp [q] at hn
 omega
theorem W0g{n:Nat}{L:List A2_}(h:LB n L){f:A2_}(hf:f ∈ L):Val f.g_.t_:=((Z1z f).1 (h.vl.one f hf)).2.2.2.2.2.2.2.2
theorem LB.few'{n:Nat}{L:List A2_}(h:LB n L)(d:Int)(p:Int->Bool):(W4 L d p).length<=7200:=by
 have b:=h.vl.len;have:∀ (M:List A2_),(∀ f ∈ M,f.g_.t_.length<=120)->(W4 M d p).length<=120*M.length:=by
  intro M
  induction M with
  | nil=>intro _;simp [W4]
  | cons f M ih=>
   intro a;rw [Z0a]
   have k:=a f List.mem_cons_self;have j:=ih fun g i=>a g (List.mem_cons_of_mem _ i)
   rw [List.length_append,List.length_cons];split
   .omega
   .simp;omega
 have:=this L fun f e=>(W0g h e).1
 omega
theorem Y4P(hF:BIG<=F)(h:EV y cs hs zs c A){p:TermPlace}(hp:PL p y cs hs zs d c A){t:Term}(hn:Z0R t=true):Q6L F p t=some ((atS y cs hs zs d c A t).sqs A):=by
 have b:=h.tr.val;have m:=h.crop
 unfold Q6L atS;refine Q6 (fun q=>?_) fun D=>Q6 (fun q=>?_) fun E=>Q6 (fun q=>?_) fun G=>Q6 (fun q=>?_) fun x=>Q6 (fun q=>?_) fun L=>Q6 (fun q=>?_) fun B=>Q6 (fun q=>?_) fun s=>?_
 .have q:=eq_of_beq q
  rw [if_pos q,hp.cr];exact Q2 (Q9u hp.re b _) rfl
 .have q:=eq_of_beq q
  rw [if_neg (by omega),if_pos q,hp.cr,hp.cs];exact Q7 m (Q2 (Q9u hp.re b _) rfl)
 .have q:=eq_of_beq q
  rw [if_neg (by omega),if_neg (by omega),if_pos q,hp.cr,hp.cs];exact Q2 (Z6K F cs c t.num_) (Q2 (Q9u hp.re b _) rfl)
 .have q:=eq_of_beq q
  rw [if_neg (by omega),if_neg (by omega),if_neg (by omega),if_pos q,hp.zs,hp.dd];have w:=Y7b h.zs.box d fun k=>k==t.num_
  refine Q2 (Q9n hF (by have:=h.zs.vl.len;omega) (fun f C=>(W0g h.zs C).1) d (fun k=>k==t.num_) fun f _=>rfl) ?_;refine Q2 (Q3P hF (a:=p.t_) (by rw [hp.re];exact b.le8) (by have:=h.zs.few' d fun k=>k==t.num_;omega) (by rw [hp.re];exact b.pos) (fun r I=>(w r I).2.1) (S:=inR A) (by rw [hp.re]) rfl (k:=fun u v=>u&&v) rfl (Z1a F)) ?_
  exact Q2 (Z4Q hF hp.re h.tr (V3 _)) rfl
 .have q:=eq_of_beq q
  rw [if_neg (by omega),if_neg (by omega),if_neg (by omega),if_neg (by omega),if_pos q];have o:=W3x hn q
  have:=Y4N hF h hp.hs hp.yr hp.re hp.cs hp.cr (n:=t.num_.toNat) (by omega) (by omega)
  rw [Int.toNat_of_nonneg (by omega)] at this;exact Q2 this rfl
 .have q:=eq_of_beq q
  rw [if_neg (by omega),if_neg (by omega),if_neg (by omega),if_neg (by omega),if_neg (by omega),if_pos q];have o:=(W3w hn q).1
  have l:∀ f ∈ hs,Q2K F f.c_ p t=some (Y3a cs f.c_ t.more_):=fun f _=>by
   unfold Q2K;rw [hp.cs]
   exact Q2 (Z6K F cs _ _) rfl
  have H:∀ f ∈ hs,Q2J F f.c_ p t=some (!Y3a cs f.c_ t.more_):=fun f _=>by
   unfold Q2J;rw [hp.cs]
   exact Q2 (Z6K F cs _ _) rfl
  have K:TIn A ⟨knS A hs (y-t.num_) fun k=>Y3a cs k t.more_,knS A hs (y-t.num_) fun k=> !Y3a cs k t.more_⟩:=⟨Z4H _ _ _ _,Z4H _ _ _ _,fun _ _ h=>Y0z h,fun _ _ h=>Y0z h⟩;have j:=Q6p hF h hp.hs hp.yr hp.re (n:=t.num_) (q:=fun g=>Q2K F g p t) (by omega) (by omega) (fun k=>Y3a cs k t.more_) l
  have i:=Q6p hF h hp.hs hp.yr hp.re (n:=t.num_) (q:=fun g=>Q2J F g p t) (by omega) (by omega) (fun k=> !Y3a cs k t.more_) H;have J:=Z4f hF hp.re h.tr K
  exact Q2 j (Q2 i (Q2 J rfl))
 .have q:=eq_of_beq q
  rw [if_neg (by omega),if_neg (by omega),if_neg (by omega),if_neg (by omega),if_neg (by omega),if_neg (by omega),if_pos q];have o:=W3v hn q
  have l:∀ f ∈ hs,Z2U F f.c_=some true:=fun _ _=>rfl
  have j:=Q6p hF h hp.hs hp.yr hp.re (n:=t.num_) (q:=fun g=>Z2U F g) (by omega) (by omega) (fun _=>true) l;have i:=Z4Q hF hp.re h.tr (S:=inR (yrs hs (y-t.num_) fun _=>true)) (V3 _)
  exact Q2 j (Q2 i rfl)
 .have z:∀ {k:Int},(t.op_==k)=false->¬ t.op_=k:=fun h e=>by rw [e] at h;simp at h
  rw [if_neg (z D),if_neg (z E),if_neg (z G),if_neg (z x),if_neg (z L),if_neg (z B),if_neg (z s)];exact Q2 (Q9u hp.re b _) rfl
def Z7G(A:List Rect)(l:List TS):TS:=⟨fun u v=>inR A u v&&l.all fun k=>k.Y u v,fun u v=>l.any fun k=>k.N u v⟩
theorem W0E{l:List TS}(h:∀ s ∈ l,TIn A s):TIn A (Z7G A l):=Y7F (fun k=>k) l h
theorem W0F(l:List TS)(s:TS):Z7G A (l++[s])=⟨fun u v=>(Z7G A l).Y u v&&s.Y u v,fun u v=>(Z7G A l).N u v||s.N u v⟩:=by
 unfold Z7G;congr 1
 .funext u v;simp [List.all_append,Bool.and_assoc]
 .funext u v;simp [List.any_append]
theorem Y5z(hF:BIG<=F){p:TermPlace}(e3:p.t_=A)(ht:TR A){l:List TS}(hl:∀ s ∈ l,TIn A s)(hlen:l.length<=1000000):Q3v F p (l.map (TS.sqs A))=some ((Z7G A l).sqs A):=by
 have h:=hF;unfold BIG at h
 unfold Q3v;have e:∀ (m f k:Nat),k+m=l.length->m<f->Z2 (fun again (z:(List Rect)×(List Rect)×Int)=>Q1y F p (l.map (TS.sqs A)) again z.1 z.2.1 z.2.2) f (cn (Z7G A (l.take k)).Y,cn (Z7G A (l.take k)).N,((k:Nat):Int))=some ((Z7G A l).sqs A):=by
  intro m
  induction m with
  | zero=>
   intro f k r j;obtain ⟨f,rfl⟩:∃ g,f=g+1:=⟨f-1,by omega⟩
   show Q1y F p (l.map (TS.sqs A)) (Z2 _ f) _ _ ((k:Nat):Int)=_;unfold Q1y
   refine Q5 (decide_eq_false (by rw [List.length_map];omega)) ?_;unfold Q7F
   rw [show k=l.length by omega,List.take_length];exact Q2 (Z4f hF e3 ht (W0E hl)) rfl
  | succ m ih=>
   intro f k r j;obtain ⟨f,rfl⟩:∃ g,f=g+1:=⟨f-1,by omega⟩
   show Q1y F p (l.map (TS.sqs A)) (Z2 _ f) _ _ ((k:Nat):Int)=_;unfold Q1y
   have a:k<l.length:=by omega
   have b:TIn A (Z7G A (l.take k)):=W0E fun s hs=>hl s (List.mem_of_mem_take hs)
   have hs:=hl _ (List.getElem_mem a);have n:gl (l.map (TS.sqs A)) ((k:Nat):Int).toNat=(l[k]).sqs A:=by
    rw [Int.toNat_natCast,K8 (by simpa using a),List.getElem_map]
   have i:=ih f (k+1) (by omega) (by omega);have q:l.take (k+1)=l.take k++[l[k]]:=by rw [List.take_append_getElem a]
   rw [q,W0F] at i;rw [n]
   refine Z4 (decide_eq_true (by rw [List.length_map];omega)) (Q7 (by rw [List.length_map];omega) (Q2 (Q3P hF (b.vY ht).le8 (hs.vY ht).le8 (b.vY ht).pos (hs.vY ht).pos (Q0J b.fY) (Q0J hs.fY) (k:=fun u v=>u&&v) rfl (Z1a F)) (Q2 (Q3P hF (b.vN ht).le8 (hs.vN ht).le8 (b.vN ht).pos (hs.vN ht).pos (Q0J b.fN) (Q0J hs.fN) (k:=fun u v=>u||v) rfl (Z5D F)) (Q7 (Z7 (by omega) (by omega)) ?_))));exact i
 have:=e l.length F 0 (by omega) (by omega)
 have o:Z7G A (l.take 0)=⟨inR A,fun _ _=>false⟩:=by unfold Z7G;simp
 rw [o] at this;simp only [Y7w ht.val,Y1I] at this
 rw [e3];exact this
end
end Go.Ab
end
section
namespace Go.Ab
set_option maxRecDepth 20000
noncomputable section
def TS.turn(s:TS):TS:=⟨s.N,s.Y⟩
theorem W2R(A:List Rect)(s:TS):s.turn.O A=s.O A:=by
 funext u v
 simp only [TS.turn,TS.O]
 cases inR A u v <;> cases s.Y u v <;> cases s.N u v <;> rfl
theorem Y4b(F:Nat)(A:List Rect)(s:TS):Q9J F (s.sqs A)=some (s.turn.sqs A):=by
 unfold Q9J TS.sqs;rw [W2R]
 rfl
def tkS(op:Int)(s:TS):TS:=if op=9 then s else s.turn
theorem W3s{A:List Rect}{s:TS}(h:TIn A s)(op:Int):TIn A (tkS op s):=by
 unfold tkS;split
 .exact h
 .exact h.turn
variable {cs:List Crop} {hs:List Rg_} {zs:List A2_} {y c d:Int} {A:List Rect}
theorem Z8Y{p:TermPlace}(h:EV y cs hs zs c A)(hp:PL p y cs hs zs d c A):∀ (e:Nat) {F:Nat} (_:BIG+e<=F) {t:Term} (_:TD e t) (_:Q6C e t=true),G3 F p t=some ((evS y cs hs zs d c A e t).sqs A)
 | 0,_,_,_,ht,_=>ht.elim
 | e+1,0,hF,_,_,_=>by unfold BIG at hF;omega
 | e+1,F+1,hF,t,ht,l=>by
  have B : BIG+e<=F:=by omega
  have E:BIG<=F:=by omega
  have C:=E;unfold BIG at C
  obtain ⟨J,_,u,M⟩:=ht;have o:Z0R t=true/\∀ k ∈ t.kids_,Q6C e k=true:=by
   unfold Q6C at l;rw [Bool.and_eq_true,List.all_eq_true] at l
   exact l
  have b:=o.1;show Q4P F (G3 F) p t=_
  unfold Q4P;have H:∀ s ∈ t.kids_.map (fun k=>tkS t.op_ (evS y cs hs zs d c A e k)),TIn A s:=fun s hs=>by
   obtain ⟨k,_,rfl⟩:=List.mem_map.1 hs;exact W3s (Y1i e k) _
  have D:∀ (m f i:Nat),i+m=t.kids_.length->m<f->Z2 (fun again (z:Int×(List Squares))=>Q0C F (G3 F) p t again z.1 z.2) f (((i:Nat):Int),(t.kids_.take i).map fun k=>(tkS t.op_ (evS y cs hs zs d c A e k)).sqs A)=some ((evS y cs hs zs d c A (e+1) t).sqs A):=by
   intro m
   induction m with
   | zero=>
    intro f i K l;obtain ⟨f,rfl⟩:∃ g,f=g+1:=⟨f-1,by omega⟩
    show Q0C F (G3 F) p t (Z2 _ f) ((i:Nat):Int) _=_;unfold Q0C
    refine Q5 (decide_eq_false (by omega)) ?_;rw [show i=t.kids_.length by omega,List.take_length]
    unfold Q7d;have a:=Y5z E hp.re h.tr H (by rw [List.length_map];exact u)
    rw [List.map_map] at a;have a:Q3v F p (t.kids_.map fun k=>(tkS t.op_ (evS y cs hs zs d c A e k)).sqs A)=_:=a
    have z:∀ {k:Int},(t.op_==k)=false->¬ t.op_=k:=fun h e=>by rw [e] at h;simp at h
    refine Q6 (fun q=>?_) fun v=>Q6 (fun q=>?_) fun n=>Q6 (fun q=>?_) fun x=>?_
    .have q:=eq_of_beq q
     refine Q2 a ?_;have:Z7G A (t.kids_.map fun k=>tkS t.op_ (evS y cs hs zs d c A e k))=evS y cs hs zs d c A (e+1) t:=by
      conv=>rhs;unfold evS
      unfold Z7G tkS;rw [if_pos q]
      simp only [List.all_map,List.any_map,if_pos q];rfl
     rw [this]
    .have q:=eq_of_beq q
     refine Q2 a (Q2 (Y4b F A _) ?_);have:(Z7G A (t.kids_.map fun k=>tkS t.op_ (evS y cs hs zs d c A e k))).turn=evS y cs hs zs d c A (e+1) t:=by
      conv=>rhs;unfold evS
      unfold Z7G tkS TS.turn;rw [if_neg (z v),if_pos q]
      simp only [List.all_map,List.any_map,if_neg (z v)];rfl
     rw [this]
    .have q:=eq_of_beq q
     have N:t.kids_.length=1:=by
      unfold Z0R at b;simp [q] at b
      omega
     refine Q7 (by rw [List.length_map];omega) ?_;rw [K8 (by rw [List.length_map];show 0<_;omega),List.getElem_map]
     have:tkS t.op_ (evS y cs hs zs d c A e (gl t.kids_ 0))=evS y cs hs zs d c A (e+1) t:=by
      conv=>rhs;unfold evS
      unfold tkS TS.turn;rw [if_neg (z v),if_neg (z v),if_neg (z n),if_pos q]
     rw [<-this,K8 (by omega)];rfl
    .have:atS y cs hs zs d c A t=evS y cs hs zs d c A (e+1) t:=by
      unfold evS;rw [if_neg (z v),if_neg (z n),if_neg (z x)]
     rw [<-this];exact Q2 (Y4P E h hp b) rfl
   | succ m ih=>
    intro f i K l;obtain ⟨f,rfl⟩:∃ g,f=g+1:=⟨f-1,by omega⟩
    show Q0C F (G3 F) p t (Z2 _ f) ((i:Nat):Int) _=_;have j:i<t.kids_.length:=by omega
    have r:=M _ (V7 j);have G:=Z8Y h hp e B r (o.2 _ (V7 j))
    have w:=ih f (i+1) (by omega) (by omega);rw [Q0c j,List.map_append,List.map_singleton] at w
    generalize Z2 (fun again (z:Int×(List Squares))=>Q0C F (G3 F) p t again z.1 z.2) f=ag at w ⊢;unfold Q0C
    have I:((i:Nat):Int).toNat=i:=Int.toNat_natCast i;have L:((t.kids_.take i).map fun k=>(tkS t.op_ (evS y cs hs zs d c A e k)).sqs A).length<=1000000:=by
     rw [List.length_map,List.length_take];omega
    refine Z4 (decide_eq_true (by omega)) (Q7 (by omega) (Q7 (by rw [I];exact r.op) (Q2 (by rw [I];exact G) ?_)));have k1:∀ s:TS,s=tkS t.op_ (evS y cs hs zs d c A e (gl t.kids_ i))->Q2c F (G3 F) ((i:Nat):Int) ((t.kids_.take i).map fun k=>(tkS t.op_ (evS y cs hs zs d c A e k)).sqs A) ag (s.sqs A).yes_ (s.sqs A).no_ (s.sqs A).open_=some ((evS y cs hs zs d c A (e+1) t).sqs A):=fun s hs=>by
     subst hs;unfold Q2c
     exact Q7 (by unfold LIM;simp only [List.length_singleton];omega) (Q7 (Z7 (by omega) (by omega)) w)
    refine Q6 (fun q=>?_) fun q=>?_
    .have q:¬ t.op_=9:=fun e=>by rw [e] at q;simp at q
     refine Q2 (Y4b F A _) (k1 _ ?_);unfold tkS;rw [if_neg q]
    .have q:t.op_=9:=by simpa using q
     refine k1 _ ?_;unfold tkS;rw [if_pos q]
  have:=D t.kids_.length F 0 (by omega) (by omega)
  simpa using this
end
end Go.Ab
end
section
namespace Go.Ab
set_option maxRecDepth 20000
noncomputable section
variable {F:Nat} {cs:List Crop} {hs:List Rg_} {zs:List A2_} {y c d:Int} {A:List Rect}
end
end Go.Ab
end
section
namespace Go.Ab
set_option maxRecDepth 20000
noncomputable section
variable {cs:List Crop} {hs:List Rg_} {zs:List A2_} {y c d:Int} {A:List Rect}
end
end Go.Ab
end
section
namespace Go.Ab
set_option maxRecDepth 20000
noncomputable section
def Q7C(cs:List Crop)(c:Int):Bool:=decide (c<0)||decide (((cs.length:Nat):Int)<=c)
def Z7H(e:Nat)(t:Term)(cs:List Crop)(c:Int)(hs:List Rg_)(y:Int)(zs:List A2_)(d:Int)(A:List Rect):Int:=
 if Q8C e t≠0 then Q8C e t else if crC cs≠0 then crC cs else if (Q7C cs c||hs.any fun r=>Q7C cs r.c_)=true then 13
 else if Q9q hs≠0 then Q9q hs else if y<0\/100<y then 18 else if Q6G zs≠0 then Q6G zs else if d<0\/36864<d then 9 else if Q2H A=true then 0 else 7
theorem Y4D(F:Nat)(k:Int)(p:TermPlace):Q2e F k p=some (Q7C p.world_.crops_ k):=by
 unfold Q2e Q2u Q7C;refine Q6 (fun h=>?_) (fun h=>?_)
 .rw [h];rfl
 .rw [h];rfl
theorem Y5o{F:Nat}(hF:BIG<=F){l:List Rg_}(hl:l.length<=1000000)(p:TermPlace):Q0y F l p=some (l.any fun r=>Q7C p.world_.crops_ r.c_):=by
 have h:=hF;unfold BIG at h
 have:∃ i:Int,Q0Y F l p=some i/\(decide (0<=i))=l.any fun r=>Q7C p.world_.crops_ r.c_:=by
  unfold Q0Y;have b:∀ (m f i:Nat),i+m=l.length->m<f->∃ v:Int,Z2 (fun again (z:Int)=>U6 F l p again z) f ((i:Nat):Int)=some v/\(decide (0<=v))=(l.drop i).any fun r=>Q7C p.world_.crops_ r.c_:=by
   intro m
   induction m with
   | zero=>
    intro f i s o;obtain ⟨f,rfl⟩:∃ g,f=g+1:=⟨f-1,by omega⟩
    show ∃ v:Int,U6 F l p (Z2 _ f) ((i:Nat):Int)=some v/\_;unfold U6
    refine ⟨-1,Q5 (decide_eq_false (by omega)) rfl,?_⟩;rw [List.drop_eq_nil_of_le (by omega)];rfl
   | succ m ih=>
    intro f i s o;obtain ⟨f,rfl⟩:∃ g,f=g+1:=⟨f-1,by omega⟩
    have a:i<l.length:=by omega
    obtain ⟨v,k,n⟩:=ih f (i+1) (by omega) (by omega);show ∃ v:Int,U6 F l p (Z2 _ f) ((i:Nat):Int)=some v/\_
    generalize Z2 (fun again (z:Int)=>U6 F l p again z) f=ag at k ⊢;unfold U6
    have j:Q2I F (gl l ((i:Nat):Int).toNat) p=some (Q7C p.world_.crops_ (gl l i).c_):=by
     unfold Q2I;rw [Int.toNat_natCast]
     exact Q2 (Y4D F _ p) rfl
    have e:l.drop i=gl l i::l.drop (i+1):=by rw [List.drop_eq_getElem_cons a,K8 a]
    rw [e,List.any_cons]
    cases hw:Q7C p.world_.crops_ (gl l i).c_ with
    | true=>
     refine ⟨(i:Int),Z4 (decide_eq_true (by omega)) (Q7 (by omega) (Q2 (j.trans (by rw [hw])) (Z4 rfl rfl))),?_⟩;simp
    | false=>
     refine ⟨v,Z4 (decide_eq_true (by omega)) (Q7 (by omega) (Q2 (j.trans (by rw [hw])) (Q5 rfl (Q7 (Z7 (by omega) (by omega)) k)))),?_⟩;rw [n];rfl
  have:=b l.length F 0 (by omega) (by omega)
  simpa using this
 obtain ⟨i,q,t⟩:=this;unfold Q0y
 refine Q2 q ?_;rw [<-t]
theorem Y3I{e F:Nat}(hF:BIG+e<=F){p:TermPlace}{t:Term}(ht:TD e t)(hl:p.world_.history_.length<=1000000)(hc:NmS p.world_.crops_):Q5P F p t=some (Z7H e t p.world_.crops_ p.line_.c_ p.world_.history_ p.world_.y_ p.world_.zones_ p.world_.day_ p.line_.g_.t_):=by
 have a:BIG<=F:=by omega
 unfold Q5P Z7H;refine Q2 (Z7M hF ht) (Q6 (fun q=>?_) fun q=>?_)
 .rw [if_pos (by simpa using q)]
 rw [if_neg (by simpa using q)];refine Q2 (Z6L a hc) (Q6 (fun q=>?_) fun q=>?_)
 .rw [if_pos (by simpa using q)]
 rw [if_neg (by simpa using q)];have k1:∀ b:Bool,Q1I F p b=some (if b=true then 18 else if Q6G p.world_.zones_≠0 then Q6G p.world_.zones_ else if p.world_.day_<0\/36864<p.world_.day_ then 9 else if Q2H p.line_.g_.t_=true then 0 else 7):=fun b=>by
  unfold Q1I;cases b
  .simp only [Bool.false_eq_true,if_false]
   refine Q5 rfl (Q2 (Z3t a _ _) ?_)
   by_cases h1:Q6G p.world_.zones_≠0
   .rw [if_pos h1,if_pos h1]
    exact Z4 (by simpa using h1) rfl
   rw [if_neg h1,if_neg h1]
   by_cases h2:p.world_.day_<0\/36864<p.world_.day_
   .rw [if_pos h2,if_pos h2]
    exact Z4 rfl rfl
   rw [if_neg h2,if_neg h2];refine Q5 rfl (Q2 (Q0g a _) ?_)
   cases Q2H p.line_.g_.t_ <;> rfl
  .exact Z4 rfl rfl
 have f:∀ b:Bool,Q1J F p b=some (if b=true then 13 else if Q9q p.world_.history_≠0 then Q9q p.world_.history_ else if p.world_.y_<0\/100<p.world_.y_ then 18 else if Q6G p.world_.zones_≠0 then Q6G p.world_.zones_ else if p.world_.day_<0\/36864<p.world_.day_ then 9 else if Q2H p.line_.g_.t_=true then 0 else 7):=fun b=>by
  unfold Q1J;cases b
  .simp only [Bool.false_eq_true,if_false]
   refine Q5 rfl (Q2 (Y0E a _) ?_);refine Q6 (fun q=>?_) fun q=>?_
   .rw [if_pos (by simpa using q)]
   rw [if_neg (by simpa using q)];refine Q6 (fun q=>?_) fun q=>?_
   .rw [k1,if_pos rfl,if_pos (.inl (of_decide_eq_true q))]
   .rw [k1]
    by_cases h1:100<p.world_.y_
    .rw [if_pos (decide_eq_true h1),if_pos (.inr h1)]
    .have h:¬ decide (100<p.world_.y_)=true:=by simpa using h1
     have g:¬ (p.world_.y_<0\/100<p.world_.y_):=by have:=of_decide_eq_false q;omega
     rw [if_neg h,if_neg g]
  .exact Z4 rfl rfl
 refine Q2 (Y4D F _ p) (Q6 (fun q=>?_) fun q=>?_)
 .rw [f,q];rfl
 .refine Q2 (Y5o a hl p) ?_
  rw [f,q];rfl
end
end Go.Ab
end
section
namespace Go.Ab
set_option maxRecDepth 20000
noncomputable section
def noT:Truth:=⟨⟨[]⟩,⟨[]⟩,⟨[]⟩⟩
def TS.t3(A:List Rect)(s:TS):Truth:=⟨⟨cn s.Y⟩,⟨cn s.N⟩,⟨cn (s.O A)⟩⟩
def Z8h(e:Nat)(t:Term)(l:Line)(y:Int)(cs:List Crop)(hs:List Rg_)(zs:List A2_)(d:Int):Truth×Int:=
 if Z7H e t cs l.c_ hs y zs d l.g_.t_≠0 then (noT,Z7H e t cs l.c_ hs y zs d l.g_.t_) else ((evS y cs hs zs d l.c_ l.g_.t_ e t).t3 l.g_.t_,0)
theorem W0M{e:Nat}{t:Term}{cs:List Crop}{c:Int}{hs:List Rg_}{y:Int}{zs:List A2_}{d:Int}{A:List Rect}(ht:TD e t)(h:Z7H e t cs c hs y zs d A=0):Q6C e t=true:=by
 have a:Q8C e t=0:=Classical.byContradiction fun b=>by
  unfold Z7H at h;rw [if_pos b] at h
  exact b h
 unfold Q8C at a
 by_cases hz:40<szD e t
 .rw [if_pos hz] at a;cases a
 .rw [if_neg hz] at a
  by_cases hr:Q6j e 8 t=true
  .rw [Z6Y e 8 t ht,Bool.and_eq_true] at hr
   exact hr.2
  .rw [if_neg hr] at a;cases a
variable {F:Nat} {cs:List Crop} {hs:List Rg_} {zs:List A2_} {y d:Int}
theorem Y4Q{e:Nat}(hF:BIG+e<=F){t:Term}(ht:TD e t){l:Line}(hl:hs.length<=1000000)(hc:NmS cs)(hev:Z7H e t cs l.c_ hs y zs d l.g_.t_=0->EV y cs hs zs l.c_ l.g_.t_):Z6V F t l y cs hs zs d=some (Z8h e t l y cs hs zs d):=by
 have j:BIG<=F:=by omega
 unfold Z6V Z8h;refine Q2 (Y3I (p:=⟨⟨y,cs,hs,zs,d⟩,l,l.g_.t_⟩) hF ht hl hc) (Q6 (fun q=>?_) fun q=>?_)
 .rw [if_pos (by simpa using q)];rfl
 have q:Z7H e t cs l.c_ hs y zs d l.g_.t_=0:=by simpa using q
 rw [if_neg (by rw [q];simp)];have h:=hev q
 have a:=Y1i (y:=y) (cs:=cs) (hs:=hs) (zs:=zs) (d:=d) (c:=l.c_) (A:=l.g_.t_) e t;refine Q2 (Z8Y (p:=⟨⟨y,cs,hs,zs,d⟩,l,l.g_.t_⟩) h ⟨rfl,rfl,rfl,rfl,rfl,rfl,rfl⟩ e hF ht (W0M ht q)) ?_
 have i:=(a.vY h.tr).1;have f:=(a.vN h.tr).1
 have g:=(a.vO h.tr).1;generalize evS y cs hs zs d l.c_ l.g_.t_ e t=s at i f g ⊢
 have b:∀ m:List Rect,m.length<=120->Q7r F m=some ⟨m⟩:=fun m k=>by
  unfold Q7r;refine Q2 (Q9V (by unfold LIM;omega)) rfl
 refine Q5 (decide_eq_false ?_) (Q2 (b _ i) (Q2 (b _ f) (Q2 (b _ g) rfl)));show ¬ (120:Int)<G2 (G2 ((cn s.Y).length:Int) ((cn s.N).length:Int)) ((cn (s.O l.g_.t_)).length:Int)
 unfold G2;split <;> split <;> omega
end
end Go.Ab
end
section
namespace Go.Ab
set_option maxRecDepth 20000
noncomputable section
theorem Z3W(F:Nat)(u v:Bool):Q6F F u v=some (u&&v):=by
 unfold Q6F Q6h;cases u <;> rfl
theorem Z7F(F:Nat)(u v:Bool):Q6g F u v=some (u && !v):=by
 unfold Q6g Q3t;cases u <;> rfl
theorem Z8G{F:Nat}(hF:BIG<=F){l:List Rect}(h:Val l):Q1p F l=some (⟨l⟩,0):=by
 have a:=h.1;refine (Q3y hF (by omega) h.pos).trans ?_
 rw [Y7w h,if_neg (by omega)]
theorem Z6q{F:Nat}(hF:BIG<=F){a b c:List Rect}(ha:Val a)(hb:Val b)(hc:Val c):Q1v F ⟨a,b,c⟩=some (⟨⟨a⟩,⟨b⟩,⟨c⟩⟩,0):=by
 unfold Q1v;exact Q2 (Z8G hF ha) (Q5 rfl (Q7 (Z7 (by omega) (by omega)) (Q2 (Z8G hF hb) (Q5 rfl (Q7 (Z7 (by omega) (by omega)) (Q2 (Z8G hF hc) (Q5 rfl (Q7 (Z7 (by omega) (by omega)) rfl))))))))
end
end Go.Ab
end
section
namespace Go.Ab
set_option maxRecDepth 20000
noncomputable section
def Z8y(A:List Rect)(s:TS)(G:Sq):TS:=⟨fun u v=>s.Y u v&&G u v,fun u v=>inR A u v && !((s.Y u v&&G u v)||(s.O A u v&&G u v))⟩
theorem W2H{A:List Rect}{s:TS}(h:TIn A s)(G:Sq):(Z8y A s G).O A=fun u v=>s.O A u v&&G u v:=by
 funext u v
 simp only [Z8y,TS.O];have:=h.sY u v
 have:=h.sN u v
 cases hA:inR A u v <;> cases hY:s.Y u v <;> cases hN:s.N u v <;> cases G u v <;> simp_all
theorem W0e{A:List Rect}{s:TS}(h:TIn A s){G:Sq}(hG:Fin G):TIn A (Z8y A s G):=by
 refine ⟨Z4I h.fY hG,Z7m (V3 A) (Y7r (Z4I h.fY hG) (Z4I h.fO hG)),fun u v a=>?_,fun u v a=>?_⟩
 .simp only [Z8y,Bool.and_eq_true] at a
  exact h.sY u v a.1
 .simp only [Z8y,Bool.and_eq_true] at a
  exact a.1
end
end Go.Ab
end
section
namespace Go.Ab
set_option maxRecDepth 20000
noncomputable section
def Z0K(e n:Int):Bool:=Q5K .i64 (e.fdiv (2 ^ (min n.toNat (IntKind.bits .i64)))) 1==1
theorem W0T(x:Int):Q5K .i64 x 1=0\/Q5K .i64 x 1=1:=by
 unfold Q5K;have h:(BitVec.ofInt 64 x &&& BitVec.ofInt 64 1).toNat<=1:=by
  rw [BitVec.toNat_and];exact Nat.le_trans Nat.and_le_right (by decide)
 show IntKind.wrap .i64 ((BitVec.ofInt 64 x &&& BitVec.ofInt 64 1).toNat:Nat)=0\/IntKind.wrap .i64 ((BitVec.ofInt 64 x &&& BitVec.ofInt 64 1).toNat:Nat)=1;have a:(BitVec.ofInt 64 x &&& BitVec.ofInt 64 1).toNat=0\/(BitVec.ofInt 64 x &&& BitVec.ofInt 64 1).toNat=1:=by omega
 rcases a with a|a <;> rw [a]
 .left;rfl
 .right;rfl
theorem Z2A(e n:Int):(Q5K .i64 (e.fdiv (2 ^ (min n.toNat (IntKind.bits .i64)))) 1==0)=!Z0K e n:=by
 unfold Z0K;rcases W0T (e.fdiv (2 ^ (min n.toNat (IntKind.bits .i64)))) with h|h <;> rw [h] <;> rfl
def Z5i(p:Int)(b:Bracket):Bool:=decide (p<b.up_)&&(decide (b.up_<=268435456)&&(decide (0<=b.rate_)&&decide (b.rate_<=1048576)))
def Z0b(l:List Bracket)(i:Nat):Int:=if i=0 then 0 else (gl l (i-1)).up_
def brB(l:List Bracket):Bool:=decide (1<=l.length)&&(decide (l.length<=6) && !(List.range l.length).any fun i=> !Z5i (Z0b l i) (gl l i))
theorem Y5M{R:Type}{body:(Int->Option R)->Int->Option R}{c y:Option R}(N:Nat)(p:Nat->Bool)(bad:∀ again (i:Nat),i<N->(∀ j,j<i->p j=false)->p i=true->body again (i:Int)=c)(good:∀ again (i:Nat) z,i<N->(∀ j,j<i->p j=false)->p i=false->again ((i:Int)+1)=z->body again (i:Int)=z)(stop:∀ again,body again (N:Int)=y){F:Nat}(hF:N<F):Z2 body F 0=if (List.range N).any p=true then c else y:=by
 refine Y8 (fun z:Int=>∃ i:Nat,z=i/\i<=N/\∀ j,j<i->p j=false) (fun z=>N-z.toNat) (fun again z f e=>?_) ⟨0,rfl,Nat.zero_le _,fun j h=>absurd h (Nat.not_lt_zero j)⟩ (by simp;omega);obtain ⟨i,rfl,g,a⟩:=f
 rcases Nat.lt_or_ge i N with h|h
 .cases hpi:p i with
  | true=>
   rw [if_pos (List.any_eq_true.2 ⟨i,List.mem_range.2 h,hpi⟩)];exact bad again i h a hpi
  | false=>
   refine good again i _ h a hpi (e _ ⟨i+1,by omega,h,fun j b=>?_⟩ (by omega))
   by_cases hji:j=i
   .rw [hji];exact hpi
   .exact a j (by omega)
 .have:i=N:=by omega
  subst this;rw [if_neg (by rw [Bool.not_eq_true,List.any_eq_false];intro j b;rw [a j (List.mem_range.1 b)];simp)]
  exact stop again
theorem Z8q{F:Nat}{l:List Bracket}(hF:l.length<F)(hl:l.length<=1000000):Q6M F l=some (brB l):=by
 unfold Q6M;refine (Y5M (c:=some false) (y:=some (decide (1<=l.length)&&decide (l.length<=6))) l.length (fun i=> !Z5i (Z0b l i) (gl l i)) (fun a i w n o=>?_) (fun a i z w n o t=>?_) (fun a=>?_) hF).trans ?_
 all_goals try (
  have f:i=0\/(1<=i/\1<=(gl l (i-1)).up_):=by
   rcases Nat.eq_zero_or_pos i with h|h
   .exact .inl h
   .refine .inr ⟨h,?_⟩
    have v:∀ j,j<i->1<=(gl l j).up_:=by
     intro j
     induction j with
     | zero=>
      intro u;have:=n 0 u
      rw [Bool.not_eq_false'] at this;unfold Z5i Z0b at this
      rw [if_pos rfl] at this;simp only [Bool.and_eq_true,decide_eq_true_eq] at this;omega
     | succ j ih=>
      intro r;have e:=ih (by omega)
      have:=n (j+1) r
      rw [Bool.not_eq_false'] at this;unfold Z5i Z0b at this
      rw [if_neg (by omega),Nat.add_sub_cancel] at this;simp only [Bool.and_eq_true,decide_eq_true_eq] at this;omega
    exact v (i-1) (by omega)
  have q:(((i:Nat):Int)-1).toNat=i-1:=by omega)
 .show Q0D F l a (i:Int)=_
  unfold Q0D;have k1:K9 F (i:Int) a true=some false:=rfl
  refine Z4 (decide_eq_true (by omega)) (Q7 (by omega) (Q6 (fun _=>k1) (fun e=>Q6 (fun _=>k1) (fun k=>Q6 (fun _=>k1) (fun g=>Q6 (fun _=>k1) (fun m=>?_))))));have e:=of_decide_eq_false e
  have k:=of_decide_eq_false k;have g:=of_decide_eq_false g
  have m:=of_decide_eq_false m;simp only [Int.toNat_natCast] at e k g m
  have b : Z5i (Z0b l i) (gl l i)=false:=by simpa using o
  unfold Z5i Z0b at b;rcases f with h|⟨h,s⟩
  .subst h
   rw [if_pos rfl,decide_eq_true (by omega),decide_eq_true (by omega),decide_eq_true (by omega),decide_eq_true (by omega)] at b;simp at b
  .rw [if_neg (by omega)] at b
   refine Z4 (decide_eq_true (by omega)) (Q7 (Z7 (by omega) (by omega)) (Q7 (by omega) ?_));rw [q,decide_eq_true (p:=(gl l ((i:Nat):Int).toNat).up_<=_)]
   .exact k1
   .simp only [Int.toNat_natCast]
    by_cases h6:(gl l (i-1)).up_<(gl l i).up_
    .rw [decide_eq_true h6,decide_eq_true (by omega),decide_eq_true (by omega),decide_eq_true (by omega)] at b
     simp at b
    .omega
 .show Q0D F l a (i:Int)=_
  unfold Q0D;have b : Z5i (Z0b l i) (gl l i)=true:=by simpa using o
  unfold Z5i Z0b at b;simp only [Bool.and_eq_true,decide_eq_true_eq] at b
  obtain ⟨e,k,g,m⟩:=b;have k1:K9 F (i:Int) a false=z:=Q5 rfl (Q7 (Z7 (by omega) (by omega)) t)
  have x:1<=(gl l i).up_:=by
   rcases f with h|⟨h,s⟩
   .rw [if_pos h] at e;omega
   .rw [if_neg (by omega)] at e;omega
  refine Z4 (decide_eq_true (by omega)) (Q7 (by omega) (Q5 (decide_eq_false (by simp only [Int.toNat_natCast];omega)) (Q5 (decide_eq_false (by simp only [Int.toNat_natCast];omega)) (Q5 (decide_eq_false (by simp only [Int.toNat_natCast];omega)) (Q5 (decide_eq_false (by simp only [Int.toNat_natCast];omega)) ?_)))));refine Q6 (fun h=>?_) (fun _=>k1)
  have h:=of_decide_eq_true h;refine Q7 (Z7 (by omega) (by omega)) (Q7 (by omega) ?_)
  rw [q,decide_eq_false]
  .exact k1
  .rw [if_neg (by omega)] at e
   simp only [Int.toNat_natCast];omega
 .show Q0D F l a (l.length:Int)=_
  unfold Q0D Q7g Q3Y;refine Q5 (decide_eq_false (by omega)) ?_
  rw [show decide ((1:Int)<=((l.length:Nat):Int))=decide (1<=l.length) from decide_eq_decide.2 (by omega),show decide (((l.length:Nat):Int)<=(6:Int))=decide (l.length<=6) from decide_eq_decide.2 (by omega)]
  cases decide (1<=l.length) <;> rfl
 .unfold brB
  cases (List.range l.length).any fun i=> !Z5i (Z0b l i) (gl l i) <;> simp
theorem Z9m{F:Nat}{l:List Bracket}(hF:l.length<F)(hl:l.length<=1000000):Q7O F l=some (brB l):=by
 unfold Q7O brB;have e:Q2N F l true=some false:=rfl
 by_cases h1:1<=l.length
 .refine Q5 (decide_eq_false (by omega)) ?_
  by_cases h2:l.length<=6
  .rw [decide_eq_true h1,decide_eq_true h2,decide_eq_false (by omega)]
   unfold Q2N;refine Q5 rfl ?_
   suffices hs:∀ (n i:Nat),l.length-i<n->i<=l.length->Z2 (fun again (z:Int×Int)=>Q1B F l again z.1 z.2) n (Z0b l i,(i:Int))=some (!((List.range l.length).drop i).any fun i=> !Z5i (Z0b l i) (gl l i)) by
    have:=hs F 0 (by omega) (by omega)
    simpa [Z0b] using this
   intro n
   induction n with
   | zero=>intro i h;omega
   | succ n ih=>
    intro i j g;have b:=ih (i+1)
    revert b
    show _->Q1B F l (Z2 (fun again (z:Int×Int)=>Q1B F l again z.1 z.2) n) (Z0b l i) (i:Int)=_;generalize Z2 (fun again (z:Int×Int)=>Q1B F l again z.1 z.2) n=ag
    intro b;unfold Q1B
    by_cases hil:i<l.length
    .rw [show (List.range l.length).drop i=i::(List.range l.length).drop (i+1) by rw [List.drop_eq_getElem_cons (by simpa using hil),List.getElem_range]]
     rw [List.any_cons];refine Z4 (decide_eq_true (by omega)) (Q7 (by omega) ?_)
     simp only [Int.toNat_natCast];have a:Q0o F l (i:Int) ag true=some false:=rfl
     have f:Q0o F l (i:Int) ag false=some (!((List.range l.length).drop (i+1)).any fun i=> !Z5i (Z0b l i) (gl l i)):=by
      unfold Q0o;refine Q5 rfl (Q7 (Z7 (by omega) (by omega)) ?_)
      rw [<-b (by omega) (by omega)];congr 1
     rw [show Z5i (Z0b l i) (gl l i)=(decide (Z0b l i<(gl l i).up_)&&(decide ((gl l i).up_<=268435456)&&(decide (0<=(gl l i).rate_)&&decide ((gl l i).rate_<=1048576)))) from rfl]
     by_cases g1:Z0b l i<(gl l i).up_
     .rw [decide_eq_true g1]
      refine Q5 (decide_eq_false (by omega)) ?_
      by_cases g2:(gl l i).up_<=268435456
      .rw [decide_eq_true g2]
       refine Q5 (decide_eq_false (by omega)) ?_
       by_cases g3:0<=(gl l i).rate_
       .rw [decide_eq_true g3]
        refine Q5 (decide_eq_false (by omega)) ?_
        by_cases g4:(gl l i).rate_<=1048576
        .rw [decide_eq_true g4,decide_eq_false (by omega),f];simp
        .rw [decide_eq_false g4,decide_eq_true (by omega),a];simp
       .rw [decide_eq_false g3]
        exact Z4 (decide_eq_true (by omega)) a
      .rw [decide_eq_false g2]
       exact Z4 (decide_eq_true (by omega)) a
     .rw [decide_eq_false g1]
      exact Z4 (decide_eq_true (by omega)) a
    .have:i=l.length:=by omega
     subst this;refine Q5 (decide_eq_false (by omega)) ?_
     rw [List.drop_eq_nil_of_le (by simp)];rfl
  .rw [decide_eq_false h2,decide_eq_true (by omega),Bool.false_and,Bool.and_false];exact e
 .rw [decide_eq_false h1]
  exact Z4 (decide_eq_true (by omega)) e
structure SD (d:Nat) (s:Scheme):Prop where
 cond:TD d s.cond_
 name:s.n_.size<=4294967296
 brl:s.brackets_.length<=1000000
def Z0c(d:Nat)(s:Scheme):Int:=
 if s.N_<0\/15<s.N_\/s.least_<0\/268435456<s.least_ then 2 else if Q2S s.n_=false then 5 else if Q8C d s.cond_≠0 then Q8C d s.cond_
 else if brB s.brackets_=false\/s.excludes_<0\/65536<=s.excludes_\/Z0K s.excludes_ s.N_=true then 3 else 0
theorem Y1r{d F:Nat}(hd:d<=2000000)(hF:BIG+d<=F){s:Scheme}(h:SD d s):Z1i F s=some (Z0c d s):=by
 have f:BIG<=F:=by omega
 have e:=f;unfold BIG at e
 unfold Z1i Z0c;have a:Q1F F s true=some 2:=rfl
 by_cases h1:s.N_<0
 .rw [if_pos (.inl h1)];exact Z4 (decide_eq_true h1) a
 refine Q5 (decide_eq_false h1) ?_
 by_cases h2:15<s.N_
 .rw [if_pos (.inr (.inl h2))];exact Z4 (decide_eq_true h2) a
 refine Q5 (decide_eq_false h2) ?_
 by_cases h3:s.least_<0
 .rw [if_pos (.inr (.inr (.inl h3)))];exact Z4 (decide_eq_true h3) a
 refine Q5 (decide_eq_false h3) ?_
 by_cases h4:268435456<s.least_
 .rw [if_pos (.inr (.inr (.inr h4))),decide_eq_true h4];exact a
 rw [if_neg (by omega),decide_eq_false h4];unfold Q1F
 refine Q5 rfl (Q2 (Z2Y (by have:=h.name;omega) h.name) ?_)
 cases hn:Q2S s.n_ with
 | false=>rfl
 | true=>
  rw [if_neg (by simp)];refine Q5 rfl (Q2 (Z7M hF h.cond) ?_)
  by_cases h5:Q8C d s.cond_=0
  .rw [if_neg (by simpa using h5)]
   refine Q5 (by simp [h5]) (Q2 (Z8q (by have:=h.brl;omega) h.brl) ?_);have b:Q1E F true=some 3:=rfl
   cases hbr:brB s.brackets_ with
   | false=>rw [if_pos (.inl rfl)];exact Z4 rfl b
   | true=>
    refine Q5 rfl ?_
    by_cases h6:s.excludes_<0
    .rw [if_pos (.inr (.inl h6))];exact Z4 (decide_eq_true h6) b
    refine Q5 (decide_eq_false h6) ?_
    by_cases h7:65536<=s.excludes_
    .rw [if_pos (.inr (.inr (.inl h7)))];exact Z4 (decide_eq_true h7) b
    refine Q5 (decide_eq_false h7) (Q7 (by omega) ?_);show Q1E F (Z0K s.excludes_ s.N_)=_
    cases Z0K s.excludes_ s.N_ with
    | true=>rw [if_pos (.inr (.inr (.inr rfl)))];exact b
    | false=>rw [if_neg (by simp;omega)];rfl
  .rw [if_pos h5]
   exact Z4 (by simpa using h5) rfl
theorem Z9n{d F:Nat}(hd:d<=2000000)(hF:BIG+d<=F){s:Scheme}(h:SD d s):Z6Z F s=some (Z0c d s):=by
 have f:BIG<=F:=by omega
 have e:=f;unfold BIG at e
 unfold Z6Z Z0c;have a:Q4c F s true=some 2:=rfl
 by_cases h1:s.N_<0
 .rw [if_pos (.inl h1)];exact Z4 (decide_eq_true h1) a
 refine Q5 (decide_eq_false h1) ?_
 by_cases h2:15<s.N_
 .rw [if_pos (.inr (.inl h2))];exact Z4 (decide_eq_true h2) a
 refine Q5 (decide_eq_false h2) ?_
 by_cases h3:s.least_<0
 .rw [if_pos (.inr (.inr (.inl h3)))];exact Z4 (decide_eq_true h3) a
 refine Q5 (decide_eq_false h3) ?_
 by_cases h4:268435456<s.least_
 .rw [if_pos (.inr (.inr (.inr h4))),decide_eq_true h4];exact a
 rw [if_neg (by omega),decide_eq_false h4];unfold Q4c
 refine Q5 rfl (Q2 (Y2N f _) ?_)
 cases hn:Q2S s.n_ with
 | false=>rfl
 | true=>
  rw [if_neg (by simp)];refine Q5 rfl (Q2 (Y2C hd hF h.cond) ?_)
  by_cases h5:Q8C d s.cond_=0
  .rw [if_neg (by simpa using h5)]
   refine Q5 (by simp [h5]) (Q2 (Z9m (by have:=h.brl;omega) h.brl) ?_);have b:Q4b F true=some 3:=rfl
   cases hbr:brB s.brackets_ with
   | false=>rw [if_pos (.inl rfl)];exact Z4 rfl b
   | true=>
    refine Q5 rfl ?_
    by_cases h6:s.excludes_<0
    .rw [if_pos (.inr (.inl h6))];exact Z4 (decide_eq_true h6) b
    refine Q5 (decide_eq_false h6) ?_
    by_cases h7:65536<=s.excludes_
    .rw [if_pos (.inr (.inr (.inl h7)))];exact Z4 (decide_eq_true h7) b
    refine Q5 (decide_eq_false h7) (Q7 (by omega) ?_);show Q4b F (Z0K s.excludes_ s.N_)=_
    cases Z0K s.excludes_ s.N_ with
    | true=>rw [if_pos (.inr (.inr (.inr rfl)))];exact b
    | false=>rw [if_neg (by simp;omega)];rfl
  .rw [if_pos h5]
   exact Z4 (by simpa using h5) rfl
end
end Go.Ab
end
section
namespace Go.Ab
set_option maxRecDepth 20000
noncomputable section
theorem Z9g(F:Nat)(u v:Bool):Q6P F u v=some (u && !v):=by
 unfold Q6P Q4a;cases u <;> rfl
theorem Y0j{F:Nat}(hF:BIG<=F)(a b:Re_):Q9y F a b=some (Z5y a b):=by
 unfold Q9y Z5y Q3x;refine Q2 (Q0g hF a) (Q6 (fun h=>?_) fun h=>?_)
 .rw [h,Bool.true_and]
  refine Q2 (Q0g hF b) (Q6 (fun e=>?_) fun e=>?_)
  .rw [e,Bool.true_and]
   have f:=(Q0M _).1 h;have vb:=(Q0M _).1 e
   refine Q2 (Q3P hF f.le8 vb.le8 f.pos vb.pos rfl rfl (k:=fun u v=>u && !v) rfl (Z9g F)) ?_;congr 1
   show _=decide (cn (fun x y=>inR a.t_ x y && !inR b.t_ x y)=[])
   cases cn fun x y=>inR a.t_ x y && !inR b.t_ x y with
   | nil=>rfl
   | cons r l=>simp;omega
  .rw [e];rfl
 .rw [h];rfl
theorem Y2u{e:Nat}{s:Scheme}(h:Z0c e s=0):0<=s.N_:=by
 unfold Z0c at h
 by_cases hn:s.N_<0\/15<s.N_\/s.least_<0\/268435456<s.least_
 .rw [if_pos hn] at h;cases h
 .omega
def W0d(e:Nat)(l:Line)(parcel:Re_)(s:Scheme)(w:World)(v:Re_×Int):Truth×Int:=
 if Q2H parcel.t_=false then (noT,7)
 else if (Z8h e s.cond_ l w.y_ w.crops_ w.history_ w.zones_ w.day_).2≠0 then (noT,(Z8h e s.cond_ l w.y_ w.crops_ w.history_ w.zones_ w.day_).2)
 else if Z0c e s≠0 then (noT,17)
 else if v.2≠0 then (noT,v.2)
 else if Z5y l.g_ parcel=false then (noT,12)
 else if Z0K l.s_ s.N_=false then (⟨⟨[]⟩,l.g_,⟨[]⟩⟩,0)
 else ((Z8y l.g_.t_ (evS w.y_ w.crops_ w.history_ w.zones_ w.day_ l.c_ l.g_.t_ e s.cond_) (inR v.1.t_)).t3 l.g_.t_,0)
theorem Y9e{e:Nat}{t:Term}{l:Line}{y:Int}{cs:List Crop}{hs:List Rg_}{zs:List A2_}{d:Int}(h:(Z8h e t l y cs hs zs d).2=0):Z7H e t cs l.c_ hs y zs d l.g_.t_=0/\Z8h e t l y cs hs zs d=((evS y cs hs zs d l.c_ l.g_.t_ e t).t3 l.g_.t_,0):=by
 unfold Z8h at h ⊢
 by_cases hz:Z7H e t cs l.c_ hs y zs d l.g_.t_=0
 .rw [if_neg (by rw [hz];simp)]
  exact ⟨hz,rfl⟩
 .rw [if_pos hz] at h
  exact (hz h).elim
theorem Y0N{e F:Nat}(he:e<=2000000)(hF:BIG+e<=F){l:Line}{parcel:Re_}{s:Scheme}{w:World}(hs:SD e s)(hl:w.history_.length<=1000000)(hc:NmS w.crops_)(hev:Z7H e s.cond_ w.crops_ l.c_ w.history_ w.y_ w.zones_ w.day_ l.g_.t_=0->EV w.y_ w.crops_ w.history_ w.zones_ l.c_ l.g_.t_){v:Re_×Int}(hv:Q1k F parcel w.zones_ w.day_ w.most_=some v)(hval:v.2=0->Val v.1.t_):Q1U F l parcel s w=some (W0d e l parcel s w v):=by
 have g:BIG<=F:=by omega
 unfold Q1U W0d;refine Q2 (Q0g g _) (Q6 (fun q=>?_) fun q=>?_)
 .rw [if_pos (by simpa using q)];rfl
 rw [if_neg (by simpa using q)];refine Q2 (Y4Q hF hs.cond hl hc hev) (Q6 (fun q=>?_) fun q=>?_)
 .rw [if_pos (by simpa using q)];rfl
 have q:(Z8h e s.cond_ l w.y_ w.crops_ w.history_ w.zones_ w.day_).2=0:=by simpa using q
 rw [if_neg (by rw [q];simp)];obtain ⟨z,hE⟩:=Y9e q
 have h:=hev z;rw [hE]
 refine Q2 (Y1r he hF hs) (Q6 (fun q=>?_) fun j=>?_)
 .rw [if_pos (by simpa using q)];rfl
 have j:Z0c e s=0:=by simpa using j
 rw [if_neg (by rw [j];simp)];refine Q2 hv (Q6 (fun q=>?_) fun q=>?_)
 .rw [if_pos (by simpa using q)];rfl
 have q:v.2=0:=by simpa using q
 rw [if_neg (by rw [q];simp)];have n:=hval q
 refine Q2 (Y0j g _ _) (Q6 (fun q=>?_) fun q=>?_)
 .rw [if_pos (by simpa using q)];rfl
 rw [if_neg (by simpa using q)];have f:=Y1i (y:=w.y_) (cs:=w.crops_) (hs:=w.history_) (zs:=w.zones_) (d:=w.day_) (c:=l.c_) (A:=l.g_.t_) e s.cond_
 generalize evS w.y_ w.crops_ w.history_ w.zones_ w.day_ l.c_ l.g_.t_ e s.cond_=T at f ⊢;have m:=W0e f (V3 v.1.t_)
 have x:=W2H f (inR v.1.t_);have p:=m.vY h.tr
 have H:=m.vN h.tr;have o:=m.vO h.tr
 refine Q7 (Y2u j) (Q6 (fun q=>?_) fun q=>?_)
 .rw [Z2A] at q
  rw [if_pos (by simpa using q)];exact Q2 (Z6q g Val.nil h.tr.val Val.nil) rfl
 .rw [Z2A] at q
  rw [if_neg (by simpa using q)];have I:=p.1
  have t:=o.1;rw [x] at o t
  have B:=Q3P g (a:=cn T.Y) (b:=v.1.t_) (f.vY h.tr).le8 n.le8 (f.vY h.tr).pos n.pos (Q0J f.fY) rfl (k:=fun u v=>u&&v) rfl (Z3W F);have D:=Q3P g (a:=cn (T.O l.g_.t_)) (b:=v.1.t_) (f.vO h.tr).le8 n.le8 (f.vO h.tr).pos n.pos (Q0J f.fO) rfl (k:=fun u v=>u&&v) rfl (Z3W F)
  have C:inR (cn (Z8y l.g_.t_ T (inR v.1.t_)).Y++cn fun u w=>T.O l.g_.t_ u w&&inR v.1.t_ u w)=fun u w=>(T.Y u w&&inR v.1.t_ u w)||(T.O l.g_.t_ u w&&inR v.1.t_ u w):=by
   funext u w
   rw [Q0F,J5 m.fY,J5 (Z4I f.fO (V3 _))];rfl
  have G:=Q3P g (a:=l.g_.t_) (b:=cn (Z8y l.g_.t_ T (inR v.1.t_)).Y++cn fun u w=>T.O l.g_.t_ u w&&inR v.1.t_ u w) h.tr.val.le8 (by rw [List.length_append];omega) h.tr.val.pos (fun r i=>by
   rcases List.mem_append.1 i with i|i
   .exact p.pos r i
   .exact o.pos r i) rfl C (k:=fun u v=>u && !v) rfl (Z7F F)
  have E:=Z6q g p H o;unfold TS.t3
  rw [x];exact Q2 B (Q2 D (Q2 (Q3X g (by exact Nat.le_trans I (by omega)) (by exact Nat.le_trans t (by omega))) (Q2 G (Q2 E rfl))))
end
end Go.Ab
end
