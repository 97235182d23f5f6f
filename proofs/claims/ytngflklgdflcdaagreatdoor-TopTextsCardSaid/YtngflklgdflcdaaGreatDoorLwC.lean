/- What the plain programs compute, up to the law itself. -/
import Derived.Test.YtngflklgdflcdaaGreatDoorLwB
import Derived.Test.YtngflklgdflcdaaGreatDoorAbD
set_option maxRecDepth 20000
set_option linter.all false
noncomputable section
namespace Go.Ab
variable {body:(Int->φ)->Int->φ}{K most n x0 y:Int}{L M rest:List ε}{r:ε}{cs:Φ}{H hs:ν}{ps rs:Ω}{A B a b:ζ}{F d e i k k' m n':Nat}{z':Nat×χ×Int}{w:W_}{parcel:aE}{x:aO}{f:aP}{s:af}{t:aj}{q:aj->π}{rc:ar->Option (ar×aj)}
theorem Ep(l:ν)(y c:Int)(a:ζ):(Wo l y c a).length<=l.length+1:=by
 rw[<-(gK l y c a).length_eq];have b:=iQ ZB (Zc l y c a++[(⟨y,c,⟨vA l y c a⟩⟩:aC)])
 have d:=rP l y c a;simp only[dK,dz,eg]at b
 omega
theorem ew.addH_len{l:ν}(h:ew K l){c:Int}(hy:0<=y/\y<=100)(hc:0<=c/\c<40){a:aE}(ha:hJ 9 a):(Go.Ab.addH l y c a).1.length<=l.length+1:=by
 rw[uq h.hl hy hc ha.val];split
 .simp
 .exact Ep l y c a.t_
theorem Z4Z(hF:Q6<=F){t:aD}(ht:dw t)(hcs:dQ cs)(m1:0<=most)(m2:most<=50):∃t' l,FA F t cs 4 most=some (t',l)/\dw t' /\ ew (cs.length:Nat) l/\(l.length:Int)<=most:=by
 have b:=hF;unfold Q6 at hF
 obtain⟨O,q⟩:=hcs.len;obtain⟨v,c,r,E,D,o⟩:=Zd (F:=F) ht (n:=most+1) (by omega) (by omega)
 have i:∀(k f:Nat) (t:aD) (l:ν),k<f->k<=60->(l.length:Int)+k<=most->dw t->ew (cs.length:Nat) l->∃t' l',Y4 (λagain (z:ν×Int×θ×Int)=>Fy F cs 4 again z.1 z.2.1 z.2.2.1 z.2.2.2) f (l,(k:Int),t.l_,t.aT)=some (t',l')/\dw t' /\ ew (cs.length:Nat) l' /\ (l'.length:Int)<=most:=by
  intro k
  induction k with
  |zero=>
   intro f t l B _ h ht d
   cases f with
   |zero=>omega
   |succ f=>exact⟨⟨t.l_,t.aT⟩,l,rfl,ht,d,by omega⟩
  |succ k ih=>
   intro f t l B m h ht d
   cases f with
   |zero=>omega
   |succ f=>
    obtain⟨M,y,H,J,K,L⟩:=Zd (F:=F) ht (n:=5) (by omega) (by omega);obtain⟨N,c,C,w,D,o⟩:=Zd (F:=F) J (n:=(cs.length:Nat)) (by omega) (by omega)
    obtain⟨G,a,u,I,p⟩:=A3 b w (n:=9) (most:=2) (by omega) (by omega) (by omega) (by omega);have s:=d.addH_len (y:=y) (c:=c) (by omega) (by omega) p
    obtain⟨A,q,e,j,g⟩:=ih f G (addH l y c a).1 (by omega) (by omega) (by omega) I (d.addH (by omega) (by omega) o p);refine⟨A,q,?_,j,g⟩
    show Fy F cs 4 _ l ((k+1:Nat):Int) t.l_ t.aT=_;unfold Fy
    refine Y8 (by simp) ?_;refine Z7 (k:=?_)
    refine Q3 H (Q3 C (Q3 u (Q3 (EM b _ _ _ _) ?_)));refine Z7 (k:=?_)
    have x:((k+1:Nat):Int)-1=(k:Int):=by omega
    rw[x];exact e
 obtain⟨t',l,e,j,g⟩:=i c.toNat F v [] (by omega) (by omega) (by simp;omega) E (ew.nil _);refine⟨t',l,?_,j,g⟩
 unfold FA;refine Z7 (k:=?_)
 refine Q3 r ?_;have:(c.toNat:Int)=c:=by omega
 rw[this]at e;exact e
def Uu(cs:Φ)(c m:Int):Bool:=decide (0<=c)&&(decide (c<(cs.length:Nat))&&((m != 0)&&(QO .i64 (gl cs c.toNat).m_ m==m)))
theorem kZ(F:Nat)(cs:Φ)(c m:Int):BD F cs c m=some (Uu cs c m):=by
 unfold BD Uu;refine Z9 (λa=>?_) (λa=>?_)
 .rw [a,eN]
  refine Z9 (λb=>?_) (λb=>?_)
  .rw [b,eN]
   have a:=dO a;have b:=dO b
   refine Z9 (λd=>?_) (λd=>?_)
   .rw [d,eN];exact Q5 ⟨a,b⟩ rfl
   .rw [d];rfl
  .rw [b];rfl
 .rw [a];rfl
theorem Q7H{l:ν}(h:ew K l)(y:Int)(p:Int->Bool):∀i,i<=l.length->(ZE (l.take i) y p).length<=45*i:=by
 intro i
 induction i with
 |zero=>intro _;rw[lG];exact di _
 |succ i ih=>
  intro c;have a:=y3 (show i<l.length by omega)
  rw[Za (show i<l.length by omega),qG,dK];have:=ih (by omega)
  have b:=Wb.half (h.hl.val a).2.2 (n:=9) (h.box _ a);split
  .omega
  .simp only[eg];omega
theorem Wb.half2{l:ζ}(hc:Wb l){w h:Nat}(hb:∀r∈l,x0<=r.L_/\r.R_<=x0+w/\0<=r.w_/\r.H_<=h):l.length<=h*((w+1) / 2):=by
 obtain⟨b,g,rfl⟩:=hc;have f:∀c∈b,∃s,s∈c.v:=λc hc=>oV _ (g.ne c hc)
 have d:∀c∈b,∀s∈c.v,(⟨s.L_,c.lo,s.R_,c.hi⟩:aa)∈flat b:=λc hc s e=>eE.2 ⟨c,hc,eF.2 ⟨s,e,rfl⟩⟩
 have k:(b.length:Int)<=h-0:=g.runs.len (by omega) λc hc=>by
  obtain⟨s,e⟩:=f c hc;have:=hb _ (d c hc s e)
  simp only at this;omega
 have i:∀c∈b,c.v.length<=(w+1) / 2:=λc hc=>by
  have:=(g.sp c hc).half (n:=x0+w) (a:=x0) (by omega) λs e=>by
   have:=hb _ (d c hc s e)
   simp only at this⊢;omega
  omega
 have m:=sF i;have j:b.length*((w+1) / 2)<=h*((w+1) / 2):=eu _ (by omega)
 omega
def Rq(d:Int)(S:Int->Int->Bool):Prop:=∀u v,S u v=true->d<=u/\u<d+9/\0<=v/\v<9
theorem Au{S:Int->Int->Bool}(hf:Fin S){d:Int}(h0:0<=d/\d<=100)(hb:Rq d S):K7 (cn S)/\∀r∈cn S,d<=r.L_/\r.R_<=d+9/\0<=r.w_/\r.H_<=9:=by
 have e:=Gb hf;have c:∀r∈cn S,d<=r.L_/\r.R_<=d+9/\0<=r.w_/\r.H_<=9:=by
  intro r c;obtain⟨g,f⟩:=e.pos c
  have a:=hb r.L_ r.w_ (by rw[<-YE hf];exact FL c ((Yv _ _ _).2 (by omega)));have b:=hb (r.R_-1) (r.H_-1) (by rw[<-YE hf];exact FL c ((Yv _ _ _).2 (by omega)))
  omega
 have i:=e.half2 (x0:=d) (w:=9) (h:=9) λr h=>by have:=c r h;omega
 refine⟨⟨by omega,λr h=>?_,e⟩,c⟩;obtain⟨g,f⟩:=e.pos h
 have:=c r h
 rw[Wy];omega
theorem Z4X(F:Nat)(t:aD)(n m:Int):xF F t n m=Xi F t n m:=rfl
def Ug(d:Int)(r:aa):aa:=⟨r.L_+d,r.w_,r.R_+d,r.H_⟩
theorem At(d:Int)(l:ζ)(u v:Int):Q8 (l.map (Ug d)) u v=Q8 l (u-d) v:=by
 unfold Q8;rw[mU]
 congr 1
 funext r
 show(Ug d r).has u v=r.has (u-d) v;rw[eV,Yv,Yv]
 show r.L_+d<=u/\u<r.R_+d/\r.w_<=v/\v<r.H_↔r.L_<=u-d/\u-d<r.R_/\r.w_<=v/\v<r.H_;omega
theorem xU{α:Type}[aN α](l:List α)(i j:Nat)(x:α)(hj:j<l.length):gl (l.set i x) j=if i=j then x else gl l j:=by
 unfold gl;rw[aY,mT]
 by_cases h:i=j
 .subst h;rw[av rfl,av rfl,av hj];rfl
 .rw [an h,an h, <-aY]
theorem Br{α:Type}[aN α](l:List α)(i:Nat)(h:i<l.length):gl l i=l[i]:=by
 unfold gl;rw[aY,eG h];rfl
theorem Z5X{α:Type}[aN α]{l m:List α}(h:l.length=m.length)(hg:∀i,i<l.length->gl l i=gl m i):l=m:=by
 apply List.ext_getElem h;intro i a b
 have:=hg i a
 rwa [Br l i a,Br m i b]at this
theorem Z5W{α β:Type}[aN α][aN β](f:α->β)(l:List α)(i:Nat)(h:i<l.length):gl (l.map f) i=f (gl l i):=by
 rw[Br _ i (by simpa using h),Br l i h];simp
def LJ(q r:aa):aa:=⟨max q.L_ r.L_,max q.w_ r.w_,min q.R_ r.R_,min q.H_ r.H_⟩
theorem OQ(q:aa)(l:ζ)(u v:Int):Q8 (l.map (LJ q)) u v=(Q8 l u v&&Q8 [q] u v):=by
 rw[eV,dc,VO,VO,VO];constructor
 .rintro ⟨r,a,h⟩
  obtain⟨s,b,rfl⟩:=eF.1 a;rw[Yv]at h
  simp only[LJ]at h;exact⟨⟨s,b,(Yv _ _ _).2 (by omega)⟩,q,by simp,(Yv _ _ _).2 (by omega)⟩
 .rintro ⟨⟨s,b,d⟩,r,a,c⟩
  rw[dI]at a;subst a
  rw[Yv]at d c;refine⟨_,eF.2 ⟨s,b,rfl⟩,(Yv _ _ _).2 ?_⟩
  simp only[LJ];omega
theorem AA{α:Type}[aN α](l m:List α)(h:i<l.length):gl (l++m) i=gl l i:=by
 unfold gl;rw[aY,iB h, <-aY]
theorem wk{α:Type}[aN α](l:List α)(x:α):gl (l++[x]) l.length=x:=by
 unfold gl;rw[aY,iY (di _)];simp
structure fk (rs:Ω):Prop where
 len:1<=rs.length/\rs.length<=3
 one:∀i,i<rs.length->∃w h:Int,2<=w/\w<=9/\2<=h/\h<=9/\gl rs i=⟨[⟨10*i,0,10*i+w,h⟩]⟩
theorem fk.pl(h:fk rs)(hi:i<rs.length):Rq (10*i) (Q8 (gl rs i).t_):=by
 intro u v a;obtain⟨w,k,f,e,g,j,d⟩:=h.one i hi
 rw[d,VO]at a;obtain⟨r,b,c⟩:=a
 rw[dI]at b;subst b
 rw[Yv]at c;simp only at c
 omega
theorem fk.val(h:fk rs)(hi:i<rs.length):K7 (gl rs i).t_:=by
 obtain⟨w,k,c,b,e,d,a⟩:=h.one i hi;have:=h.len
 rw[a];exact RK ((Wy _).2 (by simp only;omega))
structure im (K:Int) (rs:Ω) (x:aO):Prop where
 crop:0<=x.c_/\x.c_<K
 par:1<=x.p_/\x.p_<=rs.length
 sch:1<=x.s_/\x.s_<=15
 val:K7 x.g_.t_
 ne:x.g_.t_.length≠0
 sub:∀u v,Q8 x.g_.t_ u v=true->Q8 (gl rs (x.p_-1).toNat).t_ u v=true
def uC(a b:aO):Prop:=∀u v,Q8 a.g_.t_ u v=true->Q8 b.g_.t_ u v=true->False
structure eS (K:Int) (rs:Ω) (l:List aO):Prop where
 one:∀x∈l,im K rs x
 apart:l.Pairwise uC
 two:∀i,i<l.length->∃R:ζ,R.length<=2/\∀u v,Q8 (gl l i).g_.t_ u v=(Q8 R u v && !(l.take i).any λx=>Q8 x.g_.t_ u v)
theorem im.pl(hp:fk rs)(h:im K rs x):Rq (10*(x.p_-1)) (Q8 x.g_.t_):=by
 intro u v a;have:=h.par
 have b:=hp.pl (i:=(x.p_-1).toNat) (by omega) u v (h.sub u v a);omega
theorem eS.nil(K:Int)(rs:Ω):eS K rs []:=⟨λx a=>by simp at a,.nil,λi b=>by simp at b⟩
theorem Z4O{F:Nat}(hF:Q6<=F){t:aD}(ht:dw t){cs:Φ}(hcs:1<=cs.length/\cs.length<=100){most:Int}(m1:0<=most)(m2:most<=10):
  ∃t' l ns rs,Fq F t cs most=some (t',l,ns,rs)/\dw t' /\ fk rs/\eS (cs.length:Nat) rs l/\(l.length:Int)<=most:=by
 have P:=hF;unfold Q6 at hF
 obtain⟨t1,c,e1,o1,c1,c2⟩:=WX (F:=F) ht (lo:=1) (hi:=3) (by omega) (by omega) (by omega);have W:∀(rs:Ω) (ns:θ) (tl:θ) (K:Int),fk rs->ns.length=rs.length->dw ⟨tl,K⟩->∃t' l,Fp F cs most tl K ns rs=some (t',l,ns,rs)/\dw t' /\ eS (cs.length:Nat) rs l/\(l.length:Int)<=most:=by
  intro rs ns tl K J E hT;have e0:=J.len
  obtain ⟨H,k,e2,o2,k1,k2⟩:=Zd (F:=F) hT (n:=most+1) (by omega) (by omega);have T:∀ (k f:Nat) (t:aD) (l:List aO),k<f->(l.length:Int)+k<=most->dw t->eS (cs.length:Nat) rs l ->
    ∃t' l',Y4 (λd (z:Int×θ×Int×List aO)=>Bh F cs ns rs d z.1 z.2.1 z.2.2.1 z.2.2.2) f ((k:Int),t.l_,t.aT,l)=some (t',l',ns,rs)/\dw t' /\ eS (cs.length:Nat) rs l' /\ (l'.length:Int)<=most:=by
   intro k
   induction k with
   |zero=>
    intro f t l hf b2 ht Q
    cases f with
    |zero=>omega
    |succ f=>exact⟨⟨t.l_,t.aT⟩,l,rfl,ht,Q,by omega⟩
   |succ k ih=>
    intro f t l hf b2 ht Q
    cases f with
    |zero=>omega
    |succ f=>
     obtain⟨K,p,ea,oa,p1,p2⟩:=Zd (F:=F) ht (n:=(ns.length:Nat)) (by omega) (by omega);obtain⟨tb,a,R0,eb,ob,ha,g0,f2,c5⟩:=Z4T P oa (n:=9) (most:=2) (by omega) (by omega) (by omega) (by omega)
     obtain⟨tc,c,ec,oc,c1,c2⟩:=Zd (F:=F) ob (n:=(cs.length:Nat)) (by omega) (by omega);obtain⟨td,s,ed,od,s1,s2⟩:=Zd (F:=F) oc (n:=15) (by omega) (by omega)
     have G:p.toNat<rs.length:=by omega
     have e8:=ha.val.1
     let S:Nat->Int->Int->Bool:=λn u v=>(Q8 (a.t_.map (Ug (10*p))) u v&&Q8 (gl rs p.toNat).t_ u v) && !((l.take n).any λx=>Q8 x.g_.t_ u v)
     have c6:∀n,Rq (10*p) (S n):=λn u v h=>by
      have h1:Q8 (gl rs p.toNat).t_ u v=true:=by
       simp only[S,dc]at h;exact h.1.2
      have:=J.pl G u v h1
      omega
     have a2:S 0=λu v=>Qp (Q8 (a.t_.map (Ug (10*p))) u v) (Q8 (gl rs p.toNat).t_ u v) 2:=by
      funext u v
      simp[S,Qp]
     have a3:∀r∈a.t_,0<=r.L_/\r.L_<r.R_/\r.R_<=9/\0<=r.w_/\r.w_<r.H_/\r.H_<=9:=ha.box;have b5:∀r∈a.t_.map (Ug (10*p)),Zj r=true:=λr hr=>by
      obtain⟨q,hq,rfl⟩:=eF.1 hr;have:=a3 q hq
      rw[Wy];simp only[Ug]
      omega
     have m:∀n,n<=l.length->Fin (S n):=by
      intro n
      induction n with
      |zero=>intro _;rw[a2];exact UU _ _ 2
      |succ n ihn=>
       intro I;have h0:=ihn (by omega)
       have e:S (n+1)=λu v=>Qp (Q8 (cn (S n)) u v) (Q8 (gl l n).g_.t_ u v) 3:=by
        funext u v
        rw[YE h0];simp only[S,Qp]
        rw[Za (by omega),ny];simp[mD]
       rw[e];exact UU _ _ 3
     have Y:∀n,n<l.length->(cn λu v=>Qp (Q8 (cn (S n)) u v) (Q8 (gl l n).g_.t_ u v) 3)=cn (S (n+1)):=λn I=>by
      congr 1
      funext u v
      rw[YE (m n (by omega))];simp only[S,Qp]
      rw[Za I,ny];simp[mD]
     have C:∀n,n<=l.length->K7 (cn (S n)):=λn I=>(Au (m n I) (by omega) (c6 n)).1
     have a4:∃t' l',Fn F cs rs ((k+1:Nat):Int) l (K,p) (tb,a) (Y4 (λd (z:Int×θ×Int×List aO)=>Bh F cs ns rs d z.1 z.2.1 z.2.2.1 z.2.2.2) f) (a.t_.map (Ug (10*p)))=some (t',l',ns,rs)/\dw t' /\ eS (cs.length:Nat) rs l' /\ (l'.length:Int)<=most:=by
      have b3:∃t' l',Mk F cs ((k+1:Nat):Int) l (K,p) (tb,a) (Y4 (λd (z:Int×θ×Int×List aO)=>Bh F cs ns rs d z.1 z.2.1 z.2.2.1 z.2.2.2) f) (cn (S l.length))=some (t',l',ns,rs)/\dw t' /\ eS (cs.length:Nat) rs l' /\ (l'.length:Int)<=most:=by
       have ek:((k+1:Nat):Int)-1=(k:Int):=by omega
       by_cases hz:(cn (S l.length)).length=0
       .obtain ⟨H,X,g,o,A⟩:=ih f tb l (by omega) (by omega) ob Q
        refine⟨H,X,?_,o,A⟩;unfold Mk
        refine Z4 (by simp[hz]) ?_;unfold Mj
        simp only
        rw[ek];exact Q5 (U4 (by omega) (by omega)) g
       .have hx:im (cs.length:Nat) rs ⟨p+1,⟨cn (S l.length)⟩,c,1+s⟩:=by
         refine⟨⟨c1,c2⟩,by simp only;omega,by simp only;omega,C _ (di _),hz,λu v D=>?_⟩;have D:Q8 (cn (S l.length)) u v=true:=D
         rw[YE (m _ (di _))]at D;simp only[S,dc]at D
         have e5:(p+1-1:Int)=p:=by omega
         simp only[e5];exact D.1.2
        have b6:eS (cs.length:Nat) rs (l++[⟨p+1,⟨cn (S l.length)⟩,c,1+s⟩]):=by
         refine⟨λx h=>?_,?_,λi hi=>?_⟩
         .rcases dv.1 h with h|h
          .exact Q.one x h
          .rw [dI]at h;subst h;exact hx
         .rw [il]
          refine⟨Q.apart,iF _ _,λx h y hy u v h1 Z=>?_⟩;rw[dI]at hy
          subst hy;have Z:Q8 (cn (S l.length)) u v=true:=Z
          rw[YE (m _ (di _))]at Z;simp only[S,dc,iE,fG]at Z
          have:=fZ.1 Z.2 x h
          exact this h1
         .rcases eK i l.length with L|L
          .obtain ⟨R,r1,r2⟩:=Q.two i L
           refine⟨R,r1,λu v=>?_⟩;rw[AA _ _ L,List.take_append_of_le_length (by omega)]
           exact r2 u v
          .have h6:i=l.length:=by simp at hi;omega
           subst h6;obtain⟨w,k2,_,_,_,_,e5⟩:=J.one p.toNat G
           refine⟨(R0.map (Ug (10*p))).map (LJ ⟨10*(p.toNat:Int),0,10*(p.toNat:Int)+w,k2⟩),by simp;omega,λu v=>?_⟩;rw[wk,List.take_left' rfl,OQ,At]
           show Q8 (cn (S l.length)) u v=_;rw[YE (m _ (di _))]
           simp only[S,fG];rw[At,e5,c5]
        obtain⟨H,X,g,o,A⟩:=ih f td (l++[⟨p+1,⟨cn (S l.length)⟩,c,1+s⟩]) (by omega) (by simp;omega) od b6;refine⟨H,X,?_,o,A⟩
        unfold Mk;refine Y8 (aZ (by omega)) ?_
        refine Q5 (U4 (by simp only;omega) (by simp only;omega)) (Q3 ec (Q3 ed ?_));refine Q5 (U4 (by simp only;omega) (by simp only;omega)) (Q5 (by simp[Y2];omega) ?_)
        unfold Mj;simp only
        rw[ek];exact Q5 (U4 (by omega) (by omega)) g
      obtain⟨H,X,g,o,A⟩:=b3;refine⟨H,X,?_,o,A⟩
      unfold Fn;refine Q5 (by simp only;omega) ?_
      refine Q3 ((CB P (a:=a.t_.map (Ug (10*p))) (b:=(gl rs p.toNat).t_) (how:=2) (by simp;omega) (by have:=(J.val G).1;omega) b5 (J.val G).2.1).trans (congrArg some (congrArg cn a2.symm))) ?_;refine z5 (λz:ζ×Int=>∃n:Nat,z.2=n/\n<=l.length/\z.1=cn (S n)) (λz=>l.length-z.2.toNat) (λd z hz U=>?_) ⟨0,rfl,by omega,rfl⟩ (by simp only;omega)
      obtain⟨V,n0⟩:=z;obtain⟨n,rfl,I,rfl⟩:=hz
      simp only at I⊢;unfold tL
      refine Z9 (λh=>?_) (λh=>?_)
      .have h:n<l.length:=by simpa using h
       refine Q5 (by omega) ?_;simp only[dh]
       have hx:=Q.one _ (y3 h);refine Q3 ((CB P (a:=cn (S n)) (b:=(gl l n).g_.t_) (how:=3) (by have:=(C n I).1;omega) (by have:=hx.val.1;omega) (C n I).2.1 hx.val.2.1).trans (congrArg some (Y n h))) ?_
       refine Q5 (U4 (by omega) (by omega)) (U _ ⟨n+1,by simp,h,rfl⟩ (by simp only;omega))
      .have h:n=l.length:=by
        have:¬n<l.length:=by simpa using h
        omega
       subst h;exact g
     obtain⟨H,X,g,o,A⟩:=a4;refine⟨H,X,?_,o,A⟩
     show Bh F cs ns rs _ ((k+1:Nat):Int) t.l_ t.aT l=_;unfold Bh
     refine Y8 (by simp) (Q3 ea ?_);rw[Z4X]
     refine Q3 eb ?_;refine z5 (λz:Int×ζ=>∃i:Nat,z.1=i/\i<=a.t_.length/\z.2.length=a.t_.length/\∀j,j<a.t_.length->gl z.2 j=if j<i then Ug (10*p) (gl a.t_ j)else gl a.t_ j) (λz=>a.t_.length-z.1.toNat) (λd z hz U=>?_)
      ⟨0,rfl,by omega,rfl,λj _=>by rw[an (by omega)]⟩ (by simp only;omega)
     obtain⟨i0,V⟩:=z;obtain⟨i,rfl,hi,M,hV⟩:=hz
     simp only at M hV⊢;unfold rU
     simp only[dh];refine Z9 (λh=>?_) (λh=>?_)
     .have h:i<a.t_.length:=by simpa using h
      have c0:gl V i=gl a.t_ i:=by rw[hV i h,an (by omega)]
      have hb:=a3 _ (y3 h);have a5:∀x,gl (V.set i x) i=x:=λx=>by rw[xU V i i x (by omega),av rfl]
      simp only[c0,a5];refine Q5 (by omega) (Q5 (U4 (by omega) (by omega)) (Q5 (U4 (by omega) (by omega)) (Q5 (by omega) (Q5 (U4 (by omega) (by omega)) (Q5 (U4 (by omega) (by omega)) (Q5 (by omega) (Q5 (by rw[nY];omega) (Q5 (U4 (by omega) (by omega)) ?_))))))))
      refine U _ ⟨i+1,by simp,h,by simp[M],λj hj=>?_⟩ (by simp only;omega);rw[xU _ i j _ (by simp;omega)]
      by_cases hij:i=j
      .subst hij
       rw[av rfl,av (by omega)];rfl
      .rw [an hij,xU V i j _ (by omega),an hij,hV j hj]
       by_cases h6:j<i
       .rw [av h6,av (by omega)]
       .rw [an h6,an (by omega)]
     .have h:i=a.t_.length:=by
       have:¬i<a.t_.length:=by simpa using h
       omega
      have c7:V=a.t_.map (Ug (10*p)):=Z5X (by simp[M]) λj hj=>by
       rw[hV j (by omega),av (by omega),Z5W _ _ _ (by omega)]
      rw[c7];exact g
  obtain⟨t',l,g,o,A,q4⟩:=T k.toNat F H [] (by omega) (by simp;omega) o2 (eS.nil _ _);refine⟨t',l,?_,o,A,q4⟩
  unfold Fp;refine Q5 (U4 (by omega) (by omega)) (Q3 e2 ?_)
  have:(k.toNat:Int)=k:=by omega
  rw[this]at g;exact g
 have T:∀ (k f:Nat) (t:aD) (ns:θ) (rs:Ω),k<f->dw t->ns.length=rs.length->rs.length+k=c.toNat->(∀ i,i<rs.length->∃ w h:Int,2<=w/\w<=9/\2<=h/\h<=9/\gl rs i=⟨[⟨10*i,0,10*i+w,h⟩]⟩) ->
   ∃t' l O B,Y4 (λd (z:Int×θ×Int×θ×Ω)=>Bi F cs most d z.1 z.2.1 z.2.2.1 z.2.2.2.1 z.2.2.2.2) f ((k:Int),t.l_,t.aT,ns,rs)=some (t',l,O,B)/\dw t' /\ fk B /\ eS (cs.length:Nat) B l/\(l.length:Int)<=most:=by
  intro k
  induction k with
  |zero=>
   intro f t ns rs hf ht E hk N
   cases f with
   |zero=>omega
   |succ f=>
    have J:fk rs:=⟨by omega,N⟩;obtain⟨t',l,g,o,A,q4⟩:=W rs ns t.l_ t.aT J E ht
    refine⟨t',l,ns,rs,?_,o,J,A,q4⟩;show Bi F cs most _ 0 t.l_ t.aT ns rs=_
    unfold Bi;exact Z4 rfl g
  |succ k ih=>
   intro f t ns rs hf ht E hk N
   cases f with
   |zero=>omega
   |succ f=>
    obtain⟨K,w,ea,oa,w1,w2⟩:=WX (F:=F) ht (lo:=2) (hi:=9) (by omega) (by omega) (by omega);obtain⟨tb,h,eb,ob,h1,Z⟩:=WX (F:=F) oa (lo:=2) (hi:=9) (by omega) (by omega) (by omega)
    obtain⟨t',l,O,B,g,o⟩:=ih f tb (ns++[((ns.length:Nat):Int)+1]) (rs++[⟨[⟨10*((ns.length:Nat):Int),0,10*((ns.length:Nat):Int)+w,h⟩]⟩]) (by omega) ob (by simp[E]) (by simp;omega) (λi hi=>by
     rcases eK i rs.length with L|L
     .have e:gl (rs++[(⟨[⟨10*((ns.length:Nat):Int),0,10*((ns.length:Nat):Int)+w,h⟩]⟩:aE)]) i=gl rs i:=by
       unfold gl;rw[aY,iB L, <-aY]
      rw[e];exact N i L
     .have h6:i=rs.length:=by simp at hi;omega
      subst h6;refine⟨w,h,by omega,by omega,by omega,by omega,?_⟩
      unfold gl;rw[aY,iY (di _),E]
      simp)
    refine⟨t',l,O,B,?_,o⟩;show Bi F cs most _ ((k+1:Nat):Int) t.l_ t.aT ns rs=_
    unfold Bi;have ek:((k+1:Nat):Int)-1=(k:Int):=by omega
    refine Y8 (by simp) (Q5 (U4 (by omega) (by omega)) (Q5 (by simp[Y2];omega) (Q5 (U4 (by omega) (by omega)) (Q5 (U4 (by omega) (by omega)) (Q3 ea (Q5 (U4 (by omega) (by omega)) (Q3 eb (Q5 (by simp[Y2];omega) (Q5 (U4 (by omega) (by omega)) ?_)))))))));rw[ek]
    exact g
 obtain⟨t',l,ns,rs,g,o⟩:=T c.toNat F t1 [] [] (by omega) o1 rfl (by simp) (λi hi=>by simp at hi);refine⟨t',l,ns,rs,?_,o⟩
 unfold Fq;refine Q3 e1 ?_
 have:(c.toNat:Int)=c:=by omega
 rw[this]at g;exact g
theorem ym{R:Type}{body:(Int->Option R)->Int->Option R}{c y:Option R}(N:Nat)(p:Nat->Bool)(bad:∀again (i:Nat),i<N->p i=true->body again (i:Int)=c)(good:∀again (i:Nat) z,i<N->p i=false->again ((i:Int)+1)=z->body again (i:Int)=z)(stop:∀again,body again (N:Int)=y)(hF:N<F):Y4 body F 0=if(List.range N).any p=true then c else y:=by
 refine z5 (λz:Int=>∃i:Nat,z=i/\i<=N/\∀j,j<i->p j=false) (λz=>N-z.toNat) (λagain z e d=>?_) ⟨0,rfl,dW _,λj h=>absurd h (fy j)⟩ (by simp;omega);obtain⟨i,rfl,f,a⟩:=e
 rcases eK i N with h|h
 .cases hpi:p i with
  |true=>
   rw[av (fA.2 ⟨i,fq.2 h,hpi⟩)];exact bad again i h hpi
  |false=>
   refine good again i _ h hpi (d _ ⟨i+1,by omega,h,λj b=>?_⟩ (by omega))
   by_cases hji:j=i
   .rw [hji];exact hpi
   .exact a j (by omega)
 .have:i=N:=by omega
  subst this;rw[an (by rw[gk,fZ];intro j b;rw[a j (fq.1 b)];simp)]
  exact stop again
theorem OJ(hF:Q6<=F)(s:ByteArray):CE F s=some (QG s):=by
 unfold Q6 at hF;unfold CE
 have f:QG s=false->KE F s true=some (QG s):=λh=>by unfold KE;rw[h];exact Y8 rfl rfl
 refine Z9 (λh=>f ?_) (λh=>?_)
 .have h:=dO h
  unfold QG;rw[dg (by omega:¬1<=s.size)];rfl
 have r:1<=s.size:=by have:=ej h;omega
 refine Z9 (λh=>f ?_) (λh=>?_)
 .have h:=dO h
  unfold QG;rw[dg (by omega:¬s.size<=12)];simp
 have q:s.size<=12:=by have:=ej h;omega
 have m:QG s=decide (∀i,i<s.size->(YL (K5 s (i:Nat))||(!decide (i=0)&&Uv (K5 s (i:Nat))))=true):=by
  unfold QG;rw[aZ r,aZ q];simp
 have g:YL (K5 s (0:Int))=false->QG s=false:=λh=>by
  rw[m,iu];intro d
  have:=d 0 (by omega)
  rw[show(((0:Nat):Int))=0 from rfl,h]at this;simp at this
 refine Q5 (by omega) (Z9 (λh=>f (g ?_)) (λh=>?_))
 .have h:=dO h
  unfold YL;rw[dg (by omega)];rfl
 have t:=ej h;refine Q5 (by omega) ?_
 by_cases h4:122<K5 s (0:Int)
 .rw [aZ h4]
  refine f (g ?_);unfold YL;rw[dg (by omega:¬K5 s (0:Int)<=122)];simp
 rw[dg h4];have n:YL (K5 s (0:Int))=true:=by
  unfold YL;rw[aZ (by omega),aZ (by omega)];rfl
 unfold KE;refine Z4 rfl ?_
 refine(ym (c:=some false) (y:=some true) s.size (λi=> !(YL (K5 s (i:Nat))||Uv (K5 s (i:Nat)))) (λa i k b=>?_) (λa i z k b m=>?_) (λa=>?_) (by omega)).trans ?_
 .rw [iE,fP]at b
  unfold YL Uv at b;unfold CD
  have k2:VF F (i:Int) a true=some false:=by unfold VF;exact Y8 rfl rfl
  refine Y8 (aZ (by omega)) (Q5 (by omega) ?_);have o:gd (0<=(i:Int)/\(i:Int)<((s.size:Nat):Int)) (br (decide (K5 s (i:Nat)<48)) (VF F (i:Int) a true) (gd (0<=(i:Int)/\(i:Int)<((s.size:Nat):Int)) (VF F (i:Int) a (decide (57<K5 s (i:Nat))))))=some false:=by
   refine Q5 (by omega) (Z9 (λ_=>k2) (λe=>Q5 (by omega) ?_));have e:=ej e
   rw[aZ (p:=57<K5 s (i:Nat))]
   .exact k2
   .have j:=b.2
    rw[aZ (by omega:48<=K5 s (i:Nat)),eN,iu]at j;omega
  refine Z9 (λ_=>o) (λe=>Q5 (by omega) ?_);refine Y8 ?_ o
  have e:=ej e;have j:=b.1
  rw[aZ (by omega:97<=K5 s (i:Nat)),eN,iu]at j;exact aZ (by omega)
 .rw [lW,ip]at b
  unfold YL Uv at b;rw[dc,dc,dT,dT,dT,dT]at b
  unfold CD;have k2:VF F (i:Int) a false=z:=by unfold VF;exact Z4 rfl (Q5 (U4 (by omega) (by omega)) m)
  refine Y8 (aZ (by omega)) (Q5 (by omega) ?_);refine Z9 (λe=>?_) (λe=>?_)
  .have e:=dO e
   refine Q5 (by omega) (Z4 (dg (by omega)) (Q5 (by omega) ?_));rw[dg (p:=57<K5 s (i:Nat)) (by omega)];exact k2
  .have e:=ej e
   refine Q5 (by omega) (Z9 (λj=>?_) (λj=>k2));have j:=dO j
   refine Q5 (by omega) (Z4 (dg (by omega)) (Q5 (by omega) ?_));rw[dg (p:=57<K5 s (i:Nat)) (by omega)];exact k2
 .unfold CD
  exact Z4 (dg (by omega)) rfl
 .rw [m]
  split
  .rename_i l
   congr 1
   symm
   rw[iu];intro d
   obtain⟨i,k,b⟩:=fA.1 l;have:=d i (fq.1 k)
   rw[iE,fP]at b;rw[b.1,b.2]at this
   simp at this
  .rename_i l
   congr 1
   symm
   rw[dT];intro i k
   rw[gk,fZ]at l;have:=l i (fq.2 k)
   rw[gk,lW]at this
   by_cases h0:i=0
   .subst h0;rw[show(((0:Nat):Int))=0 from rfl,n];rfl
   .rw [dg h0];simpa using this
theorem Nu(N:Nat)(p:Nat->Int)(bad:∀again (i:Nat),i<N->p i≠0->body again (i:Int)=some (p i))(good:∀again (i:Nat) z,i<N->p i=0->again ((i:Int)+1)=z->body again (i:Int)=z)(stop:∀again,body again (N:Int)=some 0)(hF:N<F):Y4 body F 0=some ((((List.range N).map p).find? λc=>c != 0).getD 0):=by
 refine z5 (λz:Int=>∃i:Nat,z=i/\i<=N/\∀j,j<i->p j=0) (λz=>N-z.toNat) (λagain z m k=>?_) ⟨0,rfl,dW _,λj h=>absurd h (fy j)⟩ (by simp;omega);obtain⟨i,rfl,n,f⟩:=m
 rcases eK i N with h|h
 .by_cases hpi:p i=0
  .refine good again i _ h hpi (k _ ⟨i+1,by omega,h,λj a=>?_⟩ (by omega))
   by_cases hji:j=i
   .rw [hji];exact hpi
   .exact f j (by omega)
  .rw [bad again i h hpi]
   congr 1
   have e:List.range N=List.range i++i::(List.range N).drop (i+1):=by
    have l:(List.range N).take i=List.range i:=by rw[List.take_range];congr 1;omega
    have b:=iR i (List.range N);rw[l,lL (by simpa using h)]at b
    rw[List.getElem_range]at b;exact b.symm
   have g:(((List.range i).map p).find? λc=>c != 0)=none:=iI.2 λc d=>by
    obtain⟨j,a,rfl⟩:=eF.1 d;rw[f j (fq.1 a)];simp
   rw[e,fe,List.find?_append,g,Option.none_or,eP,nK];have:(p i != 0)=true:=by simpa using hpi
   rw[this];rfl
 .have:i=N:=by omega
  subst this;rw[stop again]
  congr 1
  have g:(((List.range i).map p).find? λc=>c != 0)=none:=iI.2 λc d=>by
   obtain⟨j,a,rfl⟩:=eF.1 d;rw[f j (fq.1 a)];simp
  rw[g];rfl
def Wa(l:Φ)(i:Nat):Int:=
 if QG (gl l i).n_=false then 5 else if(gl l i).f_<0\/40<(gl l i).f_ then 2 else if(gl l i).m_<0\/31<(gl l i).m_ then 14
 else if 0<i/\(YA (gl l i).n_ (gl l (i-1)).n_||J3 (gl l i).n_ (gl l (i-1)).n_)=true then 6 else 0
def crC(l:Φ):Int:=if 40<l.length then 1 else(((List.range l.length).map (Wa l)).find? λc=>c != 0).getD 0
def BT(l:Φ):Prop:=∀x∈l,x.n_.size<=4294967296
theorem Nh{l:Φ}(h:QG (gl l i).n_=false):Wa l i=5:=by unfold Wa;rw[av h]
theorem NA{l:Φ}(h:QG (gl l i).n_=true)(h2:(gl l i).f_<0\/40<(gl l i).f_):Wa l i=2:=by
 unfold Wa;rw[an (by rw[h];simp),av h2]
theorem Oq{l:Φ}(h:QG (gl l i).n_=true)(h2:¬((gl l i).f_<0\/40<(gl l i).f_))(h3:(gl l i).m_<0\/31<(gl l i).m_):Wa l i=14:=by
 unfold Wa;rw[an (by rw[h];simp),an h2,av h3]
theorem Z7v{l:Φ}(h:QG (gl l i).n_=true)(h2:¬((gl l i).f_<0\/40<(gl l i).f_))(h3:¬((gl l i).m_<0\/31<(gl l i).m_))(h4:0<i/\(YA (gl l i).n_ (gl l (i-1)).n_||J3 (gl l i).n_ (gl l (i-1)).n_)=true):Wa l i=6:=by
 unfold Wa;rw[an (by rw[h];simp),an h2,an h3,av h4]
theorem wJ{l:Φ}(h:QG (gl l i).n_=true)(h2:¬((gl l i).f_<0\/40<(gl l i).f_))(h3:¬((gl l i).m_<0\/31<(gl l i).m_))(h4:¬(0<i/\(YA (gl l i).n_ (gl l (i-1)).n_||J3 (gl l i).n_ (gl l (i-1)).n_)=true)):Wa l i=0:=by
 unfold Wa;rw[an (by rw[h];simp),an h2,an h3,an h4]
theorem tj(hF:Q6<=F){l:Φ}(hn:BT l):Xz F l=some (crC l):=by
 have r:=hF;unfold Q6 at hF
 unfold Xz crC;refine Z9 (λh=>?_) (λh=>?_)
 .rw [av (by have:=dO h;omega)]
 have v:l.length<=40:=by have:=ej h;omega
 rw[an (by omega)];have c:∀(a:Int->φ) (i:Nat),i<l.length->BE F l a (i:Int)=if Wa l i=0 then a ((i:Int)+1)else some (Wa l i):=by
  intro a i e;unfold BE
  simp only[dh];have s:=hn _ (y3 e)
  refine Y8 (aZ (by omega)) (Q5 (by omega) (Q3 (De (by omega) s) ?_));refine Z9 (λb=>?_) (λb=>?_)
  .have b:QG (gl l i).n_=false:=by simpa using b
   rw[Nh b,an (by decide)]
  have b:QG (gl l i).n_=true:=by simpa using b
  have g:(gl l i).f_<0\/40<(gl l i).f_->Xy F l (i:Int) a true=if Wa l i=0 then a ((i:Int)+1)else some (Wa l i):=λh=>by
   rw[NA b h,an (by decide)];unfold Xy
   exact Y8 rfl rfl
  refine Z9 (λj=>g (.inl (dO j))) (λj=>?_);have j:=ej j
  by_cases h3:40<(gl l i).f_
  .rw [aZ h3];exact g (.inr h3)
  have m:¬((gl l i).f_<0\/40<(gl l i).f_):=by omega
  rw[dg h3];unfold Xy
  simp only[dh];refine Z4 rfl ?_
  have f:(gl l i).m_<0\/31<(gl l i).m_->Xx F l (i:Int) a true=if Wa l i=0 then a ((i:Int)+1)else some (Wa l i):=λh=>by
   rw[Oq b m h,an (by decide)];unfold Xx
   exact Y8 rfl rfl
  refine Z9 (λk=>f (.inl (dO k))) (λk=>?_);have k:=ej k
  by_cases h5:31<(gl l i).m_
  .rw [aZ h5];exact f (.inr h5)
  have o:¬((gl l i).m_<0\/31<(gl l i).m_):=by omega
  rw[dg h5];unfold Xx
  simp only[dh];refine Z4 rfl ?_
  refine Z9 (λd=>?_) (λd=>?_)
  .have d:0<i:=by have:=dO d;omega
   have t:((i:Int)-1).toNat=i-1:=by omega
   refine Q5 (U4 (by omega) (by omega)) (Q5 (by omega) ?_);rw[t]
   unfold Xw;refine Z9 (λn=>?_) (λn=>?_)
   .rw [Z7v b m o ⟨d,n⟩,an (by decide)]
   .rw [wJ b m o (λp=>by rw[p.2]at n;cases n),av rfl]
    exact Q5 (U4 (by omega) (by omega)) rfl
  .have d:¬0<i:=by have:=ej d;omega
   rw[wJ b m o (λp=>d p.1),av rfl];unfold Xw
   exact Z4 rfl (Q5 (U4 (by omega) (by omega)) rfl)
 refine Nu l.length (Wa l) (λa i e q=>?_) (λa i z e q u=>?_) (λa=>?_) (by omega)
 .rw [c a i e,an q]
 .rw [c a i e,av q];exact u
 .unfold BE
  exact Z4 (dg (by omega)) rfl
theorem dQ.nm{l:Φ}(h:dQ l):BT l:=λx c=>by
 obtain⟨i,b,rfl⟩:=eZ c;have a:=(h.one i b).1
 have:=h.len
 rw[Br l i b]at a;rw[a]
 have:=(Aj i (by omega)).2
 omega
theorem dQ.crC{l:Φ}(h:dQ l):crC l=0:=by
 have a:=x8 (F:=Q6) (di _) h;rw[tj (di _) h.nm]at a
 exact ic a
def TD:Nat->aj->Prop
 |0,_=>False
 |d+1,t=>Q7 t.aw/\Q7 t.ao/\t.ae.length<=1000000/\∀k∈t.ae,TD d k
theorem TD.op(h:TD d t):Q7 t.aw:=by
 cases d with
 |zero=>exact h.elim
 |succ d=>exact h.1
def Qc:Nat->aj->Nat
 |0,_=>0
 |d+1,t=>1+(t.ae.map (Qc d)).sum
theorem Q8K(h:TD d t):1<=Qc d t:=by
 cases d with
 |zero=>exact h.elim
 |succ d=>unfold Qc;omega
def WQ(d:Nat)(t:aj)(i:Nat):Nat:=1+((t.ae.take i).map (Qc d)).sum
theorem zB(h:i<t.ae.length):WQ d t (i+1)=WQ d t i+Qc d (gl t.ae i):=by
 unfold WQ;rw[Za h,fe,mE];simp;omega
theorem zC:WQ d t i<=Qc (d+1) t:=by
 unfold WQ Qc;have:(t.ae.map (Qc d)).sum=((t.ae.take i).map (Qc d)).sum+((t.ae.drop i).map (Qc d)).sum:=by
  rw[<-mE, <-fe,iR]
 omega
theorem cP:WQ d t t.ae.length=Qc (d+1) t:=by unfold WQ Qc;rw[fG]
theorem cz:∀(d:Nat) {F:Nat} (_:Q6+d<=F) {t:aj} (_:TD d t) {m:Int} (_:0<=m) (_:m<=40),∃v,Kb F t m=some v/\1<=v/\v<=m+1/\(m<v↔m<(Qc d t:Int))/\((Qc d t:Int)<=m->v=Qc d t)
 |0,_,_,_,h,_,_,_=>h.elim
 |d+1,0,hF,_,_,_,_,_=>by unfold Q6 at hF;omega
 |d+1,F+1,hF,t,h,m,m0,m1=>by
  obtain⟨_,_,E,x⟩:=h;show ∃v,Sj F (Kb F) t m=some v/\_
  unfold Sj;have a : Q6+d<=F:=by omega
  have B:=a;unfold Q6 at B
  suffices y:∀ (n:Nat) (i:Nat) (v:Int),t.ae.length-i<n->i<=t.ae.length->1<=v->v<=m+1->(v<=m->v=(WQ d t i:Int))->(m<v->m<(WQ d t i:Int)) ->
    ∃u,Y4 (λagain (z:Int×Int)=>Sh F (Kb F) t m again z.1 z.2) n (v,(i:Int))=some u/\1<=u/\u<=m+1/\(m<u↔m<(Qc (d+1) t:Int))/\((Qc (d+1) t:Int)<=m->u=Qc (d+1) t) by
   refine y F 0 1 (by omega) (by omega) (by omega) (by omega) (λ_=>by simp[WQ]) (λh=>?_);simp[WQ];omega
  intro n
  induction n with
  |zero=>intro i v h;omega
  |succ n ih=>
   intro i v H I k o f b;show ∃u,Sh F (Kb F) t m (Y4 _ n) v (i:Int)=some u/\_
   unfold Sh
   by_cases hil:i<t.ae.length
   .rw [show decide ((i:Int)<((t.ae.length:Nat):Int))=true from aZ (by omega)]
    have c:=x _ (y3 hil);have e:=c.op
    by_cases hv:m<v
    .refine ⟨v,?_,k,o,?_,λh=>?_⟩
     .refine Y8 rfl (Q5 (by omega) (Q5 e (Y8 (aZ hv) rfl)))
     .exact ⟨λ_=>by have:=b hv;have:=zC (d:=d) (i:=i) (t:=t);omega,λ_=>hv⟩
     .have:=b hv;have:=zC (d:=d) (i:=i) (t:=t);omega
    .obtain ⟨w,C,G,D,p,A⟩:=cz d a c (m:=m-v) (by omega) (by omega)
     have l:=zB (d:=d) hil;have s:=f (by omega)
     have j:=ih (i+1) (v+w) (by omega) (by omega) (by omega) (by omega) (λh=>by
      have:=A (by
       have:¬m-v<w:=by omega
       have:=mt p.2 this
       omega)
      omega) (λh=>by
      have:=p.1 (by omega)
      omega)
     obtain⟨u,r,q⟩:=j;refine⟨u,?_,q⟩
     refine Y8 rfl (Q5 (by omega) (Q5 e (Z4 (dg hv) (Q5 (U4 (by omega) (by omega)) (Q3 C (Q5 (U4 (by omega) (by omega)) (Q5 (U4 (by omega) (by omega)) ?_)))))));rw[<-r];congr 1
   .have g:i=t.ae.length:=by omega
    subst g;rw[cP]at f b
    refine⟨v,Z4 (dg (by omega)) rfl,k,o,⟨b,λh=>?_⟩,λh=>?_⟩
    .by_cases hv:m<v
     .exact hv
     .have:=f (by omega);omega
    .by_cases hv:m<v
     .have:=b hv;omega
     .exact f (by omega)
theorem AB:∀(d:Nat) (_:d<=2000000) {F:Nat} (_:Q6+d<=F) {t:aj} (_:TD d t),∃v,Ky F t=some v/\1<=v/\v<=41*d/\(40<v↔40<(Qc d t:Int))/\((Qc d t:Int)<=40->v=Qc d t)
 |0,_,_,_,_,h=>h.elim
 |d+1,_,0,hF,_,_=>by unfold Q6 at hF;omega
 |d+1,hd,F+1,hF,t,h=>by
  obtain⟨_,_,C,s⟩:=h;show ∃v,Ci F (Ky F) t=some v/\_
  unfold Ci;have a : Q6+d<=F:=by omega
  have y:=a;unfold Q6 at y
  suffices x:∀ (n:Nat) (i:Nat) (v:Int),t.ae.length-i<n->i<=t.ae.length->1<=v->v<=41*((d+1:Nat):Int)->(v<=40->v=(WQ d t i:Int))->(40<v->40<(WQ d t i:Int)) ->
    ∃u,Y4 (λagain (z:Int×Int)=>Ch F (Ky F) t again z.1 z.2) n (v,(i:Int))=some u/\1<=u/\u<=41*((d+1:Nat):Int)/\(40<u↔40<(Qc (d+1) t:Int))/\((Qc (d+1) t:Int)<=40->u=Qc (d+1) t) by
   exact x F 0 1 (by omega) (by omega) (by omega) (by omega) (λ_=>by simp[WQ]) (λh=>by omega)
  intro n
  induction n with
  |zero=>intro i v h;omega
  |succ n ih=>
   intro i v E G m p e f;show ∃u,Ch F (Ky F) t (Y4 _ n) v (i:Int)=some u/\_
   unfold Ch
   by_cases hil:i<t.ae.length
   .rw [show decide ((i:Int)<((t.ae.length:Nat):Int))=true from aZ (by omega)]
    have b:=s _ (y3 hil);have c:=b.op
    have o:=zB (d:=d) hil
    by_cases hv:v<=40
    .obtain ⟨w,A,D,B,l,q⟩:=AB d (by omega) a b
     have r:=e hv;obtain⟨u,j,g⟩:=ih (i+1) (v+w) (by omega) (by omega) (by omega) (by omega) (λh=>by
      have:=q (by
       have:¬40<w:=by omega
       have:=mt l.2 this
       omega)
      omega) (λh=>by
      by_cases h40:40<w
      .have:=l.1 h40;omega
      .have:=q (by have:=mt l.2 h40;omega);omega)
     refine⟨u,?_,g⟩;refine Y8 rfl (Q5 (by omega) (Q5 c (Y8 (aZ hv) (Q3 A (Q5 (U4 (by omega) (by omega)) ?_)))))
     unfold Hq;refine Q5 (U4 (by omega) (by omega)) ?_
     rw[<-j];congr 1
    .obtain ⟨u,j,g⟩:=ih (i+1) v (by omega) (by omega) m p (λh=>by omega) (λh=>by have:=f h;omega)
     refine⟨u,?_,g⟩;refine Y8 rfl (Q5 (by omega) (Q5 c (Z4 (dg hv) ?_)))
     unfold Hq;refine Q5 (U4 (by omega) (by omega)) ?_
     rw[<-j];congr 1
   .have k:i=t.ae.length:=by omega
    subst k;rw[cP]at e f
    refine⟨v,Z4 (dg (by omega)) rfl,m,p,⟨f,λh=>?_⟩,λh=>?_⟩
    .by_cases hv:40<v
     .exact hv
     .have:=e (by omega);omega
    .by_cases hv:40<v
     .have:=f hv;omega
     .exact e (by omega)
def ZP(n:Int):Bool:=n==1||(n==2||(n==4||(n==8||n==16)))
theorem yZ(F:Nat)(n:Int):PH F n=some (ZP n):=by
 unfold PH GN ZP
 cases h1:(n==(1:Int))<;>cases h2:(n==(2:Int))<;>cases h3:(n==(4:Int))<;>cases h4:(n==(8:Int))<;>rfl
theorem jV(F:Nat)(n:Int):JX F n=some (ZP n):=by
 unfold JX
 by_cases h:1<=n/\n<=16
 .have a:n=1\/n=2\/n=3\/n=4\/n=5\/n=6\/n=7\/n=8\/n=9\/n=10\/n=11\/n=12\/n=13\/n=14\/n=15\/n=16:=by omega
  rcases a with rfl|rfl|rfl|rfl|rfl|rfl|rfl|rfl|rfl|rfl|rfl|rfl|rfl|rfl|rfl|rfl<;>rfl
 .have b:ZP n=false:=by
   unfold ZP;simp only[fP,l9]
   omega
  rw[b];refine Z9 (λd=>Z9 (λc=>?_) (λ_=>rfl)) (λ_=>rfl)
  exact absurd ⟨dO d,dO c⟩ h
def QW(t:aj):Bool:=
 if t.aw=1 then t.ao==0&&(t.ak==0&&t.ae.length==0)
 else if t.aw=2 then(decide (0<=t.ao)&&decide (t.ao<=39))&&(t.ak==0&&t.ae.length==0)
 else if t.aw=3 then(decide (0<=t.ao)&&decide (t.ao<=40))&&(t.ak==0&&t.ae.length==0)
 else if t.aw=4 then ZP t.ao&&(t.ak==0&&t.ae.length==0)
 else if t.aw=5 then(decide (0<=t.ao)&&decide (t.ao<=15))&&(t.ak==0&&t.ae.length==0)
 else if t.aw=6 then(decide (2<=t.ao)&&decide (t.ao<=10))&&(t.ak==0&&t.ae.length==0)
 else if t.aw=7 then(decide (1<=t.ao)&&decide (t.ao<=10))&&(ZP t.ak&&t.ae.length==0)
 else if t.aw=8 then(decide (1<=t.ao)&&decide (t.ao<=10))&&(t.ak==0&&t.ae.length==0)
 else if t.aw=9\/t.aw=10 then t.ao==0&&(t.ak==0&&decide (1<=t.ae.length))
 else if t.aw=11 then t.ao==0&&(t.ak==0&&t.ae.length==1)
 else false
def QY:Nat->aj->Bool
 |0,_=>false
 |d+1,t=>QW t&&t.ae.all (QY d)
def Wh:Nat->aj->Nat
 |0,_=>0
 |d+1,t=>1+t.ae.foldl (λn k=>max n (Wh d k)) 0
def Wt:Nat->Nat->aj->Bool
 |0,_,_=>false
 |d+1,n,t=> !decide (n=0)&&(QW t&&t.ae.all (Wt d (n-1)))
theorem kh{α:Type}(f:α->Nat):∀(l:List α) (a n:Nat),l.foldl (λn k=>max n (f k)) a<=n↔a<=n/\∀k∈l,f k<=n
 |[],a,n=>by simp
 |x::l,a,n=>by
  rw[mm,kh f l];simp only[dY,forall_eq_or_imp]
  constructor
  .rintro ⟨c,b⟩;exact⟨by omega,by omega,b⟩
  .rintro ⟨c,b,d⟩;exact⟨by omega,d⟩
theorem Px:∀(d n:Nat) (t:aj),TD d t->Wt d n t=(decide (Wh d t<=n)&&QY d t)
 |0,_,_,h=>h.elim
 |d+1,n,t,h=>by
  unfold Wt Wh QY;have b:=h.2.2.2
  cases n with
  |zero=>simp
  |succ n=>
   have f:t.ae.all (Wt d (n+1-1))=(t.ae.all (λk=>decide (Wh d k<=n))&&t.ae.all (QY d)):=by
    rw[eV,dc,en,en,en];constructor
    .intro h
     refine⟨λk a=>?_,λk a=>?_⟩<;>(have:=h k a;rw[lS,Px d n k (b k a),dc]at this)
     .exact this.1
     .exact this.2
    .rintro ⟨e,c⟩ k a
     rw[lS,Px d n k (b k a),e k a,c k a];rfl
   have g:decide (1+t.ae.foldl (λn k=>max n (Wh d k)) 0<=n+1)=t.ae.all (λk=>decide (Wh d k<=n)):=by
    rw[eV,dT,en];have:=kh (Wh d) t.ae 0 n
    simp only[dT];constructor
    .intro h;exact(this.1 (by omega)).2
    .intro h;have:=this.2 ⟨by omega,h⟩;omega
   rw[f,g]
   cases QW t<;>cases t.ae.all (λk=>decide (Wh d k<=n))<;>cases t.ae.all (QY d)<;>simp
theorem vg:∀(d:Nat) (_:d<=2000000) {F:Nat} (_:Q6+d<=F) {t:aj} (_:TD d t),Kw F t=some (Wh d t:Int)/\Wh d t<=d
 |0,_,_,_,_,h=>h.elim
 |d+1,_,0,hF,_,_=>by unfold Q6 at hF;omega
 |d+1,hd,F+1,hF,t,h=>by
  obtain⟨_,_,r,j⟩:=h;have a : Q6+d<=F:=by omega
  have p:=a;unfold Q6 at p
  have o:t.ae.foldl (λn k=>max n (Wh d k)) 0<=d:=(kh _ _ _ _).2 ⟨by omega,λk e=>(vg d (by omega) a (j k e)).2⟩;refine⟨?_,by unfold Wh;omega⟩
  show Cg F (Kw F) t=_;unfold Cg
  suffices m:∀ (n:Nat) (i:Nat) (v:Nat),t.ae.length-i<n->i<=t.ae.length->(t.ae.drop i).foldl (fun n k=>max n (Wh d k)) v=t.ae.foldl (fun n k=>max n (Wh d k)) 0->v<=d ->
    Y4 (λagain (z:Int×Int)=>Cf F (Kw F) t again z.1 z.2) n ((v:Int),(i:Int))=some ((Wh (d+1) t:Nat):Int) by
   exact m F 0 0 (by omega) (by omega) rfl (by omega)
  intro n
  induction n with
  |zero=>intro i v h;omega
  |succ n ih=>
   intro i v w u c s;show Cf F (Kw F) t (Y4 _ n) (v:Int) (i:Int)=_
   unfold Cf
   by_cases hil:i<t.ae.length
   .have b:=j _ (y3 hil)
    obtain⟨l,q⟩:=vg d (by omega) a b;rw[YP hil,mm]at c
    have g:=ih (i+1) (max v (Wh d (gl t.ae i))) (by omega) (by omega) c (by omega);refine Y8 (aZ (by omega)) (Q5 (by omega) (Q5 b.op (Q3 l (Q5 (U4 (by omega) (by omega)) ?_))))
    rw[<-g];congr 1
    refine Prod.ext ?_ rfl;show y9 _ _=_
    unfold y9;split<;>omega
   .have f:i=t.ae.length:=by omega
    subst f;rw[lE,List.foldl_nil]at c
    refine Z4 (dg (by omega)) ?_;unfold vh
    refine Q5 (U4 (by omega) (by omega)) ?_;unfold Wh
    rw[<-c];congr 1;omega
theorem uA:∀(d:Nat) {F:Nat} (_:Q6+d<=F) {t:aj} (_:TD d t),Ww F t=some (QY d t)
 |0,_,_,_,h=>h.elim
 |d+1,0,hF,_,_=>by unfold Q6 at hF;omega
 |d+1,F+1,hF,t,h=>by
  obtain⟨_,_,B,w⟩:=h;have m : Q6+d<=F:=by omega
  have y:=m;unfold Q6 at y
  show Ce F (Ww F) t=_;have k:Y4 (λf (z:Int)=>PK F (Ww F) t f z) F (0:Int)=some (t.ae.all (QY d)):=by
   refine vE (λl=>some (l.all (QY d))) (λf i q r=>?_) (λf=>?_) (by omega)
   .show PK F (Ww F) t f (i:Int)=_
    unfold PK;have o:=w _ (y3 q)
    refine Y8 (aZ (by omega)) (Q5 (by omega) (Q5 o.op (Q3 (uA d m o) ?_)));show br (!QY d (gl t.ae i)) _ _=some (QY d (gl t.ae i)&&_)
    cases QY d (gl t.ae i)with
    |false=>rfl
    |true=>exact Z4 rfl (Q5 (U4 (by omega) (by omega)) r)
   .show PK F (Ww F) t f (t.ae.length:Int)=_
    unfold PK;exact Z4 (dg (by omega)) rfl
  have k2:∀b,PI F (Ww F) t b=some (!b&&t.ae.all (QY d)):=λb=>by
   unfold PI
   cases b with
   |true=>rfl
   |false=>exact Z4 rfl k
  have k1:∀(n:Int) (a b:Bool),ZO F (Ww F) t n a b=some ((b&&(a&&((t.ae.length:Nat):Int)==n))&&t.ae.all (QY d)):=λn a b=>by
   unfold ZO
   cases b<;>cases a
   .rw [k2];rfl
   .rw [k2];rfl
   .exact Z4 rfl (Y8 rfl (k2 _))
   .refine Z4 rfl (Z4 rfl ((k2 _).trans ?_))
    congr 2
    rw[bne,nf];rfl
  have s:∀(n:Nat),(((t.ae.length:Nat):Int)==(n:Int))=(t.ae.length==n):=λn=>by
   rw[eV,eY,eY];omega
  have A:(((t.ae.length:Nat):Int)==((t.ae.length:Nat):Int))=true:=by simp
  have v:(decide ((0:Int)<((t.ae.length:Nat):Int)))=decide (1<=t.ae.length):=by rw[eV,dT,dT];omega
  have g:(((t.ae.length:Nat):Int)==0)=(t.ae.length==0):=s 0;have u:(((t.ae.length:Nat):Int)==1)=(t.ae.length==1):=s 1
  unfold Ce QY QW;have K:∀{x:π} {n:Int} {a b c:Bool},x=ZO F (Ww F) t n a b->(b&&(a&&((t.ae.length:Nat):Int)==n))=c->x=some (c&&t.ae.all (QY d)):=λh e=>by rw[h,k1,e]
  have R:∀{lo q:Int} {a:Bool} {c:Bool},(ZO F (Ww F) t 0 a (decide (lo<=t.ao)&&decide (t.ao<=q)))=some c->br (decide (lo<=t.ao)) (ZO F (Ww F) t 0 a (decide (t.ao<=q))) (ZO F (Ww F) t 0 a false)=some c:=λh=>by
   rw[<-h];cases decide (_<=t.ao)<;>rfl
  by_cases h1:t.aw=1
  .rw [av h1]
   exact Y8 (by simp[h1]) (K rfl (by rw[g]))
  rw[an h1];refine Z4 (by simp[h1]) ?_
  by_cases h2:t.aw=2
  .rw [av h2]
   refine Y8 (by simp[h2]) ?_;rw[show decide (t.ao<40)=decide (t.ao<=39)from nc.2 (by omega)]
   exact R (K rfl (by rw[g]))
  rw[an h2];refine Z4 (by simp[h2]) ?_
  by_cases h3:t.aw=3
  .rw [av h3]
   exact Y8 (by simp[h3]) (R (K rfl (by rw[g])))
  rw[an h3];refine Z4 (by simp[h3]) ?_
  by_cases h4:t.aw=4
  .rw [av h4]
   exact Y8 (by simp[h4]) (Q3 (yZ F _) (K rfl (by rw[g])))
  rw[an h4];refine Z4 (by simp[h4]) ?_
  by_cases h5:t.aw=5
  .rw [av h5]
   exact Y8 (by simp[h5]) (R (K rfl (by rw[g])))
  rw[an h5];refine Z4 (by simp[h5]) ?_
  by_cases h6:t.aw=6
  .rw [av h6]
   exact Y8 (by simp[h6]) (R (K rfl (by rw[g])))
  rw[an h6];refine Z4 (by simp[h6]) ?_
  by_cases h7:t.aw=7
  .rw [av h7]
   refine Y8 (by simp[h7]) ?_;refine Z9 (λj=>Q3 (yZ F _) (K rfl ?_)) (λj=>Q3 (yZ F _) (K rfl ?_))
   .rw [g,j,eN]
   .rw [j];rfl
  rw[an h7];refine Z4 (by simp[h7]) ?_
  by_cases j:t.aw=8
  .rw [av j]
   exact Y8 (by simp[j]) (R (K rfl (by rw[g])))
  rw[an j];refine Z4 (by simp[j]) ?_
  have p:PJ F (Ww F) t true=some ((t.ao==0&&(t.ak==0&&decide (1<=t.ae.length)))&&t.ae.all (QY d)):=by
   unfold PJ;refine Y8 rfl (Z9 (λh=>K rfl ?_) (λh=>K rfl ?_))
   .rw [A,v,h,eN,Bool.and_true,Bool.and_comm]
   .rw [h];rfl
  by_cases h9:t.aw=9\/t.aw=10
  .rw [av h9]
   refine Z9 (λh=>?_) (λh=>?_)
   .rw [h];exact p
   .have:t.aw=10:=by simp at h;omega
    rw[this];exact p
  rw[an h9];refine Z4 (by simp;omega) ?_
  rw[show(t.aw==(10:Int))=false by simp;omega];unfold PJ
  refine Z4 rfl ?_
  by_cases h11:t.aw=11
  .rw [av h11]
   exact Y8 (by simp[h11]) (K rfl (by rw[u]))
  .rw [an h11]
   exact Z4 (by simp[h11]) (K rfl rfl)
theorem Q9Y{l:List aj}(p:aj->Bool)(hF:l.length<F)(hl:l.length<=1000000000)(ho:∀r∈l,Q7 r.aw)(hq:∀r∈l,q r=some (p r)):∃i:Int,SC F l q=some i/\(0<=i↔l.any p=true):=by
 unfold SC
 suffices d:∀(n i:Nat),l.length-i<n->i<=l.length->∃j:Int,Y4 (λagain (z:Int)=>SB F l q again z) n (i:Int)=some j/\(0<=j↔(l.drop i).any p=true) by
  simpa using d F 0 (by omega) (by omega)
 intro n
 induction n with
 |zero=>intro i h;omega
 |succ n ih=>
  intro i e f;show ∃j:Int,SB F l q (Y4 _ n) (i:Int)=some j/\_
  unfold SB
  by_cases hil:i<l.length
  .have a:=y3 hil
   rw[gI hil]
   cases hp:p (gl l i)with
   |true=>exact⟨i,Y8 (aZ (by omega)) (Q5 (by omega) (Q5 (ho _ a) (Q3 (hq _ a) (Y8 hp rfl)))),by simp⟩
   |false=>
    obtain⟨j,c,b⟩:=ih (i+1) (by omega) (by omega);refine⟨j,Y8 (aZ (by omega)) (Q5 (by omega) (Q5 (ho _ a) (Q3 (hq _ a) (Z4 hp (Q5 (U4 (by omega) (by omega)) ?_))))),by simpa using b⟩
    rw[<-c];congr 1
  .refine ⟨-1,Z4 (dg (by omega)) rfl,?_⟩
   rw[nP (by omega)];simp
theorem Z0r{l:List aj}(p:aj->Bool)(hF:l.length<F)(hl:l.length<=1000000000)(ho:∀r∈l,Q7 r.aw)(hq:∀r∈l,q r=some (p r)):SL F l q=some (l.any p):=by
 obtain⟨i,a,b⟩:=Q9Y p hF hl ho hq;unfold SL
 refine Q3 a ?_;rw[ld,eV,dT];exact b
def Vp(n:Int):Int×Int×Bool:=if n=2 then(0,39,true)else if n=3 then(0,40,true)else if n=4 then(1,16,true)else if n=5 then(0,15,true)else if n=6 then(2,10,true)else if n=7\/n=8 then(1,10,true)else(0,0,false)
def Yt(n:Int):Int×Int:=if n=9\/n=10 then(1,40)else if n=11 then(1,1)else(0,0)
theorem Q8u(F:Nat)(n:Int):Sd F n=some (Vp n):=by
 unfold Sd Vp Sc
 by_cases h2:n=2
 .subst h2;rfl
 by_cases h3:n=3
 .subst h3;rfl
 by_cases h4:n=4
 .subst h4;rfl
 by_cases h5:n=5
 .subst h5;rfl
 by_cases h6:n=6
 .subst h6;rfl
 by_cases h7:n=7
 .subst h7;rfl
 by_cases h8:n=8
 .subst h8;rfl
 have e:∀m:Int,n≠m->(n==m)=false:=λm h=>by simpa using h
 rw[e 2 h2,e 3 h3,e 4 h4,e 5 h5,e 6 h6,e 7 h7,e 8 h8,an h2,an h3,an h4,an h5,an h6,an (by omega)];rfl
theorem P6(F:Nat)(n:Int):Sf F n=some (Yt n):=by
 unfold Sf Yt Se;have e:∀m:Int,n≠m->(n==m)=false:=λm h=>by simpa using h
 by_cases h2:n=9
 .subst h2;rfl
 by_cases h3:n=10
 .subst h3;rfl
 by_cases h4:n=11
 .subst h4;rfl
 rw[e 9 h2,e 10 h3,e 11 h4,an (by omega),an h4];rfl
def Re(t:aj):Bool:=((Vp t.aw).2.2&&(decide (t.ao<(Vp t.aw).1)||decide ((Vp t.aw).2.1<t.ao)))||(!(Vp t.aw).2.2&&t.ao != 0)
def XH(t:aj):Bool:=(t.aw==4 && !ZP t.ao)||((t.aw==7 && !ZP t.ak)||(t.aw != 7&&t.ak != 0))
def KS(t:aj):Bool:=decide (((t.ae.length:Nat):Int)<(Yt t.aw).1)||decide ((Yt t.aw).2<((t.ae.length:Nat):Int))
theorem Z3W(hl:t.ae.length<=40):(!(decide (t.aw<1)||decide (11<t.aw))&&(!Re t&&(!XH t && !KS t)))=QW t:=by
 have d:∀n:Int,ZP n=true->1<=n/\n<=16:=λn h=>by
  unfold ZP at h;simp only[ip,eY]at h;omega
 have i:∀n:Nat,(t.ae.length==n)=decide (t.ae.length=n):=λn=>by rw[eV,eY,dT]
 rw[eV];unfold Re XH KS Vp Yt QW
 generalize t.aw=o,t.ao=n,t.ak=m at *;have g:∀{p q:Prop},(p↔q)->(p↔q):=λh=>h
 by_cases h:o<1\/11<o
 .rw [show(decide (o<1)||decide (11<o))=true by simpa using h]
  have e:∀m:Int,1<=m->m<=11->¬o=m:=λm _ _=>by omega
  simp[e 1,e 2,e 3,e 4,e 5,e 6,e 7,e 8,e 9,e 10,e 11]
 have f:o=1\/o=2\/o=3\/o=4\/o=5\/o=6\/o=7\/o=8\/o=9\/o=10\/o=11:=by omega
 rcases f with rfl|rfl|rfl|rfl|rfl|rfl|rfl|rfl|rfl|rfl|rfl<;>simp<;>(try omega)
 constructor
 .rintro ⟨_,⟨a,b⟩,c⟩;exact⟨a,b,c⟩
 .rintro ⟨a,b,c⟩;exact⟨d _ a,⟨a,b⟩,c⟩
theorem jX:∀(d:Nat) {F:Nat} (_:Q6+d<=F) {t:aj} (_:TD d t) (_:Qc d t<=40) (n:Nat) (_:n<=8),ZT F t (n:Int)=some (Wt d n t)
 |0,_,_,_,h,_,_,_=>h.elim
 |d+1,0,hF,_,_,_,_,_=>by unfold Q6 at hF;omega
 |d+1,F+1,hF,t,h,hs,n,hn=>by
  obtain⟨_,_,C,f⟩:=h;have e : Q6+d<=F:=by omega
  have w:=e;unfold Q6 at w
  have q:t.ae.length<=39:=by
   have:t.ae.length<=(t.ae.map (Qc d)).sum:=by
    have:∀l:List aj,(∀k∈l,TD d k)->l.length<=(l.map (Qc d)).sum:=by
     intro l
     induction l with
     |nil=>intro _;simp
     |cons x l ih=>intro p;have:=Q8K (p x (by simp));have:=ih λk f=>p k (by simp[f]);simp;omega
    exact this _ f
   unfold Qc at hs;omega
  have g:∀k∈t.ae,Qc d k<=40:=λk a=>by
   obtain⟨i,o,rfl⟩:=eZ a;have u:=zB (d:=d) o
   have B:=zC (d:=d) (i:=i+1) (t:=t);rw[G8 o]at u;omega
  show RR F (ZT F) t (n:Int)=_;unfold RR
  refine Q3 (Q8u F _) (Q3 (P6 F _) ?_);have r:∀b,n≠0->Pe F (ZT F) t (n:Int) b=some (!b&&t.ae.all (Wt d (n-1))):=λb c=>by
   unfold Pe
   cases b with
   |true=>rfl
   |false=>
    refine Z4 rfl (Q3 (Z0r (λk=> !Wt d (n-1) k) (by omega) (by omega) (λk a=>(f k a).op) λk a=>?_) ?_)
    .unfold zi
     refine Q5 (U4 (by omega) (by omega)) ?_;rw[show((n:Int)-1)=((n-1:Nat):Int) by omega]
     exact Q3 (jX d e (f k a) (g k a) (n-1) (by omega)) rfl
    .rw [Bool.not_false,eN,List.not_any_eq_all_not];simp
  have k2:∀b,n≠0->ZS F (ZT F) t (n:Int) (Yt t.aw) b=some (!b&&(!KS t&&t.ae.all (Wt d (n-1)))):=λb c=>by
   unfold ZS KS
   cases b with
   |true=>rfl
   |false=>
    refine Z4 rfl ?_;rw[YB (λb=>Pe F (ZT F) t (n:Int) b),r _ c];rfl
  have k1:∀b,n≠0->UG F (ZT F) t (n:Int) (Yt t.aw) b=some (!b&&(!XH t&&(!KS t&&t.ae.all (Wt d (n-1))))):=λb c=>by
   unfold UG XH
   cases b with
   |true=>rfl
   |false=>
    refine Z4 rfl ?_;have A:(JX F t.ak).bind (λz=>br (!z) (ZS F (ZT F) t (n:Int) (Yt t.aw) true) (br (t.aw != (7:Int)) (ZS F (ZT F) t (n:Int) (Yt t.aw) (t.ak != (0:Int))) (ZS F (ZT F) t (n:Int) (Yt t.aw) false)))=ZS F (ZT F) t (n:Int) (Yt t.aw) (!ZP t.ak||(t.aw != 7&&t.ak != 0)):=by
     refine Q3 (jV F _) ?_
     cases ZP t.ak<;>cases(t.aw != (7:Int))<;>rfl
    have s:(br (t.aw==(7:Int)) ((JX F t.ak).bind (fun z=>br (!z) (ZS F (ZT F) t (n:Int) (Yt t.aw) true) (br (t.aw != (7:Int)) (ZS F (ZT F) t (n:Int) (Yt t.aw) (t.ak != (0:Int))) (ZS F (ZT F) t (n:Int) (Yt t.aw) false)))) (br (t.aw != (7:Int)) (ZS F (ZT F) t (n:Int) (Yt t.aw) (t.ak != (0:Int))) (ZS F (ZT F) t (n:Int) (Yt t.aw) false)))
      = ZS F (ZT F) t (n:Int) (Yt t.aw) ((t.aw==7 && !ZP t.ak)||(t.aw != 7&&t.ak != 0)):=by
     rw[A]
     cases h7:(t.aw==(7:Int))with
     |true=>rw[show(t.aw != (7:Int))=false by rw[bne,h7];rfl];cases ZP t.ak<;>rfl
     |false=>rw[show(t.aw != (7:Int))=true by rw[bne,h7];rfl];rfl
    rw[s];refine Z9 (λj=>Q3 (jV F _) ?_) (λj=>?_)
    .rw [j,eN]
     cases ZP t.ao with
     |false=>refine Y8 rfl ((k2 _ c).trans ?_);rfl
     |true=>refine Z4 rfl ((k2 _ c).trans ?_);rfl
    .rw [j];exact k2 _ c
  have v:∀b,(b=false->n≠0)->JY F (ZT F) t (n:Int) (Vp t.aw) (Yt t.aw) b=some (!b&&(!Re t&&(!XH t&&(!KS t&&t.ae.all (Wt d (n-1)))))):=λb y=>by
   unfold JY Re
   cases b with
   |true=>rfl
   |false=>
    have c:=y rfl;refine Z4 rfl ?_
    have k1:=λb=>k1 b c
    generalize hK:UG F (ZT F) t (n:Int) (Yt t.aw)=K at k1⊢;generalize (!XH t&&(!KS t&&t.ae.all (Wt d (n-1))))=rest at k1⊢
    generalize (t.ao != 0)=nz
    cases(Vp t.aw).2.2<;>cases decide (t.ao<(Vp t.aw).1)<;>cases decide ((Vp t.aw).2.1<t.ao)<;>cases nz<;>simp only[br,k1]<;>rfl
  have m:(((n:Int))==0)=decide (n=0):=by rw[eV,eY,dT];omega
  rw[m];rw[YB (λb=>JY F (ZT F) t (n:Int) (Vp t.aw) (Yt t.aw) b),YB (λb=>JY F (ZT F) t (n:Int) (Vp t.aw) (Yt t.aw) b)]
  rw[v _ (λh=>by simp only[fP,iu]at h;exact h.2.2)];unfold Wt
  rw[<-Z3W (t:=t) (by omega)]
  cases decide (t.aw<1)<;>cases decide (11<t.aw)<;>cases decide (n=0)<;>cases Re t<;>cases XH t<;>cases KS t<;>rfl
def Yq(d:Nat)(t:aj):Int:=if 40<Qc d t then 1 else if Wt d 8 t=true then 0 else 16
theorem St(hF:Q6+d<=F)(h:TD d t):Gk F t=some (Yq d t):=by
 unfold Gk Yq;obtain⟨v,c,_,_,b,_⟩:=cz d hF h (m:=40) (by omega) (by omega)
 refine Q3 c (Z9 (λa=>?_) (λa=>?_))
 .have:=b.1 (dO a);rw[av (by omega)]
 .have e:¬40<Qc d t:=λh=>ej a (b.2 (by omega))
  rw[an e];refine Q3 (jX d hF h (by omega) 8 (by omega)) ?_
  cases Wt d 8 t<;>rfl
theorem Z2B(hd:d<=2000000)(hF:Q6+d<=F)(h:TD d t):Ck F t=some (Yq d t):=by
 unfold Ck Yq;obtain⟨v,e,_,_,c,_⟩:=AB d hd hF h
 refine Q3 e (Z9 (λb=>?_) (λb=>?_))
 .have:=c.1 (dO b);rw[av (by omega)]
 .have f:¬40<Qc d t:=λh=>ej b (c.2 (by omega))
  rw[an f,Px d 8 t h];refine Q3 (vg d hd hF h).1 (Z9 (λa=>?_) (λa=>?_))
  .have a:=dO a
   rw[dg (by omega)];rfl
  .have a:=ej a
   rw[aZ (by omega)];refine Q3 (uA d hF h) ?_
   unfold Cj
   cases QY d t<;>rfl
theorem I8(d:Nat):Yq (d+1) ⟨1,0,0,[]⟩=0:=by
 unfold Yq;rw[an (by simp[Qc]),av]
 simp[Wt,QW]
def QN(n:Int):ByteArray:=bs (Lib.itoa n)
theorem uO(h:0<=n):Lib.itoa n=Lib.decDigits n.toNat:=by
 unfold Lib.itoa;rw[an (by omega)]
theorem KP(h0:0<=n)(h1:n<=1073741824):Ua F n=some (QN n):=by
 unfold Ua strconv_Itoa;exact Q3 (Q5 (U4 (by omega) (by omega)) rfl) rfl
theorem JJ(h0:0<=n)(h1:n<=1073741824):(tl (QN n)).length<=10:=by
 unfold QN;rw[QR,uO h0]
 exact sU 9 _ (by omega)
theorem KO(h0:0<=n):Qw (QN n):=by
 unfold QN Qw;rw[QR,uO h0]
 obtain⟨_,d,b⟩:=B7 n.toNat;refine⟨d,λc a=>⟨?_,?_,λe=>?_⟩⟩
 .have:=(b c a).1;omega
 .have:=(b c a).2;omega
 .subst e;exact absurd (b _ a).1 (by decide)
theorem Xb{lo hi:Int}(h0:0<=n)(h1:n<=1073741824)(a:lo<=n)(b:n<=hi):Yy F (QN n) lo hi=some (n,true):=by
 unfold Yy;rw[show Lib.atoi (tl (QN n))=some n from Z8h h0]
 refine Q5 ⟨?_,U4 (by omega) (by omega),rfl⟩ (av ⟨a,b⟩);have:=JJ h0 h1
 rw[Yj];omega
theorem Ii(h0:0<=n)(h1:n<32):BC F n=some (Zt n.toNat):=by
 unfold BC BA;exact Q3 (Q5 ⟨h0,h1⟩ rfl) rfl
theorem Z3T(h:ZP n=true):n=1\/n=2\/n=4\/n=8\/n=16:=by
 simpa[ZP]using h
theorem Mf(h:ZP n=true):BC F n=some (Zt n.toNat)/\BB F (Zt n.toNat)=some n/\Qw (Zt n.toNat)/\(tl (Zt n.toNat)).length<=10/\(n==0)=false:=by
 rcases Z3T h with rfl|rfl|rfl|rfl|rfl<;>refine⟨Ii (by decide) (by decide),?_,?_,?_,by decide⟩<;>first|rfl|decide|(unfold Qw;decide)
def gA:ByteArray:=IS #[116,114,117,101]
def qf:ByteArray:=IS #[109,97,114,107]
def qg:ByteArray:=IS #[98,101,102,111,114,101]
def Rf:ByteArray:=IS #[110,111,116]
def qh:ByteArray:=IS #[97,110,100]
def qe:ByteArray:=IS #[111,114]
def bL:ByteArray:=IS #[40]
def bR:ByteArray:=IS #[41]
def Jd(op:Int):ByteArray:=if op=2 then IS #[99,114,111,112]else if op=3 then IS #[102,97,109,105,108,121]else if op=5 then IS #[122,111,110,101]else if op=6 then IS #[115,97,109,101]else IS #[107,110,111,119,110]
def y5:Nat->aj->ε
 |0,_=>[]
 |d+1,t=>
  if t.aw=1 then[gA]
  else if t.aw=4 then[qf,Zt t.ao.toNat]
  else if t.aw=7 then[qg,QN t.ao,Zt t.ak.toNat]
  else if t.aw=11 then Rf::t.ae.flatMap (y5 d)
  else if t.aw=9 then qh::bL::(t.ae.flatMap (y5 d)++[bR])
  else if t.aw=10 then qe::bL::(t.ae.flatMap (y5 d)++[bR])
  else[Jd t.aw,QN t.ao]
theorem xb(h:QW t=true)(h1:t.aw≠1)(h4:t.aw≠4)(h7:t.aw≠7)(h9:t.aw≠9)(h10:t.aw≠10)(h11:t.aw≠11):
  (t.aw=2\/t.aw=3\/t.aw=5\/t.aw=6\/t.aw=8)/\(0<=t.ao/\t.ao<=40)/\t.ak=0/\t.ae=[]:=by
 unfold QW at h;rw[an h1]at h
 by_cases e2:t.aw=2
 .rw [av e2]at h;simp at h;exact⟨.inl e2,⟨h.1.1,by omega⟩,h.2.1,h.2.2⟩
 rw[an e2]at h
 by_cases e3:t.aw=3
 .rw [av e3]at h;simp at h;exact⟨.inr (.inl e3),⟨h.1.1,by omega⟩,h.2.1,h.2.2⟩
 rw[an e3,an h4]at h
 by_cases e5:t.aw=5
 .rw [av e5]at h;simp at h;exact⟨.inr (.inr (.inl e5)),⟨h.1.1,by omega⟩,h.2.1,h.2.2⟩
 rw[an e5]at h
 by_cases e6:t.aw=6
 .rw [av e6]at h;simp at h;exact⟨.inr (.inr (.inr (.inl e6))),⟨by omega,by omega⟩,h.2.1,h.2.2⟩
 rw[an e6,an h7]at h
 by_cases e8:t.aw=8
 .rw [av e8]at h;simp at h;exact⟨.inr (.inr (.inr (.inr e8))),⟨by omega,by omega⟩,h.2.1,h.2.2⟩
 rw[an e8,an (by omega),an h11]at h;cases h
theorem cM(f:aj->Nat):∀(l:List aj) (i:Nat),((l.take i).map f).sum<=(l.map f).sum
 |[],i=>by simp
 |x::l,0=>by simp
 |x::l,i+1=>by have:=cM f l i;simp only[wd,eP,iK];omega
theorem kj{f:aj->ε}{g:aj->Nat}:∀{l:List aj},(∀k∈l,(f k).length<=4*g k)->(l.flatMap f).length<=4*(l.map g).sum
 |[],_=>by simp
 |x::l,h=>by
  have b:=h x dZ;have c:=kj (l:=l) λk a=>h k (eB _ a)
  simp only[ir,dK,eP,iK];omega
theorem cO{f:aj->Nat}{k:aj}:∀{l:List aj},k∈l->f k<=(l.map f).sum
 |x::l,h=>by
  rw[eP,iK];rcases dY.1 h with rfl|h
  .omega
  .have:=cO (f:=f) h;omega
theorem RM:∀(d:Nat) {t:aj},TD d t->(y5 d t).length<=4*Qc d t
 |0,_,h=>h.elim
 |d+1,t,h=>by
  have a:=kj (f:=y5 d) (g:=Qc d) (l:=t.ae) λk a=>RM d (h.2.2.2 k a)
  unfold y5 Qc
  repeat' split
  all_goals simp only[dz,eg,dK];omega
theorem jQ:∀(d:Nat) {F:Nat} (_:Q6+d<=F) {t:aj} (_:TD d t) (_:QY d t=true) (_:Qc d t<=1000),UF F t=some (y5 d t)
 |0,_,_,_,h,_,_=>h.elim
 |d+1,F,hF,t,h,hf,v=>by
  have j:QW t=true/\∀k∈t.ae,QY d k=true:=by
   unfold QY at hf;simpa[dc,en]using hf
  obtain⟨F,rfl⟩:∃G,F=G+1:=⟨F-1,by unfold Q6 at hF;omega⟩;have B:Q6+d<=F:=by omega
  have K:=B;unfold Q6 at K
  have C:(t.ae.map (Qc d)).sum<=1000:=by unfold Qc at v;omega
  have q:∀k∈t.ae,Qc d k<=1000:=λk p=>by
   have:=cO (f:=Qc d) p
   omega
  have p:∀i,i<t.ae.length->UF F (gl t.ae i)=some (y5 d (gl t.ae i))/\Q7 (gl t.ae i).aw/\(y5 d (gl t.ae i)).length<=4000:=λi s=>by
   have o:gl t.ae i∈t.ae:=by rw[G8 s];exact fp s
   refine⟨jQ d B (h.2.2.2 _ o) (j.2 _ o) (q _ o),TD.op (h.2.2.2 _ o),?_⟩;have:=RM d (h.2.2.2 _ o)
   have:=q _ o
   omega
  have u:∀i,((t.ae.take i).flatMap (y5 d)).length<=4000:=λi=>by
   have O:=kj (f:=y5 d) (g:=Qc d) (l:=t.ae.take i) λk p=>RM d (h.2.2.2 k (j9 p))
   have N:=cM (Qc d) t.ae i;omega
  have c:∀b:ByteArray,Dp F (UF F) t [b,bL]=some (b::bL::(t.ae.flatMap (y5 d)++[bR])):=λb=>by
   unfold Dp;refine z5 (λz:Int×ε=>∃i:Nat,i<=t.ae.length/\z=((i:Int),[b,bL]++(t.ae.take i).flatMap (y5 d))) (λz=>t.ae.length-z.1.toNat) (λn z v J=>?_) ⟨0,dW _,by simp⟩ (by have:=h.2.2.1;simp;omega)
   obtain⟨i,s,rfl⟩:=v;show zg F (UF F) t n (i:Int) _=_
   unfold zg;have Q:=u i
   refine Z9 (λy=>?_) (λy=>?_)
   .have m : i<t.ae.length:=by have:=dO y;omega
    obtain⟨k1,k2,D⟩:=p i m;rw[dh]
    refine Q5 (by omega) (Q5 k2 (Q3 k1 (Q5 (by simp only[Y2,dK,dz,eg];omega) (Q5 (U4 (by omega) (by have:=h.2.2.1;omega)) (J _ ⟨i+1,m,?_⟩ (by simp only;omega))))));have e:(t.ae.take (i+1)).flatMap (y5 d)=(t.ae.take i).flatMap (y5 d)++y5 d (gl t.ae i):=by
     rw[lj,eG m,G8 m,lC];simp only[Option.toList_some,ir,nJ,fW]
    rw[e];simp
   .have:i=t.ae.length:=by have:=ej y;omega
    subst this;unfold ze
    refine Q5 (by simp only[Y2,dK,dz,eg];omega) ?_;rw[fG]
    simp[bR]
  unfold UF zh y5
  by_cases e1:t.aw=1
  .rw [av e1];exact Y8 (by rw[e1];rfl) rfl
  rw[an e1];refine Z4 (by simpa using e1) ?_
  by_cases e4:t.aw=4
  .rw [av e4]
   have I:ZP t.ao=true:=by have:=j.1;unfold QW at this;rw[an e1,an (by omega),an (by omega),av e4]at this;simp at this;exact this.1
   exact Y8 (by rw[e4];rfl) (Q3 (Mf I).1 rfl)
  rw[an e4];refine Z4 (by simpa using e4) ?_
  by_cases e7:t.aw=7
  .rw [av e7]
   have L:(1<=t.ao/\t.ao<=10)/\ZP t.ak=true:=by
    have:=j.1
    unfold QW at this;rw[an e1,an (by omega),an (by omega),an e4,an (by omega),an (by omega),av e7]at this
    simp at this
    exact⟨this.1,this.2.1⟩
   exact Y8 (by rw[e7];rfl) (Q3 (KP (by omega) (by omega)) (Q3 (Mf L.2).1 rfl))
  rw[an e7];refine Z4 (by simpa using e7) ?_
  by_cases e11:t.aw=11
  .rw [av e11]
   have w:t.ae.length=1:=by
    have:=j.1
    unfold QW at this;rw[an e1,an (by omega),an (by omega),an e4,an (by omega),an (by omega),an e7,an (by omega),an (by omega),av e11]at this
    simp at this
    omega
   obtain⟨k1,k2,D⟩:=p 0 (by omega);refine Y8 (by rw[e11];rfl) (Q5 (by omega) (Q5 k2 (Q3 k1 (Q5 (by simp only[Y2];omega) ?_))))
   obtain⟨x,M⟩:=nu.1 w;rw[M]
   simp[gl,Rf]
  rw[an e11];refine Z4 (by simpa using e11) ?_
  have r:(t.aw=9\/t.aw=10)->Pd F (UF F) t true=some (if t.aw=9 then qh::bL::(t.ae.flatMap (y5 d)++[bR])else if t.aw=10 then qe::bL::(t.ae.flatMap (y5 d)++[bR])else[Jd t.aw,QN t.ao]):=λA=>by
   unfold Pd;refine Y8 rfl ?_
   by_cases e9:t.aw=9
   .rw [av e9];exact Z4 (by rw[e9];rfl) (c qh)
   .have a:t.aw=10:=by omega
    rw[an e9,av a];exact Y8 (by rw[a];rfl) (Q5 (by simp) (c qe))
  by_cases e9:t.aw=9
  .exact Y8 (by rw[e9];rfl) (by rw[show(t.aw==9)=true by rw[e9];rfl];exact r (.inl e9))
  refine Z4 (by simpa using e9) ?_
  by_cases a:t.aw=10
  .rw [show(t.aw==10)=true by rw[a];rfl];exact r (.inr a)
  rw[show(t.aw==10)=false by simpa using a,an e9,an a];obtain⟨A,⟨H,P⟩,_,_⟩:=xb j.1 e1 e4 e7 e9 a e11
  unfold Pd;refine Z4 rfl ?_
  have E:=KP (F:=F) H (by omega);unfold Jd
  rcases A with e|e|e|e|e<;>rw[e]<;>exact Q3 E rfl
theorem QV(a b:ByteArray):J3 a b=(tl a==tl b):=by unfold J3;rw[Lib.toList_data,Lib.toList_data];rfl
theorem WG{x:ByteArray}:JZ F ⟨x::r,false⟩=some (⟨r,false⟩,x):=by
 unfold JZ;exact Z4 (by simp;omega) (Q5 (by simp) (Q5 (by simp;omega) rfl))
theorem rI(h0:0<=n)(h1:n<=1073741824):Jl F ⟨QN n::r,false⟩=some (⟨r,false⟩,n):=by
 unfold Jl;exact Q3 WG (Q3 (Xb h0 h1 (by omega) (by omega)) (Z4 rfl rfl))
theorem ta(h:ZP n=true):Dr F ⟨Zt n.toNat::r,false⟩=some (⟨r,false⟩,n):=by
 obtain⟨_,b,_,_,a⟩:=Mf (F:=F) h;unfold Dr
 exact Q3 WG (Q3 b (Z4 a rfl))
theorem Nw:∀(d:Nat) {t:aj},TD d t->∃x r,y5 d t=x::r/\J3 x bR=false
 |0,_,h=>h.elim
 |d+1,t,_=>by
  have a:J3 (Jd t.aw) bR=false:=by
   unfold Jd;rw[QV]
   repeat' split
   all_goals rfl
  unfold y5
  by_cases e1:t.aw=1
  .exact ⟨_,_,av e1,(QV gA bR).trans rfl⟩
  by_cases e4:t.aw=4
  .rw [an e1];exact⟨_,_,av e4,(QV qf bR).trans rfl⟩
  by_cases e7:t.aw=7
  .rw [an e1,an e4];exact⟨_,_,av e7,(QV qg bR).trans rfl⟩
  by_cases e11:t.aw=11
  .rw [an e1,an e4,an e7];exact⟨_,_,av e11,(QV Rf bR).trans rfl⟩
  by_cases e9:t.aw=9
  .rw [an e1,an e4,an e7,an e11];exact⟨_,_,av e9,(QV qh bR).trans rfl⟩
  by_cases e10:t.aw=10
  .rw [an e1,an e4,an e7,an e11,an e9];exact⟨_,_,av e10,(QV qe bR).trans rfl⟩
  rw[an e1,an e4,an e7,an e11,an e9,an e10];exact⟨_,_,rfl,a⟩
theorem un(hF:Q6<=F){l:List aj}(hl:l.length<=1000000)(hd:∀ k ∈ l,TD d k)(hrc:∀ k ∈ l,∀ r,rc ⟨y5 d k++r,false⟩=some (⟨r,false⟩,k))(rest:ε):
  Dt F rc ⟨bL::(l.flatMap (y5 d)++bR::rest),false⟩=some (⟨rest,false⟩,l):=by
 unfold Q6 at hF;unfold Dt
 refine Q3 WG (Z4 (by rw[QV];rfl) ?_);unfold RS
 refine z5 (λz:ε×Bool×List aj=>∃i:Nat,i<=l.length/\z=((l.drop i).flatMap (y5 d)++bR::rest,false,l.take i)) (λz=>l.length-z.2.2.length) (λb z n h=>?_) ⟨0,dW _,by simp⟩ (by simp;omega);obtain⟨i,s,rfl⟩:=n
 show zn F rc b _ false _=_;unfold zn
 have g:(0:Int)<((((l.drop i).flatMap (y5 d)++bR::rest).length:Nat):Int):=by simp;omega
 refine Y8 rfl (Y8 (aZ g) (Q5 ⟨by omega,g⟩ ?_));rcases eK i l.length with a|o
 .have e:l[i]∈l:=fp a
  have c:l.drop i=l[i]::l.drop (i+1):=lL a;obtain⟨x,q,p,j⟩:=Nw d (hd _ e)
  have f:J3 (gl ((l.drop i).flatMap (y5 d)++bR::rest) (0:Int).toNat) (IS #[41])=false:=by
   rw[c,ir,p];exact j
  rw[f];unfold Ds
  refine Z4 rfl ?_;have m:(l.drop i).flatMap (y5 d)++bR::rest=y5 d l[i]++((l.drop (i+1)).flatMap (y5 d)++bR::rest):=by rw[c,ir,fR]
  rw[m];refine Q3 (hrc _ e _) (Q5 (TD.op (hd _ e)) (Q5 (by simp only[Y2,fE,dz,eg];omega) (h _ ⟨i+1,a,?_⟩ (by simp;omega))))
  rw[lj,eG a];rfl
 .obtain rfl:i=l.length:=by omega
  rw[lE,fG];have f:J3 (gl (([]:List aj).flatMap (y5 d)++bR::rest) (0:Int).toNat) (IS #[41])=true:=(QV _ _).trans rfl
  rw[f];unfold Ds
  exact Y8 rfl (Q3 WG rfl)
theorem jR:∀(d:Nat) {F:Nat} (_:Q6+d<=F) {t:aj} (_:TD d t) (_:QY d t=true) (rest:ε),Gg F ⟨y5 d t++rest,false⟩=some (⟨rest,false⟩,t)
 |0,_,_,_,h,_,_=>h.elim
 |d+1,F,hF,t,h,hf,rest=>by
  have i:QW t=true/\∀k∈t.ae,QY d k=true:=by
   unfold QY at hf;simpa[dc,en]using hf
  obtain⟨F,rfl⟩:∃G,F=G+1:=⟨F-1,by unfold Q6 at hF;omega⟩;have u:Q6+d<=F:=by omega
  have j:∀k∈t.ae,∀r,Gg F ⟨y5 d k++r,false⟩=some (⟨r,false⟩,k):=λk m r=>jR d u (h.2.2.2 k m) (i.2 k m) r
  obtain⟨e,g,o,c⟩:=t;have b:=i.1
  unfold Gg zk y5
  by_cases e1:e=1
  .subst e1
   simp[QW]at b
   obtain⟨rfl,rfl,rfl⟩:=b;exact Q3 WG (Y8 ((QV _ _).trans rfl) rfl)
  by_cases e4:e=4
  .subst e4
   simp[QW]at b
   obtain⟨n,rfl,rfl⟩:=b;refine Q3 WG ?_
   iterate 3 refine Z4 ((QV _ _).trans rfl) ?_
   exact Y8 ((QV _ _).trans rfl) (Q3 (ta n) rfl)
  by_cases e7:e=7
  .subst e7
   simp[QW]at b
   obtain⟨n,s,rfl⟩:=b;refine Q3 WG ?_
   iterate 6 refine Z4 ((QV _ _).trans rfl) ?_
   exact Y8 ((QV _ _).trans rfl) (Q3 (rI (by show 0<=g;omega) (by show g<=_;omega)) (Q3 (ta s) rfl))
  by_cases e11:e=11
  .subst e11
   simp[QW]at b
   obtain⟨rfl,rfl,l⟩:=b;obtain⟨x,rfl⟩:=nu.1 l
   refine Q3 WG ?_
   iterate 10 refine Z4 ((QV _ _).trans rfl) ?_
   refine Y8 ((QV _ _).trans rfl) (Q3 (a:=(⟨rest,false⟩,x)) ?_ (Q5 (TD.op (h.2.2.2 x dZ)) rfl));have:=j x dZ rest
   simpa using this
  by_cases e9:e=9
  .subst e9
   simp[QW]at b
   obtain⟨rfl,rfl,l⟩:=b;refine Q3 WG ?_
   iterate 8 refine Z4 ((QV _ _).trans rfl) ?_
   refine Y8 ((QV _ _).trans rfl) (Q3 (a:=(⟨rest,false⟩,c)) ?_ rfl);have:=un (by omega:Q6<=F) h.2.2.1 h.2.2.2 j rest
   simpa using this
  by_cases e10:e=10
  .subst e10
   simp[QW]at b
   obtain⟨rfl,rfl,l⟩:=b;refine Q3 WG ?_
   iterate 9 refine Z4 ((QV _ _).trans rfl) ?_
   refine Y8 ((QV _ _).trans rfl) (Q3 (a:=(⟨rest,false⟩,c)) ?_ rfl);have:=un (by omega:Q6<=F) h.2.2.1 h.2.2.2 j rest
   simpa using this
  obtain⟨p,⟨q,v⟩,rfl,rfl⟩:=xb b e1 e4 e7 e9 e10 e11;have f:=rI (F:=F) (r:=rest) q (Int.le_trans v (by decide))
  rw[an e1,an e4,an e7,an e11,an e9,an e10];rcases p with rfl|rfl|rfl|rfl|rfl
  .refine Q3 WG ?_
   iterate 1 refine Z4 ((QV _ _).trans rfl) ?_
   exact Y8 ((QV _ _).trans rfl) (Q3 f rfl)
  .refine Q3 WG ?_
   iterate 2 refine Z4 ((QV _ _).trans rfl) ?_
   exact Y8 ((QV _ _).trans rfl) (Q3 f rfl)
  .refine Q3 WG ?_
   iterate 4 refine Z4 ((QV _ _).trans rfl) ?_
   exact Y8 ((QV _ _).trans rfl) (Q3 f rfl)
  .refine Q3 WG ?_
   iterate 5 refine Z4 ((QV _ _).trans rfl) ?_
   exact Y8 ((QV _ _).trans rfl) (Q3 f rfl)
  .refine Q3 WG ?_
   iterate 7 refine Z4 ((QV _ _).trans rfl) ?_
   exact Y8 ((QV _ _).trans rfl) (Q3 f rfl)
theorem NP(hF:Q6+3<=F)(h:TD 3 t)(he:Yq 3 t=0):Pk F (y5 3 t)=some (t,[],0):=by
 have c:QY 3 t=true:=by
  unfold Yq at he;split at he
  .cases he
  .split at he
   .rename_i b
    rw[Px 3 8 t h]at b;simp at b
    exact b.2
   .cases he
 have:=jR 3 hF h c []
 rw[fW]at this;unfold Pk
 refine Q3 this (Z4 rfl (Q3 (St hF h) (Z4 (by rw[he];rfl) (Q3 (a:=[]) ?_ rfl))));unfold zR
 have e:gd (0+([]:ε).length<=Y2) (some (([]:ε)++[]))=some []:=Q5 (by decide) rfl;show XG 0 (some []) (gd (0+([]:ε).length<=Y2) (some (([]:ε)++[])))=some []
 rw[e];unfold XG Xn
 exact av rfl
def QJ(e n:Int):Bool:=QO .i64 (e.fdiv (2 ^ (min n.toNat (IntKind.bits .i64)))) 1==1
theorem EA(x:Int):QO .i64 x 1=0\/QO .i64 x 1=1:=by
 unfold QO;have h:(BitVec.ofInt 64 x &&& BitVec.ofInt 64 1).toNat<=1:=by
  rw[BitVec.toNat_and];exact dP Nat.and_le_right (by decide)
 show IntKind.wrap .i64 ((BitVec.ofInt 64 x &&& BitVec.ofInt 64 1).toNat:Nat)=0\/IntKind.wrap .i64 ((BitVec.ofInt 64 x &&& BitVec.ofInt 64 1).toNat:Nat)=1;have a:(BitVec.ofInt 64 x &&& BitVec.ofInt 64 1).toNat=0\/(BitVec.ofInt 64 x &&& BitVec.ofInt 64 1).toNat=1:=by omega
 rcases a with a|a<;>rw[a]
 .left;rfl
 .right;rfl
theorem VU(e n:Int):(QO .i64 (e.fdiv (2 ^ (min n.toNat (IntKind.bits .i64)))) 1==0)=!QJ e n:=by
 unfold QJ;rcases EA (e.fdiv (2 ^ (min n.toNat (IntKind.bits .i64))))with h|h<;>rw[h]<;>rfl
def Wk(p:Int)(b:aG):Bool:=decide (p<b.dX)&&(decide (b.dX<=268435456)&&(decide (0<=b.de)&&decide (b.de<=1048576)))
def Ym(l:List aG)(i:Nat):Int:=if i=0 then 0 else(gl l (i-1)).dX
def Vv(l:List aG):Bool:=decide (1<=l.length)&&(decide (l.length<=6) && !(List.range l.length).any λi=> !Wk (Ym l i) (gl l i))
theorem F7{R:Type}{body:(Int->Option R)->Int->Option R}{c y:Option R}(N:Nat)(p:Nat->Bool)(bad:∀again (i:Nat),i<N->(∀j,j<i->p j=false)->p i=true->body again (i:Int)=c)(good:∀again (i:Nat) z,i<N->(∀j,j<i->p j=false)->p i=false->again ((i:Int)+1)=z->body again (i:Int)=z)(stop:∀again,body again (N:Int)=y)(hF:N<F):Y4 body F 0=if(List.range N).any p=true then c else y:=by
 refine z5 (λz:Int=>∃i:Nat,z=i/\i<=N/\∀j,j<i->p j=false) (λz=>N-z.toNat) (λagain z e d=>?_) ⟨0,rfl,dW _,λj h=>absurd h (fy j)⟩ (by simp;omega);obtain⟨i,rfl,f,a⟩:=e
 rcases eK i N with h|h
 .cases hpi:p i with
  |true=>
   rw[av (fA.2 ⟨i,fq.2 h,hpi⟩)];exact bad again i h a hpi
  |false=>
   refine good again i _ h a hpi (d _ ⟨i+1,by omega,h,λj b=>?_⟩ (by omega))
   by_cases hji:j=i
   .rw [hji];exact hpi
   .exact a j (by omega)
 .have:i=N:=by omega
  subst this;rw[an (by rw[gk,fZ];intro j b;rw[a j (fq.1 b)];simp)]
  exact stop again
theorem Z0Q{l:List aG}(hF:l.length<F)(hl:l.length<=1000000):Th F l=some (Vv l):=by
 unfold Th;refine(F7 (c:=some false) (y:=some (decide (1<=l.length)&&decide (l.length<=6))) l.length (λi=> !Wk (Ym l i) (gl l i)) (λa i t n m=>?_) (λa i z t n m s=>?_) (λa=>?_) hF).trans ?_
 all_goals try (
  have d:i=0\/(1<=i/\1<=(gl l (i-1)).dX):=by
   rcases lA i with h|h
   .exact .inl h
   .refine .inr ⟨h,?_⟩
    have v:∀j,j<i->1<=(gl l j).dX:=by
     intro j
     induction j with
     |zero=>
      intro u;have:=n 0 u
      rw[lW]at this;unfold Wk Ym at this
      rw[av rfl]at this;simp only[dc,dT]at this;omega
     |succ j ih=>
      intro q;have e:=ih (by omega)
      have:=n (j+1) q
      rw[lW]at this;unfold Wk Ym at this
      rw[an (by omega),lS]at this;simp only[dc,dT]at this;omega
    exact v (i-1) (by omega)
  have o:(((i:Nat):Int)-1).toNat=i-1:=by omega)
 .show Gu F l a (i:Int)=_
  unfold Gu;have k1:Jo F (i:Int) a true=some false:=rfl
  refine Y8 (aZ (by omega)) (Q5 (by omega) (Z9 (λ_=>k1) (λe=>Z9 (λ_=>k1) (λf=>Z9 (λ_=>k1) (λk=>Z9 (λ_=>k1) (λg=>?_))))));have e:=ej e
  have f:=ej f;have k:=ej k
  have g:=ej g;simp only[dh]at e f k g
  have b : Wk (Ym l i) (gl l i)=false:=by simpa using m
  unfold Wk Ym at b;rcases d with h|⟨h,w⟩
  .subst h
   rw[av rfl,aZ (by omega),aZ (by omega),aZ (by omega),aZ (by omega)]at b;simp at b
  .rw [an (by omega)]at b
   refine Y8 (aZ (by omega)) (Q5 (U4 (by omega) (by omega)) (Q5 (by omega) ?_));rw[o,aZ (p:=(gl l ((i:Nat):Int).toNat).dX<=_)]
   .exact k1
   .simp only[dh]
    by_cases h6:(gl l (i-1)).dX<(gl l i).dX
    .rw [aZ h6,aZ (by omega),aZ (by omega),aZ (by omega)]at b
     simp at b
    .omega
 .show Gu F l a (i:Int)=_
  unfold Gu;have b : Wk (Ym l i) (gl l i)=true:=by simpa using m
  unfold Wk Ym at b;simp only[dc,dT]at b
  obtain⟨e,f,k,g⟩:=b;have k1:Jo F (i:Int) a false=z:=Z4 rfl (Q5 (U4 (by omega) (by omega)) s)
  have x:1<=(gl l i).dX:=by
   rcases d with h|⟨h,w⟩
   .rw [av h]at e;omega
   .rw [an (by omega)]at e;omega
  refine Y8 (aZ (by omega)) (Q5 (by omega) (Z4 (dg (by simp only[dh];omega)) (Z4 (dg (by simp only[dh];omega)) (Z4 (dg (by simp only[dh];omega)) (Z4 (dg (by simp only[dh];omega)) ?_)))));refine Z9 (λh=>?_) (λ_=>k1)
  have h:=dO h;refine Q5 (U4 (by omega) (by omega)) (Q5 (by omega) ?_)
  rw[o,dg]
  .exact k1
  .rw [an (by omega)]at e
   simp only[dh];omega
 .show Gu F l a (l.length:Int)=_
  unfold Gu ye Tg;refine Z4 (dg (by omega)) ?_
  rw[show decide ((1:Int)<=((l.length:Nat):Int))=decide (1<=l.length)from nc.2 (by omega),show decide (((l.length:Nat):Int)<=(6:Int))=decide (l.length<=6)from nc.2 (by omega)]
  cases decide (1<=l.length)<;>rfl
 .unfold Vv
  cases(List.range l.length).any λi=> !Wk (Ym l i) (gl l i)<;>simp
theorem Z2p{l:List aG}(hF:l.length<F)(hl:l.length<=1000000):TX F l=some (Vv l):=by
 unfold TX Vv;have c:Hn F l true=some false:=rfl
 by_cases h1:1<=l.length
 .refine Z4 (dg (by omega)) ?_
  by_cases h2:l.length<=6
  .rw [aZ h1,aZ h2,dg (by omega)]
   unfold Hn;refine Z4 rfl ?_
   suffices e:∀(n i:Nat),l.length-i<n->i<=l.length->Y4 (λagain (z:Int×Int)=>PF F l again z.1 z.2) n (Ym l i,(i:Int))=some (!((List.range l.length).drop i).any λi=> !Wk (Ym l i) (gl l i)) by
    have:=e F 0 (by omega) (by omega)
    simpa[Ym]using this
   intro n
   induction n with
   |zero=>intro i h;omega
   |succ n ih=>
    intro i f g;have b:=ih (i+1)
    revert b
    show _->PF F l (Y4 (λagain (z:Int×Int)=>PF F l again z.1 z.2) n) (Ym l i) (i:Int)=_;generalize Y4 (λagain (z:Int×Int)=>PF F l again z.1 z.2) n=ag
    intro b;unfold PF
    by_cases hil:i<l.length
    .rw [show(List.range l.length).drop i=i::(List.range l.length).drop (i+1) by rw[lL (by simpa using hil),List.getElem_range]]
     rw[lh];refine Y8 (aZ (by omega)) (Q5 (by omega) ?_)
     simp only[dh];have a:Kt F l (i:Int) ag true=some false:=rfl
     have d:Kt F l (i:Int) ag false=some (!((List.range l.length).drop (i+1)).any λi=> !Wk (Ym l i) (gl l i)):=by
      unfold Kt;refine Z4 rfl (Q5 (U4 (by omega) (by omega)) ?_)
      rw[<-b (by omega) (by omega)];congr 1
     rw[show Wk (Ym l i) (gl l i)=(decide (Ym l i<(gl l i).dX)&&(decide ((gl l i).dX<=268435456)&&(decide (0<=(gl l i).de)&&decide ((gl l i).de<=1048576))))from rfl]
     by_cases g1:Ym l i<(gl l i).dX
     .rw [aZ g1]
      refine Z4 (dg (by omega)) ?_
      by_cases g2:(gl l i).dX<=268435456
      .rw [aZ g2]
       refine Z4 (dg (by omega)) ?_
       by_cases g3:0<=(gl l i).de
       .rw [aZ g3]
        refine Z4 (dg (by omega)) ?_
        by_cases g4:(gl l i).de<=1048576
        .rw [aZ g4,dg (by omega),d];simp
        .rw [dg g4,aZ (by omega),a];simp
       .rw [dg g3]
        exact Y8 (aZ (by omega)) a
      .rw [dg g2]
       exact Y8 (aZ (by omega)) a
     .rw [dg g1]
      exact Y8 (aZ (by omega)) a
    .have:i=l.length:=by omega
     subst this;refine Z4 (dg (by omega)) ?_
     rw[nP (by simp)];rfl
  .rw [dg h2,aZ (by omega),lQ,Bool.and_false];exact c
 .rw [dg h1]
  exact Y8 (aZ (by omega)) c
structure SD (d:Nat) (s:af):Prop where
 cond:TD d s.az
 name:s.n_.size<=4294967296
 brl:s.ab.length<=1000000
def Zk(d:Nat)(s:af):Int:=
 if s.N_<0\/15<s.N_\/s.aL<0\/268435456<s.aL then 2 else if QG s.n_=false then 5 else if Yq d s.az≠0 then Yq d s.az
 else if Vv s.ab=false\/s.ah<0\/65536<=s.ah\/QJ s.ah s.N_=true then 3 else 0
theorem Ti(hd:d<=2000000)(hF:Q6+d<=F)(h:SD d s):Pq F s=some (Zk d s):=by
 have e:Q6<=F:=by omega
 have c:=e;unfold Q6 at c
 unfold Pq Zk;have b:Gw F s true=some 2:=rfl
 by_cases h1:s.N_<0
 .rw [av (.inl h1)];exact Y8 (aZ h1) b
 refine Z4 (dg h1) ?_
 by_cases h2:15<s.N_
 .rw [av (.inr (.inl h2))];exact Y8 (aZ h2) b
 refine Z4 (dg h2) ?_
 by_cases h3:s.aL<0
 .rw [av (.inr (.inr (.inl h3)))];exact Y8 (aZ h3) b
 refine Z4 (dg h3) ?_
 by_cases h4:268435456<s.aL
 .rw [av (.inr (.inr (.inr h4))),aZ h4];exact b
 rw[an (by omega),dg h4];unfold Gw
 refine Z4 rfl (Q3 (De (by have:=h.name;omega) h.name) ?_)
 cases hn:QG s.n_ with
 |false=>rfl
 |true=>
  rw[an (by simp)];refine Z4 rfl (Q3 (St hF h.cond) ?_)
  by_cases h5:Yq d s.az=0
  .rw [an (by simpa using h5)]
   refine Z4 (by simp[h5]) (Q3 (Z0Q (by have:=h.brl;omega) h.brl) ?_);have a:Gv F true=some 3:=rfl
   cases hbr:Vv s.ab with
   |false=>rw[av (.inl rfl)];exact Y8 rfl a
   |true=>
    refine Z4 rfl ?_
    by_cases h6:s.ah<0
    .rw [av (.inr (.inl h6))];exact Y8 (aZ h6) a
    refine Z4 (dg h6) ?_
    by_cases h7:65536<=s.ah
    .rw [av (.inr (.inr (.inl h7)))];exact Y8 (aZ h7) a
    refine Z4 (dg h7) (Q5 (by omega) ?_);show Gv F (QJ s.ah s.N_)=_
    cases QJ s.ah s.N_ with
    |true=>rw[av (.inr (.inr (.inr rfl)))];exact a
    |false=>rw[an (by simp;omega)];rfl
  .rw [av h5]
   exact Y8 (by simpa using h5) rfl
theorem rO(hd:d<=2000000)(hF:Q6+d<=F)(h:SD d s):TZ F s=some (Zk d s):=by
 have e:Q6<=F:=by omega
 have c:=e;unfold Q6 at c
 unfold TZ Zk;have b:GG F s true=some 2:=rfl
 by_cases h1:s.N_<0
 .rw [av (.inl h1)];exact Y8 (aZ h1) b
 refine Z4 (dg h1) ?_
 by_cases h2:15<s.N_
 .rw [av (.inr (.inl h2))];exact Y8 (aZ h2) b
 refine Z4 (dg h2) ?_
 by_cases h3:s.aL<0
 .rw [av (.inr (.inr (.inl h3)))];exact Y8 (aZ h3) b
 refine Z4 (dg h3) ?_
 by_cases h4:268435456<s.aL
 .rw [av (.inr (.inr (.inr h4))),aZ h4];exact b
 rw[an (by omega),dg h4];unfold GG
 refine Z4 rfl (Q3 (OJ e _) ?_)
 cases hn:QG s.n_ with
 |false=>rfl
 |true=>
  rw[an (by simp)];refine Z4 rfl (Q3 (Z2B hd hF h.cond) ?_)
  by_cases h5:Yq d s.az=0
  .rw [an (by simpa using h5)]
   refine Z4 (by simp[h5]) (Q3 (Z2p (by have:=h.brl;omega) h.brl) ?_);have a:GF F true=some 3:=rfl
   cases hbr:Vv s.ab with
   |false=>rw[av (.inl rfl)];exact Y8 rfl a
   |true=>
    refine Z4 rfl ?_
    by_cases h6:s.ah<0
    .rw [av (.inr (.inl h6))];exact Y8 (aZ h6) a
    refine Z4 (dg h6) ?_
    by_cases h7:65536<=s.ah
    .rw [av (.inr (.inr (.inl h7)))];exact Y8 (aZ h7) a
    refine Z4 (dg h7) (Q5 (by omega) ?_);show GF F (QJ s.ah s.N_)=_
    cases QJ s.ah s.N_ with
    |true=>rw[av (.inr (.inr (.inr rfl)))];exact a
    |false=>rw[an (by simp;omega)];rfl
  .rw [av h5]
   exact Y8 (by simpa using h5) rfl
theorem Pu{R:Type}{body:(Int->Option R)->Int->Option R}{c:Nat->Option R}{y:Option R}(N:Nat)(p:Nat->Bool)(bad:∀again (i:Nat),i<N->(∀j,j<i->p j=false)->p i=true->body again (i:Int)=c i)(good:∀again (i:Nat) z,i<N->(∀j,j<i->p j=false)->p i=false->again ((i:Int)+1)=z->body again (i:Int)=z)(stop:(∀j,j<N->p j=false)->∀again,body again (N:Int)=y)(hF:N<F):Y4 body F 0=match (List.range N).find? p with|some i=>c i|none=>y:=by
 refine z5 (λz:Int=>∃i:Nat,z=i/\i<=N/\∀j,j<i->p j=false) (λz=>N-z.toNat) (λagain z f d=>?_) ⟨0,rfl,dW _,λj h=>absurd h (fy j)⟩ (by simp;omega);obtain⟨i,rfl,g,a⟩:=f
 rcases eK i N with h|h
 .cases hpi:p i with
  |true=>
   rw[oG.2 ⟨hpi,fq.2 h,λj b=>by simp[a j b]⟩];exact bad again i h a hpi
  |false=>
   refine good again i _ h a hpi (d _ ⟨i+1,by omega,h,λj b=>?_⟩ (by omega))
   by_cases hji:j=i
   .rw [hji];exact hpi
   .exact a j (by omega)
 .have:i=N:=by omega
  subst this;rw[iI.2 λx e=>by rw[a x (fq.1 e)];simp]
  exact stop a again
theorem FO{α:Type}[aN α](p:α->Bool)(l:List α):YF p l<(l.length:Int) /\ -1<=YF p l/\(0<=YF p l->p (gl l (YF p l).toNat)=true/\l.any p=true):=by
 unfold YF;split
 .rename_i h
  have a:l.findIdx p<l.length:=nN (by simpa using h);refine⟨by omega,by omega,λ_=>⟨?_,h⟩⟩
  rw[dh,G8 a];exact oJ (w:=a)
 .exact ⟨by omega,by omega,λh=>by omega⟩
def VP(n:Int)(x:af):Bool:=x.N_==n
theorem oW(hF:Q6<=F){l:χ}(hl:l.length<=1000000)(n:Int):Tk F l n=some (YF (VP n) l):=by
 unfold Tk;exact Q3 (bM (α:=af) hF (VP n) (by omega) λr _=>rfl) rfl
theorem B5(hF:Q6<=F){l:χ}(hl:l.length<=1000000)(n:Int):Ca F l n=some (YF (VP n) l):=by
 have o:=hF;unfold Q6 at o
 unfold Ca;refine(Pu (c:=λi=>some (i:Int)) (y:=some (-1)) l.length (λi=>VP n (gl l i)) (λa i p _ d=>?_) (λa i z p _ d m=>?_) (λ_ a=>?_) (by omega)).trans ?_
 .show GH F l n a (i:Int)=_
  unfold GH;exact Y8 (aZ (by omega)) (Q5 (by omega) (Y8 d rfl))
 .show GH F l n a (i:Int)=_
  unfold GH;exact Y8 (aZ (by omega)) (Q5 (by omega) (Z4 d (Q5 (U4 (by omega) (by omega)) m)))
 .show GH F l n a (l.length:Int)=_
  unfold GH;exact Z4 (dg (by omega)) rfl
 .unfold YF
  cases hf:(List.range l.length).find? λi=>VP n (gl l i)with
  |none=>
   have h:=iI.1 hf;rw[an]
   rw[gk];exact qp λj e=>by have:=h j (fq.2 e);simpa using this
  |some i=>
   obtain⟨f,b,k⟩:=oG.1 hf;have b:=fq.1 b
   have g:l.any (VP n)=true:=fA.2 ⟨_,y3 b,f⟩;rw[av g,kr b (λj e=>by have:=k j e;simpa using this) f]
def Vg(l:χ)(i:Nat):Bool:=(decide (0<i)&&decide ((gl l i).N_<=(gl l (i-1)).N_))||(l.take i).any λx=>J3 x.n_ (gl l i).n_
def Jx(l:χ)(s:af)(n:Nat):Bool:=QJ s.ah n&&(decide (YF (VP n) l<0) || !QJ (gl l (YF (VP n) l).toNat).ah s.N_)
def VI(l:χ)(s:af):Bool:= !(List.range 16).any (Jx l s)
def JL(l:χ):Int×Int:=match (List.range l.length).find? λi=> !VI l (gl l i)with
 |some i=>(i,17)
 |none=>(-1,0)
def Wl(d:Nat)(l:χ)(i:Nat):Bool:=decide (Zk d (gl l i)≠0)||Vg l i
def JK(d:Nat)(l:χ):Int×Int:=if 16<l.length then(0,1)else match (List.range l.length).find? (Wl d l)with
 |some i=>(i,if Zk d (gl l i)≠0 then Zk d (gl l i)else 6)
 |none=>JL l
theorem vV(h:Zk d s=0):0<=s.N_/\s.N_<=15/\0<=s.aL/\s.aL<=268435456/\QG s.n_=true/\Yq d s.az=0/\Vv s.ab=true/\0<=s.ah/\s.ah<65536/\QJ s.ah s.N_=false:=by
 unfold Zk at h;split at h
 .omega
 split at h
 .omega
 split at h
 .rename_i a;exact absurd h a
 split at h
 .omega
 rename_i a c f b
 refine⟨by omega,by omega,by omega,by omega,by simpa using c,by simpa using f,?_,by omega,by omega,?_⟩
 .cases e:Vv s.ab with
  |true=>rfl
  |false=>exact absurd (.inl e) b
 .cases e:QJ s.ah s.N_ with
  |false=>rfl
  |true=>exact absurd (.inr (.inr (.inr e))) b
theorem rr(hF:Q6<=F){l:χ}(hl:l.length<=1000000)(hs:0<=s.N_):Tc F l s=some (VI l s):=by
 have h:=hF;unfold Q6 at h
 unfold Tc;refine(ym (c:=some false) (y:=some true) 16 (Jx l s) (λa i j b=>?_) (λa i z j b g=>?_) (λa=>?_) (by omega)).trans ?_
 .show Gt F l s a (i:Int)=_
  unfold Gt;unfold Jx at b
  rw[dc]at b;obtain⟨f,e⟩:=FO (VP (i:Nat)) l
  refine Y8 (aZ (by omega)) (Q5 (by omega) (Z4 (by rw[VU,b.1];rfl) (Q3 (oW hF hl _) ?_)));refine Z9 (λ_=>rfl) (λd=>Q5 (by have:=ej d;omega) (Q5 hs ?_))
  rw[VU];have:=b.2
  rw[d,iP]at this;rw[this];rfl
 .show Gt F l s a (i:Int)=_
  unfold Gt;unfold Jx at b
  obtain⟨f,e⟩:=FO (VP (i:Nat)) l;have k2:Ta F (i:Int) a=z:=Q5 (U4 (by omega) (by omega)) g
  refine Y8 (aZ (by omega)) (Q5 (by omega) ?_);rw[VU]
  cases hb:QJ s.ah i with
  |false=>exact Y8 rfl k2
  |true=>
   rw[hb,eN,fP]at b;refine Z4 rfl (Q3 (oW hF hl _) (Z4 b.1 (Q5 (by have:=ej b.1;omega) (Q5 hs ?_))))
   rw[VU,b.2];unfold Tb;exact Z4 rfl k2
 .show Gt F l s a (16:Int)=_
  unfold Gt;exact Z4 (by decide) rfl
 .unfold VI
  cases(List.range 16).any (Jx l s)<;>rfl
theorem yj(hd:d<=2000000)(hF:Q6+d<=F){l:χ}(hl:∀s∈l,SD d s):Ko F l=some (JK d l):=by
 have h:Q6<=F:=by omega
 have q:=h;unfold Q6 at q
 unfold Ko JK
 by_cases h16:16<l.length
 .rw [av h16];exact Y8 (aZ (by omega)) rfl
 rw[an h16];refine Z4 (dg (by omega)) ?_
 refine(Pu (c:=λi=>some ((i:Int),if Zk d (gl l i)≠0 then Zk d (gl l i)else 6)) (y:=some (JL l)) l.length (Wl d l) (λa i g _ b=>?_) (λa i z g _ b m=>?_) (λb a=>?_) (by omega)).trans ?_
 .show Gy F l a (i:Int)=_
  unfold Gy;refine Y8 (aZ (by omega)) (Q5 (by omega) (Q3 (Ti hd hF (hl _ (y3 g))) ?_))
  by_cases e:Zk d (gl l i)=0
  .rw [an (by simpa using e)]
   refine Z4 (by simp[e]) ?_;unfold Wl Vg at b
   have k1:Ps F (i:Int) a true=some ((i:Int),6):=rfl;rw[dg (by simpa using e),iP,ip]at b
   have k:Yk F (l.take ((i:Nat):Int).toNat) (λp=>DV F p (gl l ((i:Nat):Int).toNat))=some ((l.take i).any λx=>J3 x.n_ (gl l i).n_):=Kg (α:=af) h _ (by simp;omega) λr _=>rfl
   refine Z9 (λf=>?_) (λf=>?_)
   .have f:=dO f
    rw[show((i:Int)-1).toNat=i-1 by omega];refine Q5 (U4 (by omega) (by omega)) (Q5 (by omega) (Z9 (λ_=>k1) (λo=>Q5 (by omega) (Q3 k ?_))))
    rcases b with b|b
    .rw [dc]at b;rw[show decide ((gl l i).N_<=(gl l (i-1)).N_)=false from o]at b;simp at b
    .rw [b];exact k1
   .refine Q5 (by omega) (Q3 k ?_)
    rcases b with b|b
    .rw [dc]at b;have:=ej f;have:=dO b.1;omega
    .rw [b];exact k1
  .rw [av e];exact Y8 (by simpa using e) rfl
 .show Gy F l a (i:Int)=_
  unfold Gy;unfold Wl Vg at b
  rw[fP,fP]at b;obtain⟨e,f,o⟩:=b
  have e:Zk d (gl l i)=0:=by simpa using e
  have k1:Ps F (i:Int) a false=z:=Z4 rfl (Q5 (U4 (by omega) (by omega)) m);have k:Yk F (l.take ((i:Nat):Int).toNat) (λp=>DV F p (gl l ((i:Nat):Int).toNat))=some false:=(Kg (α:=af) h (λx=>J3 x.n_ (gl l i).n_) (by simp;omega) λr _=>rfl).trans (congrArg some o)
  refine Y8 (aZ (by omega)) (Q5 (by omega) (Q3 (Ti hd hF (hl _ (y3 g))) (Z4 (by simp[e]) ?_)));refine Z9 (λt=>?_) (λt=>Q5 (by omega) (Q3 k k1))
  have t:=dO t;rw[show((i:Int)-1).toNat=i-1 by omega]
  refine Q5 (U4 (by omega) (by omega)) (Q5 (by omega) (Z4 ?_ (Q5 (by omega) (Q3 k k1))));rw[aZ (by omega:0<i),eN]at f
  exact f
 .show Gy F l a (l.length:Int)=_
  unfold Gy yk JL;refine Z4 (dg (by omega)) ?_
  have m:∀j,j<l.length->0<=(gl l j).N_:=λj u=>by
   have:=b j u
   unfold Wl at this;rw[fP]at this
   exact(vV (by simpa using this.1)).1
  refine(Pu (c:=λi=>some ((i:Int),17)) (y:=some (-1,0)) l.length (λi=> !VI l (gl l i)) (λa i g _ b=>?_) (λa i z g _ b n=>?_) (λb a=>?_) (by omega)).trans ?_
  .show Gx F l a (i:Int)=_
   unfold Gx;exact Y8 (aZ (by omega)) (Q5 (by omega) (Q3 (rr h (by omega) (m i g)) (Y8 b rfl)))
  .show Gx F l a (i:Int)=_
   unfold Gx;exact Y8 (aZ (by omega)) (Q5 (by omega) (Q3 (rr h (by omega) (m i g)) (Z4 b (Q5 (U4 (by omega) (by omega)) n))))
  .show Gx F l a (l.length:Int)=_
   unfold Gx;exact Z4 (dg (by omega)) rfl
  .cases (List.range l.length).find? λi=> !VI l (gl l i)<;>rfl
 .cases (List.range l.length).find? (Wl d l)<;>rfl
theorem Iy(hd:d<=2000000)(hF:Q6+d<=F){l:χ}(hl:∀s∈l,SD d s):Cd F l=some (JK d l):=by
 have H:Q6<=F:=by omega
 have G:=H;unfold Q6 at G
 unfold Cd JK
 by_cases h16:16<l.length
 .rw [av h16];exact Y8 (aZ (by omega)) rfl
 rw[an h16];refine Z4 (dg (by omega)) ?_
 have O:∀a b:ByteArray,J3 a b=J3 a b:=λ_ _=>rfl
 have t:∀(f:Int->Option (Int×Int)) (i:Nat),i<l.length->∀{y:Option (Int×Int)},(Vg l i=false->f ((i:Int)+1)=y)->Y4 (λm (z:Int)=>Kv F l (i:Int) f m z) F (0:Int)=if Vg l i=true then some ((i:Int),6)else y:=by
  intro f i p y I;have e:Vg l i=(List.range i).any λk=>J3 (gl l k).n_ (gl l i).n_||(decide (k=i-1)&&decide ((gl l i).N_<=(gl l k).N_)):=by
   unfold Vg;rw[eV,ip,dc,fA,fA]
   constructor
   .rintro (⟨o,B⟩|⟨x,hx,h⟩)
    .refine ⟨i-1,fq.2 (by have:=dO o;omega),?_⟩
     rw[B];simp
    .obtain ⟨k,q,rfl⟩:=eZ hx
     rw[fE]at q;refine⟨k,fq.2 (by omega),?_⟩
     rw[lY, <-G8 (by omega)]at h;rw[h];rfl
   .rintro ⟨k,q,h⟩
    have q:=fq.1 q;rw[ip,dc]at h
    rcases h with h|⟨o,B⟩
    .exact .inr ⟨gl l k,oS.2 ⟨k,by omega,(G8 (by omega)).symm⟩,h⟩
    .have o:=dO o
     subst o;exact .inl ⟨aZ (by omega),B⟩
  have D:∀k,k<i->gl (l.take i) k=gl l k:=λk q=>by rw[G8 (by simp;omega),G8 (by omega),lY]
  have L:((i:Nat):Int).toNat=i:=dh i;have u:(l.take ((i:Nat):Int).toNat).length=i:=by simp;omega
  refine(Pu (c:=λ_=>some ((i:Int),(6:Int))) (y:=y) i (λk=>J3 (gl l k).n_ (gl l i).n_||(decide (k=i-1)&&decide ((gl l i).N_<=(gl l k).N_))) (λm k q _ g=>?_) (λm k z q _ g A=>?_) (λg m=>?_) (by omega)).trans ?_
  .show Kv F l (i:Int) f m (k:Int)=_
   unfold Kv;have k2:PG F (i:Int) (k:Int) m true=some ((i:Int),6):=rfl
   refine Y8 (aZ (by rw[u];omega)) (Q5 (by rw[u];omega) ?_);simp only[dh,D k q]
   refine Z9 (λ_=>k2) (λo=>Q5 (U4 (by omega) (by omega)) ?_);rw[o,iP,dc]at g
   refine Y8 (by have:=dO g.1;simp;omega) ?_;rw[g.2];exact k2
  .show Kv F l (i:Int) f m (k:Int)=_
   unfold Kv;have k2:PG F (i:Int) (k:Int) m false=z:=Z4 rfl (Q5 (U4 (by omega) (by omega)) A)
   refine Y8 (aZ (by rw[u];omega)) (Q5 (by rw[u];omega) ?_);simp only[dh,D k q]
   rw[fP]at g;refine Z4 g.1 (Q5 (U4 (by omega) (by omega)) (Z9 (λo=>?_) (λ_=>k2)))
   have o:k=i-1:=by simp at o;omega
   have:=g.2
   rw[aZ o,eN]at this;rw[this];exact k2
  .show Kv F l (i:Int) f m (i:Int)=_
   unfold Kv;refine Z4 (dg (by rw[u];omega)) ?_
   have C:Vg l i=false:=by rw[e,fZ];intro k q;rw[g k (fq.1 q)];simp
   exact Q5 (U4 (by omega) (by omega)) (I C)
  .cases hf:(List.range i).find? λk=>J3 (gl l k).n_ (gl l i).n_||(decide (k=i-1)&&decide ((gl l i).N_<=(gl l k).N_))with
   |some k=>
    have C:Vg l i=true:=by rw[e,fA];have h:=oG.1 hf;exact⟨k,h.2.1,h.1⟩
    rw[av C]
   |none=>
    have C:Vg l i=false:=by rw[e,fZ];intro k q;exact iI.1 hf k q
    rw[an (by simp[C])]
 refine(Pu (c:=λi=>some ((i:Int),if Zk d (gl l i)≠0 then Zk d (gl l i)else 6)) (y:=some (JL l)) l.length (Wl d l) (λf i p _ g=>?_) (λf i z p _ g A=>?_) (λg f=>?_) (by omega)).trans ?_
 .show GM F l f (i:Int)=_
  unfold GM;refine Y8 (aZ (by omega)) (Q5 (by omega) (Q3 (rO hd hF (hl _ (y3 p))) ?_))
  by_cases w:Zk d (gl l i)=0
  .rw [an (by simpa using w)]
   unfold Wl at g;rw[dg (by simpa using w),iP]at g
   refine Z4 (by simp[w]) (Q5 (by omega) ((t f i p (y:=none) λh=>by rw[g]at h;cases h).trans ?_));rw[av g]
  .rw [av w];exact Y8 (by simpa using w) rfl
 .show GM F l f (i:Int)=_
  unfold GM;unfold Wl at g
  rw[fP]at g;have w:Zk d (gl l i)=0:=by simpa using g.1
  refine Y8 (aZ (by omega)) (Q5 (by omega) (Q3 (rO hd hF (hl _ (y3 p))) (Z4 (by simp[w]) (Q5 (by omega) ((t f i p λ_=>A).trans ?_)))));rw[an (by simp[g.2])]
 .show GM F l f (l.length:Int)=_
  unfold GM yX JL;refine Z4 (dg (by omega)) ?_
  have A:∀j,j<l.length->0<=(gl l j).N_:=λj N=>by
   have:=g j N
   unfold Wl at this;rw[fP]at this
   exact(vV (by simpa using this.1)).1
  have E:∀(f:Int->Option (Int×Int)) (i:Nat),i<l.length->∀{y:Option (Int×Int)},f ((i:Int)+1)=y->Y4 (λm (z:Int)=>Ku F l (i:Int) f m z) F (0:Int)=if(List.range 16).any (Jx l (gl l i))=true then some ((i:Int),17)else y:=by
   intro f i p y I;refine ym (c:=some ((i:Int),17)) (y:=y) 16 (Jx l (gl l i)) (λm n M g=>?_) (λm n z M g v=>?_) (λm=>?_) (by omega)
   .show Ku F l (i:Int) f m (n:Int)=_
    unfold Ku;unfold Jx at g
    rw[dc]at g;obtain⟨o,B⟩:=FO (VP (n:Nat)) l
    simp only[dh (n:=i)];refine Y8 (aZ (by omega)) (Q5 (by omega) (Z4 (by rw[VU,g.1];rfl) (Q3 (B5 H (by omega) _) ?_)))
    refine Z9 (λ_=>rfl) (λJ=>Q5 (by have:=ej J;omega) (Q5 (A i p) ?_));rw[VU]
    have:=g.2
    rw[J,iP]at this;rw[this];rfl
   .show Ku F l (i:Int) f m (n:Int)=_
    unfold Ku;unfold Jx at g
    obtain⟨o,B⟩:=FO (VP (n:Nat)) l;simp only[dh (n:=i)]
    have K:Cb F (n:Int) m=z:=Q5 (U4 (by omega) (by omega)) v;refine Y8 (aZ (by omega)) (Q5 (by omega) ?_)
    rw[VU]
    cases hb:QJ (gl l i).ah n with
    |false=>exact Y8 rfl K
    |true=>
     rw[hb,eN,fP]at g;refine Z4 rfl (Q3 (B5 H (by omega) _) (Z4 g.1 (Q5 (by have:=ej g.1;omega) (Q5 (A i p) ?_))))
     rw[VU,g.2];unfold Cc;exact Z4 rfl K
   .show Ku F l (i:Int) f m (16:Int)=_
    unfold Ku;exact Z4 (by decide) (Q5 (U4 (by omega) (by omega)) I)
  refine(Pu (c:=λi=>some ((i:Int),17)) (y:=some (-1,0)) l.length (λi=> !VI l (gl l i)) (λf i p _ g=>?_) (λf i z p _ g v=>?_) (λg f=>?_) (by omega)).trans ?_
  .show GK F l f (i:Int)=_
   unfold GK;unfold VI at g
   rw[nf]at g;refine Y8 (aZ (by omega)) (Q5 (by omega) ((E f i p rfl).trans ?_))
   rw[av g]
  .show GK F l f (i:Int)=_
   unfold GK;unfold VI at g
   rw[nf]at g;refine Y8 (aZ (by omega)) (Q5 (by omega) ((E f i p v).trans ?_))
   rw[an (by simp[g])]
  .show GK F l f (l.length:Int)=_
   unfold GK;exact Z4 (dg (by omega)) rfl
  .cases (List.range l.length).find? λi=> !VI l (gl l i)<;>rfl
 .cases (List.range l.length).find? (Wl d l)<;>rfl
structure eo (d:Nat) (l:χ):Prop where
 len:l.length<=16
 one:∀i,i<l.length->Zk d (gl l i)=0
 asc:∀i,0<i->i<l.length->(gl l (i-1)).N_<(gl l i).N_
 nam:∀i,i<l.length->((l.take i).any λx=>J3 x.n_ (gl l i).n_)=false
 mtl:∀i,i<l.length->VI l (gl l i)=true
theorem LU{l:χ}(h:eo d l):JK d l=(-1,0):=by
 obtain⟨g,b,c,f,e⟩:=h;unfold JK
 rw[an (by omega)];rw[iI.2 λi a=>by
  have a:=fq.1 a;unfold Wl Vg
  rw[b i a,f i a]
  by_cases h0:0<i
  .have:=c i h0 a
   rw[dg (p:=(gl l i).N_<=(gl l (i-1)).N_) (by omega)];simp
  .rw [dg h0];simp]
 show JL l=_;unfold JL
 rw[iI.2 λi a=>by rw[e i (fq.1 a)];simp]
theorem Ng{l:χ}:(JK d l).2=0↔eo d l:=by
 unfold JK;constructor
 .intro h
  by_cases h16:16<l.length
  .rw [av h16]at h;cases h
  rw[an h16]at h
  cases hf:(List.range l.length).find? (Wl d l)with
  |some i=>
   rw[hf]at h
   exfalso
   revert h
   show ¬(if Zk d (gl l i)≠0 then Zk d (gl l i)else 6)=0;split
   .assumption
   .omega
  |none=>
   rw[hf]at h;have b:∀i,i<l.length->Wl d l i=false:=λi a=>by have:=iI.1 hf i (fq.2 a);simpa using this
   have h:(JL l).2=0:=h;unfold JL at h
   cases hg:(List.range l.length).find? λi=> !VI l (gl l i)with
   |some i=>rw[hg]at h;exact absurd h (by show ¬(17:Int)=0;omega)
   |none=>
    have c:∀i,i<l.length->VI l (gl l i)=true:=λi a=>by have:=iI.1 hg i (fq.2 a);simpa using this
    refine⟨by omega,λi a=>?_,λi e a=>?_,λi a=>?_,c⟩
    .have:=b i a
     unfold Wl at this;rw[fP]at this
     simpa using this.1
    .have:=b i a
     unfold Wl Vg at this;rw[fP,fP]at this
     have:=this.2.1
     rw[aZ e,eN,iu]at this;omega
    .have:=b i a
     unfold Wl Vg at this;rw[fP,fP]at this
     exact this.2.2
 .intro h
  have:=LU h
  unfold JK at this;rw[this]
theorem Z2o(hF:Q6<=F){a:aE}(hv:K7 a.t_):Hm F a=some (KV a.t_):=by
 unfold Hm;refine Q3 (Uk hF a) ?_
 rw[Vz hv];exact Z4 rfl (Q3 (yF hF (by have:=hv.1;omega) hv.2.1) rfl)
theorem Et(hF:1<=F)(h0:0<=n)(h1:n<=9):∃s,PR F n=some s/\s.size<=10:=by
 cases F with
 |zero=>omega
 |succ F=>
  refine⟨Yn (IntKind.wrap .u8 (48+n)),?_,by unfold Yn;simp⟩;show CF F (PR F) n=_
  unfold CF;exact Z4 (dg (by omega)) (Y8 (aZ (by omega)) (Q5 (U4 (by omega) (by omega)) rfl))
theorem CR{k:Int}(h0:0<=k)(h1:k<=10):1<=(1:Int)*2 ^ (min k.toNat (IntKind.bits .i64))/\(1:Int)*2 ^ (min k.toNat (IntKind.bits .i64))<=1024:=by
 have a:k=0\/k=1\/k=2\/k=3\/k=4\/k=5\/k=6\/k=7\/k=8\/k=9\/k=10:=by omega
 rcases a with rfl|rfl|rfl|rfl|rfl|rfl|rfl|rfl|rfl|rfl|rfl<;>decide
theorem cI{a b c:Int}(h1:Q7 a)(h2:Q7 b):TD (d+1) ⟨a,b,c,[]⟩:=⟨h1,h2,by simp,λk e=>(fF e).elim⟩
theorem Fj:∀(n:Nat) {F:Nat} (_:n+1<=F) {t:aD} (_:dw t) (_:n<=5),∃t' x,VN F t (n:Int)=some (t',x)/\dw t' /\ TD (n+1) x
 |n,0,hF,_,_,_=>by omega
 |n,F+1,hF,t,ht,hn=>by
  show ∃t' x,Fk F (VN F) t (n:Int)=some (t',x)/\_;unfold Fk
  have k2:∀(u:aD×Int) (a b:Int) (v:aD),dw v->Q7 u.2->Q7 a->Ok (UT F (VN F) u a b v.l_ v.aT) λz=>dw z.1/\TD (n+1) z.2:=λu a b v C A B=>by
   unfold UT;exact GZ ⟨C,cI A B⟩
  have g:∀(v:aD),dw v->Ok ((YZ F v (1:Int) (8:Int)).bind λz=>br (z.2==(2:Int)) (Xe F (VN F) z (z.2==(2:Int))) (Xe F (VN F) z (z.2==(3:Int)))) λz=>dw z.1/\TD (n+1) z.2:=λv C=>by
   obtain⟨w,o,D,f,N,Q⟩:=WX (F:=F) C (lo:=1) (hi:=8) (by omega) (by omega) (by omega);have i:Q7 o:=U4 (by omega) (by omega)
   have k1:∀b,Ok (Xe F (VN F) (w,o) b) λz=>dw z.1/\TD (n+1) z.2:=λb=>by
    unfold Xe;refine Yc (λ_=>?_) (λ_=>Yc (λ_=>?_) (λ_=>Yc (λ_=>?_) (λ_=>Yc (λ_=>?_) (λ_=>Yc (λ_=>?_) (λ_=>Yc (λ_=>?_) (λ_=>?_))))))
    .obtain ⟨e,k,d,c,j,s⟩:=Zd (F:=F) f (n:=4) (by omega) (by omega)
     exact Zz d (k2 _ _ _ e c i (U4 (by omega) (by omega)))
    .obtain ⟨e,k,d,c,j,s⟩:=Zd (F:=F) f (n:=5) (by omega) (by omega)
     have:=CR j (by omega)
     exact Zz d (Qz ⟨U4 (by simp only;omega) (by simp only;omega),j⟩ (k2 _ _ _ e c i (U4 (by simp only;omega) (by simp only;omega))))
    .obtain ⟨e,k,d,c,j,s⟩:=Zd (F:=F) f (n:=16) (by omega) (by omega)
     exact Zz d (k2 _ _ _ e c i (U4 (by omega) (by omega)))
    .obtain ⟨e,k,d,c,j,s⟩:=WX (F:=F) f (lo:=2) (hi:=3) (by omega) (by omega) (by omega)
     exact Zz d (k2 _ _ _ e c i (U4 (by omega) (by omega)))
    .obtain ⟨e,k,d,c,j,s⟩:=WX (F:=F) f (lo:=1) (hi:=2) (by omega) (by omega) (by omega)
     obtain⟨E,m,q,l,J,P⟩:=Zd (F:=F) c (n:=5) (by omega) (by omega);have:=CR J (by omega)
     exact Zz d (Zz q (Qz ⟨U4 (by simp only;omega) (by simp only;omega),J⟩ (k2 _ _ _ E l i (U4 (by simp only;omega) (by simp only;omega)))))
    .obtain ⟨e,k,d,c,j,s⟩:=WX (F:=F) f (lo:=1) (hi:=3) (by omega) (by omega) (by omega)
     exact Zz d (k2 _ _ _ e c i (U4 (by omega) (by omega)))
    .exact k2 _ _ _ w f i (U4 (by omega) (by omega))
   exact Zz D (Yc (λ_=>k1 _) (λ_=>k1 _))
  have p:Ok (br (decide ((0:Int)<(n:Int))) ((Xh F t (2:Int)).bind λz=>Xf F (VN F) (n:Int) z.2 z.1.l_ z.1.aT) (Xf F (VN F) (n:Int) false t.l_ t.aT)) λz=>dw z.1/\TD (n+1) z.2:=by
   refine Yc (λh=>?_) (λ_=>?_)
   .have h:=dO h
    obtain⟨m,rfl⟩:∃m,n=m+1:=⟨n-1,by omega⟩;obtain⟨w,b,D,f⟩:=xv (F:=F) ht (n:=2) (by omega) (by omega)
    refine Zz D ?_;unfold Xf
    refine Yc (λ_=>?_) (λ_=>g w f);obtain⟨e,k,d,c,_,_⟩:=Zd (F:=F) f (n:=3) (by omega) (by omega)
    refine Zz d ?_;have I:((m+1:Nat):Int)-1=(m:Int):=by omega
    refine Yc (λ_=>Qz (U4 (by omega) (by omega)) ?_) (λ_=>Yc (λ_=>Qz (U4 (by omega) (by omega)) ?_) (λ_=>Qz (U4 (by omega) (by omega)) ?_))
    .rw [I]
     obtain⟨E,x,q,l,d3⟩:=Fj m (by omega:m+1<=F) c (by omega);exact Zz q (Qz d3.op (GZ ⟨l,U4 (by simp only;omega) (by simp only;omega),U4 (by simp only;omega) (by simp only;omega),by simp,λk G=>by rw[dI.1 G];exact d3⟩))
    all_goals
     rw[I];obtain⟨E,x,q,l,d3⟩:=Fj m (by omega:m+1<=F) c (by omega)
     obtain⟨O,y,M,L,H⟩:=Fj m (by omega:m+1<=F) l (by omega);refine Zz q (Qz (U4 (by omega) (by omega)) (Zz M (Qz d3.op (Qz H.op (GZ ⟨L,U4 (by simp only;omega) (by simp only;omega),U4 (by simp only;omega) (by simp only;omega),by simp,λk G=>?_⟩)))))
     rcases dY.1 G with h|h
     .rw [h];exact d3
     .rw [dI.1 h];exact H
   .unfold Xf
    exact Yc (λh=>by cases h) (λ_=>g t ht)
  obtain⟨r,K,A,B⟩:=p;exact⟨r.1,r.2,K,A,B⟩
structure ST (s:af):Prop where
 sd:SD 3 s
 num:0<=s.N_/\s.N_<=3
theorem ST.excl(h:ST s)(e:Int):ST {s with ah:=e}:=⟨⟨h.sd.cond,h.sd.name,h.sd.brl⟩,h.num⟩
theorem cS{l:χ}(h:∀s∈l,ST s){x:af}(hx:ST x):∀s∈l.set i x,ST s:=λs b=>by
 rcases ot b with a|a
 .exact h s a
 .rw [a];exact hx
structure LT (L:χ):Prop where
 st:∀s∈L,ST s
 len:L.length<=3
theorem Z4S(hF:Q6+3<=F){t:aD}(ht:dw t)(m0:0<=most)(m1:most<=3):∃t' L,Fw F t most=some (t',L)/\dw t' /\ LT L/\(L=[]\/eo 3 L):=by
 have hB:Q6<=F:=by omega
 have V:=hB;unfold Q6 at V
 unfold Fw;obtain⟨t1,n,e1,o1,O,n1⟩:=Zd (F:=F) ht (n:=2) (by omega) (by omega)
 obtain⟨t2,k,e2,o2,U,k1⟩:=Zd (F:=F) o1 (n:=most+1) (by omega) (by omega)
 suffices h:Ok (Y4 (λe (z:Int×Int×θ×Int×χ)=>Fv F e z.1 z.2.1 z.2.2.1 z.2.2.2.1 z.2.2.2.2) F (n,k,t2.l_,t2.aT,([]:χ))) λz=>dw z.1/\LT z.2/\(z.2=[]\/eo 3 z.2) by
  obtain⟨r,hr,h1,P,K⟩:=h;exact⟨r.1,r.2,Q3 e1 (Q5 (U4 (by omega) (by omega)) (Q3 e2 hr)),h1,P,K⟩
 have a5:∀(L:χ) (v:aD),dw v->LT L->Ok (Fu F L v.l_ v.aT) λz=>dw z.1/\LT z.2/\(z.2=[]\/eo 3 z.2):=λL v f C=>by
  unfold Fu;refine Zz (Iy (d:=3) (by omega) hF λs I=>(C.st s I).sd) (Yc (λ_=>?_) (λh=>?_))
  .exact GZ ⟨f,⟨λs I=>(fF I).elim,by simp⟩,.inl rfl⟩
  .exact GZ ⟨f,C,.inr (Ng.1 (by simpa using h))⟩
 have k5:∀(L:χ) (v:aD),dw v->LT L->Ok (Ft F v.l_ v.aT L) λz=>dw z.1/\LT z.2/\(z.2=[]\/eo 3 z.2):=λL v f C=>by
  have a8:=C.len;unfold Ft
  refine Xa (λz:Int×θ×Int×(χ)=>0<=z.1/\z.1<=L.length/\dw ⟨z.2.1,z.2.2.1⟩/\LT z.2.2.2/\z.2.2.2.length=L.length) (λz=>L.length-z.1.toNat) (λe z E ih=>?_) ⟨by simp,by simp,f,C,rfl⟩ (by simp;omega);obtain⟨i,a,b,M⟩:=z
  obtain⟨i0,i1,f,p,o⟩:=E;simp only at i0 i1 f p o
  show Ok (xA F L e i a b M) _;unfold xA
  refine Yc (λh=>?_) (λ_=>a5 M ⟨a,b⟩ f p);have h:=dO h
  refine Qz (by omega) ?_;refine Xa (λz:Int×θ×Int×(χ)=>0<=z.1/\z.1<=i/\dw ⟨z.2.1,z.2.2.1⟩/\LT z.2.2.2/\z.2.2.2.length=L.length) (λz=>i.toNat-z.1.toNat) (λS z E H=>?_) ⟨by simp,by simpa using i0,f,p,o⟩ (by simp;omega)
  obtain⟨j,a,b,M⟩:=z;obtain⟨j0,j1,f,p,o⟩:=E
  simp only at j0 j1 f p o;show Ok (xz F i e S j a b M) _
  unfold xz;refine Yc (λP=>?_) (λ_=>?_)
  .have P:=dO P
   obtain⟨R,c,W,Q⟩:=xv (F:=F) f (n:=3) (by omega) (by omega);have k8:∀(N:χ) (v:aD),dw v->LT N->N.length=L.length->Ok (Mm F j S v.l_ v.aT N) λz=>dw z.1/\LT z.2/\(z.2=[]\/eo 3 z.2):=λN v f hN o=>by
    unfold Mm;exact Qz (U4 (by omega) (by omega)) (H _ ⟨by simp only;omega,by simp only;omega,f,hN,o⟩ (by simp only;omega))
   refine Zz W (Yc (λ_=>?_) (λ_=>k8 M R Q p o));have hj:=p.st _ (y3 (l:=M) (i:=j.toNat) (by omega))
   have hi:=p.st _ (y3 (l:=M) (i:=i.toNat) (by omega));have p1:=CR hj.num.1 (by have:=hj.num.2;omega)
   refine Qz (by omega) (Qz (by omega) (Qz ⟨U4 (by omega) (by omega),hj.num.1⟩ (Qz (by omega) ?_)));have A:∀s∈M.set i.toNat ⟨(gl M i.toNat).N_,(gl M i.toNat).n_,(gl M i.toNat).az,(gl M i.toNat).ab,(gl M i.toNat).aL,K4 .i64 (gl M i.toNat).ah ((1:Int)*2 ^ (min (gl M j.toNat).N_.toNat (IntKind.bits .i64))),(gl M i.toNat).aR⟩,ST s:=cS p.st (hi.excl _)
   generalize hN:M.set i.toNat _=N at A⊢;have b5:N.length=M.length:=by rw[<-hN];simp
   have D:=A _ (y3 (l:=N) (i:=i.toNat) (by omega));have a4:=A _ (y3 (l:=N) (i:=j.toNat) (by omega))
   have p2:=CR D.num.1 (by have:=D.num.2;omega);refine Qz (by omega) (Qz (by omega) (Qz ⟨U4 (by omega) (by omega),D.num.1⟩ (Qz (by omega) ?_)))
   exact k8 _ R Q ⟨cS A (a4.excl _),by simp;omega⟩ (by simp;omega)
  .unfold xw
   exact Qz (U4 (by omega) (by omega)) (ih _ ⟨by simp only;omega,by simp only;omega,f,p,o⟩ (by simp only;omega))
 refine Xa (λz:Int×Int×θ×Int×(χ)=>0<=z.1/\z.1<=5/\0<=z.2.1/\dw ⟨z.2.2.1,z.2.2.2.1⟩/\(∀s∈z.2.2.2.2,ST s)/\(z.2.2.2.2.length:Int)+z.2.1<=3) (λz=>z.2.1.toNat) (λe z E ih=>?_) ⟨by simpa using O,by simp only;omega,by simpa using U,o2,λs I=>(fF I).elim,by simp;omega⟩ (by simp only;omega);obtain⟨n,k,a,b,L⟩:=z
 obtain⟨O,n1,U,f,C,o⟩:=E;simp only at O n1 U f C o
 show Ok (Fv F e n k a b L) _;unfold Fv
 have Y:LT L:=⟨C,by omega⟩;have kf:Ok (Bk F n k a b L e false) λz=>dw z.1/\LT z.2/\(z.2=[]\/eo 3 z.2):=by
  unfold Bk;exact Yc (λh=>by cases h) (λ_=>k5 L ⟨a,b⟩ f Y)
 refine Yc (λh=>?_) (λ_=>kf);have h:=dO h
 by_cases K:n<=3
 rotate_left
 .rw [dg K];exact kf
 rw[aZ K];unfold Bk
 refine Yc (λ_=>?_) (λh=>by cases h);obtain⟨s,es,I⟩:=Et (F:=F) (by omega) O (by omega)
 obtain⟨R,x,W,Q,hx⟩:=Fj 2 (by omega:3<=F) f (by omega);obtain⟨t4,y,e4,o4,y0,y1⟩:=Zd (F:=F) Q (n:=4) (by omega) (by omega)
 obtain⟨t5,c,e5,o5⟩:=xv (F:=F) o4 (n:=2) (by omega) (by omega);obtain⟨t6,m,e6,o6,m0,m1⟩:=WX (F:=F) o5 (lo:=1) (hi:=3) (by omega) (by omega) (by omega)
 have J:ByteArray.size (IS #[115])=1:=rfl;refine Zz es (Qz (by rw[J];unfold Y2;omega) (Zz W (Zz e4 (Zz e5 (Zz e6 ?_)))))
 refine Xa (λz:Int×Int×θ×Int×(List aG)=>0<=z.1/\z.1+40*z.2.1<=120/\0<=z.2.1/\dw ⟨z.2.2.1,z.2.2.2.1⟩/\(z.2.2.2.2.length:Int)+z.2.1<=3) (λz=>z.2.1.toNat) (λS z E H=>?_) ⟨by simp,by simp only;omega,by simp only;omega,o6,by simp;omega⟩ (by simp only;omega);obtain⟨u,q,a2,b2,B⟩:=z
 obtain⟨u0,u1,q0,G,T⟩:=E;simp only at u0 u1 q0 G T
 show Ok (xB F n k L s (R,x) (t4,y) (t5,c) e S u q a2 b2 B) _;unfold xB
 refine Yc (λh4=>?_) (λ_=>?_)
 .have h4:=dO h4
  obtain⟨t7,w,e7,o7,w0,w1⟩:=WX (F:=F) G (lo:=1) (hi:=40) (by omega) (by omega) (by omega);obtain⟨t8,g,e8,o8,g0,g1⟩:=Zd (F:=F) o7 (n:=3000) (by omega) (by omega)
  exact Zz e7 (Qz (U4 (by simp only;omega) (by simp only;omega)) (Zz e8 (Qz (by simp only[dz,eg];unfold Y2;omega) (Qz (U4 (by omega) (by omega)) (H _ ⟨by simp only;omega,by simp only;omega,by simp only;omega,o8,by simp;omega⟩ (by simp only;omega))))))
 .unfold xy
  obtain⟨t9,w,e9,o9,w0,w1⟩:=WX (F:=F) G (lo:=1) (hi:=2) (by omega) (by omega) (by omega);refine Qz (by simp only[dz,eg];unfold Y2;omega) (Zz e9 (Qz (U4 (by simp only;omega) (by simp only;omega)) ?_))
  unfold xx;refine Qz (U4 (by omega) (by omega)) (ih _ ⟨by simp only;omega,by simp only;omega,by simp only;omega,o9,λs' Z=>?_,by simp;omega⟩ (by simp only;omega))
  rcases dv.1 Z with X|X
  .exact C s' X
  .rw [dI.1 X]
   refine⟨⟨hx,?_,by simp only;omega⟩,O,K⟩;show((IS #[115])++s).size<=_
   rw[ByteArray.size_append,J];omega
theorem jy{n:Nat}(h:n<4294967296):IntKind.wrap .i64 (n:Int)=n:=by
 unfold IntKind.wrap;simp[IntKind.signed,IntKind.bits]
 omega
theorem CU(h:m<4294967296):(BitVec.ofInt 64 (m:Int)).toNat=m:=by
 rw[BitVec.ofInt_natCast,BitVec.toNat_ofNat];exact ml (by omega)
theorem Z8f(hm:m<65536)(hk:k<65536):QO .i64 (m:Int) (k:Int)=((m &&& k:Nat):Int):=by
 show IntKind.wrap .i64 ((BitVec.ofInt 64 (m:Int) &&& BitVec.ofInt 64 (k:Int)).toNat:Nat)=_;rw[BitVec.toNat_and,CU (by omega),CU (by omega)]
 exact jy (Nat.lt_of_le_of_lt Nat.and_le_left (by omega))
theorem Z8b(hm:m<65536)(hk:k<65536):K4 .i64 (m:Int) (k:Int)=((m ||| k:Nat):Int):=by
 show IntKind.wrap .i64 ((BitVec.ofInt 64 (m:Int) ||| BitVec.ofInt 64 (k:Int)).toNat:Nat)=_;rw[BitVec.toNat_or,CU (by omega),CU (by omega)]
 exact jy (Nat.lt_trans (Nat.or_lt_two_pow (n:=16) (by omega) (by omega)) (by omega))
theorem Rd{n:Nat}(hm:m<65536)(hn:n<=16):QJ (m:Int) (n:Int)=m.testBit n:=by
 unfold QJ;have a:min ((n:Nat):Int).toNat (IntKind.bits .i64)=n:=by
  rw[dh];show min n 64=n;omega
 rw[a];have b:(m:Int).fdiv (2 ^ n)=((m / 2 ^ n:Nat):Int):=by
  rw[Int.fdiv_eq_ediv_of_nonneg _ (by exact Int.le_of_lt (Int.pow_pos (by omega)))];rw[Int.natCast_ediv];simp
 rw[b];have c:m / 2 ^ n<=m:=Nat.div_le_self _ _
 rw[show((1:Int))=((1:Nat):Int)from rfl,Z8f (by omega) (by omega),Nat.and_one_is_mod,Nat.testBit_eq_decide_div_mod_eq];rw[eV,eY,dT];omega
theorem OD{p k:Int}(p0:0<=p)(p1:p<65536)(k0:0<=k)(k1:k<=15):0<=K4 .i64 p ((1:Int)*2 ^ (min k.toNat (IntKind.bits .i64)))/\K4 .i64 p ((1:Int)*2 ^ (min k.toNat (IntKind.bits .i64)))<65536 /\
  ∀n:Nat,n<=15->QJ (K4 .i64 p ((1:Int)*2 ^ (min k.toNat (IntKind.bits .i64)))) n=(QJ p n||decide ((n:Int)=k)):=by
 obtain⟨m,rfl⟩:=mZ p0;obtain⟨j,rfl⟩:=mZ k0
 have a:m<65536:=by omega
 have d:j<=15:=by omega
 have e:(1:Int)*2 ^ (min ((j:Nat):Int).toNat (IntKind.bits .i64))=((2 ^ j:Nat):Int):=by
  rw[dh,show min j (IntKind.bits .i64)=j by show min j 64=j;omega];simp
 have b:2 ^ j<65536:=by
  have:=oX (n:=2) (by omega) d
  omega
 rw[e,Z8b a b];have c:m ||| 2 ^ j<2 ^ 16:=Nat.or_lt_two_pow (by omega) (by omega)
 refine⟨by omega,by omega,λn f=>?_⟩;rw[Rd (by omega) (by omega),Rd a (by omega),n9,Nat.testBit_two_pow]
 congr 1
 rw[eV,dT,dT];omega
def wt(ws:ε):Nat:=(ws.map λw=>(tl w).length+1).sum
theorem qI(a b:ε):wt (a++b)=wt a+wt b:=by simp[wt]
theorem bd:∀ws:ε,(Zi ws).length=wt ws
 |[]=>rfl
 |x::r=>by
  show(32::(tl x++Zi r)).length=_;simp only[dz,dK,bd r,wt,eP,iK]
  omega
theorem Q9i{ws:ε}(h:ws≠[]):(Qy ws).length+1=wt ws:=by
 cases ws with
 |nil=>exact absurd rfl h
 |cons x r=>
  rw[<-bd];rfl
structure fv (L:List ε) (k n:Nat):Prop where
 ok:∀ws∈L,ws≠[]/\∀s∈ws,Qw s
 wt:(L.map wt).sum<=k
 len:L.length<=n
theorem fv.app{n:Nat}(h:fv L k n)(m:fv M k' n'):fv (L++M) (k+k') (n+n'):=
 ⟨λb c=>by rcases dv.1 c with a|a;exact h.ok b a;exact m.ok b a,by have:=h.wt;have:=m.wt;simp only[fe,mE];omega,by have:=h.len;have:=m.len;rw[dK];omega⟩
theorem fv.up{n:Nat}(h:fv L k n)(a:k<=k')(b:n<=n'):fv L k' n':=⟨h.ok,dP h.wt a,dP h.len b⟩
theorem fv.flat{α:Type}{f:α->List ε}{k n:Nat}:∀{l:List α},(∀x∈l,fv (f x) k n)->fv (l.flatMap f) (l.length*k) (l.length*n)
 |[],_=>⟨λ_ h=>(by cases h),dW _,dW _⟩
 |x::l,h=>by
  have:=(h x dZ).app (fv.flat (l:=l) λy a=>h y (eB _ a))
  exact this.up (by simp only[dz,Nat.succ_mul];omega) (by simp only[dz,Nat.succ_mul];omega)
theorem Di:∀{L:List ε},(∀ws∈L,ws≠[])->(Yi L).length=(L.map wt).sum
 |[],_=>rfl
 |x::L,h=>by
  have b:=Q9i (h x dZ);have c:=Di (L:=L) λy a=>h y (eB _ a)
  show(Qy x++[10]++Yi L).length=_;simp only[dK,dz,eg,eP,iK]
  omega
theorem u9(h:fv L 16384 400):XV F L=some (bs (Yi L),0):=by
 unfold XV;rw[av ⟨h.ok,by rw[Di λb a=>(h.ok b a).1];exact h.wt,h.len⟩]
theorem fv.tx{n:Nat}(h:fv L k n)(hk:k<=16000)(hn:n<=390)(pre suf:List (List UInt8×ε))(hp:fX (pre++suf))(h1:(J5 (pre++suf)).length<=300)(h2:(pre++suf).length<=10):
  fX (pre++(L.map λws=>(Qy ws,ws))++suf):=by
 have e:∀a b c:List (List UInt8×ε),(J5 (a++b++c)).length=(J5 (a++c)).length+(J5 b).length:=λa b c=>by simp[J5];omega
 refine⟨λx d=>?_,?_,?_,λe=>hp.ne ?_⟩
 .simp only[dv,eF]at d
  rcases d with (d|⟨ws,f,rfl⟩)|d
  .exact hp.one x (mq _ d)
  .exact .inr ⟨(h.ok ws f).1,(h.ok ws f).2,rfl⟩
  .exact hp.one x (mf _ d)
 .rw [e, <-qS,Di λws f=>(h.ok ws f).1]
  have:=h.wt
  omega
 .have:=h.len
  simp only[dK,fL]at h2⊢;omega
 .simp only[List.append_eq_nil_iff]at e⊢
  exact⟨e.1.1,e.2⟩
theorem Ve(x:ByteArray)(l:ε):wt (x::l)=((tl x).length+1)+wt l:=by simp[wt]
theorem RH:wt []=0:=rfl
theorem jP:∀(d:Nat) {t:aj},TD d t->QY d t=true->(∀s∈y5 d t,Qw s)/\wt (y5 d t)<=40*Qc d t
 |0,_,h,_=>h.elim
 |d+1,t,h,hf=>by
  have i:QW t=true/\∀k∈t.ae,QY d k=true:=by
   unfold QY at hf;simpa[dc,en]using hf
  have p:∀{l:List aj},(∀k∈l,k∈t.ae)->(∀s∈l.flatMap (y5 d),Qw s)/\wt (l.flatMap (y5 d))<=40*(l.map (Qc d)).sum:=λ{l}=>by
   induction l with
   |nil=>intro _;exact⟨λ_ h=>(by cases h),dW _⟩
   |cons x l ih=>
    intro o;obtain⟨w,G⟩:=ih λk p=>o k (eB _ p)
    have v:=o x dZ;obtain⟨B,D⟩:=jP d (h.2.2.2 x v) (i.2 x v)
    refine⟨λs a=>?_,?_⟩
    .rw [ir]at a
     rcases dv.1 a with m|m
     .exact B s m
     .exact w s m
    .rw [ir,qI]
     simp only[eP,iK];omega
  obtain⟨k1,k2⟩:=p (l:=t.ae) λk h=>h
  have f:=i.1;have c:∀l:List UInt8,(l≠[]/\∀c∈l,33<=c.toNat/\c.toNat<=126/\c≠35)->Qw ⟨l.toArray⟩:=λl h=>h
  unfold Qc;unfold y5
  by_cases e1:t.aw=1
  .rw [av e1]
   exact⟨λs a=>by rw[dI.1 a];exact c _ (by decide),dP (show wt [gA]<=40 by decide) (by omega)⟩
  rw[an e1]
  by_cases e4:t.aw=4
  .rw [av e4]
   have z:ZP t.ao=true:=by unfold QW at f;rw[an e1,an (by omega),an (by omega),av e4]at f;simp at f;exact f.1
   obtain⟨_,_,q,A,_⟩:=Mf (F:=0) z;refine⟨λs a=>?_,?_⟩
   .simp only[dY,fF,iW]at a
    rcases a with rfl|rfl
    .exact c _ (by decide)
    .exact q
   .have:wt [qf,Zt t.ao.toNat]=5+((tl (Zt t.ao.toNat)).length+1):=by rw[Ve,Ve,RH,show(tl qf).length=4 from rfl]
    omega
  rw[an e4]
  by_cases e7:t.aw=7
  .rw [av e7]
   have C:(1<=t.ao/\t.ao<=10)/\ZP t.ak=true:=by
    unfold QW at f;rw[an e1,an (by omega),an (by omega),an e4,an (by omega),an (by omega),av e7]at f
    simp at f
    exact⟨f.1,f.2.1⟩
   obtain⟨_,_,q,A,_⟩:=Mf (F:=0) C.2;refine⟨λs a=>?_,?_⟩
   .simp only[dY,fF,iW]at a
    rcases a with rfl|rfl|rfl
    .exact c _ (by decide)
    .exact KO (by omega)
    .exact q
   .have:wt [qg,QN t.ao,Zt t.ak.toNat]=7+(((tl (QN t.ao)).length+1)+((tl (Zt t.ak.toNat)).length+1)):=by rw[Ve,Ve,Ve,RH,show(tl qg).length=6 from rfl]
    have:=JJ (n:=t.ao) (by omega) (by omega)
    omega
  rw[an e7]
  by_cases e11:t.aw=11
  .rw [av e11]
   refine⟨λs a=>?_,?_⟩
   .rcases dY.1 a with rfl|a
    .exact c _ (by decide)
    .exact k1 s a
   .have:wt (Rf::t.ae.flatMap (y5 d))=4+wt (t.ae.flatMap (y5 d)):=by rw[Ve,show(tl Rf).length=3 from rfl]
    omega
  rw[an e11];have g:∀b:ByteArray,Qw b->(tl b).length<=3->(∀s∈b::bL::(t.ae.flatMap (y5 d)++[bR]),Qw s)/\wt (b::bL::(t.ae.flatMap (y5 d)++[bR]))<=40*(1+(t.ae.map (Qc d)).sum):=λb j o=>by
   refine⟨λs a=>?_,?_⟩
   .rcases dY.1 a with rfl|a
    .exact j
    rcases dY.1 a with rfl|a
    .exact c _ (by decide)
    rcases dv.1 a with a|a
    .exact k1 s a
    .rw [dI.1 a];exact c _ (by decide)
   .have:wt (b::bL::(t.ae.flatMap (y5 d)++[bR]))=((tl b).length+1)+(2+(wt (t.ae.flatMap (y5 d))+2)):=by rw[Ve,Ve,qI,Ve,RH,show(tl bL).length=1 from rfl,show(tl bR).length=1 from rfl]
    omega
  by_cases e9:t.aw=9
  .rw [av e9];exact g _ (c _ (by decide)) (by decide)
  rw[an e9]
  by_cases e10:t.aw=10
  .rw [av e10];exact g _ (c _ (by decide)) (by decide)
  rw[an e10];obtain⟨y,⟨u,E⟩,_,_⟩:=xb f e1 e4 e7 e9 e10 e11
  have j:Qw (Jd t.aw)/\(tl (Jd t.aw)).length<=6:=by
   unfold Jd;rcases y with e|e|e|e|e<;>rw[e]<;>exact⟨c _ (by decide),by decide⟩
  refine⟨λs a=>?_,?_⟩
  .simp only[dY,fF,iW]at a
   rcases a with rfl|rfl
   .exact j.1
   .exact KO u
  .have:wt [Jd t.aw,QN t.ao]=((tl (Jd t.aw)).length+1)+((tl (QN t.ao)).length+1):=by simp[wt]
   have:=JJ u (by omega)
   have:=j.2
   omega
open Go.Sort
def Mi:ByteArray:=IS #[99,114,111,112]
abbrev Yw(c:aB):ε:=[Mi,c.n_,QN c.f_,Zt c.m_.toNat]
theorem Z7q:∀i,i<8->QG (gl Zl i)=true/\(Qw (gl Zl i)/\(tl (gl Zl i)).length<=12):=by
 intro i a;have:∀i,i<8->QG (gl Zl i)=true:=by decide +kernel
 have b:∀i,i<8->(tl (gl Zl i)≠[]/\∀c∈tl (gl Zl i),33<=c.toNat/\c.toNat<=126/\c≠35)/\(tl (gl Zl i)).length<=12:=by decide +kernel
 exact⟨this i a,b i a⟩
theorem Z7r:∀i,i<8->∀j,j<i->J3 (gl Zl j) (gl Zl i)=false:=by decide +kernel
def Ri(P:List UInt8):Int:=P.foldl (λm c=>K4 .i64 m (2 ^ QH.idxOf c)) 0
theorem um:∀m,m<32->Lib.trimPrefix (tl (Zt m)) [45]=G7 m 5/\(∀c∈G7 m 5,c∈QH/\c.toNat<128)/\Ri (G7 m 5)=(m:Int)/\(G7 m 5).length<=5/\((tl (Zt m)≠[]/\∀c∈tl (Zt m),33<=c.toNat/\c.toNat<=126/\c≠35)/\(tl (Zt m)).length<=5):=by decide +kernel
theorem Z7P(P:List UInt8):Lib.charsB (bs P)=P.map λc=>bs [c]:=by
 have h:=Lib.chars_data (bs P);have e:∀l:ε,l=(l.map (·.data.toList)).map bs:=λl=>by
  rw[i8];exact(List.map_id' l).symm.trans (by congr 1)
 rw[e (Lib.charsB (bs P)),h,i8];rfl
theorem DX(a:ByteArray):J3 a a=true:=by rw[QV];exact nZ _
theorem tV:∀x:List UInt8,Op.bytesLess x x=false
 |[]=>rfl
 |a::x=>by simp[Op.bytesLess,tV x]
theorem pX:∀x y z:List UInt8,Op.bytesLess x y=true->Op.bytesLess y z=true->Op.bytesLess x z=true
 |_,[],_,h,_=>by cases ‹List UInt8›<;>simp[Op.bytesLess]at h
 |_,_::_,[],_,h=>by simp[Op.bytesLess]at h
 |[],_::_,_::_,_,_=>rfl
 |a::x,b::y,c::z,h,k=>by
  simp only[Op.bytesLess,ip,dT,dc,eY,sy, <-oo]at h k⊢;rcases h with h|⟨h,h'⟩<;>rcases k with k|⟨k,d⟩
  .exact .inl (by omega)
  .exact .inl (by omega)
  .exact .inl (by omega)
  .exact .inr ⟨by omega,pX x y z h' d⟩
theorem tU:∀x y z:List UInt8,Op.bytesLess x y=false->Op.bytesLess y z=false->Op.bytesLess x z=false
 |x,_,[],_,_=>by cases x<;>rfl
 |_,[],_::_,_,h=>by simp[Op.bytesLess]at h
 |[],_::_,_,h,_=>by simp[Op.bytesLess]at h
 |a::x,b::y,c::z,h,k=>by
  simp only[Op.bytesLess,fP,iu,sM,l9,ne_eq,sy, <-oo]at h k⊢;refine⟨by omega,?_⟩
  rcases h.2 with h2|h2<;>rcases k.2 with k2|k2
  .exact .inl (by omega)
  .exact .inl (by omega)
  .exact .inl (by omega)
  .exact .inr (tU x y z h2 k2)
def XB(x y:aB):Int:=if YA x.n_ y.n_ then -1 else if J3 x.n_ y.n_ then 0 else 1
theorem Fa(x y:aB):ZH XB x y=YA x.n_ y.n_:=by
 unfold ZH XB
 cases YA x.n_ y.n_<;>cases J3 x.n_ y.n_<;>simp
theorem cK:SWO (ZH XB) where
 irrefl x:=by rw[Fa];exact tV _
 trans x y z h1 h2:=by rw[Fa]at *;exact pX _ _ _ h1 h2
 ntrans x y z h1 h2:=by rw[Fa]at *;exact tU _ _ _ h1 h2
theorem u6{α:Type}{lt:α->α->Bool}:∀{p l:List α},p.Perm l->p.Pairwise (λa b=>lt b a=false)->l.Pairwise (λa b=>lt a b=true)->p=l
 |[],l,h,_,_=>(h.nil_eq)
 |a::p,[],h,_,_=>absurd h.symm (by simp)
 |a::p,b::l,h,hp,hl=>by
  have e:a=b:=by
   apply nh;intro c
   have g:a∈l:=(dY.1 (h.subset dZ)).resolve_left c;have f:b∈p:=(dY.1 (h.symm.subset dZ)).resolve_left λe=>c e.symm
   have i:=(fu.1 hl).1 a g;have d:=(fu.1 hp).1 b f
   rw[i]at d;cases d
  subst e;rw[u6 ((List.perm_cons a).1 h) (fu.1 hp).2 (fu.1 hl).2]
theorem I2:∀i,i<8->∀j,j<i->YA (gl Zl j) (gl Zl i)=true:=by decide +kernel
theorem NB(x y:aB):LO F x y=some (XB x y):=by
 unfold LO gh LR XB;rw[DX,DX]
 cases h1:YA x.n_ y.n_<;>cases h2:J3 x.n_ y.n_<;>simp[br]
structure CK (c:aB):Prop where
 nm:QG c.n_=true
 ok:Qw c.n_/\(tl c.n_).length<=12
 fam:0<=c.f_/\c.f_<=2
 mrk:0<=c.m_/\c.m_<=31
theorem dQ.ck{l:Φ}(h:dQ l)(hi:i<l.length):CK (gl l i):=by
 obtain⟨c,e,j,g,d⟩:=h.one i hi;have f:i<8:=by have:=h.len.2;omega
 obtain⟨a,b⟩:=Z7q i f;exact⟨by rw[c];exact a,by rw[c];exact b,⟨e,j⟩,⟨g,d⟩⟩
theorem Z7u{c:aB}(h:CK c):fv [Yw c] 40 1:=by
 obtain⟨m,hm⟩:∃m,c.m_.toNat=m:=⟨_,rfl⟩;obtain⟨_,_,_,_,b,f⟩:=um m (by have:=h.mrk;omega)
 have d1:=JJ h.fam.1 (by have:=h.fam.2;omega);have d:=h.ok.2
 refine⟨λe a=>?_,?_,di _⟩
 .rw [dI.1 a]
  refine⟨by simp,λw a=>?_⟩;simp only[dY,fF,iW,hm]at a
  rcases a with rfl|rfl|rfl|rfl
  .exact (show tl Mi≠[]/\∀c∈tl Mi,33<=c.toNat/\c.toNat<=126/\c≠35 by decide)
  .exact h.ok.1
  .exact KO h.fam.1
  .exact b
 .have:wt (Yw c)=5+(((tl c.n_).length+1)+(((tl (QN c.f_)).length+1)+((tl (Zt m)).length+1))):=by rw[<-hm,Ve,Ve,Ve,Ve,RH,show(tl Mi).length=4 from rfl]
  simp only[eP,iV,iK,mP];omega
theorem Z3h(hF:Q6<=F){c:aB}(h:CK c):LM F (Yw c)=some (c,true):=by
 unfold Q6 at hF;obtain⟨m,hm⟩:∃m:Nat,c.m_=m:=⟨c.m_.toNat,by have:=h.mrk;omega⟩
 obtain⟨u,p,t,A,v,y⟩:=um m (by have:=h.mrk;omega);have f:gl (Yw c) (3:Int).toNat=Zt m:=by show Zt c.m_.toNat=_;rw[hm];rfl
 have k:LL F (Yw c) (c.f_,true) c.m_=some (c,true):=by
  unfold LL LK BA;refine Y8 rfl (Q3 (Q5 (by have:=h.mrk;omega) rfl) (Q5 (show(0:Int)<=3/\(3:Int)<((4:Nat):Int) by decide) ?_))
  rw[f,hm,dh,DX];rw[<-hm]
  rfl
 have o:Bz F (Yw c) false=some (c,true):=by
  unfold Bz;refine Z4 rfl (Q5 (by simp) (Q3 (Xb (n:=c.f_) h.fam.1 (by have:=h.fam.2;omega) h.fam.1 (by have:=h.fam.2;omega)) (Q5 (by simp) (Q5 (by simp) (Q3 (a:=bs (G7 m 5)) ?_ (Q3 (a:=(G7 m 5).map λc=>bs [c]) ?_ ?_))))))
  .rw [f]
   show some (bs (Lib.trimPrefix (tl (Zt m)) [45]))=_;rw[u]
  .unfold gj
   refine Q5 ⟨rfl,?_,λc g=>(p c g).2⟩ (by rw[Z7P]);rw[Yj,QR];omega
  .refine z5 (λz:Int×Int=>∃i:Nat,i<=(G7 m 5).length/\z=((i:Int),Ri ((G7 m 5).take i))) (λz=>(G7 m 5).length-z.1.toNat) (λd z s q=>?_) ⟨0,dW _,rfl⟩ (by simp;omega)
   obtain⟨i,x,rfl⟩:=s;show kR F (Yw c) (c.f_,true) _ d (i:Int) _=_
   unfold kR;refine Z9 (λg=>?_) (λg=>?_)
   .have b : i<(G7 m 5).length:=by have:=dO g;simp at this;omega
    have j:gl ((G7 m 5).map λc=>bs [c]) i=bs [(G7 m 5)[i]]:=by
     unfold gl;simp[aY,b]
    have l:BB F (bs [(G7 m 5)[i]])=some (2 ^ QH.idxOf (G7 m 5)[i]):=by
     show(if(G7 m 5)[i]∈QH then _ else _)=_;rw[av (p _ (fp b)).1]
    rw[dh,j];refine Q5 (by rw[fL];omega) (Q3 l (Q5 (U4 (by omega) (by omega)) (q _ ⟨i+1,b,?_⟩ (by simp only;omega))))
    have e:Ri ((G7 m 5).take (i+1))=K4 .i64 (Ri ((G7 m 5).take i)) (2 ^ QH.idxOf (G7 m 5)[i]):=by
     unfold Ri;rw[lj,eG b,List.foldl_append]
     rfl
    rw[e];simp
   .have:i=(G7 m 5).length:=by have:=ej g;simp at this;omega
    subst this;rw[fG,t, <-hm]
    exact k
 unfold LM;refine Z4 rfl (Q5 (by simp) (Z4 (by rw[show gl (Yw c) (0:Int).toNat=Mi from rfl,QV];rfl) (Q5 (by simp) (Q3 (a:=true) ?_ o))))
 show UD F c.n_=_;have w:c.n_.size<=12:=by rw[Yj];exact h.ok.2
 rw[De (by omega) (by omega),h.nm]
theorem CZ{l:Φ}(h:dQ l):fv (l.map Yw) 400 10:=by
 have d:=h.len;rw[oO]
 refine(fv.flat λc b=>?_).up (k:=l.length*40) (n:=l.length*1) (by omega) (by omega);obtain⟨i,a,rfl⟩:=eZ b
 have:=h.ck a
 rw[G8 a]at this;exact Z7u this
theorem Z7j(hF:Q6<=F){l:Φ}(h:dQ l):MR F l=some (bs (Yi (l.map Yw)),0):=by
 have k:=hF;unfold Q6 at k
 have m:=h.len;unfold MR
 refine Q3 (x8 hF h) (Z4 rfl ?_);refine z5 (λz:Int×List (ε)=>∃i:Nat,i<=l.length/\z=((i:Int),(l.take i).map Yw)) (λz=>l.length-z.1.toNat) (λc z j f=>?_) ⟨0,dW _,rfl⟩ (by simp;omega)
 obtain⟨i,n,rfl⟩:=j;show kW F l c (i:Int) _=_
 unfold kW;have g:((l.take i).map Yw).length<=i:=by rw[fL];exact nM _ _
 refine Z9 (λd=>?_) (λd=>?_)
 .have b : i<l.length:=by have:=dO d;omega
  have e:=h.ck b;rw[dh]
  refine Q5 (by omega) (Q3 (KP e.fam.1 (by have:=e.fam.2;omega)) (Q3 (a:=Zt (gl l i).m_.toNat) (Q5 (by have:=e.mrk;omega) rfl) (Q5 (by simp only[Y2,dz,eg];omega) (Q5 (U4 (by omega) (by omega)) (f _ ⟨i+1,b,?_⟩ (by simp only;omega))))));rw[lj,eG b,fe,G8 b]
  rfl
 .obtain rfl:i=l.length:=by have:=ej d;omega
  rw[fG];unfold kV
  exact Q3 (u9 ((CZ h).up (by omega) (by omega))) rfl
theorem Z6h(hF:Q6<=F){l:Φ}{x:ByteArray}(hl:l.length<=10)(h:∀i,i<l.length->J3 (gl l i).n_ x=false):LP F l x=some (-1):=by
 unfold Q6 at hF;unfold LP zK
 refine Q3 (Xp l.length (λb i d c=>?_) (λb=>?_) (by omega)) rfl
 .show DI F l _ b (i:Int)=_
  unfold DI;rw[dh]
  refine Y8 (aZ (by omega)) (Q5 (by omega) (Q3 (a:=false) ?_ (Z4 rfl (Q5 (U4 (by omega) (by omega)) c))));show some (J3 (gl l i).n_ x)=_
  rw[h i d]
 .show DI F l _ b (l.length:Int)=_
  unfold DI;exact Z4 (dg (by omega)) rfl
theorem Z7l(hF:Q6<=F){l:Φ}(h:dQ l):MT F (IS #[35,32,99,114,111,112,115,10]++bs (Yi (l.map Yw)))=some (l,0,0):=by
 have E:=hF;unfold Q6 at E
 have K:=h.len;have n:fX [([35,32,99,114,111,112,115],[])]:=⟨λx J=>by rw[dI.1 J];exact .inl ⟨⟨_,rfl⟩,rfl,by decide⟩,by decide,by decide,by decide⟩
 have A:=(CZ h).tx (by omega) (by omega) [([35,32,99,114,111,112,115],[])] [] n (by decide) (by decide);have e:IS #[35,32,99,114,111,112,115,10]++bs (Yi (l.map Yw))=bs (J5 ([([35,32,99,114,111,112,115],[])]++((l.map Yw).map λg=>(Qy g,g))++[])):=by
  show bs [35,32,99,114,111,112,115,10]++bs _=_;rw[XF,qS]
  congr 1
  simp[J5]
 have t:([(([35,32,99,114,111,112,115]:List UInt8),([]:ε))]++((l.map Yw).map λg=>(Qy g,g))++([]:List (List UInt8×ε))).map (λx=>x.2)=[]::l.map Yw:=by simp[Function.comp_def]
 have f:LN F l=some (l,0,0):=by
  unfold LN;refine Q3 (a:=l) ?_ rfl
  rw[bj XB (by unfold Y2;omega) cK NB];obtain⟨G,B⟩:=ri XB cK l
  refine congrArg some (u6 G B (ie.2 λj i d u s=>?_));have C:l[j]=gl l j:=by unfold gl;rw[aY,eG d];rfl
  have t:l[i]=gl l i:=by unfold gl;rw[aY,eG u];rfl
  rw[Fa,C,t,(h.one j d).1,(h.one i u).1];exact I2 i (by omega) j s
 unfold MT;rw[e]
 refine Q3 (qL A) (Z4 rfl ?_);rw[t]
 refine z5 (λz:Int×Φ=>∃i:Nat,i<=l.length+1/\z=((i:Int),l.take (i-1))) (λz=>l.length+1-z.1.toNat) (λb z D v=>?_) ⟨0,dW _,by simp⟩ (by simp;omega);obtain⟨i,u,rfl⟩:=D
 show kX F ([]::l.map Yw,0) b (i:Int) _=_;unfold kX
 have o:∀m,i<l.length+1->m=l.take i->MS F (i:Int) b m=some (l,0,0):=λm c w=>by
  unfold MS;exact Q5 (U4 (by omega) (by omega)) (v _ ⟨i+1,c,by rw[w];rfl⟩ (by simp only;omega))
 refine Z9 (λn=>?_) (λn=>?_)
 .have c : i<l.length+1:=by have:=dO n;simp at this;omega
  refine Q5 (by simp;omega) ?_;rw[dh]
  cases i with
  |zero=>exact Y8 rfl (o _ c rfl)
  |succ j=>
   have d:j<l.length:=by omega
   have p:gl ([]::l.map Yw) (j+1)=Yw (gl l j):=by
    unfold gl;simp[aY,d]
   obtain⟨H,_⟩:=h.one j d;rw[p]
   refine Z4 rfl (Q3 (Z3h hF (h.ck d)) (Z4 rfl (Q3 (Z6h hF (by rw[fE];omega) λq y=>?_) (Z4 (by decide) (Z4 ?_ (Q5 ?_ (o _ c ?_)))))))
   .have k:q<j:=by simp at y;omega
    have I:gl (l.take (j+1-1)) q=gl l q:=by
     unfold gl;simp[aY,lx,k]
    rw[I,(h.one q (by omega)).1,H];exact Z7r j (by omega) q k
   .have:(l.take (j+1-1)).length<=8:=by rw[fE];omega
    simp only[l9,ne_eq];omega
   .have:(l.take (j+1-1)).length<=8:=by rw[fE];omega
    simp only[Y2,dz,eg];omega
   .rw [lj,eG d,G8 d]
    rfl
 .have:i=l.length+1:=by have:=ej n;simp at this;omega
  subst this;rw[lS,fG]
  exact f
theorem Oj(hF:Q6<=F){l:Φ}(hl:l.length<=10):Co F l l=some true:=by
 unfold Q6 at hF;unfold Co
 refine Z4 (by simp) (Xp l.length (λa i c b=>?_) (λa=>?_) (by omega))
 .show HD F l l a (i:Int)=_
  unfold HD;rw[dh]
  exact Y8 (aZ (by omega)) (Q5 (by omega) (Q5 (by omega) (Z4 (by simp[DX]) (Q5 (U4 (by omega) (by omega)) b))))
 .show HD F l l a (l.length:Int)=_
  unfold HD;exact Z4 (dg (by omega)) rfl
abbrev Jq(b:aG):ε:=[Vq,QN b.dX,QN b.de]
abbrev VH(n:Nat):ε:=[UR,QN n]
def JF(x:Int):υ:=(List.range 16).filter λ(n:Nat)=>QJ x (n:Int)
def Zv(s:af):ε:=[VM,QN s.N_,s.n_,QN s.aL]++if s.aR then[Mh]else[]
def Ws(s:af):List ε:=[Zv s,Ur::y5 3 s.az]++s.ab.map Jq++(JF s.ah).map VH
structure SK (s:af):Prop where
 num:0<=s.N_/\s.N_<=15
 least:0<=s.aL/\s.aL<=268435456
 name:QG s.n_=true
 td:TD 3 s.az
 te:Yq 3 s.az=0
 b1:1<=s.ab.length/\s.ab.length<=6
 br:∀b∈s.ab,(0<=b.dX/\b.dX<=268435456)/\0<=b.de/\b.de<=268435456
 ex:0<=s.ah/\s.ah<65536
theorem SK.of(h:Zk 3 s=0)(hs:SD 3 s):SK s:=by
 unfold Zk at h;split at h
 .cases h
 split at h
 .cases h
 split at h
 .contradiction
 split at h
 .cases h
 rename_i o k l n
 have d:Vv s.ab=true:=by cases d:Vv s.ab with|true=>rfl|false=>exact absurd (.inl d) n
 unfold Vv at d;simp only[dc,dT,iE]at d
 obtain⟨j,m,e⟩:=d;have a:∀i,i<s.ab.length->Wk (Ym s.ab i) (gl s.ab i)=true:=λi c=>by
  cases hq:Wk (Ym s.ab i) (gl s.ab i)with
  |true=>rfl
  |false=>
   have:((List.range s.ab.length).any λi=> !Wk (Ym s.ab i) (gl s.ab i))=true:=fA.2 ⟨i,fq.2 c,by rw[hq];rfl⟩
   rw[this]at e;cases e
 have f:∀i,i<s.ab.length->0<=(gl s.ab i).dX/\(gl s.ab i).dX<=268435456/\0<=(gl s.ab i).de/\(gl s.ab i).de<=1048576:=λi=>by
  induction i with
  |zero=>intro c;have:=a 0 c;simp[Wk,Ym]at this;omega
  |succ i ih=>intro c;have p:=ih (by omega);have:=a (i+1) c;simp[Wk,Ym]at this;omega
 refine⟨by omega,by omega,by simpa using k,hs.cond,by simpa using l,⟨j,m⟩,λb g=>?_,by omega⟩;obtain⟨i,c,rfl⟩:=eZ g
 have:=f i c
 rw[G8 c]at this;exact⟨⟨this.1,this.2.1⟩,this.2.2.1,by omega⟩
theorem Z1b{s:ByteArray}(h:i<(tl s).length):K5 s (i:Int)=(((tl s)[i]).toNat:Nat):=by
 unfold K5;have a : i<s.size:=by rw[Yj];exact h
 rw[dh,getElem?_pos s i a];rfl
theorem rZ{s:ByteArray}(h:QG s=true):Qw s/\(tl s).length<=12:=by
 unfold QG at h;simp only[dc,dT]at h
 obtain⟨⟨a,b⟩,g⟩:=h;rw[Yj]at a b
 refine⟨⟨λe=>by rw[e]at a;exact absurd a (by decide),λc f=>?_⟩,b⟩;obtain⟨i,d,rfl⟩:=eZ f
 have:=g i (by rw[Yj];exact d)
 rw[Z1b d]at this;simp only[YL,Uv,ip,dc,dT]at this
 refine⟨by omega,by omega,λe=>?_⟩;rw[e]at this
 simp at this
theorem pD{s:ByteArray}(h:QG s=true):s.size<=12:=by have:=(rZ h).2;rw[Yj];exact this
theorem SK.z(h:SK s):QY 3 s.az=true/\Qc 3 s.az<=40:=by
 have a:=h.te;unfold Yq at a
 split at a
 .cases a
 .rename_i c
  split at a
  .rename_i b
   rw[Px 3 8 _ h.td]at b;simp at b
   exact⟨b.2,by omega⟩
  .cases a
theorem Mg{l:List UInt8}(h:l≠[]/\∀c∈l,33<=c.toNat/\c.toNat<=126/\c≠35):Qw (bs l):=h
theorem Ah(h:SK s):fv (Ws s) 2200 24:=by
 obtain⟨i,C⟩:=h.z;obtain⟨m,A⟩:=jP 3 h.td i
 obtain⟨l,u⟩:=rZ h.name;have B:=JJ h.num.1 (by have:=h.num.2;omega)
 have D:=JJ h.least.1 (by have:=h.least.2;omega);have j:fv [Zv s,Ur::y5 3 s.az] 1700 2:=by
  refine⟨λf a=>?_,?_,di _⟩
  .simp only[dY,fF,iW]at a
   rcases a with rfl|rfl
   .refine ⟨by unfold Zv;simp,λw a=>?_⟩
    unfold Zv at a;rcases dv.1 a with a|a
    .simp only[dY,fF,iW]at a
     rcases a with rfl|rfl|rfl|rfl
     .exact Mg (by decide)
     .exact KO h.num.1
     .exact l
     .exact KO h.least.1
    .split at a
     .rw [dI.1 a];exact Mg (by decide)
     .cases a
   .refine ⟨by simp,λw a=>?_⟩
    rcases dY.1 a with rfl|a
    .exact Mg (by decide)
    .exact m w a
  .have t:wt (Zv s)<=60:=by
    unfold Zv;rw[qI]
    have:wt (if s.aR=true then[Mh]else[])<=9:=by split<;>decide
    have:wt [VM,QN s.N_,s.n_,QN s.aL]=7+(((tl (QN s.N_)).length+1)+(((tl s.n_).length+1)+((tl (QN s.aL)).length+1))):=by simp[wt,VM,QR]
    omega
   have v:wt (Ur::y5 3 s.az)=3+wt (y5 3 s.az):=by simp[wt,Ur,QR]
   simp only[eP,iV,iK,mP];omega
 have g:fv (s.ab.map Jq) (s.ab.length*30) (s.ab.length*1):=by
  rw[oO];refine fv.flat λb o=>?_
  obtain⟨⟨e,y⟩,d,p⟩:=h.br b o;have d1:=JJ e (by omega)
  have x:=JJ d (by omega);refine⟨λf a=>?_,?_,di _⟩
  .rw [dI.1 a]
   refine⟨by simp,λw a=>?_⟩;simp only[dY,fF,iW]at a
   rcases a with rfl|rfl|rfl
   .exact Mg (by decide)
   .exact KO e
   .exact KO d
  .have:wt (Jq b)=5+(((tl (QN b.dX)).length+1)+((tl (QN b.de)).length+1)):=by simp[wt,Vq,QR]
   simp only[eP,iV,iK,mP];omega
 have c:fv ((JF s.ah).map VH) ((JF s.ah).length*16) ((JF s.ah).length*1):=by
  rw[oO];refine fv.flat λn c=>?_
  have k:n<16:=fq.1 (fD.1 c).1;have d1:=JJ (n:=(n:Int)) (by omega) (by omega)
  refine⟨λf a=>?_,?_,di _⟩
  .rw [dI.1 a]
   refine⟨by simp,λw a=>?_⟩;simp only[dY,fF,iW]at a
   rcases a with rfl|rfl
   .exact Mg (by decide)
   .exact KO (by omega)
  .have:wt (VH n)=4+((tl (QN (n:Int))).length+1):=by simp[wt,UR,QR]
   simp only[eP,iV,iK,mP];omega
 have q:(JF s.ah).length<=16:=dP (iQ _ _) (by simp);have:=h.b1
 exact((j.app g).app c).up (by omega) (by omega)
theorem Nc(hF:Q6+3<=F)(h:SK s):Te F s=some (Ws s):=by
 have u:Q6<=F:=by omega
 unfold Q6 at u;obtain⟨p,B⟩:=h.z
 have x:Sp F s.az=some (y5 3 s.az,0):=by
  unfold Sp;exact Q3 (St hF h.td) (Z4 (by rw[h.te];rfl) (Q3 (jQ 3 hF h.td p (by omega)) rfl))
 have m:=RM 3 h.td;have t:=h.b1
 have k2:∀b:List ε,b.length<=8->Td F s b=some (b++(JF s.ah).map VH):=λb w=>by
  unfold Td;refine z5 (λz:Int×List (ε)=>∃i:Nat,i<=16/\z=((i:Int),b++((List.range i).filter λ(n:Nat)=>QJ s.ah (n:Int)).map VH)) (λz=>16-z.1.toNat) (λc z g e=>?_) ⟨0,by omega,by simp⟩ (by simp;omega)
  obtain⟨i,v,rfl⟩:=g;show yc F s c (i:Int) _=_
  unfold yc;refine Z9 (λd=>?_) (λd=>?_)
  .have a : i<16:=by have:=dO d;omega
   have f:(((List.range i).filter λ(n:Nat)=>QJ s.ah (n:Int)).map VH).length<=i:=by
    rw[fL];exact dP (iQ _ _) (by simp)
   refine Q5 (by omega) ?_;show br (QJ s.ah (i:Int)) _ _=_
   refine Z9 (λk=>?_) (λk=>?_)
   .refine Q3 (KP (by omega) (by omega)) (Q5 (by simp only[Y2,dK,dz,eg];omega) ?_)
    unfold DT;refine Q5 (U4 (by omega) (by omega)) (e _ ⟨i+1,a,?_⟩ (by simp only;omega))
    rw[mw,ig,fe,fR];simp[k,VH,UR,bs]
   .unfold DT
    refine Q5 (U4 (by omega) (by omega)) (e _ ⟨i+1,a,?_⟩ (by simp only;omega));rw[mw,ig,fe]
    simp[k]
  .obtain rfl:i=16:=by have:=ej d;omega
   rfl
 have l:DU F s (Zv s)=some (Ws s):=by
  unfold DU;refine Q3 x (Q5 (by simp only[Y2];omega) ?_)
  refine z5 (λz:Int×List (ε)=>∃i:Nat,i<=s.ab.length/\z=((i:Int),[Zv s,Ur::y5 3 s.az]++(s.ab.take i).map Jq)) (λz=>s.ab.length-z.1.toNat) (λc z g e=>?_) ⟨0,dW _,by simp[Ur,bs]⟩ (by simp;omega);obtain⟨i,v,rfl⟩:=g
  show yd F s c (i:Int) _=_;unfold yd
  have f:((s.ab.take i).map Jq).length<=i:=by rw[fL];exact nM _ _
  refine Z9 (λd=>?_) (λd=>?_)
  .have a : i<s.ab.length:=by have:=dO d;omega
   obtain⟨⟨q,A⟩,o,y⟩:=h.br _ (fp a);rw[dh,G8 a]
   refine Q5 (by omega) (Q3 (KP q (by omega)) (Q3 (KP o (by omega)) (Q5 (by simp only[Y2,dK,dz,eg];omega) (Q5 (U4 (by omega) (by omega)) (e _ ⟨i+1,a,?_⟩ (by simp only;omega))))));rw[lj,eG a,fe,fR]
   rfl
  .obtain rfl:i=s.ab.length:=by have:=ej d;omega
   rw[fG];exact k2 _ (by simp only[dK,dz,eg,fL];omega)
 unfold Te;refine Q3 (KP h.num.1 (by have:=h.num.2;omega)) (Q3 (KP h.least.1 (by have:=h.least.2;omega)) (Z9 (λj=>?_) (λj=>?_)))
 .refine Q5 (by simp[Y2]) ?_
  have:Zv s=[IS #[115,99,104,101,109,101],QN s.N_,s.n_,QN s.aL]++[IS #[101,110,116,105,116,108,101,100]]:=by unfold Zv;rw[av j];rfl
  rw[<-this];exact l
 .have:Zv s=[IS #[115,99,104,101,109,101],QN s.N_,s.n_,QN s.aL]:=by unfold Zv;rw[an (by simp[j])];rfl
  rw[<-this];exact l
theorem pp(hF:Q6+3<=F){L:χ}(hg:eo 3 L)(hd:∀s∈L,SD 3 s)(h3:L.length<=3):(∀s∈L,SK s)/\fv (L.flatMap Ws) 6600 72/\Pr F L=some (bs (Yi (L.flatMap Ws)),0):=by
 have n:Q6<=F:=by omega
 unfold Q6 at n;have d:∀s∈L,SK s:=λs b=>by
  obtain⟨i,e,rfl⟩:=eZ b;have:=hg.one i e
  rw[G8 e]at this;exact SK.of this (hd _ b)
 have g:∀l:χ,(∀s∈l,SK s)->fv (l.flatMap Ws) (l.length*2200) (l.length*24):=λl h=>fv.flat λs b=>Ah (h s b)
 have j:=(g L d).up (k':=6600) (n':=72) (by omega) (by omega);refine⟨d,j,?_⟩
 unfold Pr;refine Q3 (yj (by omega) hF hd) (Z4 (by rw[LU hg];rfl) ?_)
 refine z5 (λz:Int×List (ε)=>∃i:Nat,i<=L.length/\z=((i:Int),(L.take i).flatMap Ws)) (λz=>L.length-z.1.toNat) (λc z m k=>?_) ⟨0,dW _,by simp⟩ (by simp;omega);obtain⟨i,e,rfl⟩:=m
 show yh F L c (i:Int) _=_;unfold yh
 refine Z9 (λf=>?_) (λf=>?_)
 .have a : i<L.length:=by have:=dO f;omega
  have b:L[i]∈L:=fp a;have p:=(g (L.take i) λs h=>d s (j9 h)).len
  have o:=(Ah (d _ b)).len;have q:(L.take i).length<=3:=dP (nM _ _) (by omega)
  rw[dh,G8 a];refine Q5 (by omega) (Q3 (Nc hF (d _ b)) (Q5 (by simp only[Y2];omega) (Q5 (U4 (by omega) (by omega)) (k _ ⟨i+1,a,?_⟩ (by simp only;omega)))))
  rw[lj,eG a,lC];simp
 .obtain rfl:i=L.length:=by have:=ej f;omega
  rw[fG];unfold yg
  exact Q3 (u9 (j.up (by omega) (by omega))) rfl
section
variable {l:χ}{k:Int}
theorem qQ(f:af->af):Zb (l++[s]) f=l++[f s]:=by
 have e:gl (l++[s]) ((l++[s]).length-1)=s:=by
  unfold gl;simp[aY]
 unfold Zb;rw[e,wn]
theorem Tp{z:Nat×χ×Int}{w:ε}(hw:w≠[])(h:Uh F z w=some z'):Yz F z (w::rest)=Yz F z' rest:=by
 show(if w=[]then _ else _)=_;rw[an hw,h];rfl
theorem xd{a b:List UInt8}(h:a≠b):bs a≠bs b:=λe=>h (by have:=congrArg tl e;simpa only[QR]using this)
theorem zF(x:χ)(w:ε):Uh F (3,x,k) w=if gl w 0=Vq then Jp F x k w else WV F x k w:=rfl
theorem sx:∀ {B done:List aG} {p:Nat},(p=2\/p=3)->(∀ b ∈ B,(0<=b.dX/\b.dX<=268435456)/\0<=b.de/\b.de<=268435456)->(B=[]->p=3) ->
  Yz F (p,l++[{s with ab:=done}],k) (B.map Jq++rest)=Yz F (3,l++[{s with ab:=done++B}],k) rest
 |[],done,p,_,_,h=>by rw[h rfl,fW];rfl
 |b::B,done,p,hp,hb,_=>by
  obtain⟨⟨d,f⟩,c,e⟩:=hb b dZ;have a:Jp F (l++[{s with ab:=done}]) k (Jq b)=some (3,l++[{s with ab:=done++[b]}],k):=by
   unfold Jp;refine Q5 ⟨rfl,rfl⟩ (Q3 (Xb d (by omega) d f) (Q5 rfl (Q3 (Xb c (by omega) c e) (Q5 rfl ?_))))
   rw[qQ]
  have g:Uh F (p,l++[{s with ab:=done}],k) (Jq b)=some (3,l++[{s with ab:=done++[b]}],k):=by
   rcases hp with rfl|rfl
   .exact a
   .rw [zF,av (show gl (Jq b) 0=Vq from rfl)];exact a
  rw[eP,iC,Tp (by simp) g,sx (.inr rfl) (λb h=>hb b (eB _ h)) λ_=>rfl,fR];rfl
theorem ua:∀ {N:υ} {p:Nat} {e k:Int},(p=3\/p=4)->N.Pairwise (· < ·)->(∀ n ∈ N,k<(n:Int)/\n<=15) -> -1<=k->k<=15->0<=e->e<65536 ->
  ∃p' k' e',(p'=3\/p'=4)/\(0<=e' /\ e' < 65536)/\(∀n:Nat,n<=15->QJ e' n=(QJ e n||decide (n∈N)))/\Yz F (p,l++[{s with ah:=e}],k) (N.map VH++rest)=Yz F (p',l++[{s with ah:=e'}],k') rest
 |[],p,e,k,hp,_,_,_,_,e0,e1=>⟨p,k,e,hp,⟨e0,e1⟩,λn _=>by simp,rfl⟩
 |n::N,p,e,k,hp,hN,hb,k0,k1,e0,e1=>by
  obtain⟨y,z⟩:=hb n dZ;obtain⟨o,j,g⟩:=OD e0 e1 (k:=(n:Int)) (by omega) (by omega)
  obtain⟨q,hq⟩:∃q,K4 .i64 e ((1:Int)*2 ^ (min (n:Int).toNat (IntKind.bits .i64)))=q:=⟨_,rfl⟩;rw[hq]at o j g
  have i:WV F (l++[{s with ah:=e}]) k (VH n)=some (4,l++[{s with ah:=q}],(n:Int)):=by
   unfold WV;rw[av (show gl (VH n) 0=UR from rfl)]
   refine Q5 ⟨rfl,k0,k1⟩ (Q3 (Xb (by omega) (by omega) (by omega) (by omega)) (Q5 rfl ?_));rw[qQ,hq]
  have v:Uh F (p,l++[{s with ah:=e}],k) (VH n)=some (4,l++[{s with ah:=q}],(n:Int)):=by
   rcases hp with rfl|rfl
   .rw [zF,an (show gl (VH n) 0≠Vq from xd (a:=[110,111,116]) (b:=[114,97,116,101]) (by decide))];exact i
   .exact i
  obtain⟨f,d⟩:=fu.1 hN;obtain⟨p',k',e',u,t,x,w⟩:=ua (N:=N) (p:=4) (e:=q) (k:=(n:Int)) (.inr rfl) d (λm c=>⟨by have:=f m c;omega,(hb m (eB _ c)).2⟩) (by omega) (by omega) o j
  refine⟨p',k',e',u,t,λm c=>?_,?_⟩
  .rw [x m c,g m c,Bool.or_assoc]
   congr 1
   rw[eV];simp only[ip,dT,dY]
   exact⟨λh=>h.imp (λh=>by omega) id,λh=>h.imp (λh=>by omega) id⟩
  .rw [eP,iC,Tp (by simp) v,w]
theorem H6{x:Int}(x0:0<=x)(x1:x<65536)(y0:0<=y)(y1:y<65536)(h:∀n:Nat,n<=15->QJ x n=QJ y n):x=y:=by
 obtain⟨m,rfl⟩:=mZ x0;obtain⟨j,rfl⟩:=mZ y0
 have a:m<65536:=by omega
 have b:j<65536:=by omega
 have:m=j:=by
  apply Nat.eq_of_testBit_eq;intro n
  by_cases hn:n<=15
  .have:=h n hn
   rwa [Rd a (by omega),Rd b (by omega)]at this
  .have c:=oX (n:=2) (by omega) (by omega:16<=n)
   rw[pj (by omega),pj (by omega)]
 rw[this]
theorem Z1d(hF:Q6+3<=F)(h:SK s){p:Nat}(hp:p=0\/p=3\/p=4):∃p' k',(p'=3\/p'=4)/\Yz F (p,l,k) (Ws s++rest)=Yz F (p',l++[s],k') rest:=by
 have z:=hF;unfold Q6 at z
 obtain⟨s0,hs0⟩:∃s0:af,s0=⟨s.N_,s.n_,⟨0,0,0,[]⟩,[],s.aL,0,s.aR⟩:=⟨_,rfl⟩;have d:Pt F l (Zv s)=some (1,l++[s0], -1):=by
  have w:gl (Zv s) 1=QN s.N_:=rfl;have q:gl (Zv s) 2=s.n_:=rfl
  have u:gl (Zv s) 3=QN s.aL:=rfl;have g:gl (Zv s) 0=VM/\((Zv s).length=4\/(Zv s).length=5/\gl (Zv s) 4=Mh):=by
   refine⟨rfl,?_⟩;unfold Zv
   cases s.aR with
   |true=>exact .inr ⟨rfl,rfl⟩
   |false=>exact .inl rfl
  have c:((Zv s).length==5)=s.aR:=by unfold Zv;cases s.aR<;>rfl
  unfold Pt;rw[w,q,u]
  refine Q5 g (Q3 (De (by have:=pD h.name;omega) (by have:=pD h.name;omega)) (Q5 h.name (Q3 (Xb h.num.1 (by have:=h.num.2;omega) h.num.1 h.num.2) (Q5 rfl (Q3 (Xb h.least.1 (by have:=h.least.2;omega) h.least.1 h.least.2) (Q5 rfl ?_))))));rw[c,hs0]
 have f:Uh F (p,l,k) (Zv s)=some (1,l++[s0], -1):=by
  have A:gl (Zv s) 0≠Vq:=xd (a:=[115,99,104,101,109,101]) (b:=[114,97,116,101]) (by decide);have n2:gl (Zv s) 0≠UR:=xd (a:=[115,99,104,101,109,101]) (b:=[110,111,116]) (by decide)
  rcases hp with rfl|rfl|rfl
  .exact d
  .rw [zF,an A]
   unfold WV;rw[an n2];exact d
  .show WV F l k (Zv s)=_
   unfold WV;rw[an n2];exact d
 obtain⟨s1,hs1⟩:∃s1:af,s1={s0 with az:=s.az}:=⟨_,rfl⟩;have g:Uh F (1,l++[s0], -1) (Ur::y5 3 s.az)=some (2,l++[s1], -1):=by
  refine Q5 rfl (Q3 (NP hF h.td h.te) (Q5 ⟨rfl,rfl⟩ ?_));rw[qQ,hs1]
 have v:s1={s1 with ab:=[]}:=by rw[hs1,hs0]
 have o:JF s.ah=JF s.ah:=rfl;have y:({s1 with ab:=s.ab}:af)={{s1 with ab:=s.ab}with ah:=0}:=by rw[hs1,hs0]
 obtain⟨p',k',j,t,i,C,x⟩:=ua (F:=F) (l:=l) (s:= {s1 with ab:=s.ab}) (rest:=rest) (N:=JF s.ah) (p:=3) (e:=0) (k:= -1) (.inl rfl) (m3 _ List.pairwise_lt_range) (λn c=>by
  have:=fq.1 (fD.1 c).1
  omega) (by omega) (by omega) (by omega) (by omega)
 have D:j=s.ah:=H6 i.1 i.2 h.ex.1 h.ex.2 λn c=>by
  rw[C n c,show QJ 0 (n:Int)=false from by rw[show(0:Int)=((0:Nat):Int)from rfl,Rd (by omega) (by omega)];simp,iP]
  cases hb:QJ s.ah (n:Int)with
  |true=>exact aZ (fD.2 ⟨fq.2 (by omega),hb⟩)
  |false=>exact dg λm=>by rw[(fD.1 m).2]at hb;cases hb
 have B:({{s1 with ab:=s.ab}with ah:=j}:af)=s:=by rw[D,hs1,hs0]
 refine⟨p',k',t,?_⟩;unfold Ws
 rw[fR,fR,iC,iC,iL,Tp (by unfold Zv;simp) f,Tp (by simp) g]
 conv=>lhs;rw[v]
 rw[sx (.inl rfl) h.br (λe=>by have:=h.b1.1;rw[e]at this;exact absurd this (by decide)),iL,y,x,B]
end
theorem wY{F:Nat}(hF:Q6+3<=F){rest:List ε}:∀{L l:χ} {p:Nat} {k:Int},(∀s∈L,SK s)->(p=0\/p=3\/p=4)->∃p' k',Yz F (p,l,k) (L.flatMap Ws++rest)=Yz F (p',l++L,k') rest
 |[],l,p,k,_,_=>⟨p,k,by simp⟩
 |s::L,l,p,k,hs,hp=>by
  obtain⟨b,k1,e,c⟩:=Z1d (l:=l) (k:=k) (rest:=L.flatMap Ws++rest) hF (hs s dZ) hp;obtain⟨a,k2,d⟩:=wY hF (rest:=rest) (L:=L) (l:=l++[s]) (p:=b) (k:=k1) (λx h=>hs x (eB _ h)) (by omega)
  refine⟨a,k2,?_⟩;rw[ir,fR,c,d,fR]
  rfl
theorem Nk(hF:Q6+3<=F){L:χ}(hg:eo 3 L)(hd:∀s∈L,SD 3 s)(h3:L.length<=3):∃u,Pr F L=some (u,0)/\u.size<=7000/\Tj F (u++IS #[35,32,101,110,100,10])=some (L,0,0):=by
 obtain⟨i,d,v⟩:=pp hF hg hd h3;have j:(Yi (L.flatMap Ws)).length<=6600:=by rw[Di λb j=>(d.ok b j).1];exact d.wt
 refine⟨_,v,by rw[Yj,QR];omega,?_⟩;obtain⟨g,f,n⟩:=wY (F:=F) (rest:=[[]]) hF (L:=L) (l:=[]) (p:=0) (k:=0) i (.inl rfl)
 have t:fX [([35,32,101,110,100],[])]:=⟨λx w=>by rw[dI.1 w];exact .inl ⟨⟨_,rfl⟩,rfl,by decide⟩,by decide,by decide,by decide⟩;have o:=d.tx (by omega) (by omega) [] [([35,32,101,110,100],[])] t (by decide) (by decide)
 have e:bs (Yi (L.flatMap Ws))++IS #[35,32,101,110,100,10]=bs (J5 ([]++((L.flatMap Ws).map λb=>(Qy b,b))++[([35,32,101,110,100],[])])):=by
  show bs _++bs [35,32,101,110,100,10]=_;rw[XF,qS]
  congr 1
  simp[J5]
 unfold Tj;rw[e]
 refine Q3 (qL o) (Q3 (a:=(g,L,f)) ?_ (Q5 ?_ (Q3 (yj (by omega) hF hd) (Q5 (by rw[LU hg]) rfl))))
 .have q:(([]:List (List UInt8×ε))++((L.flatMap Ws).map fun b=>(Qy b,b))++[(([35,32,101,110,100]:List UInt8),([]:ε))]).map (fun x=>x.2)=L.flatMap Ws++[[]]:=by
   simp[Function.comp_def]
  show Yz F (0,[],0) _=_;rw[q,n,iL]
  show(if([]:ε)=[]then Yz F (g,L,f) []else(Uh F (g,L,f) []).bind λz=>Yz F z [])=_;rw[av rfl]
  rfl
 .rcases ly (L=[])with h|h
  .exact .inl h
  .refine .inr λe=>?_
   have m:gl L (L.length-1)∈L:=by
    have c:L.length-1<L.length:=by have:=fS.2 h;omega
    rw[G8 c];exact fp c
   have:=(i _ m).b1.1
   simp only at e;rw[e]at this
   exact absurd this (by decide)
structure lO (l:ν):Prop where
 hl:HL l
 few:∀y p i,i<l.length->(ZE (l.take i) y p).length<=300
abbrev Sq:=Int->Int->Bool
variable {G S T h:Sq}
structure TR (A:ζ):Prop where
 val:K7 A
 sub:∀{S:Sq},Fin S->(∀x y,S x y=true->Q8 A x y=true)->K7 (cn S)
theorem uX(hv:K7 A){d:Int}(h0:0<=d/\d<=100)(hb:Rq d (Q8 A)):TR A:=⟨hv,λa b=>(Au a h0 λx y h=>hb x y (b x y h)).1⟩
theorem K7.pos{l:ζ}(h:K7 l):∀r∈l,r.L_<r.R_:=λ_ a=>(h.2.2.pos a).1
theorem BH(h:K7 A):cn (Q8 A)=A:=(XE A).1 h.2.2
theorem Lh:Fin λ_ _=>false:=by
 have:=Zo []
 exact this
theorem KQ:cn (λ_ _=>false)=[]:=(XE []).1 tE
theorem Vs(hF:Q6<=F)(la:a.length<=8000)(lb:b.length<=8000)(pa:∀ r ∈ a,r.L_<r.R_)(pb:∀ r ∈ b,r.L_<r.R_)(ea:Q8 a=S)(eb:Q8 b=T){k:Bool->Bool->Bool}(hk:k false false=false){q:Bool->Bool->π}(hq:∀ u v,q u v=some (k u v)):
  Yb F a b q=some (cn λx y=>k (S x y) (T x y)):=by
 subst ea eb;exact Hj hF (by omega) pa pb hk hq
theorem ku(ea:Q8 a=S)(eb:Q8 b=T)(how:Int):Fin λx y=>Qp (S x y) (T x y) how:=by
 subst ea eb;exact UU a b how
theorem Yu(h:Fin S):Q8 (cn S)=S:=by
 funext x y;exact YE h x y
theorem JE(hS:Fin S)(hT:Fin T):Fin λx y=>S x y&&T x y:=ku (Yu hS) (Yu hT) 2
theorem kt(hS:Fin S)(hT:Fin T):Fin λx y=>S x y||T x y:=ku (Yu hS) (Yu hT) 1
theorem Bt(hS:Fin S)(hT:Fin T):Fin λx y=>S x y && !T x y:=ku (Yu hS) (Yu hT) 3
theorem Sl(F:Nat)(u v:Bool):Gj F u v=some (u&&v):=by
 unfold Gj Sn;cases u<;>rfl
theorem cu(F:Nat)(u v:Bool):DD F u v=some (u||v):=by
 unfold DD Sg;cases u<;>rfl
theorem zc(F:Nat)(u v:Bool):Pb F u v=some (u && !v):=by
 unfold Pb RO;cases u<;>rfl
structure TS where
 Y:Sq
 N:Sq
variable {sel:aO->TS->Sq}
def TS.O(A:ζ)(s:TS):Sq:=λx y=>(Q8 A x y && !s.Y x y) && !s.N x y
structure eQ (A:ζ) (s:TS):Prop where
 fY:Fin s.Y
 fN:Fin s.N
 sY:∀x y,s.Y x y=true->Q8 A x y=true
 sN:∀x y,s.N x y=true->Q8 A x y=true
theorem eQ.fO{s:TS}(h:eQ A s):Fin (s.O A):=Bt (Bt (Zo A) h.fY) h.fN
theorem eQ.vY(ht:TR A){s:TS}(h:eQ A s):K7 (cn s.Y):=ht.sub h.fY h.sY
theorem eQ.vN(ht:TR A){s:TS}(h:eQ A s):K7 (cn s.N):=ht.sub h.fN h.sN
theorem eQ.vO(ht:TR A){s:TS}(h:eQ A s):K7 (cn (s.O A)):=ht.sub h.fO λx y a=>by
 unfold TS.O at a
 cases hA:Q8 A x y with
 |true=>rfl
 |false=>rw[hA]at a;cases a
def TS.sqs(A:ζ)(s:TS):aJ:=⟨cn s.Y,cn s.N,cn (s.O A)⟩
theorem K7.le8{l:ζ}(h:K7 l):l.length<=8000:=by have:=h.1;omega
theorem zj(hF:Q6<=F){p:aU}(hp:p.t_=A)(ht:TR A){s:TS}(h:eQ A s):Ph F p (cn s.Y) (cn s.N)=some (s.sqs A):=by
 unfold Ph;subst hp
 have a:K7 (cn λx y=>Q8 p.t_ x y && !s.Y x y):=ht.sub (Bt (Zo _) h.fY) λx y b=>by
  cases hA:Q8 p.t_ x y with
  |true=>rfl
  |false=>rw[hA]at b;cases b
 refine Q3 (Vs hF ht.val.le8 (h.vY ht).le8 ht.val.pos (h.vY ht).pos rfl (Yu h.fY) (k:=λu v=>u && !v) rfl (zc F)) (Q3 (Vs hF a.le8 (h.vN ht).le8 a.pos (h.vN ht).pos (Yu (Bt (Zo _) h.fY)) (Yu h.fN) (k:=λu v=>u && !v) rfl (zc F)) rfl)
section
structure EV (y:Int) (cs:Φ) (hs:ν) (zs:ω) (c:Int) (A:ζ):Prop where
 tr:TR A
 crop:0<=c/\c<(cs.length:Nat)
 fam:0<=(gl cs c.toNat).f_
 mrk:0<=(gl cs c.toNat).m_/\(gl cs c.toNat).m_<=31
 few:lO hs
 hb:∀f∈hs,QZ (15:Nat) f.g_.t_
 hc:∀f∈hs,0<=f.c_/\f.c_<(cs.length:Nat)
 yr:0<=y/\y<=100
 zs:LB 15 zs
theorem Q7I{l:ν}(hb:∀f∈l,QZ (15:Nat) f.g_.t_)(y:Int)(p:Int->Bool):QZ (15:Nat) (ZE l y p):=λr a=>by
 unfold ZE at a;obtain⟨f,b,h⟩:=eE.1 a
 exact hb f (fD.1 b).1 r h
theorem Q7J(a b:ν)(y:Int)(p:Int->Bool):ZE (a++b) y p=ZE a y p++ZE b y p:=by simp[ZE]
theorem Z6k{l:ν}(h:lO l)(y:Int)(p:Int->Bool):(ZE l y p).length<=420:=by
 by_cases h0:l.length=0
 .rw [iH h0];simp[ZE]
 .have d:=h.few y p (l.length-1) (by omega)
  have e:l=l.take (l.length-1)++[gl l (l.length-1)]:=by
   have:=Za (l:=l) (i:=l.length-1) (by omega)
   rw[<-this,show l.length-1+1=l.length by omega,fG]
  have c:(ZE [gl l (l.length-1)] y p).length<=120:=by
   have a:=((GT _).1 (h.hl.one _ (y3 (l:=l) (i:=l.length-1) (by omega)))).2.2.2.2.2;have:=a.1
   unfold ZE;rw[iX]
   split
   .simpa using this
   .simp
  have b:=congrArg (λm=>(ZE m y p).length) e;simp only[Q7J,dK]at b
  omega
def Us(A:ζ)(hs:ν)(y:Int)(p:Int->Bool):Sq:=λu v=>Q8 A u v&&Q8 (ZE hs y p) u v
theorem JD(A:ζ)(hs:ν)(y:Int)(p:Int->Bool):Fin (Us A hs y p):=JE (Zo A) (Zo _)
theorem Be{p:Int->Bool}{u v:Int}(h:Us A hs y p u v=true):Q8 A u v=true:=by
 unfold Us at h;rw[dc]at h
 exact h.1
variable {zs:ω}{c d:Int}
theorem DC(hF:Q6<=F)(h:EV y cs hs zs c A){p:aU}(e1:p.au.aI=hs)(e2:p.au.al=y)(e3:p.t_=A)(n0:0<=n)(n1:n<=1000){q:Int->π}(s:Int->Bool)(hq:∀f∈hs,q f.c_=some (s f.c_)):Ka F p n q=some (cn (Us A hs (y-n) s)):=by
 subst e1 e2 e3;have e:=h.yr
 unfold Ka;have b:=Q7I h.hb (p.au.al-n) s
 have:=Z6k h.few (p.au.al-n) s
 exact Q5 (U4 (by omega) (by omega)) (Q3 (Z5D hF h.few.hl _ s hq) (Q3 (Vs hF h.tr.val.le8 (by omega) h.tr.val.pos (λr a=>(b r a).2.1) rfl rfl (k:=λu v=>u&&v) rfl (Sl F)) rfl))
end
section
def kB(cs:Φ)(f:Int)(k:Int):Bool:=(gl cs k.toNat).f_==f
def xc(cs:Φ)(f:Int)(k:Int):Bool:=(gl cs k.toNat).f_ != f
def Uf(A:ζ)(hs:ν)(cs:Φ)(y f:Int):Nat->TS
 |0=>⟨Q8 A,λ_ _=>false⟩
 |k+1=>⟨λu v=>(Uf A hs cs y f k).Y u v&&Us A hs (y-((k+1:Nat):Int)) (kB cs f) u v,λu v=>(Uf A hs cs y f k).N u v||Us A hs (y-((k+1:Nat):Int)) (xc cs f) u v⟩
theorem SA(A:ζ)(hs:ν)(cs:Φ)(y f:Int):∀k,eQ A (Uf A hs cs y f k)
 |0=>⟨Zo A,Lh,λ_ _ h=>h,λ_ _ h=>by cases h⟩
 |k+1=>by
  have a:=SA A hs cs y f k;refine⟨JE a.fY (JD _ _ _ _),kt a.fN (JD _ _ _ _),λu v h=>?_,λu v h=>?_⟩
  .unfold Uf at h
   simp only[dc]at h;exact a.sY u v h.1
  .unfold Uf at h
   simp only[ip]at h;rcases h with h|h
   .exact a.sN u v h
   .exact Be h
variable {zs:ω}{c d:Int}
theorem EV.kn_val(h:EV y cs hs zs c A)(k:Int)(p:Int->Bool):K7 (cn (Us A hs k p)):=h.tr.sub (JD _ _ _ _) λ_ _ h=>Be h
theorem Q8f(hF:Q6<=F)(h:EV y cs hs zs c A){p:aU}(e1:p.au.aI=hs)(e2:p.au.al=y)(e3:p.t_=A)(e4:p.au.aF=cs)(e5:p.aV.c_=c){n:Nat}(n0:1<=n)(n1:n<=100):
  RW F p (n:Int)=some ((Uf A hs cs y (gl cs c.toNat).f_ (n-1)).sqs A):=by
 have b:=hF;unfold Q6 at b
 have j:=h.crop;unfold RW
 have e:∀(m f k:Nat),k+m=n-1->m<f->Y4 (λagain (z:ζ×ζ×Int)=>Pg F p (n:Int) again z.1 z.2.1 z.2.2) f (cn (Uf A hs cs y (gl cs c.toNat).f_ k).Y,cn (Uf A hs cs y (gl cs c.toNat).f_ k).N,((k:Nat):Int)+1)=some ((Uf A hs cs y (gl cs c.toNat).f_ (n-1)).sqs A):=by
  intro m
  induction m with
  |zero=>
   intro f k t C;obtain⟨f,rfl⟩:∃g,f=g+1:=⟨f-1,by omega⟩
   show Pg F p (n:Int) (Y4 _ f) _ _ (((k:Nat):Int)+1)=_;unfold Pg
   refine Z4 (dg (by omega)) ?_;unfold zo
   rw[show n-1=k by omega];exact Q3 (zj hF e3 h.tr (SA _ _ _ _ _ k)) rfl
  |succ m ih=>
   intro f k t C;obtain⟨f,rfl⟩:∃g,f=g+1:=⟨f-1,by omega⟩
   show Pg F p (n:Int) (Y4 _ f) _ _ (((k:Nat):Int)+1)=_;unfold Pg
   have a:=SA A hs cs y (gl cs c.toNat).f_ k;have w:∀g∈hs,RV F g.c_ p (gl p.au.aF p.aV.c_.toNat).f_=some (kB cs (gl cs c.toNat).f_ g.c_):=λg i=>by
    unfold RV;rw[e4,e5]
    exact Q5 (h.hc g i) rfl
   have x:∀g∈hs,RU F g.c_ p (gl p.au.aF p.aV.c_.toNat).f_=some (xc cs (gl cs c.toNat).f_ g.c_):=λg i=>by
    unfold RU;rw[e4,e5]
    exact Q5 (h.hc g i) rfl
   have o:=h.kn_val (y-(((k:Nat):Int)+1)) (kB cs (gl cs c.toNat).f_);have q:=h.kn_val (y-(((k:Nat):Int)+1)) (xc cs (gl cs c.toNat).f_)
   have B:=ih f (k+1) (by omega) (by omega);refine Y8 (aZ (by omega)) (Q3 (DC hF h e1 e2 e3 (by omega) (by omega) _ w) (Q3 (DC hF h e1 e2 e3 (by omega) (by omega) _ x) (Q3 (Vs hF (a.vY h.tr).le8 o.le8 (a.vY h.tr).pos o.pos (Yu a.fY) (Yu (JD _ _ _ _)) (k:=λu v=>u&&v) rfl (Sl F)) (Q3 (Vs hF (a.vN h.tr).le8 q.le8 (a.vN h.tr).pos q.pos (Yu a.fN) (Yu (JD _ _ _ _)) (k:=λu v=>u||v) rfl (cu F)) (Q5 (U4 (by omega) (by omega)) ?_)))))
   exact B
 refine Q5 (by rw[e4,e5];exact j) ?_;have:=e (n-1) F 0 (by omega) (by omega)
 show Y4 _ F (p.t_,[],(1:Int))=_;rw[e3]
 rw[show(Uf A hs cs y (gl cs c.toNat).f_ 0)=⟨Q8 A,λ_ _=>false⟩from rfl]at this;simp only[BH h.tr.val,KQ]at this
 exact this
def Uz(A:ζ)(b:Bool):TS:=if b then⟨Q8 A,λ_ _=>false⟩else⟨λ_ _=>false,Q8 A⟩
theorem BO(A:ζ)(b:Bool):eQ A (Uz A b):=by
 cases b
 .exact ⟨Lh,Zo A,λ_ _ h=>(by cases h),λ_ _ h=>h⟩
 .exact ⟨Zo A,Lh,λ_ _ h=>h,λ_ _ h=>by cases h⟩
theorem sn(A:ζ)(b:Bool):(Uz A b).O A=λ_ _=>false:=by
 funext u v
 cases b<;>simp[Uz,TS.O]
theorem RP{p:aU}(e3:p.t_=A)(hv:K7 A)(b:Bool):Gh F p b=some ((Uz A b).sqs A):=by
 unfold Gh TS.sqs;rw[sn,KQ,e3]
 cases b
 .refine Z4 rfl ?_
  show some _=some (aJ.mk (cn λ_ _=>false) (cn (Q8 A)) []);rw[KQ,BH hv]
 .refine Y8 rfl ?_
  show some _=some (aJ.mk (cn (Q8 A)) (cn λ_ _=>false) []);rw[KQ,BH hv]
def UX(A:ζ)(S:Sq):TS:=⟨λu v=>Q8 A u v&&S u v,λu v=>Q8 A u v && !S u v⟩
theorem Ai(h:Fin S):eQ A (UX A S):=by
 refine⟨JE (Zo A) h,Bt (Zo A) h,λu v a=>?_,λu v a=>?_⟩
 .simp only[UX,dc]at a
  exact a.1
 .simp only[UX,dc]at a
  exact a.1
theorem Z7d(A:ζ)(S:Sq):(UX A S).O A=λ_ _=>false:=by
 funext u v
 simp only[UX,TS.O]
 cases Q8 A u v<;>cases S u v<;>rfl
theorem cv(hF:Q6<=F){p:aU}(e3:p.t_=A)(ht:TR A)(h:Fin S):Dw F p (cn λu v=>Q8 A u v&&S u v)=some ((UX A S).sqs A):=by
 unfold Dw TS.sqs;have a:=JE (Zo A) h
 have e:=ht.sub a λu v b=>by
  simp only[dc]at b;exact b.1
 rw[Z7d,KQ,e3];refine Q3 (Vs hF ht.val.le8 e.le8 ht.val.pos e.pos rfl (Yu a) (k:=λu v=>u && !v) rfl (zc F)) ?_
 rw[show(λu v=>Q8 A u v && !(Q8 A u v&&S u v))=(UX A S).N from ?_]
 .rfl
 .funext u v
  simp only[UX]
  cases Q8 A u v<;>cases S u v<;>rfl
end
section
def BM(y:Int)(cs:Φ)(hs:ν)(zs:ω)(d c:Int)(A:ζ)(t:aj):TS:=
 if t.aw=2 then Uz A (c==t.ao)
 else if t.aw=3 then Uz A ((gl cs c.toNat).f_==t.ao)
 else if t.aw=4 then Uz A (Uu cs c t.ao)
 else if t.aw=5 then UX A (Q8 (Zy zs d λk=>k==t.ao))
 else if t.aw=6 then Uf A hs cs y (gl cs c.toNat).f_ (t.ao.toNat-1)
 else if t.aw=7 then⟨Us A hs (y-t.ao) λk=>Uu cs k t.ak,Us A hs (y-t.ao) λk=> !Uu cs k t.ak⟩
 else if t.aw=8 then UX A (Q8 (ZE hs (y-t.ao) λ_=>true))
 else Uz A true
def QI(y:Int)(cs:Φ)(hs:ν)(zs:ω)(d c:Int)(A:ζ):Nat->aj->TS
 |0,_=>Uz A true
 |e+1,t=>
  if t.aw=9 then⟨λu v=>Q8 A u v&&t.ae.all λk=>(QI y cs hs zs d c A e k).Y u v,λu v=>t.ae.any λk=>(QI y cs hs zs d c A e k).N u v⟩
  else if t.aw=10 then⟨λu v=>t.ae.any λk=>(QI y cs hs zs d c A e k).Y u v,λu v=>Q8 A u v&&t.ae.all λk=>(QI y cs hs zs d c A e k).N u v⟩
  else if t.aw=11 then⟨(QI y cs hs zs d c A e (gl t.ae 0)).N,(QI y cs hs zs d c A e (gl t.ae 0)).Y⟩
  else BM y cs hs zs d c A t
variable {zs:ω}{c d:Int}
theorem eQ.turn{s:TS}(h:eQ A s):eQ A ⟨s.N,s.Y⟩:=⟨h.fN,h.fY,h.sN,h.sY⟩
theorem T9(t:aj):eQ A (BM y cs hs zs d c A t):=by
 unfold BM
 repeat' split
 .exact BO _ _
 .exact BO _ _
 .exact BO _ _
 .exact Ai (Zo _)
 .exact SA _ _ _ _ _ _
 .exact ⟨JD _ _ _ _,JD _ _ _ _,λ_ _ h=>Be h,λ_ _ h=>Be h⟩
 .exact Ai (Zo _)
 .exact BO _ _
theorem rY{B:Sq}(hB:Fin B){α:Type}(f:α->Sq):∀(l:List α),(∀k∈l,Fin (f k))->Fin λu v=>B u v&&l.all λk=>f k u v
 |[],_=>by simpa using hB
 |k::l,h=>by
  have a:=JE (rY hB f l λj b=>h j (eB _ b)) (h k dZ);have e:(λu v=>(B u v&&l.all λk=>f k u v)&&f k u v)=λu v=>B u v&&(k::l).all λk=>f k u v:=by
   funext u v
   rw[m7]
   cases B u v<;>cases f k u v<;>simp
  rw[<-e];exact a
theorem tO{α:Type}(f:α->Sq):∀(l:List α),(∀k∈l,Fin (f k))->Fin λu v=>l.any λk=>f k u v
 |[],_=>by simpa using Lh
 |k::l,h=>by
  have a:=kt (h k dZ) (tO f l λj b=>h j (eB _ b));simpa using a
theorem gJ{α:Type}(f:α->TS)(l:List α)(h:∀k∈l,eQ A (f k)):eQ A ⟨λu v=>Q8 A u v&&l.all λk=>(f k).Y u v,λu v=>l.any λk=>(f k).N u v⟩:=by
 refine⟨rY (Zo A) (λk=>(f k).Y) l λk a=>(h k a).fY,tO (λk=>(f k).N) l λk a=>(h k a).fN,λu v b=>?_,λu v b=>?_⟩
 .simp only[dc]at b
  exact b.1
 .obtain ⟨k,a,e⟩:=fA.1 b
  exact(h k a).sN u v e
theorem Xq:∀(e:Nat) (t:aj),eQ A (QI y cs hs zs d c A e t)
 |0,_=>BO _ _
 |e+1,t=>by
  unfold QI;split
  .exact gJ _ _ λk _=>Xq e k
  split
  .exact (gJ (λk=>⟨(QI y cs hs zs d c A e k).N,(QI y cs hs zs d c A e k).Y⟩) t.ae λk _=>(Xq e k).turn).turn
  split
  .exact (Xq e _).turn
  .exact T9 t
structure PL (p:aU) (y:Int) (cs:Φ) (hs:ν) (zs:ω) (d c:Int) (A:ζ):Prop where
 yr:p.au.al=y
 cs:p.au.aF=cs
 hs:p.au.aI=hs
 zs:p.au.aS=zs
 dd:p.au.dt=d
 cr:p.aV.c_=c
 re:p.t_=A
theorem Z3g{n:Nat}{L:ω}(h:∀f∈L,QZ n f.g_.t_)(d:Int)(p:Int->Bool):QZ n (Zy L d p):=λr a=>by
 unfold Zy at a;obtain⟨f,b,e⟩:=eE.1 a
 exact h f (fD.1 b).1 r e
theorem It(hn:QW t=true)(q:t.aw=6):2<=t.ao/\t.ao<=10:=by
 unfold QW at hn;simp[q]at hn
 omega
theorem Z3Y(hn:QW t=true)(q:t.aw=7):(1<=t.ao/\t.ao<=10)/\ZP t.ak=true:=by
 unfold QW at hn;simp[q]at hn
 exact⟨by omega,hn.2.1⟩
theorem Z3X(hn:QW t=true)(q:t.aw=8):1<=t.ao/\t.ao<=10:=by
 unfold QW at hn;simp[q]at hn
 omega
theorem sC{n:Nat}{L:ω}(h:LB n L)(hf:f∈L):K7 f.g_.t_:=((vW f).1 (h.vl.one f hf)).2.2.2.2.2.2.2.2
theorem LB.few'{n:Nat}{L:ω}(h:LB n L)(d:Int)(p:Int->Bool):(Zy L d p).length<=7200:=by
 have i:=h.vl.len;have:∀(M:ω),(∀f∈M,f.g_.t_.length<=120)->(Zy M d p).length<=120*M.length:=by
  intro M
  induction M with
  |nil=>intro _;simp[Zy]
  |cons f M ih=>
   intro a;rw[vC]
   have m:=a f dZ;have j:=ih λg b=>a g (eB _ b)
   rw[dK,dz];split
   .omega
   .simp;omega
 have:=this L λf e=>(sC h e).1
 omega
theorem Q8z(hF:Q6<=F)(h:EV y cs hs zs c A){p:aU}(hp:PL p y cs hs zs d c A)(hn:QW t=true):Sb F p t=some ((BM y cs hs zs d c A t).sqs A):=by
 have b:=h.tr.val;have o:=h.crop
 unfold Sb BM;refine Z9 (λq=>?_) λH=>Z9 (λq=>?_) λB=>Z9 (λq=>?_) λJ=>Z9 (λq=>?_) λE=>Z9 (λq=>?_) λK=>Z9 (λq=>?_) λI=>Z9 (λq=>?_) λD=>?_
 .have q:=eq_of_beq q
  rw[av q,hp.cr];exact Q3 (RP hp.re b _) rfl
 .have q:=eq_of_beq q
  rw[an (by omega),av q,hp.cr,hp.cs];exact Q5 o (Q3 (RP hp.re b _) rfl)
 .have q:=eq_of_beq q
  rw[an (by omega),an (by omega),av q,hp.cr,hp.cs];exact Q3 (kZ F cs c t.ao) (Q3 (RP hp.re b _) rfl)
 .have q:=eq_of_beq q
  rw[an (by omega),an (by omega),an (by omega),av q,hp.zs,hp.dd];have G:=Z3g h.zs.box d λk=>k==t.ao
  refine Q3 (pL hF (by have:=h.zs.vl.len;omega) (λf N=>(sC h.zs N).1) d (λk=>k==t.ao) λf _=>rfl) ?_;refine Q3 (Vs hF (a:=p.t_) (by rw[hp.re];exact b.le8) (by have:=h.zs.few' d λk=>k==t.ao;omega) (by rw[hp.re];exact b.pos) (λr C=>(G r C).2.1) (S:=Q8 A) (by rw[hp.re]) rfl (k:=λu v=>u&&v) rfl (Sl F)) ?_
  exact Q3 (cv hF hp.re h.tr (Zo _)) rfl
 .have q:=eq_of_beq q
  rw[an (by omega),an (by omega),an (by omega),an (by omega),av q];have w:=It hn q
  have:=Q8f hF h hp.hs hp.yr hp.re hp.cs hp.cr (n:=t.ao.toNat) (by omega) (by omega)
  rw[Int.toNat_of_nonneg (by omega)]at this;exact Q3 this rfl
 .have q:=eq_of_beq q
  rw[an (by omega),an (by omega),an (by omega),an (by omega),an (by omega),av q];have w:=(Z3Y hn q).1
  have i:∀f∈hs,DB F f.c_ p t=some (Uu cs f.c_ t.ak):=λf _=>by
   unfold DB;rw[hp.cs]
   exact Q3 (kZ F cs _ _) rfl
  have M:∀f∈hs,DA F f.c_ p t=some (!Uu cs f.c_ t.ak):=λf _=>by
   unfold DA;rw[hp.cs]
   exact Q3 (kZ F cs _ _) rfl
  have x:eQ A ⟨Us A hs (y-t.ao) λk=>Uu cs k t.ak,Us A hs (y-t.ao) λk=> !Uu cs k t.ak⟩:=⟨JD _ _ _ _,JD _ _ _ _,λ_ _ h=>Be h,λ_ _ h=>Be h⟩;have j:=DC hF h hp.hs hp.yr hp.re (n:=t.ao) (q:=λg=>DB F g p t) (by omega) (by omega) (λk=>Uu cs k t.ak) i
  have m:=DC hF h hp.hs hp.yr hp.re (n:=t.ao) (q:=λg=>DA F g p t) (by omega) (by omega) (λk=> !Uu cs k t.ak) M;have L:=zj hF hp.re h.tr x
  exact Q3 j (Q3 m (Q3 L rfl))
 .have q:=eq_of_beq q
  rw[an (by omega),an (by omega),an (by omega),an (by omega),an (by omega),an (by omega),av q];have w:=Z3X hn q
  have i:∀f∈hs,FY F f.c_=some true:=λ_ _=>rfl
  have j:=DC hF h hp.hs hp.yr hp.re (n:=t.ao) (q:=λg=>FY F g) (by omega) (by omega) (λ_=>true) i;have m:=cv hF hp.re h.tr (S:=Q8 (ZE hs (y-t.ao) λ_=>true)) (Zo _)
  exact Q3 j (Q3 m rfl)
 .have z:∀{k:Int},(t.aw==k)=false->¬t.aw=k:=λh e=>by rw[e]at h;simp at h
  rw[an (z H),an (z B),an (z J),an (z E),an (z K),an (z I),an (z D)];exact Q3 (RP hp.re b _) rfl
def WC(A:ζ)(l:List TS):TS:=⟨λu v=>Q8 A u v&&l.all λk=>k.Y u v,λu v=>l.any λk=>k.N u v⟩
theorem AJ{l:List TS}(h:∀s∈l,eQ A s):eQ A (WC A l):=gJ (λk=>k) l h
theorem Z7B(l:List TS)(s:TS):WC A (l++[s])=⟨λu v=>(WC A l).Y u v&&s.Y u v,λu v=>(WC A l).N u v||s.N u v⟩:=by
 unfold WC;congr 1
 .funext u v;simp[List.all_append,mD]
 .funext u v;simp[ny]
theorem Q8A(hF:Q6<=F){p:aU}(e3:p.t_=A)(ht:TR A){l:List TS}(hl:∀s∈l,eQ A s)(hlen:l.length<=1000000):Pj F p (l.map (TS.sqs A))=some ((WC A l).sqs A):=by
 have e:=hF;unfold Q6 at e
 unfold Pj;have h:∀(m f k:Nat),k+m=l.length->m<f->Y4 (λagain (z:ζ×ζ×Int)=>Pi F p (l.map (TS.sqs A)) again z.1 z.2.1 z.2.2) f (cn (WC A (l.take k)).Y,cn (WC A (l.take k)).N,((k:Nat):Int))=some ((WC A l).sqs A):=by
  intro m
  induction m with
  |zero=>
   intro f k o t;obtain⟨f,rfl⟩:∃g,f=g+1:=⟨f-1,by omega⟩
   show Pi F p (l.map (TS.sqs A)) (Y4 _ f) _ _ ((k:Nat):Int)=_;unfold Pi
   refine Z4 (dg (by rw[fL];omega)) ?_;unfold zu
   rw[show k=l.length by omega,fG];exact Q3 (zj hF e3 ht (AJ hl)) rfl
  |succ m ih=>
   intro f k o t;obtain⟨f,rfl⟩:∃g,f=g+1:=⟨f-1,by omega⟩
   show Pi F p (l.map (TS.sqs A)) (Y4 _ f) _ _ ((k:Nat):Int)=_;unfold Pi
   have a:k<l.length:=by omega
   have b:eQ A (WC A (l.take k)):=AJ λs hs=>hl s (j9 hs)
   have hs:=hl _ (fp a);have q:gl (l.map (TS.sqs A)) ((k:Nat):Int).toNat=(l[k]).sqs A:=by
    rw[dh,G8 (by simpa using a),List.getElem_map]
   have i:=ih f (k+1) (by omega) (by omega);have n:l.take (k+1)=l.take k++[l[k]]:=by rw[List.take_append_getElem a]
   rw[n,Z7B]at i;rw[q]
   refine Y8 (aZ (by rw[fL];omega)) (Q5 (by rw[fL];omega) (Q3 (Vs hF (b.vY ht).le8 (hs.vY ht).le8 (b.vY ht).pos (hs.vY ht).pos (Yu b.fY) (Yu hs.fY) (k:=λu v=>u&&v) rfl (Sl F)) (Q3 (Vs hF (b.vN ht).le8 (hs.vN ht).le8 (b.vN ht).pos (hs.vN ht).pos (Yu b.fN) (Yu hs.fN) (k:=λu v=>u||v) rfl (cu F)) (Q5 (U4 (by omega) (by omega)) ?_))));exact i
 have:=h l.length F 0 (by omega) (by omega)
 have j:WC A (l.take 0)=⟨Q8 A,λ_ _=>false⟩:=by unfold WC;simp
 rw[j]at this;simp only[BH ht.val,KQ]at this
 rw[e3];exact this
end
section
def TS.turn(s:TS):TS:=⟨s.N,s.Y⟩
theorem Q7R(A:ζ)(s:TS):s.turn.O A=s.O A:=by
 funext u v
 simp only[TS.turn,TS.O]
 cases Q8 A u v<;>cases s.Y u v<;>cases s.N u v<;>rfl
theorem jK(F:Nat)(A:ζ)(s:TS):Dn F (s.sqs A)=some (s.turn.sqs A):=by
 unfold Dn TS.sqs;rw[Q7R]
 rfl
def Wq(op:Int)(s:TS):TS:=if op=9 then s else s.turn
theorem OC{s:TS}(h:eQ A s)(op:Int):eQ A (Wq op s):=by
 unfold Wq;split
 .exact h
 .exact h.turn
variable {zs:ω}{c d:Int}
theorem cq{p:aU}(h:EV y cs hs zs c A)(hp:PL p y cs hs zs d c A):∀(e:Nat) {F:Nat} (_:Q6+e<=F) {t:aj} (_:TD e t) (_:QY e t=true),Ud F p t=some ((QI y cs hs zs d c A e t).sqs A)
 |0,_,_,_,ht,_=>ht.elim
 |e+1,0,hF,_,_,_=>by unfold Q6 at hF;omega
 |e+1,F+1,hF,t,ht,u=>by
  have E : Q6+e<=F:=by omega
  have I:Q6<=F:=by omega
  have C:=I;unfold Q6 at C
  obtain⟨M,_,v,N⟩:=ht;have x:QW t=true/\∀k∈t.ae,QY e k=true:=by
   unfold QY at u;rw[dc,en]at u
   exact u
  have b:=x.1;show RX F (Ud F) p t=_
  unfold RX;have B:∀s∈t.ae.map (λk=>Wq t.aw (QI y cs hs zs d c A e k)),eQ A s:=λs hs=>by
   obtain⟨k,_,rfl⟩:=eF.1 hs;exact OC (Xq e k) _
  have H:∀(m f i:Nat),i+m=t.ae.length->m<f->Y4 (λagain (z:Int×(List aJ))=>Gi F (Ud F) p t again z.1 z.2) f (((i:Nat):Int),(t.ae.take i).map λk=>(Wq t.aw (QI y cs hs zs d c A e k)).sqs A)=some ((QI y cs hs zs d c A (e+1) t).sqs A):=by
   intro m
   induction m with
   |zero=>
    intro f i L u;obtain⟨f,rfl⟩:∃g,f=g+1:=⟨f-1,by omega⟩
    show Gi F (Ud F) p t (Y4 _ f) ((i:Nat):Int) _=_;unfold Gi
    refine Z4 (dg (by omega)) ?_;rw[show i=t.ae.length by omega,fG]
    unfold zr;have a:=Q8A I hp.re h.tr B (by rw[fL];exact v)
    rw[i8]at a;have a:Pj F p (t.ae.map λk=>(Wq t.aw (QI y cs hs zs d c A e k)).sqs A)=_:=a
    have z:∀{k:Int},(t.aw==k)=false->¬t.aw=k:=λh e=>by rw[e]at h;simp at h
    refine Z9 (λq=>?_) λw=>Z9 (λq=>?_) λn=>Z9 (λq=>?_) λG=>?_
    .have q:=eq_of_beq q
     refine Q3 a ?_;have:WC A (t.ae.map λk=>Wq t.aw (QI y cs hs zs d c A e k))=QI y cs hs zs d c A (e+1) t:=by
      conv=>rhs;unfold QI
      unfold WC Wq;rw[av q]
      simp only[oE,mU,av q];rfl
     rw[this]
    .have q:=eq_of_beq q
     refine Q3 a (Q3 (jK F A _) ?_);have:(WC A (t.ae.map λk=>Wq t.aw (QI y cs hs zs d c A e k))).turn=QI y cs hs zs d c A (e+1) t:=by
      conv=>rhs;unfold QI
      unfold WC Wq TS.turn;rw[an (z w),av q]
      simp only[oE,mU,an (z w)];rfl
     rw[this]
    .have q:=eq_of_beq q
     have P:t.ae.length=1:=by
      unfold QW at b;simp[q]at b
      omega
     refine Q5 (by rw[fL];omega) ?_;rw[G8 (by rw[fL];show 0<_;omega),List.getElem_map]
     have:Wq t.aw (QI y cs hs zs d c A e (gl t.ae 0))=QI y cs hs zs d c A (e+1) t:=by
      conv=>rhs;unfold QI
      unfold Wq TS.turn;rw[an (z w),an (z w),an (z n),av q]
     rw[<-this,G8 (by omega)];rfl
    .have:BM y cs hs zs d c A t=QI y cs hs zs d c A (e+1) t:=by
      unfold QI;rw[an (z w),an (z n),an (z G)]
     rw[<-this];exact Q3 (Q8z I h hp b) rfl
   |succ m ih=>
    intro f i L u;obtain⟨f,rfl⟩:∃g,f=g+1:=⟨f-1,by omega⟩
    show Gi F (Ud F) p t (Y4 _ f) ((i:Nat):Int) _=_;have j:i<t.ae.length:=by omega
    have o:=N _ (y3 j);have J:=cq h hp e E o (x.2 _ (y3 j))
    have D:=ih f (i+1) (by omega) (by omega);rw[Za j,fe,List.map_singleton]at D
    generalize Y4 (λagain (z:Int×(List aJ))=>Gi F (Ud F) p t again z.1 z.2) f=ag at D⊢;unfold Gi
    have K:((i:Nat):Int).toNat=i:=dh i;have O:((t.ae.take i).map λk=>(Wq t.aw (QI y cs hs zs d c A e k)).sqs A).length<=1000000:=by
     rw[fL,fE];omega
    refine Y8 (aZ (by omega)) (Q5 (by omega) (Q5 (by rw[K];exact o.op) (Q3 (by rw[K];exact J) ?_)));have k1:∀s:TS,s=Wq t.aw (QI y cs hs zs d c A e (gl t.ae i))->Dv F (Ud F) ((i:Nat):Int) ((t.ae.take i).map λk=>(Wq t.aw (QI y cs hs zs d c A e k)).sqs A) ag (s.sqs A).fM (s.sqs A).iZ (s.sqs A).fd=some ((QI y cs hs zs d c A (e+1) t).sqs A):=λs hs=>by
     subst hs;unfold Dv
     exact Q5 (by unfold Y2;simp only[mc];omega) (Q5 (U4 (by omega) (by omega)) D)
    refine Z9 (λq=>?_) λq=>?_
    .have q:¬t.aw=9:=λe=>by rw[e]at q;simp at q
     refine Q3 (jK F A _) (k1 _ ?_);unfold Wq;rw[an q]
    .have q:t.aw=9:=by simpa using q
     refine k1 _ ?_;unfold Wq;rw[av q]
  have:=H t.ae.length F 0 (by omega) (by omega)
  simpa using this
end
section
variable {zs:ω}{c d:Int}
end
section
variable {zs:ω}{c d:Int}
end
def Vy(cs:Φ)(c:Int):Bool:=decide (c<0)||decide (((cs.length:Nat):Int)<=c)
def Vc(e:Nat)(t:aj)(cs:Φ)(c:Int)(hs:ν)(y:Int)(zs:ω)(d:Int)(A:ζ):Int:=
 if Yq e t≠0 then Yq e t else if crC cs≠0 then crC cs else if(Vy cs c||hs.any λr=>Vy cs r.c_)=true then 13
 else if ZI hs≠0 then ZI hs else if y<0\/100<y then 18 else if ZJ zs≠0 then ZJ zs else if d<0\/36864<d then 9 else if Qx A=true then 0 else 7
theorem pf(F:Nat)(k:Int)(p:aU):Dz F k p=some (Vy p.au.aF k):=by
 unfold Dz RZ Vy;refine Z9 (λh=>?_) (λh=>?_)
 .rw [h];rfl
 .rw [h];rfl
theorem L4(hF:Q6<=F){l:ν}(hl:l.length<=1000000)(p:aU):SN F l p=some (l.any λr=>Vy p.au.aF r.c_):=by
 have b:=hF;unfold Q6 at b
 have:∃i:Int,SF F l p=some i/\(decide (0<=i))=l.any λr=>Vy p.au.aF r.c_:=by
  unfold SF;have h:∀(m f i:Nat),i+m=l.length->m<f->∃v:Int,Y4 (λagain (z:Int)=>Gp F l p again z) f ((i:Nat):Int)=some v/\(decide (0<=v))=(l.drop i).any λr=>Vy p.au.aF r.c_:=by
   intro m
   induction m with
   |zero=>
    intro f i u w;obtain⟨f,rfl⟩:∃g,f=g+1:=⟨f-1,by omega⟩
    show ∃v:Int,Gp F l p (Y4 _ f) ((i:Nat):Int)=some v/\_;unfold Gp
    refine⟨-1,Z4 (dg (by omega)) rfl,?_⟩;rw[nP (by omega)];rfl
   |succ m ih=>
    intro f i u w;obtain⟨f,rfl⟩:∃g,f=g+1:=⟨f-1,by omega⟩
    have a:i<l.length:=by omega
    obtain⟨v,j,q⟩:=ih f (i+1) (by omega) (by omega);show ∃v:Int,Gp F l p (Y4 _ f) ((i:Nat):Int)=some v/\_
    generalize Y4 (λagain (z:Int)=>Gp F l p again z) f=ag at j⊢;unfold Gp
    have n:RY F (gl l ((i:Nat):Int).toNat) p=some (Vy p.au.aF (gl l i).c_):=by
     unfold RY;rw[dh]
     exact Q3 (pf F _ p) rfl
    have e:l.drop i=gl l i::l.drop (i+1):=by rw[lL a,G8 a]
    rw[e,lh]
    cases hw:Vy p.au.aF (gl l i).c_ with
    |true=>
     refine⟨(i:Int),Y8 (aZ (by omega)) (Q5 (by omega) (Q3 (n.trans (by rw[hw])) (Y8 rfl rfl))),?_⟩;simp
    |false=>
     refine⟨v,Y8 (aZ (by omega)) (Q5 (by omega) (Q3 (n.trans (by rw[hw])) (Z4 rfl (Q5 (U4 (by omega) (by omega)) j)))),?_⟩;rw[q];rfl
  have:=h l.length F 0 (by omega) (by omega)
  simpa using this
 obtain⟨i,t,o⟩:=this;unfold SN
 refine Q3 t ?_;rw[<-o]
theorem Q8y(hF:Q6+e<=F){p:aU}(ht:TD e t)(hl:p.au.aI.length<=1000000)(hc:BT p.au.aF):Sa F p t=some (Vc e t p.au.aF p.aV.c_ p.au.aI p.au.al p.au.aS p.au.dt p.aV.g_.t_):=by
 have a:Q6<=F:=by omega
 unfold Sa Vc;refine Q3 (St hF ht) (Z9 (λq=>?_) λq=>?_)
 .rw [av (by simpa using q)]
 rw[an (by simpa using q)];refine Q3 (tj a hc) (Z9 (λq=>?_) λq=>?_)
 .rw [av (by simpa using q)]
 rw[an (by simpa using q)];have k1:∀b:Bool,Dx F p b=some (if b=true then 18 else if ZJ p.au.aS≠0 then ZJ p.au.aS else if p.au.dt<0\/36864<p.au.dt then 9 else if Qx p.aV.g_.t_=true then 0 else 7):=λb=>by
  unfold Dx;cases b
  .simp only[iS,fC]
   refine Z4 rfl (Q3 (D8 a _ _) ?_)
   by_cases h1:ZJ p.au.aS≠0
   .rw [av h1,av h1]
    exact Y8 (by simpa using h1) rfl
   rw[an h1,an h1]
   by_cases h2:p.au.dt<0\/36864<p.au.dt
   .rw [av h2,av h2]
    exact Y8 rfl rfl
   rw[an h2,an h2];refine Z4 rfl (Q3 (Uk a _) ?_)
   cases Qx p.aV.g_.t_<;>rfl
  .exact Y8 rfl rfl
 have f:∀b:Bool,Dy F p b=some (if b=true then 13 else if ZI p.au.aI≠0 then ZI p.au.aI else if p.au.al<0\/100<p.au.al then 18 else if ZJ p.au.aS≠0 then ZJ p.au.aS else if p.au.dt<0\/36864<p.au.dt then 9 else if Qx p.aV.g_.t_=true then 0 else 7):=λb=>by
  unfold Dy;cases b
  .simp only[iS,fC]
   refine Z4 rfl (Q3 (N6 a _) ?_);refine Z9 (λq=>?_) λq=>?_
   .rw [av (by simpa using q)]
   rw[an (by simpa using q)];refine Z9 (λq=>?_) λq=>?_
   .rw [k1,av rfl,av (.inl (dO q))]
   .rw [k1]
    by_cases h1:100<p.au.al
    .rw [av (aZ h1),av (.inr h1)]
    .have h:¬decide (100<p.au.al)=true:=by simpa using h1
     have g:¬(p.au.al<0\/100<p.au.al):=by have:=ej q;omega
     rw[an h,an g]
  .exact Y8 rfl rfl
 refine Q3 (pf F _ p) (Z9 (λq=>?_) λq=>?_)
 .rw [f,q];rfl
 .refine Q3 (L4 a hl p) ?_
  rw[f,q];rfl
section
def PZ:dM:=⟨⟨[]⟩,⟨[]⟩,⟨[]⟩⟩
def TS.t3(A:ζ)(s:TS):dM:=⟨⟨cn s.Y⟩,⟨cn s.N⟩,⟨cn (s.O A)⟩⟩
def UW(e:Nat)(t:aj)(l:aO)(y:Int)(cs:Φ)(hs:ν)(zs:ω)(d:Int):dM×Int:=
 if Vc e t cs l.c_ hs y zs d l.g_.t_≠0 then(PZ,Vc e t cs l.c_ hs y zs d l.g_.t_)else((QI y cs hs zs d l.c_ l.g_.t_ e t).t3 l.g_.t_,0)
theorem Z7N{c:Int}{zs:ω}{d:Int}(ht:TD e t)(h:Vc e t cs c hs y zs d A=0):QY e t=true:=by
 have a:Yq e t=0:=nh λb=>by
  unfold Vc at h;rw[av b]at h
  exact b h
 unfold Yq at a
 by_cases hz:40<Qc e t
 .rw [av hz]at a;cases a
 .rw [an hz]at a
  by_cases hr:Wt e 8 t=true
  .rw [Px e 8 t ht,dc]at hr
   exact hr.2
  .rw [an hr]at a;cases a
variable {zs:ω}{d:Int}
theorem Q8F(hF:Q6+e<=F)(ht:TD e t){l:aO}(hl:hs.length<=1000000)(hc:BT cs)(hev:Vc e t cs l.c_ hs y zs d l.g_.t_=0->EV y cs hs zs l.c_ l.g_.t_):Sr F t l y cs hs zs d=some (UW e t l y cs hs zs d):=by
 have n:Q6<=F:=by omega
 unfold Sr UW;refine Q3 (Q8y (p:=⟨⟨y,cs,hs,zs,d⟩,l,l.g_.t_⟩) hF ht hl hc) (Z9 (λq=>?_) λq=>?_)
 .rw [av (by simpa using q)];rfl
 have q:Vc e t cs l.c_ hs y zs d l.g_.t_=0:=by simpa using q
 rw[an (by rw[q];simp)];have h:=hev q
 have b:=Xq (y:=y) (cs:=cs) (hs:=hs) (zs:=zs) (d:=d) (c:=l.c_) (A:=l.g_.t_) e t;refine Q3 (cq (p:=⟨⟨y,cs,hs,zs,d⟩,l,l.g_.t_⟩) h ⟨rfl,rfl,rfl,rfl,rfl,rfl,rfl⟩ e hF ht (Z7N ht q)) ?_
 have g:=(b.vY h.tr).1;have i:=(b.vN h.tr).1
 have f:=(b.vO h.tr).1;generalize QI y cs hs zs d l.c_ l.g_.t_ e t=s at g i f⊢
 have a:∀m:ζ,m.length<=120->Pl F m=some ⟨m⟩:=λm j=>by
  unfold Pl;refine Q3 (wN (by unfold Y2;omega)) rfl
 refine Z4 (dg ?_) (Q3 (a _ g) (Q3 (a _ i) (Q3 (a _ f) rfl)));show ¬(120:Int)<y9 (y9 ((cn s.Y).length:Int) ((cn s.N).length:Int)) ((cn (s.O l.g_.t_)).length:Int)
 unfold y9;split<;>split<;>omega
end
theorem wu(F:Nat)(u v:Bool):MM F u v=some (u&&v):=by
 unfold MM LA;cases u<;>rfl
theorem Z6R(F:Nat)(u v:Bool):Lw F u v=some (u && !v):=by
 unfold Lw Lu;cases u<;>rfl
theorem xI(hF:Q6<=F){l:ζ}(h:K7 l):Js F l=some (⟨l⟩,0):=by
 have a:=h.1;refine(yO hF (by omega) h.pos).trans ?_
 rw[BH h,an (by omega)]
theorem pM(hF:Q6<=F){c:ζ}(ha:K7 a)(hb:K7 b)(hc:K7 c):MK F ⟨a,b,c⟩=some (⟨⟨a⟩,⟨b⟩,⟨c⟩⟩,0):=by
 unfold MK;exact Q3 (xI hF ha) (Z4 rfl (Q5 (U4 (by omega) (by omega)) (Q3 (xI hF hb) (Z4 rfl (Q5 (U4 (by omega) (by omega)) (Q3 (xI hF hc) (Z4 rfl (Q5 (U4 (by omega) (by omega)) rfl))))))))
def UQ(A:ζ)(s:TS)(G:Sq):TS:=⟨λu v=>s.Y u v&&G u v,λu v=>Q8 A u v && !((s.Y u v&&G u v)||(s.O A u v&&G u v))⟩
theorem S8{s:TS}(h:eQ A s)(G:Sq):(UQ A s G).O A=λu v=>s.O A u v&&G u v:=by
 funext u v
 simp only[UQ,TS.O];have:=h.sY u v
 have:=h.sN u v
 cases hA:Q8 A u v<;>cases hY:s.Y u v<;>cases hN:s.N u v<;>cases G u v<;>simp_all
theorem uE{s:TS}(h:eQ A s)(hG:Fin G):eQ A (UQ A s G):=by
 refine⟨JE h.fY hG,Bt (Zo A) (kt (JE h.fY hG) (JE h.fO hG)),λu v a=>?_,λu v a=>?_⟩
 .simp only[UQ,dc]at a
  exact h.sY u v a.1
 .simp only[UQ,dc]at a
  exact a.1
theorem Z1T(F:Nat)(u v:Bool):TJ F u v=some (u && !v):=by
 unfold TJ TH;cases u<;>rfl
theorem H3(hF:Q6<=F)(a b:aE):TL F a b=some (XW a b):=by
 unfold TL XW Hc;refine Q3 (Uk hF a) (Z9 (λh=>?_) λh=>?_)
 .rw [h,eN]
  refine Q3 (Uk hF b) (Z9 (λe=>?_) λe=>?_)
  .rw [e,eN]
   have f:=(WH _).1 h;have vb:=(WH _).1 e
   refine Q3 (Vs hF f.le8 vb.le8 f.pos vb.pos rfl rfl (k:=λu v=>u && !v) rfl (Z1T F)) ?_;congr 1
   show _=decide (cn (λx y=>Q8 a.t_ x y && !Q8 b.t_ x y)=[])
   cases cn λx y=>Q8 a.t_ x y && !Q8 b.t_ x y with
   |nil=>rfl
   |cons r l=>simp;omega
  .rw [e];rfl
 .rw [h];rfl
theorem Ap(h:Zk e s=0):0<=s.N_:=by
 unfold Zk at h
 by_cases hn:s.N_<0\/15<s.N_\/s.aL<0\/268435456<s.aL
 .rw [av hn]at h;cases h
 .omega
def xo(e:Nat)(l:aO)(parcel:aE)(s:af)(w:W_)(v:aE×Int):dM×Int:=
 if Qx parcel.t_=false then(PZ,7)
 else if(UW e s.az l w.al w.aF w.aI w.aS w.dt).2≠0 then(PZ,(UW e s.az l w.al w.aF w.aI w.aS w.dt).2)
 else if Zk e s≠0 then(PZ,17)
 else if v.2≠0 then(PZ,v.2)
 else if XW l.g_ parcel=false then(PZ,12)
 else if QJ l.s_ s.N_=false then(⟨⟨[]⟩,l.g_,⟨[]⟩⟩,0)
 else((UQ l.g_.t_ (QI w.al w.aF w.aI w.aS w.dt l.c_ l.g_.t_ e s.az) (Q8 v.1.t_)).t3 l.g_.t_,0)
theorem F2{l:aO}{zs:ω}{d:Int}(h:(UW e t l y cs hs zs d).2=0):Vc e t cs l.c_ hs y zs d l.g_.t_=0/\UW e t l y cs hs zs d=((QI y cs hs zs d l.c_ l.g_.t_ e t).t3 l.g_.t_,0):=by
 unfold UW at h⊢
 by_cases hz:Vc e t cs l.c_ hs y zs d l.g_.t_=0
 .rw [an (by rw[hz];simp)]
  exact⟨hz,rfl⟩
 .rw [av hz]at h
  exact(hz h).elim
theorem X3(he:e<=2000000)(hF:Q6+e<=F){l:aO}(hs:SD e s)(hl:w.aI.length<=1000000)(hc:BT w.aF)(hev:Vc e s.az w.aF l.c_ w.aI w.al w.aS w.dt l.g_.t_=0->EV w.al w.aF w.aI w.aS l.c_ l.g_.t_){v:aE×Int}(hv:Dc F parcel w.aS w.dt w.eD=some v)(hval:v.2=0->K7 v.1.t_):Xr F l parcel s w=some (xo e l parcel s w v):=by
 have g:Q6<=F:=by omega
 unfold Xr xo;refine Q3 (Uk g _) (Z9 (λq=>?_) λq=>?_)
 .rw [av (by simpa using q)];rfl
 rw[an (by simpa using q)];refine Q3 (Q8F hF hs.cond hl hc hev) (Z9 (λq=>?_) λq=>?_)
 .rw [av (by simpa using q)];rfl
 have q:(UW e s.az l w.al w.aF w.aI w.aS w.dt).2=0:=by simpa using q
 rw[an (by rw[q];simp)];obtain⟨D,hE⟩:=F2 q
 have h:=hev D;rw[hE]
 refine Q3 (Ti he hF hs) (Z9 (λq=>?_) λm=>?_)
 .rw [av (by simpa using q)];rfl
 have m:Zk e s=0:=by simpa using m
 rw[an (by rw[m];simp)];refine Q3 hv (Z9 (λq=>?_) λq=>?_)
 .rw [av (by simpa using q)];rfl
 have q:v.2=0:=by simpa using q
 rw[an (by rw[q];simp)];have o:=hval q
 refine Q3 (H3 g _ _) (Z9 (λq=>?_) λq=>?_)
 .rw [av (by simpa using q)];rfl
 rw[an (by simpa using q)];have f:=Xq (y:=w.al) (cs:=w.aF) (hs:=w.aI) (zs:=w.aS) (d:=w.dt) (c:=l.c_) (A:=l.g_.t_) e s.az
 generalize QI w.al w.aF w.aI w.aS w.dt l.c_ l.g_.t_ e s.az=T at f⊢;have j:=uE f (Zo v.1.t_)
 have t:=S8 f (Q8 v.1.t_);have p:=j.vY h.tr
 have G:=j.vN h.tr;have n:=j.vO h.tr
 refine Q5 (Ap m) (Z9 (λq=>?_) λq=>?_)
 .rw [VU]at q
  rw[av (by simpa using q)];exact Q3 (pM g K7.nil h.tr.val K7.nil) rfl
 .rw [VU]at q
  rw[an (by simpa using q)];have H:=p.1
  have x:=n.1;rw[t]at n x
  have E:=Vs g (a:=cn T.Y) (b:=v.1.t_) (f.vY h.tr).le8 o.le8 (f.vY h.tr).pos o.pos (Yu f.fY) rfl (k:=λu v=>u&&v) rfl (wu F);have z:=Vs g (a:=cn (T.O l.g_.t_)) (b:=v.1.t_) (f.vO h.tr).le8 o.le8 (f.vO h.tr).pos o.pos (Yu f.fO) rfl (k:=λu v=>u&&v) rfl (wu F)
  have C:Q8 (cn (UQ l.g_.t_ T (Q8 v.1.t_)).Y++cn λu w=>T.O l.g_.t_ u w&&Q8 v.1.t_ u w)=λu w=>(T.Y u w&&Q8 v.1.t_ u w)||(T.O l.g_.t_ u w&&Q8 v.1.t_ u w):=by
   funext u w
   rw[FN,YE j.fY,YE (JE f.fO (Zo _))];rfl
  have I:=Vs g (a:=l.g_.t_) (b:=cn (UQ l.g_.t_ T (Q8 v.1.t_)).Y++cn λu w=>T.O l.g_.t_ u w&&Q8 v.1.t_ u w) h.tr.val.le8 (by rw[dK];omega) h.tr.val.pos (λr i=>by
   rcases dv.1 i with i|i
   .exact p.pos r i
   .exact n.pos r i) rfl C (k:=λu v=>u && !v) rfl (Z6R F)
  have B:=pM g p G n;unfold TS.t3
  rw[t];exact Q3 E (Q3 z (Q3 (zN g (by exact dP H (by omega)) (by exact dP x (by omega))) (Q3 I (Q3 B rfl))))
variable {L:ω}{d:Int}
theorem Z6Y{L:ω}{d m:Int}{x:Int}(h:JI L d m a x y=true):Q8 a x y=true:=by
 unfold JI at h;rw[dc]at h
 exact h.1
theorem C4{L:ω}(ha:TR a)(d m:Int):K7 (cn (JI L d m a)):=ha.sub (kw L d m a) λ_ _ h=>Z6Y h
theorem Q6M{n:Nat}{L:ω}{d:Int}(hF:Q6<=F)(hL:LB n L)(d1:0<=d)(d2:d<=36864){a:aE}(ht:TR a.t_){m:Int}(m1:0<=m)(m2:m<=268435456):Dc F a L d m=some (⟨cn (JI L d m a.t_)⟩,0):=by
 have b:=ht.val;have g:=hL.rval d (zp 0)
 have hs:=bp hL d m a.t_;have o:=g.1.1
 have j:=hs.1.1;have i:=b.1
 unfold Dc;refine Q3 (qB hF hL.vl d1 d2 b m1 m2) ?_
 refine Z4 rfl ?_;refine Q3 (Q6L hF hL d1 d2) ?_
 refine Z4 rfl ?_;refine Q3 (Q6I hF hL d1 d2 b m1 m2) ?_
 refine Z4 rfl ?_;refine Q3 (zN hF (by simp only;omega) (by simp only;omega)) ?_
 refine Q3 (Hj hF (by simp only[dK];omega) (λr f=>(b.2.2.pos f).1) (λr f=>?_) (k:=λu v=>u && !v) rfl (λu v=>by cases u<;>cases v<;>rfl)) ?_
 .rcases dv.1 f with h|h
  .exact (g.1.2.2.pos h).1
  .exact (hs.1.2.2.pos h).1
 have e:(cn λx y=>Q8 a.t_ x y && !Q8 (cn (Q8 (Zy L d (zp 0)))++cn (Q8 (Ue L d m a.t_))) x y)=cn (JI L d m a.t_):=by
  congr 1
  funext x y
  unfold JI;rw[FN,YE (Zo _),YE (Zo _)]
 show(GC F (cn λx y=>Q8 a.t_ x y && !Q8 (cn (Q8 (Zy L d (zp 0)))++cn (Q8 (Ue L d m a.t_))) x y)).bind _=_;rw[e]
 have:=(C4 (L:=L) ht d m).1
 refine Q3 (yN F _) ?_;rw[an (by omega)]
structure WT (w:W_):Prop where
 yr:0<=w.al/\w.al<=4
 crops:dQ w.aF
 his:ew (w.aF.length:Nat) w.aI
 hlen:w.aI.length<=5
 zon:ik w.aS
 zlen:w.aS.length<=3
 day:0<=w.dt/\w.dt<=24
 most:0<=w.eD/\w.eD<=300
theorem ew.few5(h:ew K H)(hl:H.length<=5):lO H:=⟨h.hl,λy p i a=>by
 have:=Q7H h y p i (by omega)
 omega⟩
theorem QZ.up{m:Int}{l:ζ}(h:QZ n l)(hm:n<=m):QZ m l:=λr a=>by
 have:=h r a
 omega
theorem WT.lb(h:WT w):LB 9 w.aS:=h.zon.lb
theorem WT.ev(h:WT w)(hA:TR A){c:Int}(hc:0<=c/\c<(w.aF.length:Nat)):EV w.al w.aF w.aI w.aS c A:=by
 have b:=h.crops.one c.toNat (by omega);exact⟨hA,hc,b.2.1,⟨b.2.2.2.1,b.2.2.2.2⟩,h.his.few5 h.hlen,λf a=>(h.his.box f a).up (by omega),λf a=>⟨((GT f).1 (h.his.hl.one f a)).2.2.1,h.his.crop f a⟩,by have:=h.yr;omega,⟨h.zon.vl,λf a=>(h.lb.box f a).up (by omega),by omega⟩⟩
theorem WT.chk(h:WT w)(hA:TR A){c:Int}(hc:0<=c/\c<(w.aF.length:Nat))(ht:Yq e t=0):Vc e t w.aF c w.aI w.al w.aS w.dt A=0:=by
 have m:=h.yr;have j:=h.day
 have b:∀k:Int,0<=k->k<(w.aF.length:Nat)->Vy w.aF k=false:=λk i g=>by
  unfold Vy;rw[dg (by omega),dg (by omega)];rfl
 have a:(w.aI.any λr=>Vy w.aF r.c_)=false:=by
  rw[fZ];intro r f
  rw[b _ ((GT r).1 (h.his.hl.one r f)).2.2.1 (h.his.crop r f)];exact Bool.noConfusion
 unfold Vc;rw[an (by rw[ht];simp),an (by rw[h.crops.crC];simp),an (by rw[b c hc.1 hc.2,a];simp),an (by rw[(LW _).2 h.his.hl];simp),an (by omega),an (by rw[(MW _).2 h.zon.vl];simp),an (by omega),av ((WH _).2 hA.val)]
def KI(w:W_)(x:aO)(parcel:aE)(s:af):TS:=
 if QJ x.s_ s.N_=false then Uz x.g_.t_ false
 else UQ x.g_.t_ (QI w.al w.aF w.aI w.aS w.dt x.c_ x.g_.t_ 3 s.az) (JI w.aS w.dt w.eD parcel.t_)
theorem xm(w:W_)(x:aO)(parcel:aE)(s:af):eQ x.g_.t_ (KI w x parcel s):=by
 unfold KI;split
 .exact BO _ _
 .exact uE (Xq _ _) (kw _ _ _ _)
theorem ED(h:K7 A):(Uz A false).t3 A=⟨⟨[]⟩,⟨A⟩,⟨[]⟩⟩:=by
 unfold TS.t3;rw[sn,KQ]
 show dM.mk ⟨cn λ_ _=>false⟩ ⟨cn (Q8 A)⟩ ⟨[]⟩=_;rw[KQ,BH h]
theorem Z4A{n:Nat}(hF:Q6+3<=F)(hE:EV w.al w.aF w.aI w.aS x.c_ x.g_.t_)(hk:Vc 3 s.az w.aF x.c_ w.aI w.al w.aS w.dt x.g_.t_=0)(hl:w.aI.length<=1000000)(hn:BT w.aF)(hL:LB n w.aS)(d1:0<=w.dt)(d2:w.dt<=36864)(m1:0<=w.eD)(m2:w.eD<=268435456)(hs:SD 3 s)(h1:Zk 3 s=0)(hp:TR parcel.t_)(hsub:∀ u v,Q8 x.g_.t_ u v=true->Q8 parcel.t_ u v=true):
  Xr F x parcel s w=some ((KI w x parcel s).t3 x.g_.t_,0):=by
 have g:Q6<=F:=by omega
 have b:=hE.tr;have f:=Q6M g hL d1 d2 hp m1 m2
 rw[X3 (e:=3) (by omega) hF hs hl hn (λ_=>hE) f λ_=>C4 hp _ _];have hE:(UW 3 s.az x w.al w.aF w.aI w.aS w.dt).2=0:=by
  unfold UW;rw[an (by rw[hk];simp)]
 have a:XW x.g_ parcel=true:=(Q7L b.val hp.val).2 hsub;unfold xo
 rw[an (by rw[(WH _).2 hp.val];simp),an (by rw[hE];simp),an (by rw[h1];simp),an (by simp),an (by rw[a];simp)];unfold KI
 by_cases q:QJ x.s_ s.N_=false
 .rw [av q,av q,ED b.val]
 .rw [an q,an q]
  show some ((UQ _ _ (Q8 (cn (JI w.aS w.dt w.eD parcel.t_)))).t3 _,(0:Int))=_;rw[Yu (kw _ _ _ _)]
theorem N7(hF:Q6+3<=F)(hw:WT w)(hA:TR x.g_.t_)(hc:0<=x.c_/\x.c_<(w.aF.length:Nat))(hs:SD 3 s)(h1:Zk 3 s=0)(hp:TR parcel.t_)(hsub:∀ u v,Q8 x.g_.t_ u v=true->Q8 parcel.t_ u v=true):
  Xr F x parcel s w=some ((KI w x parcel s).t3 x.g_.t_,0):=by
 have a:=hw.day;have b:=hw.most
 have e:=hw.hlen;exact Z4A hF (hw.ev hA hc) (hw.chk hA hc (vV h1).2.2.2.2.2.1) (by omega) hw.crops.nm hw.lb a.1 (by omega) b.1 (by omega) hs h1 hp hsub
theorem Z5h{a:Int}(h0:0<=a)(h1:a<n):Xj F a n=some a:=by
 unfold Xj;rw[Int.tmod_eq_of_lt h0 h1]
 exact Z4 (dg (by omega)) (Q5 (by omega) (Z4 (dg (by omega)) rfl))
structure n8 (rs:Ω) (l:List aO) (ps:Ω):Prop where
 len:ps.length=l.length
 aT:∀i,i<l.length->gl ps i=gl rs ((gl l i).p_-1).toNat
theorem EG(hF:Q6<=F){t:aD}(ht:dw t)(hcs:dQ cs):∃t' w,Fh F t cs=some (t',w)/\dw t' /\ WT w/\w.aF=cs/\w.eD<=4:=by
 obtain⟨I,y,f,u,z,D⟩:=Zd (F:=F) ht (n:=5) (by omega) (by omega);obtain⟨M,H,g,h,a,C⟩:=Z4Z hF u hcs (most:=5) (by omega) (by omega)
 obtain⟨J,Z,p,b,i,q⟩:=Z4Q hF h (most:=3) (by omega) (by omega);obtain⟨B,d,v,e,d1,K⟩:=Zd (F:=F) b (n:=25) (by omega) (by omega)
 obtain⟨x,m,o,j,E,G⟩:=Zd (F:=F) e (n:=5) (by omega) (by omega);refine⟨x,⟨y,cs,H,Z,d,m⟩,?_,j,⟨by simp only;omega,hcs,a,by simp only;omega,i,by simp only;omega,by simp only;omega,by simp only;omega⟩,rfl,by simp only;omega⟩
 unfold Fh;exact Q3 f (Q3 g (Q3 p (Q3 v (Q3 o rfl))))
def ES:aj:=⟨1,0,0,[]⟩
theorem I1(d:Nat):TD (d+1) ES:=cI (U4 (by omega) (by omega)) (U4 (by omega) (by omega))
theorem Z6G:QJ 1 0=true/\QJ 0 0=false:=by decide +kernel
section
variable {l:List aO}{L:χ}
end
section
def qw(A:ζ)(S:Sq):Prop:=∃b:Bool,∀u v,S u v=(Q8 A u v&&b)
structure iN (A:ζ) (s:TS):Prop where
 y:qw A s.Y
 n:qw A s.N
theorem iN.o{s:TS}(h:iN A s):qw A (s.O A):=by
 obtain⟨⟨b,e⟩,c,a⟩:=h;refine⟨!b && !c,λu v=>?_⟩
 unfold TS.O;rw[e,a]
 cases Q8 A u v<;>cases b<;>cases c<;>rfl
variable (hw:WT w)(h9:∀u v,Q8 A u v=true->9<=u)
end
structure fI (sel:aO->TS->Sq):Prop where
 fin:∀x P,eQ x.g_.t_ P->Fin (sel x P)
 sub:∀x P,eQ x.g_.t_ P->∀u v,sel x P u v=true->Q8 x.g_.t_ u v=true
 flat:∀x P,iN x.g_.t_ P->qw x.g_.t_ (sel x P)
def Kl(_:aO)(P:TS):Sq:=P.Y
def Pp(_:aO)(P:TS):Sq:=P.N
def Km(x:aO)(P:TS):Sq:=P.O x.g_.t_
theorem yb:fI Kl:=⟨λ_ _ h=>h.fY,λ_ _ h=>h.sY,λ_ _ h=>h.y⟩
theorem OM:fI Pp:=⟨λ_ _ h=>h.fN,λ_ _ h=>h.sN,λ_ _ h=>h.n⟩
theorem Z0L(x:aO)(P:TS)(u v:Int)(hx:Km x P u v=true):Q8 x.g_.t_ u v=true:=by
 unfold Km TS.O at hx
 cases hA:Q8 x.g_.t_ u v with
 |true=>rfl
 |false=>rw[hA]at hx;cases hx
theorem Ou:fI Km:=⟨λ_ _ h=>h.fO,λx P _=>Z0L x P,λ_ _ h=>h.o⟩
def GV(rs:Ω)(x:aO):aE:=gl rs (x.p_-1).toNat
section
variable (w:W_)(rs:Ω)(s:af)(sel:aO->TS->Sq)
def Zn(m:List aO):ζ:=m.flatMap λx=>if QJ x.s_ s.N_=true then cn (sel x (KI w x (GV rs x) s))else[]
theorem Le(a b:List aO):Zn w rs s sel (a++b)=Zn w rs s sel a++Zn w rs s sel b:=lC
theorem ke(x:aO):Zn w rs s sel [x]=if QJ x.s_ s.N_=true then cn (sel x (KI w x (GV rs x) s))else[]:=by
 unfold Zn;rw[ir,nJ,fW]
end
theorem rJ(hs:fI sel)(hA:TR x.g_.t_):K7 (Zn w rs s sel [x]):=by
 rw[ke];split
 .exact hA.sub (hs.fin x _ (xm w x (GV rs x) s)) (hs.sub x _ (xm w x (GV rs x) s))
 .exact K7.nil
theorem kg(hs:fI sel):∀{m:List aO},(∀x∈m,TR x.g_.t_)->(Zn w rs s sel m).length<=120*m.length
 |[],_=>dW _
 |x::m,h=>by
  have e:Zn w rs s sel (x::m)=Zn w rs s sel [x]++Zn w rs s sel m:=Le w rs s sel [x] m;have f:=(rJ (w:=w) (rs:=rs) (s:=s) hs (h x (by simp))).1
  have b:=kg hs (m:=m) λy a=>h y (by simp[a])
  rw[e,dK,dz];omega
theorem uS(hs:fI sel):∀{m:List aO},(∀x∈m,TR x.g_.t_)->∀r∈Zn w rs s sel m,Zj r=true/\r.L_<r.R_
 |[],_,r,a=>(fF a).elim
 |x::m,h,r,a=>by
  have e:Zn w rs s sel (x::m)=Zn w rs s sel [x]++Zn w rs s sel m:=Le w rs s sel [x] m;rw[e]at a
  have b:=rJ (w:=w) (rs:=rs) (s:=s) hs (h x (by simp));rcases dv.1 a with a|a
  .exact ⟨b.2.1 r a,b.pos r a⟩
  .exact uS hs (m:=m) (λy f=>h y (by simp[f])) r a
section
variable {l:List aO}{L:χ}
def Ge(w:W_)(rs:Ω)(l:List aO)(s:af):Int:=if KV (Zn w rs s Kl l)<s.aL then 0 else KV (Zn w rs s Kl l)
end
section
variable (hB:∀u v,Q8 B u v=(Q8 A u v&&h u v)){zs:ω}{c d:Int}
