/- What the plain programs compute, up to the law itself. -/
import Derived.Test.YtngflklgdflcdaaGreatDoorLwC
set_option maxRecDepth 20000
set_option linter.all false
noncomputable section
namespace Go.Ab
variable {K:Int}{ps rs:Ω}{L:χ}{F i k:Nat}{w:W_}{t:aD}{x:aO}
section
structure GB (rs:Ω) (l:List aO) (ps:Ω) (L:χ) (w:W_):Prop where
 trm:∀x∈l,TR x.g_.t_
 cr:∀x∈l,0<=x.c_/\x.c_<(w.aF.length:Nat)
 pr:∀x∈l,TR (GV rs x).t_
 sb:∀x∈l,∀u v,Q8 x.g_.t_ u v=true->Q8 (GV rs x).t_ u v=true
 len:ps.length=l.length
 pc:∀i,i<l.length->gl ps i=GV rs (gl l i)
 ap:l.Pairwise uC
 lt:LT L
 goodL:eo 3 L
 w:WT w
 few:l.length<=6
section
variable {l:List aO}
theorem GB.line(hF:Q6+3<=F)(h:GB rs l ps L w)(hi:i<l.length)(hk:k<L.length):Xr F (gl l i) (gl ps i) (gl L k) w=some ((KI w (gl l i) (gl ps i) (gl L k)).t3 (gl l i).g_.t_,0):=by
 rw[h.pc i hi];exact N7 hF h.w (h.trm _ (y3 hi)) (h.cr _ (y3 hi)) (h.lt.st _ (y3 hk)).sd (h.goodL.one k hk) (h.pr _ (y3 hi)) (h.sb _ (y3 hi))
theorem GB.check(hF:Q6+3<=F)(h:GB rs l ps L w):Lz F l ps L=some 0:=by
 have a:=h.few;have c:=h.len
 unfold Lz;refine Z4 (by rw[bne_eq_false_iff_eq];omega) (Z4 (dg (by omega)) (Q3 (yj (d:=3) (by omega) hF λs b=>(h.lt.st s b).sd) ?_))
 rw[LU h.goodL]
theorem GB.apart(hF:Q6<=F)(h:GB rs l ps L w):LD F l=some 0:=by
 have m:=h.few;have a:=hF
 unfold Q6 at a;unfold LD
 refine Xp l.length (λn i c b=>?_) (λn=>?_) (by omega)
 .unfold kK
  have p:Yk F (l.take i) (λo=>LC F o (gl l i))=some false:=by
   rw[Kg (α:=aO) hF (λy=>ZG (gl l i).g_ y.g_) (by simp;omega) λy _=>by
    unfold LC;exact Q3 (pY hF _ _) rfl]
   congr 1
   rw[fZ];intro y j
   obtain⟨k,q,e⟩:=oS.1 j;have d:=ie.1 h.ap k i (by omega) c (by omega)
   rw[wc (h.trm _ (y3 c)).val (h.trm y (j9 j)).val λu v g f=>by
    rw[Br l i c]at g;rw[<-e]at f
    exact d u v f g]
   exact Bool.noConfusion
  refine Y8 (aZ (by omega)) (Q5 (by omega) (Q5 (by omega) ?_));rw[dh]
  exact Q3 p (Z4 rfl (Q5 (U4 (by omega) (by omega)) b))
 .unfold kK
  exact Z4 (dg (by omega)) rfl
theorem GB.farm(hF:Q6+3<=F)(h:GB rs l ps L w)(hk:k<L.length):Lx F l ps (gl L k) w=some (⟨Zn w rs (gl L k) Kl l,Zn w rs (gl L k) Pp l,Zn w rs (gl L k) Km l⟩,0):=by
 have r:=h.few;have B:Q6<=F:=by omega
 have o:=B;unfold Q6 at o
 have H:=h.len;unfold Lx
 refine z5 (λz:Int×ζ×ζ×(ζ)=>∃i:Nat,i<=l.length/\z=((i:Int),Zn w rs (gl L k) Kl (l.take i),Zn w rs (gl L k) Pp (l.take i),Zn w rs (gl L k) Km (l.take i))) (λz=>l.length-z.1.toNat) (λd z A t=>?_) ⟨0,dW _,rfl⟩ (by simp;omega);obtain⟨i,I,rfl⟩:=A
 have f:∀j,fI j->(Zn w rs (gl L k) j (l.take i)).length<=720:=λj y=>by
  have:=kg (w:=w) (rs:=rs) (s:=gl L k) y (m:=l.take i) λx D=>h.trm x (j9 D)
  have e:(l.take i).length<=6:=by rw[fE];omega
  omega
 show kJ F l ps (gl L k) w d (i:Int) _ _ _=_;unfold kJ
 refine Z9 (λq=>?_) (λq=>?_)
 .have q:i<l.length:=by have:=dO q;omega
  refine Q5 (by omega) (Q5 (by omega) ?_);rw[dh]
  refine Q3 (h.line hF q hk) (Z4 rfl (Q5 (Ap (h.goodL.one k hk)) ?_));have p:=h.trm _ (y3 q)
  have g:=xm w (gl l i) (gl ps i) (gl L k);have n:∀a b c,a=Zn w rs (gl L k) Kl (l.take (i+1))->b=Zn w rs (gl L k) Pp (l.take (i+1))->c=Zn w rs (gl L k) Km (l.take (i+1))->ML F (i:Int) d a b c=some (⟨Zn w rs (gl L k) Kl l,Zn w rs (gl L k) Pp l,Zn w rs (gl L k) Km l⟩,0):=λa b c v u C=>by
   unfold ML;refine Q5 (U4 (by omega) (by omega)) (t _ ⟨i+1,q,?_⟩ (by simp only;omega))
   rw[v,u,C];rfl
  have N:=f Kl yb;have M:=f Pp OM
  have K:=f Km Ou;have E:=(g.vY p).1
  have G:=(g.vN p).1;have J:=(g.vO p).1
  refine Z9 (λb=>?_) (λb=>?_)
  .rw [VU]at b
   have b:QJ (gl l i).s_ (gl L k).N_=false:=by simpa using b
   refine n _ _ _ ?_ ?_ ?_<;>rw[Za q,Le,ke,an (by rw[b];simp),fW]
  .rw [VU]at b
   have b:QJ (gl l i).s_ (gl L k).N_=true:=by simpa using b
   refine Q5 ?_ (Q5 (U4 (by omega) (by omega)) (Q5 ?_ (Q5 (U4 (by omega) (by omega)) (Q5 ?_ (Q5 (U4 (by omega) (by omega)) (n _ _ _ ?_ ?_ ?_))))))
   .simp only[TS.t3];unfold Y2;omega
   .simp only[TS.t3];unfold Y2;omega
   .simp only[TS.t3];unfold Y2;omega
   all_goals
    rw[Za q,Le,ke,av b, <-h.pc i q];rfl
 .have q:i=l.length:=by have:=ej q;omega
  rw[q,fG];rfl
theorem GB.Areas(hF:Q6+3<=F)(h:GB rs l ps L w):MO F l ps L w=some (L.map (Ge w rs l),0):=by
 have e:=h.few;have c:Q6<=F:=by omega
 have d:=c;unfold Q6 at d
 have m:=h.lt.len;unfold MO
 refine Q3 (h.check hF) (Z4 rfl ?_);refine z5 (λz:Int×(θ)=>∃i:Nat,i<=L.length/\z=((i:Int),(L.take i).map (Ge w rs l))) (λz=>L.length-z.1.toNat) (λa z k g=>?_) ⟨0,dW _,rfl⟩ (by simp;omega)
 obtain⟨i,p,rfl⟩:=k;show kM F l ps L w a (i:Int) _=_
 unfold kM;refine Z9 (λq=>?_) (λq=>?_)
 .have q:i<L.length:=by have:=dO q;omega
  refine Q5 (by omega) ?_;rw[dh]
  have f:=kg (w:=w) (rs:=rs) (s:=gl L i) yb h.trm;have k1:∀n,n=Ge w rs l (gl L i)->MN F (i:Int) ((L.take i).map (Ge w rs l)) a n=some (L.map (Ge w rs l),0):=λn o=>by
   unfold MN;refine Q5 (by simp only[fL,fE,dz,eg];unfold Y2;omega) (Q5 (U4 (by omega) (by omega)) (g _ ⟨i+1,q,?_⟩ (by simp only;omega)))
   rw[Za q,fe,o];rfl
  refine Q3 (h.farm hF q) (Z4 rfl (Q3 (yF c (by simp only;omega) λr j=>(uS yb h.trm r j).1) (Z9 (λb=>?_) λb=>?_)))
  .exact k1 _ (by unfold Ge;rw[av (dO b)])
  .exact k1 _ (by unfold Ge;rw[an (ej b)])
 .have q:i=L.length:=by have:=ej q;omega
  rw[q,fG];unfold kL
  exact Q3 (h.apart c) (Z4 rfl rfl)
end
def P3:Ω:=[⟨[⟨0,0,9,9⟩]⟩,⟨[⟨10,0,19,9⟩]⟩,⟨[⟨20,0,29,9⟩]⟩]
theorem Nq:fk P3:=⟨by decide,λi a=>by
 have a:i<3:=a;obtain rfl|rfl|rfl:i=0\/i=1\/i=2:=by omega
 all_goals exact⟨9,9,by omega,by omega,by omega,by omega,rfl⟩⟩
theorem oQ(hi:i<3):gl P3 i=⟨[⟨10*i,0,10*i+9,9⟩]⟩:=by
 obtain rfl|rfl|rfl:i=0\/i=1\/i=2:=by omega
 all_goals rfl
theorem im.p3(hp:fk rs)(h:im K rs x):im K P3 x:=by
 have e:=h.par;have j:=hp.len
 refine⟨h.crop,⟨e.1,by show x.p_<=3;omega⟩,h.sch,h.val,h.ne,λu v a=>?_⟩;have n:=h.pl hp u v a
 obtain⟨w,k,o,i,m,g,f⟩:=hp.one (x.p_-1).toNat (by omega);have d:=h.sub u v a
 rw[f,VO]at d;obtain⟨r,b,c⟩:=d
 rw[dI]at b;subst b
 rw[Yv]at c;rw[oQ (by omega),VO]
 refine⟨_,dI.2 rfl,?_⟩;rw[Yv]
 simp only at c⊢;omega
theorem eS.p3(hp:fk rs){l:List aO}(h:eS K rs l):eS K P3 l:=⟨λx a=>(h.one x a).p3 hp,h.apart,h.two⟩
theorem Z5e(hF:Q6<=F)(hr:rs.length<=100){l:List aO}(hl:∀x∈l,1<=x.p_/\x.p_<=rs.length)(h3:l.length<=100):∃ps,Mn F l rs=some ps/\n8 rs l ps:=by
 unfold Q6 at hF;unfold Mn
 suffices h:Ok (Y4 (λb (z:Int×Ω)=>FD F l rs b z.1 z.2) F ((0:Int),([]:Ω))) λps=>n8 rs l ps by
  obtain⟨ps,e,m⟩:=h;exact⟨ps,e,m⟩
 refine Xa (λz:Int×Ω=>∃i:Nat,z.1=i/\i<=l.length/\z.2.length=i/\∀k,k<i->gl z.2 k=gl rs ((gl l k).p_-1).toNat) (λz=>l.length-z.1.toNat) (λb z n j=>?_) ⟨0,rfl,dW _,rfl,λk f=>absurd f (fy k)⟩ (by simp;omega);obtain⟨a,ps⟩:=z
 obtain⟨i,e,o,c,d⟩:=n;simp only at e c d
 subst e;show Ok (FD F l rs b (i:Int) ps) _
 unfold FD;refine Yc (λh=>?_) (λh=>?_)
 .have h:i<l.length:=by have:=dO h;omega
  have p:=hl _ (y3 h);rw[dh]
  refine Qz (by omega) (Qz (U4 (by omega) (by omega)) (Zz (Z5h (by omega) (by omega)) (Qz (by omega) (Qz (by simp only[dz,eg];unfold Y2;omega) (Qz (U4 (by omega) (by omega)) (j _ ⟨i+1,by simp,h,by simp[c],λk f=>?_⟩ (by simp only;omega)))))));rcases eK k i with g|g
  .rw [AA _ _ (by omega)];exact d k g
  .have:k=ps.length:=by omega
   subst this;rw[wk,c]
 .have h:i=l.length:=by have:=ej h;omega
  unfold xG;exact GZ ⟨by omega,λk f=>d k (by omega)⟩
section
variable {l:List aO}
theorem Z9P(hp:fk rs)(hl:eS (w.aF.length:Nat) rs l)(hps:n8 rs l ps)(hL:LT L)(hg:eo 3 L)(hw:WT w)(h6:l.length<=6):GB rs l ps L w:=by
 have f:=hp.len;refine⟨λx a=>?_,λx a=>(hl.one x a).crop,λx a=>?_,λx a=>(hl.one x a).sub,hps.len,hps.aT,hl.apart,hL,hg,hw,h6⟩
 .have b:=hl.one x a
  have e:=b.par;exact uX b.val (d:=10*(x.p_-1)) (by omega) (b.pl hp)
 .have e:=(hl.one x a).par
  have c:(x.p_-1).toNat<rs.length:=by omega
  exact uX (hp.val c) (d:=10*((x.p_-1).toNat:Nat)) (by omega) (hp.pl c)
end
theorem Z0G(hF:Q6<=F):Ke ([0,1]:θ) (λy0 y1=>MI F y0 y1 [0,0])=some [0,1]:=by
 have f:∀a b:Int,(a=0\/a=1)->(b=0\/b=1)->MI F a b [0,0]=some (if a<b then -1 else if b<a then 1 else 0):=by
  intro a b c d;have e:∀x:Int,(x=0\/x=1)->gl ([0,0]:θ) x.toNat=0:=by rintro x (rfl|rfl)<;>rfl
  unfold MI;rw[e a c,e b d]
  refine Q5 (by simp only[dz,eg];omega) (Q5 (by simp only[dz,eg];omega) (Q3 (MV F _ _) (Q3 (MV F _ _) (Q3 (AZ F hF _ _) ?_))));simp
 refine Q9s (by simp[Y2]) ⟨.refl _,?_,λa c=>?_⟩
 .refine .cons (λb d=>?_) (iF _ _)
  rw[dI]at d;subst d
  exact⟨⟨_,f 0 1 (.inl rfl) (.inr rfl),by decide⟩,⟨_,f 1 0 (.inr rfl) (.inl rfl),by decide⟩⟩
 .have c:a=0\/a=1:=by simpa using c
  exact⟨_,f a a c c,by simp⟩
theorem Z0I(hF:Q6<=F):Lr F 3 [1,2]=some ([1,2],0):=by
 have a:=hF;unfold Q6 at a
 obtain⟨G,rfl⟩:∃G,F=G+8:=⟨F-8,by omega⟩;have h:Lr (G+8) 3 [1,2]=Lq (G+8) 0 [1,2] [0,1] [0,0]:=by kernel_rfl
 rw[h];unfold Lq
 exact Q3 (Z0G hF) rfl
abbrev VT(K:Int)(v:List aW):Prop:=∀x∈v,eS K P3 x.eL/\x.eL.length<=2
theorem Q7U(hF:Q6<=F)(ht:dw t):∃t' cs v,Dj F t=some (t',cs,v,P3)/\dw t' /\ dQ cs/\1<=v.length/\v.length<=3/\VT (cs.length:Nat) v:=by
 have I:=hF;unfold Q6 at I
 obtain⟨m,cs,y,M,f⟩:=Z5d hF ht;have D:=f.len
 suffices h:Ok (Dj F t) λz=>∃t' v,z=(t',cs,v,P3)/\dw t' /\ 1<=v.length/\v.length<=3/\VT (cs.length:Nat) v by
  obtain⟨_,s,t',v,rfl,r,q,A,E⟩:=h;exact⟨t',cs,v,s,r,f,q,A,E⟩
 unfold Dj;refine Zz y ?_
 refine Xa (λz:Int×Ω=>∃i:Nat,i<=3/\z=((i:Int),P3.take i)) (λz=>3-z.1.toNat) (λc z p o=>?_) ⟨0,dW _,rfl⟩ (by simp;omega);obtain⟨i,hi,rfl⟩:=p
 show Ok (qX F (m,cs) c (i:Int) (P3.take i)) _;unfold qX
 refine Yc (λh=>?_) (λh=>?_)
 .have h:i<3:=by have:=dO h;omega
  have e:(P3.take i).length=i:=by rw[fE];show min i 3=i;omega
  refine Qz (U4 (by omega) (by omega)) (Qz (U4 (by omega) (by omega)) (Qz (U4 (by omega) (by omega)) (Qz ?_ (Qz (U4 (by omega) (by omega)) (o _ ⟨i+1,h,?_⟩ (by simp only;omega))))))
  .rw [e];simp only[dz,eg];unfold Y2;omega
  .rw [Za (show i<P3.length from h),oQ h];rfl
 .have h:i=3:=by have:=ej h;omega
  subst h;show Ok (RL F (m,cs) P3) _
  unfold RL;obtain⟨R,n,J,K,P,n2⟩:=WX (F:=F) M (lo:=1) (hi:=3) (by omega) (by omega) (by omega)
  refine Zz J ?_;refine Xa (λz:Int×θ×Int×(List aW)=>0<=z.1/\dw ⟨z.2.1,z.2.2.1⟩/\z.1+z.2.2.2.length=n/\VT (cs.length:Nat) z.2.2.2) (λz=>z.1.toNat) (λc z p o=>?_) ⟨by simp only;omega,K,by simp,λx d=>by simp at d⟩ (by simp only;omega)
  obtain⟨k,a,b,v⟩:=z;obtain⟨N,g,H,j⟩:=p
  simp only at N g H j;show Ok (qW F (m,cs) P3 c k a b v) _
  unfold qW;refine Yc (λh=>?_) (λh=>?_)
  .have h:=dO h
   obtain⟨Q,l,O,rs,C,u,B,G,q⟩:=Z4O hF g (cs:=cs) (by omega) (most:=2) (by omega) (by omega);refine Zz C (Qz ?_ (Qz (U4 (by omega) (by omega)) (o _ ⟨by simp only;omega,u,?_,λx d=>?_⟩ (by simp only;omega))))
   .simp only[dz,eg];unfold Y2;omega
   .simp only[dK,dz,eg];omega
   .rcases dv.1 d with d|d
    .exact j x d
    .rw [dI.1 d]
     exact⟨G.p3 B,by simp only;omega⟩
  .have h:=ej h
   unfold qV;exact GZ ⟨_,_,rfl,g,by omega,by omega,j⟩
theorem P2:K7 [(⟨0,0,10,10⟩:aa)]:=RK (by decide)
theorem I9(hF:Q6+3<=F):Dk F=some true:=by
 have a:Q6<=F:=by omega
 have c:=a;unfold Q6 at c
 have n:Hg F [(⟨0,0,10,10⟩:aa)]=some (⟨[⟨0,0,10,10⟩]⟩,0):=by
  rw[Z2i a (by simp) (λr h=>by rw[dI.1 h];decide),B3 (by decide)];rfl
 have p:Mc F ⟨[⟨0,0,10,10⟩]⟩=some ([[⟨0,0⟩,⟨10,0⟩,⟨10,10⟩,⟨0,10⟩]],0):=by
  unfold Mc;exact av rfl
 have i:Hm F ⟨[⟨0,0,10,10⟩]⟩=some 100:=by
  rw[Z2o a P2];rfl
 have g:Vf F ⟨#[97,32,98,10]⟩=some ([[⟨#[97]⟩,⟨#[98]⟩]],0):=by
  exact qL (L:=[([97,32,98],[⟨#[97]⟩,⟨#[98]⟩])]) ⟨λx o=>by rw[dI.1 o];exact .inr ⟨by simp,λs d=>by
   simp only[dY,fF,iW]at d;rcases d with rfl|rfl<;>exact(show _/\_ by decide),rfl⟩,by decide,by decide,by decide⟩
 have m:Tl F ⟨0,⟨#[115]⟩,⟨1,0,0,[]⟩,[⟨1000,200⟩],0,0,false⟩ 100=some (200,0):=by
  have b:SD 3 ⟨0,⟨#[115]⟩,⟨1,0,0,[]⟩,[⟨1000,200⟩],0,0,false⟩:=⟨I1 2,by show(1:Nat)<=_;omega,by simp⟩;have j:Zk 3 ⟨0,⟨#[115]⟩,⟨1,0,0,[]⟩,[⟨1000,200⟩],0,0,false⟩=0:=by
   have e:QG (IS #[115])=true:=by decide +kernel
   have k:Vv [⟨1000,200⟩]=true:=by decide +kernel
   unfold Zk;rw[show Yq 3 ⟨1,0,0,[]⟩=0 from I8 2,an (by simp),an (by rw[e];simp),an (by simp),an (by rw[k];simp[Z6G.2])]
  unfold Tl;refine Q3 (Ti (by omega) hF b) ?_
  rw[j];obtain⟨G,rfl⟩:∃G,F=G+3:=⟨F-3,by omega⟩
  rfl
 have f:=Z0I a;unfold Dk
 exact Q3 n (Q3 p (Q3 i (Q3 m (Q3 g (Q3 f rfl)))))
theorem Z5n(hF:Q6<=F){l:θ}(hl:l.length<=1000000):CJ F l l=some true:=by
 unfold Q6 at hF;unfold CJ
 refine Z4 (by simp) ?_;refine vE (l:=l) (λ_=>some true) (λa u b c=>?_) (λa=>?_) (by omega)
 .unfold vB
  refine Y8 (Vo b) (Q5 (by omega) (Q5 (by omega) (Z4 (by simp) (Q5 (U4 (by omega) (by omega)) c))))
 .unfold vB
  exact Z4 (Uo _) rfl
theorem we:∀(d:Nat) {F:Nat} (_:Q6+d<=F) {t:aj} (_:TD d t),Kz F t t=some true
 |0,_,_,_,h=>h.elim
 |d+1,F,hF,t,h=>by
  obtain⟨F,rfl⟩:∃G,F=G+1:=⟨F-1,by unfold Q6 at hF;omega⟩;have f:Q6+d<=F:=by omega
  have j:=f;unfold Q6 at j
  have e:∀i,i<t.ae.length->TD d (gl t.ae i):=λi c=>h.2.2.2 _ (by rw[G8 c];exact fp c)
  unfold Kz vj;refine Z4 (by simp) (Z4 (by simp) (Z4 (by simp) ?_))
  rw[show(((t.ae.length:Nat):Int) != ((t.ae.length:Nat):Int))=false by simp];unfold PN
  refine Z4 rfl (Xp t.ae.length (λa i c g=>?_) (λa=>?_) (by have:=h.2.2.1;omega))
  .show Hr F (Kz F) t t a (i:Int)=_
   unfold Hr;rw[dh]
   have b:=TD.op (e i c);exact Y8 (aZ (by omega)) (Q5 (by omega) (Q5 b (Q5 (by omega) (Q5 b (Q3 (we d f (e i c)) (Z4 rfl (Q5 (U4 (by omega) (by have:=h.2.2.1;omega)) g)))))))
  .show Hr F (Kz F) t t a (t.ae.length:Int)=_
   unfold Hr;exact Z4 (dg (by omega)) rfl
theorem Z2r(hF:Q6+3<=F)(hl:L.length<=3)(h:∀s∈L,SK s):TY F L L=some true:=by
 have g:=hF;unfold Q6 at g
 unfold TY;refine Z4 (by simp) (Xp L.length (λa i e f=>?_) (λa=>?_) (by omega))
 .show Hp F L L a (i:Int)=_
  unfold Hp;rw[dh]
  have d:SK (gl L i):=h _ (by rw[G8 e];exact fp e);refine Y8 (aZ (by omega)) (Q5 (by omega) (Q5 (by omega) (Z4 (by simp) (Z4 (by rw[DX];rfl) (Q3 (we 3 hF d.td) (Z4 rfl (Z4 (by simp) (Z4 (by simp) (Z4 (by simp) ?_)))))))))
  rw[show(((List.length ((gl L i).ab):Nat):Int) != ((List.length ((gl L i).ab):Nat):Int))=false by simp];unfold Jt
  have k:=d.b1;refine Z4 rfl (Xp (gl L i).ab.length (λb j m c=>?_) (λb=>?_) (by omega))
  .show Ho F L L (i:Int) a b (j:Int)=_
   unfold Ho;rw[dh,dh]
   exact Y8 (aZ (by omega)) (Q5 (by omega) (Q5 (by omega) (Z4 (by simp) (Q5 (U4 (by omega) (by omega)) c))))
  .show Ho F L L (i:Int) a b ((gl L i).ab.length:Int)=_
   unfold Ho yW;rw[dh]
   exact Z4 (dg (by omega)) (Q5 (U4 (by omega) (by omega)) f)
 .show Hp F L L a (L.length:Int)=_
  unfold Hp;exact Z4 (dg (by omega)) rfl
theorem Q7Y(hF:Q6+3<=F)(tape:θ):Dm F tape=some true:=by
 have a:Q6<=F:=by omega
 have k:=a;unfold Q6 at k
 obtain⟨t0,z,T⟩:=Z5g F tape;obtain⟨E,g,v,C,W,b,O,v3,B⟩:=Q7U a T
 obtain⟨H,L,V,U,q,X⟩:=Z4S hF W (most:=3) (by omega) (by omega);obtain⟨K,w,I,Z,o,f,S⟩:=EG a U b
 obtain⟨p,A⟩:=B (gl v 0) (y3 O);have e:=q.len
 have d:eo 3 L:=by
  rcases X with j|j
  .rw [j]
   exact⟨by simp,λi c=>absurd c (fy i),λi _ c=>absurd c (fy i),λi c=>absurd c (fy i),λi c=>absurd c (fy i)⟩
  .exact j
 obtain⟨l,hl0⟩:∃l,(gl v 0).eL=l:=⟨_,rfl⟩;rw[hl0]at p A
 obtain⟨ps,r,J⟩:=Z5e a (rs:=P3) (by decide) (l:=l) (λx Y=>(p.one x Y).par) (by omega);have G:GB P3 l ps L w:=Z9P Nq (by rw[f];exact p) J q d o (by omega)
 have t:=G.Areas hF;have h:∀s∈L,SD 3 s:=λs Q=>(q.st s Q).sd
 obtain⟨u,P,q2,y⟩:=Nk hF d h e;obtain⟨m,_,_⟩:=pp hF d h e
 have R:=Z7j a b;have M:=Z7l a b
 have cl:(bs (Yi (g.map Yw))).size<=400:=by
  rw[Yj,QR,Di λN o=>((CZ b).ok N o).1];exact(CZ b).wt
 have D:(⟨w.al,g,w.aI,w.aS,w.dt,w.eD⟩:W_)=w:=by rw[<-f]
 have n:Jk F (E,g,v,P3) (H,L) (K,w) (g,0,0) (L,0,0) false=some true:=by
  unfold Jk;simp only[Int.toNat_zero,hl0,D]
  refine Z4 rfl (Q5 (by omega) (Q5 (by omega) (Q3 r (Q3 t (Q5 (by omega) (Q5 (by omega) (Q3 r (Q3 t (Y8 rfl (Y8 rfl (Q3 (Z5n a (by rw[fL];omega)) (Y8 rfl (Q3 (I9 hF) rfl)))))))))))))
 unfold Dm;refine Q3 z (Q3 C (Q3 V (Q3 I (Q3 R (Q3 P (Q5 ?_ (Q3 M (Q5 ?_ (Q3 y (Z4 rfl (Z4 rfl (Z4 rfl (Z4 rfl (Q3 (Oj a (by have:=b.len;show g.length<=_;omega)) (Z4 rfl (Q3 (Z2r hF e m) n))))))))))))))))
 .have:(IS #[35,32,99,114,111,112,115,10]).size=8:=rfl
  simp only[Y2];omega
 .have:(IS #[35,32,101,110,100,10]).size=6:=rfl
  simp only[Y2];omega
theorem O8:K7 [(⟨0,0,10,10⟩:aa)]:=RK (by decide)
theorem Q8Z(hF:Q6<=F):Wv F ⟨[⟨0,0,10,10⟩]⟩=some true:=by
 rw[Uk hF,Vz O8]
theorem R5:VS [[(⟨0,0,10,10⟩:aa)]]=[0,10]:=by
 have h:(VK [[(⟨0,0,10,10⟩:aa)]]).mergeSort (λx y=>decide (x<=y))=[0,10]:=List.mergeSort_of_pairwise (by decide);unfold VS
 rw[h];rfl
theorem Q9c(hF:Q6<=F)(y:Int):Ul F [(⟨0,0,10,10⟩:aa)] y=some (if 0<=y/\y<10 then[⟨0,10⟩]else[]):=by
 rw[TN hF (by simp) (λr a=>by rw[dI.1 a];decide)];congr 1
 split
 .rename_i h
  refine Gm ⟨λs e=>by rw[dI.1 e];decide,by simp⟩ λx=>?_
  have c:=aZ h.1;have b:=aZ h.2
  simp[K8,Q8,aa.has,aq.has,c,b]
 .rename_i h
  refine Sw λx=>?_
  rw[Bool.eq_false_iff];intro d
  simp[Q8,aa.has]at d
  exact h ⟨by omega,by omega⟩
theorem cV(hF:Q6<=F):Yb F [(⟨0,0,10,1⟩:aa)] [] (λy0 y1=>Ma F y0 y1)=some [⟨0,0,10,1⟩]:=by
 rw[Hj hF (by simp) (λr a=>by rw[dI.1 a];decide) (λr a=>by simp at a) (k:=λu v=>u && !v) rfl (λu v=>by cases u<;>cases v<;>rfl)];rw[show(λx y=>Q8 [(⟨0,0,10,1⟩:aa)] x y && !Q8 [] x y)=Q8 [(⟨0,0,10,1⟩:aa)]from funext λx=>funext λy=>by simp[Q8]]
 rw[B3 (by decide)]
theorem cU(hF:Q6<=F):Yb F [] [(⟨0,0,10,1⟩:aa)] (λy0 y1=>Ma F y0 y1)=some []:=by
 rw[Hj hF (by simp) (λr c=>by simp at c) (λr c=>by rw[dI.1 c];decide) (k:=λu v=>u && !v) rfl (λu v=>by cases u<;>cases v<;>rfl)];rw[BG (l:=[]) ⟨⟨λb a=>by simp at a,by simp⟩,λb a=>by simp at a,λb a=>by simp at a⟩ λx y=>by simp[Q8,K8,G9]]
 rfl
theorem I4(hF:Q6<=F):PX F [] [⟨0,10⟩] 0=some [⟨⟨0,0⟩,⟨10,0⟩⟩]:=by
 have d:=cV hF;have e:=cU hF
 obtain⟨G,hG⟩:∃G,F=G+3:=⟨F-3,by unfold Q6 at hF;omega⟩;unfold PX
 have c:Jw F [⟨0,10⟩]=some [⟨0,0,10,1⟩]:=by rw[hG];kernel_rfl
 have a:Jw F []=some []:=by rw[hG];kernel_rfl
 refine Q3 c (Q3 a (Q3 d ?_));unfold vQ
 generalize hk:PW F [] [⟨0,10⟩] 0=k;refine Eq.trans (b:=k [⟨⟨0,0⟩,⟨10,0⟩⟩]) (by rw[hG];kernel_rfl) ?_
 subst hk;unfold PW
 refine Q3 a (Q3 c (Q3 e ?_));rw[hG];kernel_rfl
theorem N3(hF:Q6<=F):PX F [⟨0,10⟩] [] 10=some [⟨⟨10,10⟩,⟨0,10⟩⟩]:=by
 have d:=cV hF;have e:=cU hF
 obtain⟨G,hG⟩:∃G,F=G+3:=⟨F-3,by unfold Q6 at hF;omega⟩;unfold PX
 have c:Jw F [⟨0,10⟩]=some [⟨0,0,10,1⟩]:=by rw[hG];kernel_rfl
 have a:Jw F []=some []:=by rw[hG];kernel_rfl
 refine Q3 a (Q3 c (Q3 e ?_));unfold vQ
 generalize hk:PW F [⟨0,10⟩] [] 10=k;refine Eq.trans (b:=k []) (by rw[hG];kernel_rfl) ?_
 subst hk;unfold PW
 refine Q3 c (Q3 a (Q3 d ?_));rw[hG];kernel_rfl
theorem ru{σ R:Type}(f:(σ->Option R)->σ->Option R)(n:Nat)(z:σ):Y4 f (n+1) z=f (Y4 f n) z:=rfl
theorem Q9d(hF:Q6<=F):Mb F ⟨[⟨0,0,10,10⟩]⟩=some [⟨⟨0,0⟩,⟨10,0⟩⟩,⟨⟨0,10⟩,⟨0,0⟩⟩,⟨⟨10,0⟩,⟨10,10⟩⟩,⟨⟨10,10⟩,⟨0,10⟩⟩]:=by
 have a:GD F [[(⟨0,0,10,10⟩:aa)]]=some [0,10]:=by rw[yQ hF (by decide) (by decide),R5]
 have r:∀y z l,y=z->(if 0<=z/\z<10 then[(⟨0,10⟩:aq)]else[])=l->Ul F (⟨[⟨0,0,10,10⟩]⟩:aE).t_ y=some l:=λy z l h e=>by rw[h, <-e];exact Q9c hF z
 have u:=I4 hF;have d:=N3 hF
 obtain⟨G,hG⟩:∃G,F=G+3:=⟨F-3,by unfold Q6 at hF;omega⟩;unfold Mb
 refine Q3 a ?_;rw[hG,ru _ (G+2), <-hG]
 generalize hA:Y4 (λagain (z:Int×List Edge)=>PY F ⟨[⟨0,0,10,10⟩]⟩ [0,10] again z.1 z.2) (G+2)=ag;show PY F _ [0,10] ag 0 []=_
 unfold PY;refine Y8 rfl (Q5 (by decide) (Q5 (by decide) (Q3 (r _ (-1) [] (by kernel_rfl) (by decide)) (Q3 (r _ 0 [⟨0,10⟩] (by kernel_rfl) (by decide)) (Q3 u (Q5 (by decide) (Q5 (by decide) (Z4 (by decide) (Q3 (r _ 0 [⟨0,10⟩] (by kernel_rfl) (by decide)) ?_)))))))))
 refine Eq.trans (b:=ag (1,[⟨⟨0,0⟩,⟨10,0⟩⟩,⟨⟨0,10⟩,⟨0,0⟩⟩,⟨⟨10,0⟩,⟨10,10⟩⟩])) (by rw[hG];kernel_rfl) ?_;subst hA
 rw[ru _ (G+1)];show PY F _ [0,10] _ 1 [⟨⟨0,0⟩,⟨10,0⟩⟩,⟨⟨0,10⟩,⟨0,0⟩⟩,⟨⟨10,0⟩,⟨10,10⟩⟩]=_
 unfold PY;exact Y8 rfl (Q5 (by decide) (Q5 (by decide) (Q3 (r _ 9 [⟨0,10⟩] (by kernel_rfl) (by decide)) (Q3 (r _ 10 [] (by kernel_rfl) (by decide)) (Q3 d (Q5 (by decide) (Q5 (by decide) (Y8 (by decide) rfl))))))))
