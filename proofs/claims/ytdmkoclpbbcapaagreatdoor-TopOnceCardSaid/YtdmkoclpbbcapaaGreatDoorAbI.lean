/- Abstract states over the model. -/
import Derived.Test.YtdmkoclpbbcapaaGreatDoorAbE
import Derived.Test.YtdmkoclpbbcapaaGreatDoorLwF
import Derived.Test.YtdmkoclpbbcapaaGreatDoorAbG
import Derived.Test.YtdmkoclpbbcapaaGreatDoorAbH
import Derived.Test.YtdmkoclpbbcapaaGreatDoorLwA
import Derived.Test.YtdmkoclpbbcapaaGreatDoorLwE
import Derived.Test.YtdmkoclpbbcapaaGreatDoorAbD
set_option linter.unusedVariables false
set_option linter.unusedSimpArgs false
set_option maxRecDepth 20000
namespace Go.Ab
noncomputable section
variable {i k F:Nat}{K x u m n y:Int}{rs:List Re_}{l:List Line}{S:Sq}{R seen:List Rect}{v:List Version}{q:CrosscheckLine}{g f:Face}{o:List Face}
section
structure GB (rs:List Re_) (l:List Line) (ps:List Re_) (L:List Scheme) (w:World):Prop where
 trm:∀x∈l,TR x.g_.t_
 cr:∀x∈l,0<=x.c_/\x.c_<(w.crops_.length:Nat)
 pr:∀x∈l,TR (VP rs x).t_
 sb:∀x∈l,∀u v,Q2 x.g_.t_ u v=true->Q2 (VP rs x).t_ u v=true
 len:ps.length=l.length
 pc:∀i,i<l.length->gl ps i=VP rs (gl l i)
 ap:l.Pairwise Q4x
 lt:LT L
 goodL:GoodL 3 L
 w:WT w
 few:l.length<=6
section
variable {F:Nat} {rs:List Re_} {l:List Line} {ps:List Re_} {L:List Scheme} {w:World}
theorem GB.line(hF:Q6+3<=F)(h:GB rs l ps L w)(hi:i<l.length)(hk:k<L.length):GL F (gl l i) (gl ps i) (gl L k) w=some ((Ji w (gl l i) (gl ps i) (gl L k)).t3 (gl l i).g_.t_,0):=by
 rw[h.pc i hi];exact Z1G hF h.w (h.trm _ (K3 hi)) (h.cr _ (K3 hi)) (h.lt.st _ (K3 hk)).sd (h.goodL.one k hk) (h.pr _ (K3 hi)) (h.sb _ (K3 hi))
theorem GB.check(hF:Q6+3<=F)(h:GB rs l ps L w):CZ F l ps L=some 0:=by
 have a:=h.few;have c:=h.len
 unfold CZ;refine Z4 (by rw[Qs8];omega) (Z4 (Qa5 (by omega)) (Q4 (Q8p (d:=3) (by omega) hF λs b=>(h.lt.st s b).sd) ?_))
 rw[Q3m h.goodL]
theorem GB.apart(hF:Q6<=F)(h:GB rs l ps L w):Fc F l=some 0:=by
 have m:=h.few;have c:=hF
 unfold Q6 at c;unfold Fc
 refine Hm l.length (λp i a d=>?_) (λp=>?_) (by omega)
 .unfold vU
  have n:ZF F (l.take i) (λo=>Fb F o (gl l i))=some false:=by
   rw[UY (α:=Line) hF (λy=>Zo (gl l i).g_ y.g_) (by simp;omega) λy _=>by
    unfold Fb;exact Q4 (zc hF _ _) rfl]
   congr 1
   rw[Qf6];intro y g
   obtain⟨k,q,e⟩:=Qu2.1 g;have b:=Qc8.1 h.ap k i (by omega) a (by omega)
   rw[yk (h.trm _ (K3 a)).val (h.trm y (Qi1 g)).val λu v f j=>by
    rw[Uz l i a]at f;rw[<-e]at j
    exact b u v j f]
   exact Bool.noConfusion
  refine Y9 (Qa6 (by omega)) (Q9 (by omega) (Q9 (by omega) ?_));rw[Qa3]
  exact Q4 n (Z4 rfl (Q9 (V9 (by omega) (by omega)) d))
 .unfold vU
  exact Z4 (Qa5 (by omega)) rfl
theorem GB.farm(hF:Q6+3<=F)(h:GB rs l ps L w)(hk:k<L.length):CY F l ps (gl L k) w=some (⟨Qj w rs (gl L k) Um l,Qj w rs (gl L k) KP l,Qj w rs (gl L k) UZ l⟩,0):=by
 have p:=h.few;have t:Q6<=F:=by omega
 have n:=t;unfold Q6 at n
 have K:=h.len;unfold CY
 refine z5 (λz:Int×(List Rect)×(List Rect)×(List Rect)=>∃i:Nat,i<=l.length/\z=((i:Int),Qj w rs (gl L k) Um (l.take i),Qj w rs (gl L k) KP (l.take i),Qj w rs (gl L k) UZ (l.take i))) (λz=>l.length-z.1.toNat) (λe z y v=>?_) ⟨0,Qc3 _,rfl⟩ (by simp;omega);obtain⟨i,B,rfl⟩:=y
 have d:∀g,SelOk g->(Qj w rs (gl L k) g (l.take i)).length<=720:=λg u=>by
  have:=vq (w:=w) (rs:=rs) (s:=gl L k) u (m:=l.take i) λx r=>h.trm x (Qi1 r)
  grind
 show vT F l ps (gl L k) w e (i:Int) _ _ _=_;unfold vT
 refine Z6 (λq=>?_) (λq=>?_)
 .have q:i<l.length:=by have:=Qa8 q;omega
  refine Q9 (by omega) (Q9 (by omega) ?_);rw[Qa3]
  refine Q4 (h.line hF q hk) (Z4 rfl (Q9 (jM (h.goodL.one k hk)) ?_));have o:=h.trm _ (K3 q)
  have f:=DR w (gl l i) (gl ps i) (gl L k);have j:∀a b c,a=Qj w rs (gl L k) Um (l.take (i+1))->b=Qj w rs (gl L k) KP (l.take (i+1))->c=Qj w rs (gl L k) UZ (l.take (i+1))->Hw F (i:Int) e a b c=some (⟨Qj w rs (gl L k) Um l,Qj w rs (gl L k) KP l,Qj w rs (gl L k) UZ l⟩,0):=λa b c H J D=>by
   unfold Hw;refine Q9 (V9 (by omega) (by omega)) (v _ ⟨i+1,q,?_⟩ (by simp only;omega))
   grind
  have G:=d Um Xz;have A:=d KP jL
  have I:=d UZ jK;have E:=(f.vY o).1
  have M:=(f.vN o).1;have C:=(f.vO o).1
  refine Z6 (λb=>?_) (λb=>?_)
  .rw [Vz]at b
   have b:ZR (gl l i).s_ (gl L k).N_=false:=by simpa using b
   refine j _ _ _ ?_ ?_ ?_<;>rw[Qr q,Hl,Cz,Qa1 (by rw[b];simp),Qj2]
  .rw [Vz]at b
   have b:ZR (gl l i).s_ (gl L k).N_=true:=by simpa using b
   refine Q9 ?_ (Q9 (V9 (by omega) (by omega)) (Q9 ?_ (Q9 (V9 (by omega) (by omega)) (Q9 ?_ (Q9 (V9 (by omega) (by omega)) (j _ _ _ ?_ ?_ ?_))))))
   .simp only[TS.t3];unfold Z9;omega
   .simp only[TS.t3];unfold Z9;omega
   .simp only[TS.t3];unfold Z9;omega
   all_goals
    rw[Qr q,Hl,Cz,Qa2 b, <-h.pc i q];rfl
 .have q:i=l.length:=by have:=Qb2 q;omega
  rw[q,Qe5];rfl
end
end
section
def P3:List Re_:=[⟨[⟨0,0,9,9⟩]⟩,⟨[⟨10,0,19,9⟩]⟩,⟨[⟨20,0,29,9⟩]⟩]
theorem Mb:ParT P3:=⟨by decide,λi a=>by
 have a:i<3:=a;obtain rfl|rfl|rfl:i=0\/i=1\/i=2:=by omega
 all_goals exact⟨9,9,by omega,by omega,by omega,by omega,rfl⟩⟩
theorem Q4f(hi:i<3):gl P3 i=⟨[⟨10*i,0,10*i+9,9⟩]⟩:=by
 obtain rfl|rfl|rfl:i=0\/i=1\/i=2:=by omega
 all_goals rfl
theorem LinO.p3(hp:ParT rs){x:Line}(h:LinO K rs x):LinO K P3 x:=by
 have e:=h.par;have m:=hp.len
 refine⟨h.crop,⟨e.1,by show x.p_<=3;omega⟩,h.sch,h.val,h.ne,λu v a=>?_⟩;have i:=h.pl hp u v a
 obtain⟨w,k,n,j,g,o,f⟩:=hp.one (x.p_-1).toNat (by omega);have b:=h.sub u v a
 rw[f,YP]at b;obtain⟨r,c,d⟩:=b
 rw[Qb0]at c;subst c
 rw[QG]at d;rw[Q4f (by omega),YP]
 refine⟨_,Qb0.2 rfl,?_⟩;rw[QG]
 grind
theorem LinT.p3(hp:ParT rs)(h:LinT K rs l):LinT K P3 l:=⟨λx a=>(h.one x a).p3 hp,h.apart,h.two⟩
theorem Q1j(hF:Q6<=F)(hr:rs.length<=100)(hl:∀x∈l,1<=x.p_/\x.p_<=rs.length)(h3:l.length<=100):∃ps,Cf F l rs=some ps/\PrT rs l ps:=by
 unfold Q6 at hF;unfold Cf
 suffices h:Ok (Y3 (λb (z:Int×(List Re_))=>Ce F l rs b z.1 z.2) F ((0:Int),([]:List Re_))) λps=>PrT rs l ps by
  obtain⟨ps,e,j⟩:=h;exact⟨ps,e,j⟩
 refine VS (λz:Int×List Re_=>∃i:Nat,z.1=i/\i<=l.length/\z.2.length=i/\∀k,k<i->gl z.2 k=gl rs ((gl l k).p_-1).toNat) (λz=>l.length-z.1.toNat) (λb z n m=>?_) ⟨0,rfl,Qc3 _,rfl,λk f=>absurd f (Qc9 k)⟩ (by simp;omega);obtain⟨a,ps⟩:=z
 obtain⟨i,e,o,c,d⟩:=n;simp only at e c d
 subst e;show Ok (Ce F l rs b (i:Int) ps) _
 unfold Ce;refine QE (λh=>?_) (λh=>?_)
 .have h:i<l.length:=by have:=Qa8 h;omega
  have p:=hl _ (K3 h);rw[Qa3]
  refine G4 (by omega) (G4 (V9 (by omega) (by omega)) (Qm (Z2q (by omega) (by omega)) (G4 (by omega) (G4 (by simp only[Qb1,Qc2];unfold Z9;omega) (G4 (V9 (by omega) (by omega)) (m _ ⟨i+1,by simp,h,by simp[c],λk f=>?_⟩ (by simp only;omega)))))));rcases Qd3 k i with g|g
  .rw [Q1E _ _ (by omega)];exact d k g
  .have:k=ps.length:=by omega
   subst this;rw[Q1D,c]
 .have h:i=l.length:=by have:=Qb2 h;omega
  unfold yM;exact Ur ⟨by omega,λk f=>d k (by omega)⟩
section
variable {rs:List Re_} {l:List Line} {ps:List Re_} {L:List Scheme} {w:World}
theorem Z3q(A B:List Rect):Fin λu v=>Q2 A u v&&Q2 B u v:=Vu _ _ 2
theorem vC(A B:List Rect):Fin λu v=>Q2 A u v && !Q2 B u v:=Vu _ _ 3
end
end
theorem Q8g(hF:Q6<=F):Vi ([0,1]:List Int) (λy0 y1=>Hv F y0 y1 [0,0])=some [0,1]:=by
 have f:∀a b:Int,(a=0\/a=1)->(b=0\/b=1)->Hv F a b [0,0]=some (if a<b then -1 else if b<a then 1 else 0):=by
  intro a b c d;have e:∀x:Int,(x=0\/x=1)->gl ([0,0]:List Int) x.toNat=0:=by rintro x (rfl|rfl)<;>rfl
  unfold Hv;rw[e a c,e b d]
  refine Q9 (by simp only[Qb1,Qc2];omega) (Q9 (by simp only[Qb1,Qc2];omega) (Q4 (GW F _ _) (Q4 (GW F _ _) (Q4 (xB F hF _ _) ?_))));simp
 refine gQ (by simp[Z9]) ⟨.refl _,?_,λa c=>?_⟩
 .refine .cons (λb d=>?_) (Qe6 _ _)
  rw[Qb0]at d;subst d
  exact⟨⟨_,f 0 1 (.inl rfl) (.inr rfl),by decide⟩,⟨_,f 1 0 (.inr rfl) (.inl rfl),by decide⟩⟩
 .have c:a=0\/a=1:=by simpa using c
  exact⟨_,f a a c c,by simp⟩
theorem Q8h(hF:Q6<=F):CP F 3 [1,2]=some ([1,2],0):=by
 have a:=hF;unfold Q6 at a
 obtain⟨G,rfl⟩:∃G,F=G+8:=⟨F-8,by omega⟩;have h:CP (G+8) 3 [1,2]=CO (G+8) 0 [1,2] [0,1] [0,0]:=by kernel_rfl
 rw[h];unfold CO
 exact Q4 (Q8g hF) rfl
abbrev VT(K:Int)(v:List Version):Prop:=∀x∈v,LinT K P3 x.lines_/\x.lines_.length<=2
theorem Q5d(hF:Q6<=F){t:Tape}(ht:TOk t):∃t' cs v,Bo F t=some (t',cs,v,P3)/\TOk t' /\ CropT cs/\1<=v.length/\v.length<=3/\VT (cs.length:Nat) v:=by
 have E:=hF;unfold Q6 at E
 obtain⟨j,cs,J,B,e⟩:=Z2m hF ht;have s:=e.len
 suffices h:Ok (Bo F t) λz=>∃t' v,z=(t',cs,v,P3)/\TOk t' /\ 1<=v.length/\v.length<=3/\VT (cs.length:Nat) v by
  obtain⟨_,I,t',v,rfl,K,q,C,H⟩:=h;exact⟨t',cs,v,I,K,e,q,C,H⟩
 unfold Bo;refine Qm J ?_
 refine VS (λz:Int×List Re_=>∃i:Nat,i<=3/\z=((i:Int),P3.take i)) (λz=>3-z.1.toNat) (λc z p m=>?_) ⟨0,Qc3 _,rfl⟩ (by simp;omega);obtain⟨i,hi,rfl⟩:=p
 show Ok (Lq F (j,cs) c (i:Int) (P3.take i)) _;unfold Lq
 refine QE (λh=>?_) (λh=>?_)
 .have h:i<3:=by have:=Qa8 h;omega
  have f:(P3.take i).length=i:=by rw[Qd7];show min i 3=i;omega
  refine G4 (V9 (by omega) (by omega)) (G4 (V9 (by omega) (by omega)) (G4 (V9 (by omega) (by omega)) (G4 ?_ (G4 (V9 (by omega) (by omega)) (m _ ⟨i+1,h,?_⟩ (by simp only;omega))))))
  .rw [f];simp only[Qb1,Qc2];unfold Z9;omega
  .rw [Qr (show i<P3.length from h),Q4f h];rfl
 .have h:i=3:=by have:=Qb2 h;omega
  subst h;show Ok (Mw F (j,cs) P3) _
  unfold Mw;obtain⟨R,n,M,G,P,n2⟩:=WE (F:=F) B (lo:=1) (hi:=3) (by omega) (by omega) (by omega)
  refine Qm M ?_;refine VS (λz:Int×(List Int)×Int×(List Version)=>0<=z.1/\TOk ⟨z.2.1,z.2.2.1⟩/\z.1+z.2.2.2.length=n/\VT (cs.length:Nat) z.2.2.2) (λz=>z.1.toNat) (λc z p m=>?_) ⟨by simp only;omega,G,by simp,λx d=>by simp at d⟩ (by simp only;omega)
  obtain⟨k,a,b,v⟩:=z;obtain⟨u,o,y,g⟩:=p
  simp only at u o y g;show Ok (Lp F (j,cs) P3 c k a b v) _
  unfold Lp;refine QE (λh=>?_) (λh=>?_)
  .have h:=Qa8 h
   obtain⟨O,l,Q,rs,r,D,A,N,q⟩:=Z1X hF o (cs:=cs) (by omega) (most:=2) (by omega) (by omega);refine Qm r (G4 ?_ (G4 (V9 (by omega) (by omega)) (m _ ⟨by simp only;omega,D,?_,λx d=>?_⟩ (by simp only;omega))))
   .simp only[Qb1,Qc2];unfold Z9;omega
   .simp only[Qb7,Qb1,Qc2];omega
   .rcases Qa9.1 d with d|d
    .exact g x d
    .rw [Qb0.1 d]
     exact⟨N.p3 A,by simp only;omega⟩
  .have h:=Qb2 h
   unfold Lo;exact Ur ⟨_,_,rfl,o,by omega,by omega,g⟩
theorem xK{l:List Bracket}(h:WJ l=true):l.length<=6/\∀i,i<l.length->0<=(gl l i).up_/\(gl l i).up_<=268435456/\0<=(gl l i).rate_/\(gl l i).rate_<=1048576:=by
 unfold WJ at h;simp only[Qa4,Qb5,Qh7,Qf6,Qf2]at h
 obtain⟨_,d,c⟩:=h;have a:∀i,i<l.length->QM l i<(gl l i).up_/\(gl l i).up_<=268435456/\0<=(gl l i).rate_/\(gl l i).rate_<=1048576:=λi b=>by
  have:=c i b
  simp only[Vd,Qh7,Bool.not_eq_false,Qa4,Qb5]at this;exact this
 refine⟨d,λi=>?_⟩
 induction i with
 |zero=>intro b;have:=a 0 b;have e:QM l 0=0:=rfl;omega
 |succ i ih=>
  intro b;have g:=a (i+1) b
  have f:=ih (by omega);have e:QM l (i+1)=(gl l i).up_:=rfl
  omega
theorem Q6e:J1 [(⟨0,0,10,10⟩:Rect)]:=Mv (by decide)
theorem Q5f(hF:Q6+3<=F):Mx F=some true:=by
 have a:Q6<=F:=by omega
 have b:=a;unfold Q6 at b
 have g:KX F [(⟨0,0,10,10⟩:Rect)]=some (⟨[⟨0,0,10,10⟩]⟩,0):=by
  rw[cP a (by simp) (λr h=>by rw[Qb0.1 h];decide),Q3c (by decide)];rfl
 have i:DO F ⟨[⟨0,0,10,10⟩]⟩=some ([[⟨0,0⟩,⟨10,0⟩,⟨10,10⟩,⟨0,10⟩]],0):=by
  unfold DO;exact Qa2 rfl
 have k:Uo F ⟨[⟨0,0,10,10⟩]⟩=some 100:=by
  rw[zn a Q6e];rfl
 have f:Bj F ⟨#[97,32,98,10]⟩=some ([[⟨#[97]⟩,⟨#[98]⟩]],0):=by
  unfold Bj;exact Qa2 rfl
 have j:JJ F ⟨0,⟨#[115]⟩,⟨1,0,0,[]⟩,[⟨1000,200⟩],0,0,false⟩ 100=some (200,0):=by
  have c:SD 3 ⟨0,⟨#[115]⟩,⟨1,0,0,[]⟩,[⟨1000,200⟩],0,0,false⟩:=⟨Q5J 2,by show(1:Nat)<=_;omega,by simp⟩;have d:Zc 3 ⟨0,⟨#[115]⟩,⟨1,0,0,[]⟩,[⟨1000,200⟩],0,0,false⟩=0:=by
   have e:QZ (ByteArray.mk #[115])=true:=by decide +kernel
   have m:WJ [⟨1000,200⟩]=true:=by decide +kernel
   unfold Zc;rw[show YL 3 ⟨1,0,0,[]⟩=0 from Q5I 2,Qa1 (by simp),Qa1 (by rw[e];simp),Qa1 (by simp),Qa1 (by rw[m];simp[Z3R.2])]
  unfold JJ;refine Q4 (BM (by omega) hF c) ?_
  rw[d];obtain⟨G,rfl⟩:∃G,F=G+3:=⟨F-3,by omega⟩
  rfl
 have n:=Q8h a;unfold Mx
 exact Q4 g (Q4 i (Q4 k (Q4 j (Q4 f (Q4 n rfl)))))
theorem xO:∀{l:List Int},l.Pairwise (λa b=>a<b)->∀{B:List Int},(∀x∈l,x∈B)->l.length<=B.length
 |[],_,_,_=>Qc3 _
 |x::l,h,B,hB=>by
  have d:=hB x (by simp);have e:=xO (l:=l) (Qd2.1 h).2 (B:=B.erase x) λy c=>by
   have:=(Qd2.1 h).1 y c
   grind
  grind
theorem SpOk.starts{l:List Span}(h:SpOk l){B:List Int}(hB:∀s∈l,s.L_∈B):l.length<=B.length:=by
 have:=xO (l:=l.map (·.L_)) (by
  rw[Qi4];exact h.ch.imp_of_mem λ{a b} ha _ hab=>by have:=h.pos a ha;omega) (B:=B) λx d=>by
  obtain⟨s,c,rfl⟩:=Qc5.1 d;exact hB s c
 grind
theorem Q4e{α:Type}{d:α}:∀{l:List (Rn α)},Runs l->∀{c:Rn α},c∈l->c.v≠d->K5 d l (c.lo-1)≠c.v
 |[],_,_,b,_=>(Qe7 b).elim
 |a::l,h,c,b,hv=>by
  rw[K5];rcases Qf0.1 b with rfl|b
  .rw [Qa1 (by omega),PQ λr e=>by have:=(h.head r e).1;have:=h.pos c (by simp);omega]
   grind
  .obtain ⟨i,f⟩:=h.head c b
   have g:=h.pos a (by simp);split
   .grind
   .exact Q4e h.tail b hv
theorem Q2Q(hf:Fin S){A B:List Int}(hA:∀u v,S u v≠S u (v-1)->v∈A)(hB:∀u v,S u v=true->S (u-1) v=false->u∈B):(cn S).length<=A.length*B.length:=by
 obtain⟨b,f,e,hS⟩:=xA hf;have m:b.length<=A.length:=by
  have:=xO (l:=b.map (·.lo)) (by
   rw[Qi4];exact f.runs.ch.imp_of_mem λ{a c} ha _ hac=>by have:=f.runs.pos a ha;have:=hac.1;omega) (B:=A) λv j=>by
   obtain⟨c,g,rfl⟩:=Qc5.1 j;refine Qg2 λn=>?_
   refine Q4e f.runs g (f.ne c g) (SpOk.unique (SpOk.at f.sp _) (f.sp c g) λx=>?_);have i:=FT (d:=[]) f.runs g
   rw[<-i,hS,hS];exact Qg2 λh=>n (hA x _ λe=>h e.symm)
  grind
 have o:∀c∈b,c.v.length<=B.length:=λc g=>(f.sp c g).starts λs k=>by
  obtain⟨q,p⟩:=(f.sp c g).start k;have i:=FT (d:=[]) f.runs g
  grind
 have:=CA o
 rw[e];exact Qc4 this (Qb3 _ m)
theorem Q1s{v:Int}(h:Q2 R u v≠Q2 R u (v-1)):v∈R.map (·.w_)++R.map (·.H_):=by
 refine Qg2 λb=>h ?_
 have c:∀r∈R,r.has u v=r.has u (v-1):=λr a=>by
  have f:v≠r.w_:=λe=>b (Qk8 _ (Qc5.2 ⟨r,a,e.symm⟩))
  have d:v≠r.H_:=λe=>b (Qk4 _ (Qc5.2 ⟨r,a,e.symm⟩))
  rw[Qe1,QG,QG];omega
 rw[Qe1,YP,YP]
 grind
theorem Q1u{v:Int}(h1:Q2 R u v=true)(h2:Q2 R (u-1) v=false):u∈R.map (·.L_):=by
 obtain⟨r,a,h⟩:=(YP _ _ _).1 h1;have b:¬r.has (u-1) v=true:=λe=>by rw[Uy a e]at h2;cases h2
 rw[QG]at h b
 grind
theorem Z2D{v:Int}(h1:Q2 R (u-1) v=true)(h2:Q2 R u v=false):u∈R.map (·.R_):=by
 obtain⟨r,a,h⟩:=(YP _ _ _).1 h1;have b:¬r.has u v=true:=λe=>by rw[Uy a e]at h2;cases h2
 rw[QG]at h b
 grind
theorem vW(hf:Fin S){Q:List Rect}(h:∀u v,S u v=(Q2 R u v && !Q2 Q u v)):(cn S).length<=(2*(R.length+Q.length))*(R.length+Q.length):=by
 have:=Q2Q hf (A:=(R.map (·.w_)++R.map (·.H_))++(Q.map (·.w_)++Q.map (·.H_))) (B:=R.map (·.L_)++Q.map (·.R_)) (λu v d=>?_) (λu v b a=>?_)
 .simp only[Qb7,Qg1]at this
  grind
 .refine Qg2 λc=>d ?_
  rw[h,h];have f:Q2 R u v=Q2 R u (v-1):=Qg2 λe=>c (Qk8 _ (Q1s e))
  have g:Q2 Q u v=Q2 Q u (v-1):=Qg2 λe=>c (Qk4 _ (Q1s e))
  rw[f,g]
 .rw [h]at b a
  cases e1:Q2 R (u-1) v with
  |false=>exact Qk8 _ (Q1u (Qa4 _ _ ▸ b).1 e1)
  |true=>
   rw[e1,Qe4]at a;have a:Q2 Q (u-1) v=true:=by simpa using a
   have b:Q2 Q u v=false:=by
    grind
   exact Qk4 _ (Z2D a b)
abbrev Vq(l:List Line):List Rect:=l.flatMap λx=>x.g_.t_
theorem yp(l:List Line)(u v:Int):Q2 (Vq l) u v=l.any λx=>Q2 x.g_.t_ u v:=by
 unfold Q2
 grind
theorem LinT.land(h:LinT K rs l)(h2:l.length<=2):(Vq l).length<=40/\∃R:List Rect,R.length<=4/\∀u v,Q2 (Vq l) u v=Q2 R u v:=by
 have a:∀x∈l,x.g_.t_=cn (Q2 x.g_.t_):=λx g=>(GT (h.one x g).val).symm
 match l,h,h2,a with
 |[],_,_,_=>exact⟨by simp,[],by simp,λu v=>rfl⟩
 |[x],h,_,a=>
  obtain⟨R,d,b⟩:=h.two 0 (by simp);have b:∀u v,Q2 x.g_.t_ u v=Q2 R u v:=λu v=>by have:=b u v;simpa[gl]using this
  have e:=vW (Qz x.g_.t_) (R:=R) (Q:=[]) λu v=>by rw[b];simp[Q2]
  rw[<-a x (by simp)]at e;have:(2*(R.length+([]:List Rect).length))*(R.length+([]:List Rect).length)<=(2*2)*2:=Qk3 (by simp;omega) (by simp;omega)
  grind
 |[x,y],h,_,a=>
  obtain⟨R,d,b⟩:=h.two 0 (by simp);have b:∀u v,Q2 x.g_.t_ u v=Q2 R u v:=λu v=>by have:=b u v;simpa[gl]using this
  have e:=vW (Qz x.g_.t_) (R:=R) (Q:=[]) λu v=>by rw[b];simp[Q2]
  rw[<-a x (by simp)]at e;have:(2*(R.length+([]:List Rect).length))*(R.length+([]:List Rect).length)<=(2*2)*2:=Qk3 (by simp;omega) (by simp;omega)
  obtain⟨Q,i,c⟩:=h.two 1 (by simp);have c:∀u v,Q2 y.g_.t_ u v=(Q2 Q u v && !Q2 R u v):=λu v=>by have:=c u v;simpa[gl,b]using this
  have f:=vW (Qz y.g_.t_) (R:=Q) (Q:=R) c;rw[<-a y (by simp)]at f
  have:(2*(Q.length+R.length))*(Q.length+R.length)<=(2*4)*4:=Qk3 (by omega) (by omega)
  refine⟨by simp;omega,R++Q,by simp;omega,λu v=>?_⟩;rw[yp,Jk]
  grind
 |_::_::_::_,_,h2,_=>simp at h2
section
theorem Q0V{α:Type}(p q:α->Bool):∀l:List α,(∀s∈l,p s=true\/q s=true)->l.length<=(l.filter p).length+(l.filter q).length
 |[],_=>by simp
 |a::l,h=>by
  have c:=Q0V p q l λs b=>h s (by simp[b])
  grind
theorem SpOk.places2{l:List Span}(h:SpOk l){S:Int->Bool}(hS:∀x,J8 l x=S x){k:Int}(blk:∀x,S x=true->WW k x\/WW m x):l.length<=10:=by
 let p:Int->Span->Bool:=λj s=>decide (10*j<=s.L_)&&decide (s.L_<10*j+9)
 have d:∀j s,p j s=true↔WW j s.L_:=λj s=>by simp[p,WW]
 have e:∀j:Int,2*((l.filter (p j)).length:Int)<=10:=λj=>by
  have:=(h.filt (p j)).half (n:=10*j+9) (a:=10*j) (by omega) λs b=>by
   obtain⟨i,c⟩:=Qf9.1 b;rw[d]at c
   unfold WW at c;refine⟨c.1,?_⟩
   apply Int.not_lt.1;intro g
   have f:=(yT l (10*j+9)).2 ⟨s,i,by omega,g⟩;rw[hS]at f
   have:=blk _ f
   unfold WW at this;omega
  omega
 have g:=Q0V (p k) (p m) l λs b=>by
  rw[d,d];exact blk _ (by rw[<-hS];exact(h.start b).1)
 have o:=e k;have q:=e m
 omega
theorem Q5a(hf:Fin S){k:Int}(hk:0<=k/\k<=2)(hm:0<=m/\m<=2)(hb:∀u v,S u v=true->0<=v/\v<9/\(WW k u\/WW m u)):J1 (cn S):=by
 have d:=UN hf;obtain⟨b,g,e,hS⟩:=xA hf
 have f:∀r∈cn S,0<=r.L_/\r.R_<=29/\0<=r.w_/\r.H_<=9:=by
  intro r f;obtain⟨o,i⟩:=d.pos f
  have a:=hb r.L_ r.w_ (by rw[<-QN hf];exact Uy f ((QG _ _ _).2 (by omega)));have b:=hb (r.R_-1) (r.H_-1) (by rw[<-QN hf];exact Uy f ((QG _ _ _).2 (by omega)))
  unfold WW at a b;omega
 have j:∀c∈b,∀s∈c.v,(⟨s.L_,c.lo,s.R_,c.hi⟩:Rect)∈cn S:=λc d s n=>by
  rw[e];exact Qb8.2 ⟨c,d,Qc5.2 ⟨s,n,rfl⟩⟩
 have o:(b.length:Int)<=9-0:=g.runs.len (by omega) λc d=>by
  obtain⟨s,n⟩:=Qp2 _ (g.ne c d)
  grind
 have i:∀c∈b,c.v.length<=10:=λc d=>
  (g.sp c d).places2 (S:=λx=>S x c.lo) (λx=>by rw[<-hS,FT g.runs d]) (λx q=>(hb _ _ q).2.2)
 have t:=CA i;have p:(cn S).length<=120:=by rw[e];omega
 refine⟨p,λr h=>?_,d⟩;obtain⟨o,i⟩:=d.pos h
 have:=f r h
 rw[Yr];omega
def PY(l:List Line):Prop:=∃k m:Int,(0<=k/\k<=2)/\(0<=m/\m<=2)/\∀x∈l,∀u v,Q2 x.g_.t_ u v=true->0<=v/\v<9/\(WW k u\/WW m u)
theorem PY.of(h2:l.length<=2)(h:∀x∈l,(1<=x.p_/\x.p_<=3)/\PZ (10*(x.p_-1)) (Q2 x.g_.t_)):PY l:=by
 match l,h2,h with
 |[],_,_=>exact⟨0,0,by omega,by omega,λx g=>by simp at g⟩
 |[x],_,h=>
  obtain⟨e,b⟩:=h x (by simp);refine⟨x.p_-1,0,by omega,by omega,λy f u v a=>?_⟩
  rw[Qb0.1 f]at a;have:=b u v a
  unfold WW;omega
 |[x,y],_,h=>
  obtain⟨e,b⟩:=h x (by simp);obtain⟨i,d⟩:=h y (by simp)
  refine⟨x.p_-1,y.p_-1,by omega,by omega,λz c u v a=>?_⟩;unfold WW
  rcases Qf0.1 c with rfl|c
  .have:=b u v a;omega
  .rw [Qb0.1 c]at a
   have:=d u v a;omega
 |_::_::_::_,h2,_=>simp at h2
section
variable {F:Nat} {rs:List Re_} {l:List Line} {ps:List Re_} {L:List Scheme} {w:World}
theorem GB.join(hF:Q6<=F)(h:GB rs l ps L w)(hp:PY l){sel:Line->TS->Sq}(hs:SelOk sel):J1 (cn (Q2 (Qj w rs (gl L k) sel l)))/\Un F (Qj w rs (gl L k) sel l)=some (⟨cn (Q2 (Qj w rs (gl L k) sel l))⟩,0):=by
 have f:J1 (cn (Q2 (Qj w rs (gl L k) sel l))):=by
  obtain⟨a,b,j,n,d⟩:=hp;refine Q5a (Qz _) j n λu v c=>?_
  rw[vr hs u v l,Qc6]at c;obtain⟨x,o,e⟩:=c
  exact d x o u v (Q1M hs x u v e)
 have g:=vq (w:=w) (rs:=rs) (s:=gl L k) hs h.trm;have i:=h.few
 refine⟨f,?_⟩;have:=f.1
 rw[Sv hF (by omega) λr m=>(Q1N hs h.trm r m).2,Qa1 (by omega)]
theorem GB.Farm(hF:Q6+3<=F)(h:GB rs l ps L w)(hp:PY l)(hk:k<L.length):Fd F l ps L (gl L k).N_ w=some (⟨⟨cn (Q2 (Qj w rs (gl L k) Um l))⟩,⟨cn (Q2 (Qj w rs (gl L k) KP l))⟩,⟨cn (Q2 (Qj w rs (gl L k) UZ l))⟩⟩,0):=by
 have c:Q6<=F:=by omega
 have u:=h.lt.len;have p:=h.goodL
 have b:Zx (Yk (gl L k).N_) L=(k:Int):=by
  obtain⟨t,v,n⟩:=Ha (Yk (gl L k).N_) L;have m:L.any (Yk (gl L k).N_)=true:=Qc6.2 ⟨_,K3 hk,by unfold Yk;simp⟩
  have g:0<=Zx (Yk (gl L k).N_) L:=by
   unfold Zx
   grind
  have hp:=(n g).1;have a:∀d i,i+d<L.length->0<d->(gl L i).N_<(gl L (i+d)).N_:=λd=>by
   induction d with
   |zero=>intro i _ g;omega
   |succ d ih=>
    intro i q _;have f:=p.asc (i+(d+1)) (by omega) q
    grind
  unfold Yk at hp;have hp:=eq_of_beq hp
  obtain⟨j,hj⟩:∃j:Nat,Zx (Yk (gl L k).N_) L=j:=⟨_,(Qm6 g).symm⟩;rw[hj]at t⊢
  have hp:(gl L j).N_=(gl L k).N_:=by
   have e:(Zx (Yk (gl L k).N_) L).toNat=j:=by omega
   rw[<-e];exact hp
  rcases Qn5 j k with f|f|f
  .have:=a (k-j) j (by omega) (by omega)
   grind
  .rw [f]
  .have:=a (j-k) k (by omega) (by omega)
   grind
 have o:=h.join c hp (k:=k) Xz;have r:=h.join c hp (k:=k) jL
 have s:=h.join c hp (k:=k) jK;unfold Fd
 refine Q4 (h.check hF) (Z4 rfl (Q4 (qA c (by omega) _) ?_));rw[b]
 refine Z4 (Qa5 (by omega)) (Q9 (by omega) ?_);rw[Qa3]
 refine Q4 (h.farm hF hk) (Z4 rfl (Q4 (h.apart c) (Z4 rfl ?_)));unfold GK
 exact Q4 (Q4 o.2 (Z4 rfl (Q9 (V9 (by omega) (by omega)) (Q4 r.2 (Z4 rfl (Q9 (V9 (by omega) (by omega)) (Q4 s.2 (Z4 rfl (Q9 (V9 (by omega) (by omega)) rfl))))))))) rfl
end
def Kt(b:List Bracket)(n:Int)(i:Nat):Int:=K8 0 (Qa n (gl b i).up_-QM b i)*(gl b i).rate_
def Uc(b:List Bracket)(n:Int)(k:Nat):Int:=Zt (Kt b n) k
theorem Q0o{l:List Bracket}(h:WJ l=true)(hi:i<l.length):0<=QM l i/\QM l i<=268435456:=by
 cases i with
 |zero=>exact⟨Qn3 _,by show(0:Int)<=_;omega⟩
 |succ i=>
  have:=(xK h).2 i (by omega)
  have e:QM l (i+1)=(gl l i).up_:=rfl;omega
theorem xT{l:List Bracket}(h:WJ l=true)(h0:0<=n)(h1:n<=m)(h2:m<=1048576)(hi:i<l.length):0<=Kt l n i/\Kt l n i<=Kt l m i/\Kt l m i<=1099511627776:=by
 obtain⟨f,g,a,e⟩:=(xK h).2 i hi;have j:=Q0o h hi
 have b:0<=K8 0 (Qa n (gl l i).up_-QM l i):=by unfold K8;split<;>omega
 have c:K8 0 (Qa n (gl l i).up_-QM l i)<=K8 0 (Qa m (gl l i).up_-QM l i):=by unfold K8 Qa;repeat' split<;>omega
 have d:K8 0 (Qa m (gl l i).up_-QM l i)<=1048576:=by unfold K8 Qa;repeat' split<;>omega
 unfold Kt;refine⟨Int.mul_nonneg b a,Int.mul_le_mul_of_nonneg_right c a,?_⟩
 have:=Int.mul_le_mul d e a (by omega:(0:Int)<=1048576)
 omega
theorem Z5G{l:List Bracket}(h:WJ l=true)(h0:0<=n)(h2:n<=1048576):∀{k:Nat},k<=l.length->0<=Uc l n k/\Uc l n k<=k*1099511627776:=by
 intro k
 induction k with
 |zero=>intro _;exact⟨Qn3 _,by show(0:Int)<=_;omega⟩
 |succ k ih=>
  intro a;have c:=ih (by omega)
  have b:=xT h h0 (Qn3 n) h2 (i:=k) (by omega);have e:Uc l n (k+1)=Uc l n k+Kt l n k:=rfl
  omega
theorem Z3Q(F:Nat){v:Int}(h0:0<=v)(h1:v<=1125899906842624):CQ F v 100=some (v.tdiv 100):=by
 have c:0<=v.tdiv 100:=Int.tdiv_nonneg h0 (by omega);have d:v.tdiv 100<=v:=Int.tdiv_le_self _ h0
 have b:0<=v.tmod 100:=Int.tmod_nonneg _ h0;have a:CN F v 100=some true:=by
  unfold CN Pw;exact Y9 (Qa6 (by omega)) (Y9 (Qa6 h1) (Y9 rfl rfl))
 unfold CQ;exact Q4 a (Z4 rfl (Q9 ⟨V9 (by omega) (by omega),by omega⟩ (Q9 (by omega) (Z4 (Qa5 (by omega)) rfl))))
theorem jT(hF:Q6+3<=F){s:Scheme}(hs:SD 3 s)(h1:Zc 3 s=0)(n0:0<=n)(n1:n<=1048576):JJ F s n=some ((Uc s.brackets_ n s.brackets_.length).tdiv 100,0):=by
 have c:Q6<=F:=by omega
 unfold Q6 at c;have b:=(DP h1).2.2.2.2.2.2.1
 obtain⟨p,g⟩:=xK b;unfold JJ
 refine Q4 (BM (by omega) hF hs) ?_;rw[h1]
 refine Z4 (by simp) (Z4 (Qa5 (by omega)) ?_);rw[Qa5 (show ¬(268435456:Int)<n by omega)]
 unfold RN;refine Z4 rfl ?_
 refine z5 (λz:Int×Int×Int=>∃i:Nat,i<=s.brackets_.length/\z=(Uc s.brackets_ n i,QM s.brackets_ i,(i:Int))) (λz=>s.brackets_.length-z.2.2.toNat) (λa z m k=>?_) ⟨0,Qc3 _,rfl⟩ (by simp;omega);obtain⟨i,d,rfl⟩:=m
 have f:=Z5G b n0 n1 d;show qE F s n a (Uc s.brackets_ n i) (QM s.brackets_ i) (i:Int)=_
 unfold qE;refine Z6 (λh=>?_) (λh=>?_)
 .have h:i<s.brackets_.length:=by have:=Qa8 h;omega
  obtain⟨q,u,o,r⟩:=g i h;have v:=Q0o b h
  have t:=xT b n0 (Qn3 n) n1 h;rw[Qa3]
  have j : -268435456<=Qa n (gl s.brackets_ i).up_-QM s.brackets_ i/\Qa n (gl s.brackets_ i).up_-QM s.brackets_ i<=268435456:=by unfold Qa;split<;>omega
  have e:K8 0 (Qa n (gl s.brackets_ i).up_-QM s.brackets_ i)*(gl s.brackets_ i).rate_=Kt s.brackets_ n i:=rfl;rw[e]
  refine Q9 (by omega) (Q9 (V9 (by omega) (by omega)) (Q9 (V9 (by omega) (by omega)) (Q9 (V9 (by omega) (by omega)) (Q9 (V9 (by omega) (by omega)) (k _ ⟨i+1,h,rfl⟩ (by simp only;omega))))))
 .have h:i=s.brackets_.length:=by have:=Qb2 h;omega
  subst h;unfold qD
  exact Q4 (Z3Q F f.1 (by omega)) rfl
theorem Z5H{s:Scheme}(h1:Zc 3 s=0)(n0:0<=n)(h:n<=m)(hm:m<=1048576):(Uc s.brackets_ n s.brackets_.length).tdiv 100<=(Uc s.brackets_ m s.brackets_.length).tdiv 100:=by
 have b:=(DP h1).2.2.2.2.2.2.1;have c:Uc s.brackets_ n s.brackets_.length<=Uc s.brackets_ m s.brackets_.length:=Ra λi a=>(xT b n0 h hm a).2.1
 grind
end
section
theorem Q6J{α:Type}{x:List α}{q:α->α->Option Int}(c:α->α->Int)(hl:x.length<=Z9)(hq:∀ a ∈ x,∀ b ∈ x,q a b=some (c a b))(hn:∀ a b,c b a=-c a b)(ht:∀ a b d,c a b<=0->c b d<=0->c a d<=0)(hd:x.Pairwise fun a b=>c a b≠0):
  ∃r,Vi x q=some r/\r.Perm x:=by
 let r:=x.mergeSort λa b=>decide (c a b<=0)
 have k:r.Perm x:=List.mergeSort_perm x _;have t:r.Pairwise λa b=>decide (c a b<=0)=true:=Qp9 (le:=λa b=>decide (c a b<=0)) (λa b d m u=>Qa6 (ht a b d (Qa8 m) (Qa8 u))) (λa b=>by
  grind) x
 have o : r.Pairwise λa b=>c a b≠0:=(k.pairwise_iff λ{a b} h=>by rw[hn a b];omega).2 hd
 have f:r.Pairwise λa b=>c a b<0:=(t.and o).imp λh=>by have:=Qa8 h.1;have:=h.2;omega
 have e:∀a,a∈r->a∈x:=λa g=>k.mem_iff.1 g
 refine⟨r,gQ hl ⟨k,?_,λa g=>?_⟩,k⟩
 .rw [Qc8]at f⊢
  intro i j p s n;have m:=f i j p s n
  refine⟨⟨_,hq _ (e _ (Qd8 p)) _ (e _ (Qd8 s)),m⟩,⟨_,hq _ (e _ (Qd8 s)) _ (e _ (Qd8 p)),?_⟩⟩;rw[hn];omega
 .have:=hn a a
  exact⟨_,hq _ (e a g) _ (e a g),by omega⟩
abbrev pk(p:Place):Int×Int:=(p.application_,p.line_)
def ZA:List Place->List Place->Int
 |[],[]=>0
 |[],_::_=> -1
 |_::_,[]=>1
 |a::x,b::y=>if We (pk a) (pk b)=0 then ZA x y else We (pk a) (pk b)
theorem xC(a b:Int×Int):We b a=-We a b:=by
 unfold We
 grind
theorem Ft{a b:Int×Int}:We a b=0↔a=b:=by
 constructor
 .intro h
  have d:¬WC a b:=Q3k.1 (by omega);have c:¬WC b a:=Q3k.1 (by rw[xC];omega)
  exact Qg2 λe=>(Q0R e).elim d c
 .rintro rfl
  have:=xC a a
  omega
theorem Z0B{a b:Place}(h:pk a=pk b):a=b:=by
 cases a;cases b
 grind
theorem Q3i:∀a b,ZA b a=-ZA a b
 |[],[]=>rfl
 |[],_::_=>rfl
 |_::_,[]=>rfl
 |a::x,b::y=>by
  rw[ZA,ZA,Q3i x y,xC]
  grind
theorem Q3g:∀{a b},ZA a b=0->a=b
 |[],[],_=>rfl
 |[],_::_,h=>by rw[ZA]at h;omega
 |_::_,[],h=>by rw[ZA]at h;omega
 |a::x,b::y,h=>by
  rw[ZA]at h;split at h
  .rename_i c
   rw[Z0B (Ft.1 c),Q3g h]
  all_goals grind
theorem Q3h:∀a b d,ZA a b<=0->ZA b d<=0->ZA a d<=0
 |[],_,[],_,_=>by rw[ZA];omega
 |[],_,_::_,_,_=>by rw[ZA];omega
 |_::_,[],_,h,_=>by rw[ZA]at h;omega
 |_::_,_::_,[],_,h=>by rw[ZA]at h;omega
 |a::x,b::y,c::z,h1,h2=>by
  have i:=Q3h x y z;rw[ZA]at h1 h2⊢
  by_cases e1:We (pk a) (pk b)=0
  .rw [Ft.1 e1]at h1⊢
   rw[Qa2 (Ft.2 rfl)]at h1
   grind
  .rw [Qa1 e1]at h1
   have e:WC (pk a) (pk b):=Fu.1 (by omega);have f:WC (pk a) (pk c):=by
    by_cases e2:We (pk b) (pk c)=0
    .rw [<-Ft.1 e2];exact e
    .rw [Qa1 e2]at h2
     have g:WC (pk b) (pk c):=Fu.1 (by omega);unfold WC at *;omega
   have:=Fu.2 f
   grind
abbrev Qi(l:List Version)(i k:Nat):Line:=gl (gl l i).lines_ k
structure Sh (l v:List Version):Prop where
 len:l.length=v.length
 lns:∀i,(gl l i).lines_.length=(gl v i).lines_.length
 sam:∀i k,(Qi l i k).p_=(Qi v i k).p_/\(Qi l i k).c_=(Qi v i k).c_/\(Qi l i k).s_=(Qi v i k).s_
 sub:∀i k x y,Q2 (Qi l i k).g_.t_ x y=true->Q2 (Qi v i k).g_.t_ x y=true
 tr:∀i k,TR (Qi l i k).g_.t_
section
variable {F:Nat} {l m v:List Version} {p:Place} {r:List Rect}
theorem Sh.refl(h:∀i k,TR (Qi l i k).g_.t_):Sh l l:=⟨rfl,λ_=>rfl,λ_ _=>⟨rfl,rfl,rfl⟩,λ_ _ _ _ h=>h,h⟩
theorem Sh.trans(h:Sh l m)(g:Sh m v):Sh l v:=⟨h.len.trans g.len,λi=>(h.lns i).trans (g.lns i),λi k=>⟨(h.sam i k).1.trans (g.sam i k).1,(h.sam i k).2.1.trans (g.sam i k).2.1,(h.sam i k).2.2.trans (g.sam i k).2.2⟩,λi k x y e=>g.sub i k x y (h.sub i k x y e),h.tr⟩
theorem Sh.inp(h:Sh l v)(q:Place):ZQ l q↔ZQ v q:=by
 unfold ZQ;rw[h.len,h.lns]
theorem Q1F(l:List Version)(A:Nat)(f:Version->Version)(j:Nat)(hA:A<l.length):gl (l.modify A f) j=if j=A then f (gl l A)else gl l j:=by
 unfold gl
 grind
theorem Z3g(l:List Line)(K:Nat)(f:Line->Line)(j:Nat)(hK:K<l.length):gl (l.modify K f) j=if j=K then f (gl l K)else gl l j:=by
 unfold gl
 grind
theorem Q3t(h:ZQ l p):p.application_.toNat<l.length/\p.line_.toNat<(gl l p.application_.toNat).lines_.length:=by
 obtain⟨b,c,d,a⟩:=h;omega
theorem FK(h:ZQ l p)(r:List Rect)(i k:Nat):Qi (UI l p r) i k=if i=p.application_.toNat/\k=p.line_.toNat then {Qi l i k with g_:=⟨r⟩}else Qi l i k:=by
 obtain⟨a,b⟩:=Q3t h;unfold Qi UI
 rw[Q1F _ _ _ _ a]
 by_cases e:i=p.application_.toNat
 .subst e
  rw[Qa2 rfl];simp only
  rw[Z3g _ _ _ _ b]
  grind
 all_goals grind
theorem Z1C(h:ZQ l p)(r:List Rect)(i:Nat):(gl (UI l p r) i).lines_.length=(gl l i).lines_.length:=by
 obtain⟨a,b⟩:=Q3t h;unfold UI
 rw[Q1F _ _ _ _ a]
 grind
theorem Q3s(hF:Q6<=F)(h:ZQ l p)(ht:∀ i k,TR (Qi l i k).g_.t_)(hr:r.length<=8000)(hp:∀ q ∈ r,q.L_<q.R_):
  ∃l',xG F l p r=some l' /\ Sh l' l/\∀x y,Q2 (Qi l' p.application_.toNat p.line_.toNat).g_.t_ x y=true->Q2 r x y=false:=by
 have a:=ht p.application_.toNat p.line_.toNat;have g:=a.val.1
 have b:Fin λx y=>Q2 (PJ l p) x y && !Q2 r x y:=vC _ _
 have c:QU F (PJ l p) r (λf d=>Kq F f d)=some (cn λx y=>Q2 (PJ l p) x y && !Q2 r x y):=by
  refine JT hF (by show(Qi l _ _).g_.t_.length+_<=_;omega) a.val.pos hp (k:=λu v=>u && !v) rfl λu v=>?_
  cases u<;>cases v<;>rfl
 refine⟨_,Q9 h (Q4 c rfl),⟨?_,Z1C h _,λi k=>?_,λi k x y=>?_,λi k=>?_⟩,λx y=>?_⟩
 .unfold UI;rw[Qj6]
 .rw [FK h]
  split<;>exact⟨rfl,rfl,rfl⟩
 .rw [FK h]
  split
  .rename_i e
   obtain⟨rfl,rfl⟩:=e;rw[QN b,Qa4]
   exact λh=>h.1
  .exact λh=>h
 .rw [FK h]
  split
  .exact a.part b λu v q=>(Qa4 _ _ ▸ q).1
  .exact ht i k
 .rw [FK h,Qa2 ⟨rfl,rfl⟩,QN b,Qa4]
  exact λh=>by simpa using h.2
theorem Q3w(hF:Q6<=F):∀{y:List Yield} {l:List Version},(∀i k,TR (Qi l i k).g_.t_)->(∀x∈y,ZQ l x.place_/\x.g_.t_.length<=8000/\∀q∈x.g_.t_,q.L_<q.R_)->∃l',HR F l y=some l' /\ Sh l' l
 |[],l,ht,_=>⟨l,rfl,Sh.refl ht⟩
 |x::y,l,ht,hy=>by
  obtain⟨d,h,e⟩:=hy x (by simp);obtain⟨m,g,a,_⟩:=Q3s hF d ht h e
  obtain⟨l',j,b⟩:=Q3w hF (y:=y) a.tr λz o=>by
   obtain⟨n,f,c⟩:=hy z (by simp[o]);exact⟨(a.inp _).2 n,f,c⟩
  exact⟨l',Q4 g j,b.trans a⟩
theorem Q3q(hF:Q6<=F)(hr:r.length<=8000)(hp:∀ q ∈ r,q.L_<q.R_):∀ {y:List Place} {l:List Version},(∀ i k,TR (Qi l i k).g_.t_)->(∀ x ∈ y,ZQ l x) ->
  ∃l',HO F r l y=some l' /\ Sh l' l/\∀q∈y,∀a b,Q2 (Qi l' q.application_.toNat q.line_.toNat).g_.t_ a b=true->Q2 r a b=false
 |[],l,ht,_=>⟨l,rfl,Sh.refl ht,λq c=>by simp at c⟩
 |x::y,l,ht,hy=>by
  obtain⟨m,f,d,n⟩:=Q3s hF (hy x (by simp)) ht hr hp;obtain⟨l',g,e,n2⟩:=Q3q hF hr hp (y:=y) d.tr λz j=>(d.inp _).2 (hy z (by simp[j]))
  refine⟨l',Q4 f g,e.trans d,λq c a b h=>?_⟩;rcases Qf0.1 c with rfl|c
  .exact n a b (e.sub _ _ a b h)
  all_goals grind
theorem Q3x(hF:Q6<=F):∀ {ds:List Double} {l:List Version},(∀ i k,TR (Qi l i k).g_.t_)->(∀ d ∈ ds,d.claims_.length<=100/\(∀ p ∈ d.claims_,ZQ l p)/\d.g_.t_.length<=8000/\∀ q ∈ d.g_.t_,q.L_<q.R_) ->
  ∃l',HS F l ds=some l' /\ Sh l' l/\∀d∈ds,∀p∈d.claims_,∀a b,Q2 (Qi l' p.application_.toNat p.line_.toNat).g_.t_ a b=true->Q2 d.g_.t_ a b=false
 |[],l,ht,_=>⟨l,rfl,Sh.refl ht,λq t=>by simp at t⟩
 |x::y,l,ht,hy=>by
  obtain⟨H,s,B,n⟩:=hy x (by simp);obtain⟨m,A,c,E⟩:=Q3q hF B n (y:=x.claims_) ht s
  obtain⟨l',C,g,n2⟩:=Q3x hF (ds:=y) c.tr λz G=>by
   obtain⟨o,D,u,j⟩:=hy z (by simp[G]);exact⟨o,λp e=>(c.inp _).2 (D p e),u,j⟩
  refine⟨l',Q9 (by unfold Z9;omega) (Q4 A C),g.trans c,λd f p e a b h=>?_⟩;rcases Qf0.1 f with rfl|f
  .exact E p e a b (g.sub _ _ a b h)
  all_goals grind
end
end
theorem Q7X{l:List Place}(hl:l.length<=Z9):Ry F l=some l:=by
 unfold Ry
 cases h:l with
 |nil=>
  show Vs _ _=_;unfold Vs
  exact @Q9 _ _ (Classical.propDecidable _) _ _ rfl rfl
 |cons a l' =>
  have:(a::l').length=l'.length+1:=rfl
  show(gd _ _)=_;rw[<-h]
  refine Z5 (k:=?_)
  .rfl
theorem Q7V{l:List Version}(hl:l.length<=Z9):Xv F l=some l:=by
 unfold Xv
 cases h:l with
 |nil=>
  show Vs _ _=_;unfold Vs
  exact @Q9 _ _ (Classical.propDecidable _) _ _ rfl rfl
 |cons a l' =>
  have:(a::l').length=l'.length+1:=rfl
  show(gd _ _)=_;rw[<-h]
  refine Z5 (k:=?_)
  .rfl
theorem Q7Z(hl:l.length<=Z9):Xx F l=some l:=by
 unfold Xx
 cases h:l with
 |nil=>
  show Vs _ _=_;unfold Vs
  exact @Q9 _ _ (Classical.propDecidable _) _ _ rfl rfl
 |cons a l' =>
  have:(a::l').length=l'.length+1:=rfl
  show(gd _ _)=_;rw[<-h]
  refine Z5 (k:=?_)
  .rfl
structure SmV (v:List Version):Prop where
 len:v.length<=3
 lns:∀i,(gl v i).lines_.length<=2
 tr:∀i k,TR (Qi v i k).g_.t_
def WR(v:List Version)(i k:Nat):List CrosscheckLine:=(List.range k).map λk:Nat=>⟨⟨(i:Int),(k:Int)⟩,(Qi v i k).g_.t_⟩
def Wg(v:List Version)(n:Nat):List CrosscheckLine:=(List.range n).flatMap λi=>WR v i (gl v i).lines_.length
theorem cc(v:List Version)(i k:Nat):WR v i (k+1)=WR v i k++[⟨⟨(i:Int),(k:Int)⟩,(Qi v i k).g_.t_⟩]:=by
 unfold WR;rw[Ql9,Qd6];rfl
theorem xU(v:List Version)(n:Nat):Wg v (n+1)=Wg v n++WR v n (gl v n).lines_.length:=by
 unfold Wg;rw[Ql9,Qs7];simp
theorem cd(v:List Version)(i k:Nat):(WR v i k).length=k:=by unfold WR;simp
theorem SmV.all(h:SmV v)(n:Nat):(Wg v n).length<=2*n:=by
 induction n with
 |zero=>simp[Wg]
 |succ n ih=>
  have:=h.lns n
  rw[xU,Qb7,cd];omega
theorem Q2J(hF:Q6<=F)(h:SmV v):PB F v=some (Wg v v.length,0):=by
 have e:=hF;unfold Q6 at e
 have n:=h.len;unfold PB
 refine z5 (λz:Bool×Int×List CrosscheckLine=>∃i:Nat,i<=v.length/\z=(true,(i:Int),Wg v i)) (λz=>v.length-z.2.1.toNat) (λa z d j=>?_) ⟨0,Qc3 _,rfl⟩ (by simp;omega);obtain⟨i,o,rfl⟩:=d
 have u:=h.all i;show xj F v a true (i:Int) (Wg v i)=_
 unfold xj;refine Z6 (λq=>?_) (λq=>?_)
 .have q:i<v.length:=by have:=Qa8 q;omega
  have t:=h.lns i;refine Q9 (by omega) ?_
  refine z5 (λz:Bool×Int×List CrosscheckLine=>∃k:Nat,k<=(gl v i).lines_.length/\z=(true,(k:Int),Wg v i++WR v i k)) (λz=>(gl v i).lines_.length-z.2.1.toNat) (λg z d c=>?_) ⟨0,Qc3 _,by simp[WR]⟩ (by simp;omega);obtain⟨k,s,rfl⟩:=d
  have f:(Wg v i++WR v i k).length<=2*i+k:=by rw[Qb7,cd];omega
  show xi F v (i:Int) a g true (k:Int) (Wg v i++WR v i k)=_;unfold xi
  simp only[Qa3];refine Z6 (λb=>?_) (λb=>?_)
  .have b:k<(gl v i).lines_.length:=by have:=Qa8 b;omega
   refine Q9 (by omega) (Q9 (by simp only[Qb1,Qc2];unfold Z9;omega) (Y9 rfl (Q4 (Wz hF _) ?_)));rw[Wi (h.tr i k).val]
   unfold Fj;simp only[Qa3]
   refine Q9 (V9 (by omega) (by omega)) (c _ ⟨k+1,b,?_⟩ (by simp only;omega));rw[cc,Qh6];rfl
  .have b:k=(gl v i).lines_.length:=by have:=Qb2 b;omega
   unfold xh;refine Z4 (Qa5 (by omega)) ?_
   unfold xg;refine Q9 (V9 (by omega) (by omega)) (j _ ⟨i+1,q,?_⟩ (by simp only;omega))
   rw[xU,b];rfl
 .have q:i=v.length:=by have:=Qb2 q;omega
  rw[q];unfold xf
  exact Z4 rfl rfl
theorem PU{n:Nat}{x:CrosscheckLine}:x∈Wg v n↔∃i k,i<n/\k<(gl v i).lines_.length/\x=⟨⟨(i:Nat),(k:Nat)⟩,(Qi v i k).g_.t_⟩:=by
 unfold Wg WR
 grind
theorem ce(v:List Version)(i:Nat):∀k,(WR v i k).Pairwise λa b=>a.place_≠b.place_
 |0=>.nil
 |k+1=>by
  rw[cc,Qd5];refine⟨ce v i k,Qe6 _ _,λa c b d e=>?_⟩
  rw[Qb0.1 d]at e;obtain⟨j,f,rfl⟩:=Qc5.1 c
  grind
theorem Q3X(v:List Version):∀n,(Wg v n).Pairwise λa b=>a.place_≠b.place_
 |0=>.nil
 |n+1=>by
  rw[xU,Qd5];refine⟨Q3X v n,ce v n _,λa c b d e=>?_⟩
  obtain⟨i,k,f,g,rfl⟩:=PU.1 c;obtain⟨j,h,rfl⟩:=Qc5.1 d
  grind
structure FaI (P:List CrosscheckLine) (o:List Face):Prop where
 cnt:o.length+1<=2 ^ P.length
 tr:∀f∈o,TR f.t_
 cl:∀f∈o,f.claims_≠[]/\f.claims_.length<=P.length/\∀p∈f.claims_,∃q∈P,q.place_=p
 ds:o.Pairwise λf g=>f.claims_≠g.claims_
 cov:∀x y,∀q∈P,Q2 q.t_ x y=true->∃f∈o,Q2 f.t_ x y=true/\∀r∈P,Q2 r.t_ x y=true->r.place_∈f.claims_
structure NeI (q:CrosscheckLine) (o n:List Face):Prop where
 cnt:n.length<=2*o.length
 tr:∀f∈n,TR f.t_
 cl:∀f∈n,∃g∈o,f.claims_=g.claims_\/f.claims_=g.claims_++[q.place_]
 ds:n.Pairwise λf g=>f.claims_≠g.claims_
 cov:∀x y,∀g∈o,Q2 g.t_ x y=true->∃f∈n,Q2 f.t_ x y=true/\(∀p∈g.claims_,p∈f.claims_)/\(Q2 q.t_ x y=true->q.place_∈f.claims_)
def Vy(q:CrosscheckLine)(g:Face):List Face:=if 0<(cn λx y=>Q2 g.t_ x y&&Q2 q.t_ x y).length then[⟨cn λx y=>Q2 g.t_ x y&&Q2 q.t_ x y,g.claims_++[q.place_]⟩]else[]
def Jf(q:CrosscheckLine)(g:Face):List Face:=if 0<(cn λx y=>Q2 g.t_ x y && !Q2 q.t_ x y).length then[⟨cn λx y=>Q2 g.t_ x y && !Q2 q.t_ x y,g.claims_⟩]else[]
theorem xz(hf:Fin S)(h:S x y=true):0<(cn S).length:=by
 cases e:cn S with
 |nil=>
  have:=QN hf x y
  rw[e,h]at this;cases this
 |cons a l=>simp
theorem FC(h:f∈Vy q g):f=⟨cn λx y=>Q2 g.t_ x y&&Q2 q.t_ x y,g.claims_++[q.place_]⟩:=by
 unfold Vy at h
 grind
theorem Tv(h:f∈Jf q g):f=⟨cn λx y=>Q2 g.t_ x y && !Q2 q.t_ x y,g.claims_⟩:=by
 unfold Jf at h
 grind
theorem NeI.step{n:List Face}(h:NeI q o n)(hg:TR g.t_)(hq:∀f∈o++[g],q.place_∉f.claims_)(hd:∀f∈o,f.claims_≠g.claims_):NeI q (o++[g]) (n++Vy q g++Jf q g):=by
 have A:Fin λx y=>Q2 g.t_ x y&&Q2 q.t_ x y:=Z3q _ _
 have z:Fin λx y=>Q2 g.t_ x y && !Q2 q.t_ x y:=vC _ _
 have G:(Vy q g).length<=1:=by unfold Vy;split<;>simp
 have I:(Jf q g).length<=1:=by unfold Jf;split<;>simp
 have B:=hq g (by simp);refine⟨?_,λf c=>?_,λf c=>?_,?_,λx y f c i=>?_⟩
 .have:=h.cnt
  grind
 .rcases Qa9.1 c with c|c
  .rcases Qa9.1 c with c|c
   .exact h.tr f c
   .rw [FC c];exact hg.part A λu v q=>(Qa4 _ _ ▸ q).1
  .rw [Tv c];exact hg.part z λu v q=>(Qa4 _ _ ▸ q).1
 .rcases Qa9.1 c with c|c
  .rcases Qa9.1 c with c|c
   .obtain ⟨e,t,j⟩:=h.cl f c
    grind
   .rw [FC c];exact⟨g,by simp,.inr rfl⟩
  .rw [Tv c];exact⟨g,by simp,.inl rfl⟩
 .have k:∀ f ∈ n,f.claims_≠g.claims_/\f.claims_≠g.claims_++[q.place_]:=fun f c=>by
   obtain⟨e,t,j⟩:=h.cl f c;have H:=hq e (by simp[t])
   have E:=hd e t;rcases j with j|j<;>rw[j]
   .grind
   .refine ⟨λD=>B ?_,λD=>E (Qv3 D)⟩
    grind
  rw[Qh6,Qd5];refine⟨h.ds,?_,λa s b d=>?_⟩
  .rw [Qd5]
   refine⟨?_,?_,λa s b d=>?_⟩
   .unfold Vy;split
    .grind
    .exact .nil
   .unfold Jf;split
    .grind
    .exact .nil
   .rw [FC s,Tv d]
    grind
  .rcases Qa9.1 d with d|d
   .rw [FC d];exact(k a s).2
   .rw [Tv d];exact(k a s).1
 .rcases Qa9.1 c with c|c
  .obtain ⟨e,t,j⟩:=h.cov x y f c i
   grind
  .obtain rfl:=Qb0.1 c
   cases hQ:Q2 q.t_ x y with
   |true=>
    have hS:(Q2 f.t_ x y&&Q2 q.t_ x y)=true:=by rw[i,hQ];rfl
    refine⟨⟨cn λx y=>Q2 f.t_ x y&&Q2 q.t_ x y,f.claims_++[q.place_]⟩,?_,?_,λp C=>by simp[C],λ_=>by simp⟩
    .unfold Vy
     rw[Qa2 (xz A hS)];simp
    .show Q2 (cn _) x y=true
     rw[QN A];exact hS
   |false=>
    have hS:(Q2 f.t_ x y && !Q2 q.t_ x y)=true:=by rw[i,hQ];rfl
    refine⟨⟨cn λx y=>Q2 f.t_ x y && !Q2 q.t_ x y,f.claims_⟩,?_,?_,λp C=>C,λh=>by cases h⟩
    .unfold Jf
     rw[Qa2 (xz z hS)];simp
    .show Q2 (cn _) x y=true
     rw[QN z];exact hS
def VU(q:CrosscheckLine)(seen:List Rect):List Face:=if 0<(cn λx y=>Q2 q.t_ x y && !Q2 seen x y).length then[⟨cn λx y=>Q2 q.t_ x y && !Q2 seen x y,[q.place_]⟩]else[]
theorem yh(h:f∈VU q seen):f=⟨cn λx y=>Q2 q.t_ x y && !Q2 seen x y,[q.place_]⟩:=by
 unfold VU at h
 grind
theorem FaI.step{P:List CrosscheckLine}{n:List Face}(h:FaI P o)(hn:NeI q o n)(hq:∀r∈P,r.place_≠q.place_)(ht:TR q.t_)(hs:∀x y,Q2 seen x y=P.any λr=>Q2 r.t_ x y):FaI (P++[q]) (n++VU q seen):=by
 have s:Fin λx y=>Q2 q.t_ x y && !Q2 seen x y:=vC _ _
 have R:(VU q seen).length<=1:=by unfold VU;split<;>simp
 refine⟨?_,λf c=>?_,λf c=>?_,?_,λx y r k A=>?_⟩
 .have C:=h.cnt
  have d:=hn.cnt
  grind
 .rcases Qa9.1 c with c|c
  .exact hn.tr f c
  .rw [yh c];exact ht.part s λu v q=>(Qa4 _ _ ▸ q).1
 .rcases Qa9.1 c with c|c
  .obtain ⟨g,i,d⟩:=hn.cl f c
   obtain⟨D,M,B⟩:=h.cl g i
   grind
  .rw [yh c]
   grind
 .rw [Qd5]
  refine⟨hn.ds,?_,λa G b I e=>?_⟩
  .unfold VU;split
   .grind
   .exact .nil
  .rw [yh I]at e
   have e:a.claims_=[q.place_]:=e;obtain⟨g,i,d⟩:=hn.cl a G
   obtain⟨D,M,B⟩:=h.cl g i;rcases d with d|d<;>rw[d]at e
   .obtain ⟨r,k,H⟩:=B q.place_ (by rw[e];simp)
    exact hq r k H
   .have e:g.claims_++[q.place_]=[]++[q.place_]:=e
    exact D (Qv3 e)
 .have K:∀ z ∈ P,Q2 z.t_ x y=true->∃ f ∈ n++VU q seen,Q2 f.t_ x y=true/\∀ r ∈ P++[q],Q2 r.t_ x y=true->r.place_ ∈ f.claims_:=fun z E j=>by
   obtain⟨g,i,C,d⟩:=h.cov x y z E j;obtain⟨f,c,O,N,Q⟩:=hn.cov x y g i C
   grind
  by_cases hP:∃z∈P,Q2 z.t_ x y=true
  .grind
  .have k:r=q:=by
    grind
   subst k;have t:Q2 seen x y=false:=by
    grind
   have hS:(Q2 r.t_ x y && !Q2 seen x y)=true:=by rw[A,t];rfl
   refine⟨⟨cn λx y=>Q2 r.t_ x y && !Q2 seen x y,[r.place_]⟩,?_,?_,λz E J=>?_⟩
   .unfold VU
    rw[Qa2 (xz s hS)];simp
   .show Q2 (cn _) x y=true
    rw[QN s];exact hS
   all_goals grind
section
section
variable {F:Nat}
theorem Z5c(hF:Q6<=F){a b:List Rect}(hl:a.length+b.length<=16000)(ha:∀r∈a,r.L_<r.R_)(hb:∀r∈b,r.L_<r.R_):QU F a b (λy0 y1=>xr F y0 y1)=some (cn λx y=>Q2 a x y&&Q2 b x y):=
 JT hF hl ha hb (k:=λu v=>u&&v) rfl λu v=>by cases u<;>cases v<;>rfl
theorem Q3l(hF:Q6<=F){a b:List Rect}(hl:a.length+b.length<=16000)(ha:∀r∈a,r.L_<r.R_)(hb:∀r∈b,r.L_<r.R_):QU F a b (λy0 y1=>Kq F y0 y1)=some (cn λx y=>Q2 a x y && !Q2 b x y):=
 JT hF hl ha hb (k:=λu v=>u && !v) rfl λu v=>by cases u<;>cases v<;>rfl
theorem FaI.nil:FaI [] []:=⟨by simp,λf a=>by simp at a,λf a=>by simp at a,.nil,λx y q b=>by simp at b⟩
theorem NeI.nil(q:CrosscheckLine):NeI q [] []:=⟨by simp,λf a=>by simp at a,λf a=>by simp at a,.nil,λx y q b=>by simp at b⟩
theorem Q0r{n:Nat}(h:n<=6):2 ^ n<=64:=Nat.pow_le_pow_right (by omega) h
theorem Z1m{α:Type}[Emb α]{l:List α}(h:i<l.length){x:α}(hx:x∈l.take i++[gl l i]):x∈l:=by rw[<-Qr h]at hx;exact Qi1 hx
theorem Z3F(hF:Q6<=F){L:List CrosscheckLine}(hi:i<L.length)(ho:o.length<=64)(htr:∀ f ∈ o,TR f.t_)(hcl:∀ f ∈ o,f.claims_.length<=6/\(gl L i).place_ ∉ f.claims_)(hds:o.Pairwise fun f g=>f.claims_≠g.claims_)(hq:TR (gl L i).t_){again:(Int×(List Face)×(List Rect))->Option (List Face)}{G:List Face->Prop}(k:∀ n,NeI (gl L i) o n->Ok (Fk F L (i:Int) seen again n) G):
  Ok (Y3 (λag (z:Int×(List Face))=>Fn F L (i:Int) o seen again ag z.1 z.2) F ((0:Int),([]:List Face))) G:=by
 have t:=hF;unfold Q6 at t
 have D:=hq.val.1;refine VS (λz:Int×List Face=>∃(j:Nat) (n:List Face),j<=o.length/\z=((j:Int),n)/\NeI (gl L i) (o.take j) n) (λz=>o.length-z.1.toNat) (λag z I A=>?_) ⟨0,[],Qc3 _,rfl,NeI.nil _⟩ (by simp;omega)
 obtain⟨j,n,K,rfl,d⟩:=I;have s:=d.cnt
 rw[Qd7]at s;show Ok (Fn F L (i:Int) o seen again ag (j:Int) n) G
 unfold Fn;simp only[Qa3]
 refine QE (λq=>?_) (λq=>?_)
 .have q:j<o.length:=by have:=Qa8 q;omega
  have u:=K3 q;have c:=htr _ u
  have C:=c.val.1;obtain⟨H,B⟩:=hcl _ u
  have b:=d.step c (λf h=>(hcl f (Z1m q h)).2) (λf h=>by
   have:=hds
   rw[<-Qg8 j o,Qd5]at this;refine this.2.2 f h _ ?_
   rw[Zy q];simp)
  rw[<-Qr q]at b;have a:∀m,m=n++Vy (gl L i) (gl o j)->Ok (HC F L (i:Int) o (j:Int) ag m) G:=λm E=>by
   subst E;have J:(Vy (gl L i) (gl o j)).length<=1:=by unfold Vy;split<;>simp
   unfold HC Fl;simp only[Qa3]
   refine Qm (Q3l hF (by omega) c.val.pos hq.val.pos) ?_;refine QE (λe=>?_) (λe=>?_)
   .have e:0<(cn λx y=>Q2 (gl o j).t_ x y && !Q2 (gl L i).t_ x y).length:=by have:=Qa8 e;omega
    refine G4 (by simp only[Qb7,Qb1,Qc2];unfold Z9;omega) (G4 (V9 (by omega) (by omega)) (A _ ⟨j+1,_,q,rfl,?_⟩ (by simp only;omega)));unfold Jf at b
    grind
   .have e:¬0<(cn λx y=>Q2 (gl o j).t_ x y && !Q2 (gl L i).t_ x y).length:=by have:=Qb2 e;omega
    refine G4 (V9 (by omega) (by omega)) (A _ ⟨j+1,_,q,rfl,?_⟩ (by simp only;omega));unfold Jf at b
    grind
  refine G4 (by omega) (Qm (Z5c hF (by omega) c.val.pos hq.val.pos) ?_);refine QE (λe=>?_) (λe=>?_)
  .have e:0<(cn λx y=>Q2 (gl o j).t_ x y&&Q2 (gl L i).t_ x y).length:=by have:=Qa8 e;omega
   refine Qm (Q7X (by unfold Z9;omega)) (G4 (by simp only[Qb1,Qc2];unfold Z9;omega) (G4 (by simp only[Qb1,Qc2];unfold Z9;omega) (a _ ?_)));unfold Vy
   rw[Qa2 e]
  .have e:¬0<(cn λx y=>Q2 (gl o j).t_ x y&&Q2 (gl L i).t_ x y).length:=by have:=Qb2 e;omega
   refine a _ ?_;unfold Vy
   rw[Qa1 e,Qj2]
 .have q:j=o.length:=by have:=Qb2 q;omega
  rw[q,Qe5]at d;exact k n d
theorem Z4y(hF:Q6<=F){L:List CrosscheckLine}(hl:L.length<=6)(ht:∀x∈L,TR x.t_)(hd:L.Pairwise λa b=>a.place_≠b.place_):∃o,HD F L=some o/\FaI L o:=by
 have C:=hF;unfold Q6 at C
 suffices h:Ok (HD F L) (FaI L) by
  obtain⟨o,M,N⟩:=h;exact⟨o,M,N⟩
 unfold HD;refine VS (λz:Int×(List Face)×(List Rect)=>∃(i:Nat) (o:List Face) (s:List Rect),i<=L.length/\z=((i:Int),o,s)/\FaI (L.take i) o/\s.length<=120*i/\(∀r∈s,r.L_<r.R_)/\∀x y,Q2 s x y=(L.take i).any λr=>Q2 r.t_ x y) (λz=>L.length-z.1.toNat) (λc z O K=>?_) ⟨0,[],[],Qc3 _,rfl,FaI.nil,by simp,λr d=>by simp at d,λx y=>rfl⟩ (by simp;omega)
 obtain⟨i,o,s,Q,rfl,g,R,G,t⟩:=O;show Ok (xp F L c (i:Int) o s) _
 unfold xp;refine QE (λq=>?_) (λq=>?_)
 .have q:i<L.length:=by have:=Qa8 q;omega
  refine G4 (by omega) ?_;have k:=ht _ (K3 q)
  have H:=k.val.1;have I:=g.cnt
  have P:=Q0r (n:=(L.take i).length) (by rw[Qd7];omega);have A:∀r∈L.take i,r.place_≠(gl L i).place_:=λr d=>by
   have:=hd
   rw[<-Qg8 i L,Qd5]at this;refine this.2.2 r d _ ?_
   rw[Zy q];simp
  refine Z3F hF q (by omega) g.tr (λf D=>⟨by have:=(g.cl f D).2.1;rw[Qd7]at this;omega,λB=>by
   obtain⟨r,d,e⟩:=(g.cl f D).2.2 _ B
   grind⟩) g.ds k λn E=>?_
  have u:=g.step E A k t;rw[<-Qr q]at u
  have J:=E.cnt;have j:∀m,m=n++VU (gl L i) s->Ok (HB F L (i:Int) s c m) (FaI L):=λm B=>by
   subst B;unfold HB xo
   simp only[Qa3];refine Qm (Q4u (by unfold Z9;omega)) (G4 (by unfold Z9;omega) (G4 (V9 (by omega) (by omega)) (K _ ⟨i+1,_,_,q,rfl,u,by rw[Qb7];omega,λr d=>?_,λx y=>?_⟩ (by simp only;omega))))
   .rcases Qa9.1 d with d|d
    .exact G r d
    .exact k.val.pos r d
   .rw [Jk,t,Qr q,Qs1];simp
  unfold Fk;simp only[Qa3]
  refine Qm (Q3l hF (by omega) k.val.pos G) ?_;refine QE (λe=>?_) (λe=>?_)
  .have e:0<(cn λx y=>Q2 (gl L i).t_ x y && !Q2 s x y).length:=by have:=Qa8 e;omega
   refine G4 (by simp only[Qb1,Qc2];unfold Z9;omega) (j _ ?_);unfold VU
   rw[Qa2 e]
  .have e:¬0<(cn λx y=>Q2 (gl L i).t_ x y && !Q2 s x y).length:=by have:=Qb2 e;omega
   refine j _ ?_;unfold VU
   grind
 .have q:i=L.length:=by have:=Qb2 q;omega
  rw[q,Qe5]at g;unfold xn
  exact Ur g
end
end
section
section
variable {F:Nat}
theorem Z4A(hF:Q6<=F)(a b:Place):HE F a b=some (We (pk a) (pk b)):=by
 unfold HE;refine Q4 (GW F _ _) (Q4 (GW F _ _) (Q4 (xB F hF _ _) ?_))
 congr 1
 unfold We pk
 grind
theorem Q3j{x y:List Place}{j:Nat}(hx:j<x.length)(hy:j<y.length):ZA (x.drop j) (y.drop j)=if We (pk (gl x j)) (pk (gl y j))=0 then ZA (x.drop (j+1)) (y.drop (j+1))else We (pk (gl x j)) (pk (gl y j)):=by
 rw[Zy hx,Zy hy,ZA]
theorem Z6S(hF:Q6<=F){x y:List Place}(hx:x.length<=100):Rw F x y (λy0 y1=>HE F y0 y1)=some (ZA x y):=by
 have c:=hF;unfold Q6 at c
 unfold Rw;refine z5 (λz:Int=>∃j:Nat,j<=x.length/\j<=y.length/\z=(j:Int)/\ZA x y=ZA (x.drop j) (y.drop j)) (λz=>x.length-z.toNat) (λe z g f=>?_) ⟨0,Qc3 _,Qc3 _,rfl,rfl⟩ (by simp;omega)
 obtain⟨j,h,d,rfl,b⟩:=g;show qk F x y _ e (j:Int)=_
 unfold qk;simp only[Qa3]
 refine Z6 (λq=>?_) (λq=>?_)
 .have q:j<x.length:=by have:=Qa8 q;omega
  refine Q9 (by omega) (Z6 (λa=>?_) (λa=>?_))
  .have a:j=y.length:=by have:=Qa8 a;omega
   rw[b,Zy q,a,Qh4];rfl
  .have a:j<y.length:=by have:=Qb2 a;omega
   refine Q9 (by omega) (Q4 (Z4A hF _ _) ?_);rw[b,Q3j q a]
   by_cases h0:We (pk (gl x j)) (pk (gl y j))=0
   .refine Z4 (by rw[h0];rfl) ?_
    rw[Qa2 h0];rw[Q3j q a,Qa2 h0]at b
    refine Q9 (V9 (by omega) (by omega)) ?_;rw[<-b]
    exact f _ ⟨j+1,q,a,rfl,b⟩ (by omega)
   .refine Y9 (by simpa using h0) ?_
    rw[Qa1 h0]
 .have q:j=x.length:=by have:=Qb2 q;omega
  unfold qh;rw[b,q,Qh4]
  refine Z6 (λa=>?_) (λa=>?_)
  .have a:x.length<y.length:=by have:=Qa8 a;omega
   rw[Zy a];rfl
  .have a:x.length=y.length:=by have:=Qb2 a;omega
   rw[a,Qh4];rfl
theorem Z6Q(hF:Q6<=F){a b:Double}(ha:a.claims_.length<=100):HH F a b=some (ZA a.claims_ b.claims_):=by
 unfold HH;exact Q4 (Z6S hF ha) rfl
structure DbI (v:List Version) (ds:List Double):Prop where
 len:ds.length<=100/\∀d∈ds,d.claims_.length<=100
 val:∀d∈ds,(∀p∈d.claims_,ZQ v p)/\J1 d.g_.t_
 cov:∀i k j m,i<v.length->k<(gl v i).lines_.length->j<v.length->m<(gl v j).lines_.length->(i,k)≠(j,m)->∀x y,Q2 (Qi v i k).g_.t_ x y=true->Q2 (Qi v j m).g_.t_ x y=true->∃d∈ds,Q2 d.g_.t_ x y=true/\(⟨(i:Int),(k:Int)⟩:Place)∈d.claims_
def Wr(o:List Face):List Double:=(o.filter λf=>decide (2<=f.claims_.length)).map λf=>⟨⟨f.t_⟩,f.claims_⟩
theorem Q2C(a b:List Face):Wr (a++b)=Wr a++Wr b:=by unfold Wr;rw[Qg6,Qd6]
theorem Q2B(f:Face):Wr [f]=if 2<=f.claims_.length then[⟨⟨f.t_⟩,f.claims_⟩]else[]:=by
 unfold Wr
 grind
theorem Z4q(o:List Face):(Wr o).length<=o.length:=by unfold Wr;rw[Qg1];exact Qk5 _ _
theorem xc{d:Double}:d∈Wr o↔∃f∈o,2<=f.claims_.length/\d=⟨⟨f.t_⟩,f.claims_⟩:=by
 unfold Wr
 grind
theorem Z4G(hF:Q6<=F)(h:SmV v):∃ds,PD F v=some (ds,0)/\DbI v ds:=by
 have K:=hF;unfold Q6 at K
 have h3:=h.len;have P:=h.all v.length
 obtain⟨o,U,g⟩:=Z4y hF (L:=Wg v v.length) (by omega) (λx hx=>by obtain⟨i,k,_,_,rfl⟩:=PU.1 hx;exact h.tr i k) (Q3X v _);have a0:=g.cnt
 have a6:=Q0r (n:=(Wg v v.length).length) (by omega)
 suffices Y:Ok (PD F v) λz=>z.2=0/\DbI v z.1 by
  obtain⟨⟨a,b⟩,N,S,h4⟩:=Y
  grind
 unfold PD;refine Qm (Q2J hF h) ?_
 refine QE (λe=>by simp at e) (λ_=>Qm U ?_);refine VS (λz:Int×List Double=>∃j:Nat,j<=o.length/\z=((j:Int),Wr (o.take j))) (λz=>o.length-z.1.toNat) (λZ z O Q=>?_) ⟨0,Qc3 _,rfl⟩ (by simp;omega)
 obtain⟨j,hj,rfl⟩:=O;have G:=Z4q (o.take j)
 rw[Qd7]at G;show Ok (xu F o Z (j:Int) (Wr (o.take j))) _
 unfold xu;simp only[Qa3]
 refine QE (λq=>?_) (λq=>?_)
 .have q:j<o.length:=by have:=Qa8 q;omega
  have hv:=(g.tr _ (K3 q)).val.1;refine G4 (by omega) (QE (λe=>?_) (λe=>?_))
  .have e:¬2<=(gl o j).claims_.length:=by have:=Qa8 e;omega
   unfold HG;refine G4 (V9 (by omega) (by omega)) (Q _ ⟨j+1,q,?_⟩ (by simp only;omega))
   rw[Qr q,Q2C,Q2B,Qa1 e,Qj2];rfl
  .have e:2<=(gl o j).claims_.length:=by have:=Qb2 e;omega
   refine Qm (Su F _) ?_;rw[Qa1 (by omega)]
   refine QE (λe=>by simp at e) λ_=>G4 (by simp only[Qb1,Qc2];unfold Z9;omega) ?_
   unfold HG;refine G4 (V9 (by omega) (by omega)) (Q _ ⟨j+1,q,?_⟩ (by simp only;omega))
   rw[Qr q,Q2C,Q2B,Qa2 e];rfl
 .have q:j=o.length:=by have:=Qb2 q;omega
  rw[q,Qe5];rw[q,Qe5]at G
  unfold xt;refine QE (λe=>by have:=Qa8 e;omega) λ_=>?_
  have B:∀d∈Wr o,d.claims_.length<=100:=λd A=>by
   obtain⟨f,t,_,rfl⟩:=xc.1 A;have:=(g.cl f t).2.1
   grind
  obtain⟨r,hr,c⟩:=Q6J (x:=Wr o) (q:=λX y1=>HH F X y1) (λa b=>ZA a.claims_ b.claims_) (by unfold Z9;omega) (λa V b _=>Z6Q hF (B a V)) (λa b=>Q3i _ _) (λa b d=>Q3h _ _ _) (by
   unfold Wr;rw[Qi4]
   exact(g.ds.filter _).imp λM e=>M (Q3g e))
  refine Qm hr (Ur ⟨rfl,⟨by rw[c.length_eq];omega,λd A=>B d (c.mem_iff.1 A)⟩,?_,?_⟩)
  .intro d A
   obtain⟨f,t,_,rfl⟩:=xc.1 (c.mem_iff.1 A);refine⟨λp hp=>?_,(g.tr f t).val⟩
   obtain⟨z,O,rfl⟩:=(g.cl f t).2.2 p hp;obtain⟨i,k,s,J,rfl⟩:=PU.1 O
   refine⟨by show(0:Int)<=(i:Int);omega,by show(i:Int)<_;omega,by show(0:Int)<=(k:Int);omega,?_⟩
   grind
  .intro i k H m s J I W a5 x y N S
   obtain⟨f,t,C,E⟩:=g.cov x y ⟨⟨(i:Int),(k:Int)⟩,(Qi v i k).g_.t_⟩ (PU.2 ⟨i,k,s,J,rfl⟩) N;have u:=E ⟨⟨(i:Int),(k:Int)⟩,(Qi v i k).g_.t_⟩ (PU.2 ⟨i,k,s,J,rfl⟩) N
   have R:=E ⟨⟨(H:Int),(m:Int)⟩,(Qi v H m).g_.t_⟩ (PU.2 ⟨H,m,I,W,rfl⟩) S;refine⟨⟨⟨f.t_⟩,f.claims_⟩,c.mem_iff.2 (xc.2 ⟨f,t,?_,rfl⟩),C,u⟩
   refine Qg2 λD=>?_
   have T:(⟨(i:Int),(k:Int)⟩:Place)≠⟨(H:Int),(m:Int)⟩:=λe=>by
    grind
   match hc:f.claims_,u,R with
   |[],u,_=>simp at u
   |[a],u,R=>
    grind
   |_::_::_,_,_=>rw[hc]at D;simp at D
end
end
section
section
variable {F:Nat}
theorem SmV.of_sh{l:List Version}(h:Sh l v)(g:SmV v):SmV l:=⟨by rw[h.len];exact g.len,λi=>by rw[h.lns];exact g.lns i,h.tr⟩
theorem Q2K(hF:Q6<=F)(h:SmV v):PC F v=some 0:=by
 have c:=hF;unfold Q6 at c
 have f:=h.len;unfold PC
 refine Hm v.length (λe i g d=>?_) (λe=>?_) (by omega)
 .unfold xm
  have n:=h.lns i;refine Y9 (Qa6 (by omega)) (Q9 (by omega) ?_)
  refine Hm (gl v i).lines_.length (λb k j a=>?_) (λb=>?_) (by omega)
  .unfold xl
   simp only[Qa3];have:=(h.tr i k).val.1
   exact Y9 (Qa6 (by omega)) (Q9 (by omega) (Z4 (Qa5 (by show ¬(120:Int)<(((Qi v i k).g_.t_.length:Nat):Int);omega)) (Q9 (V9 (by omega) (by omega)) a)))
  .unfold xl
   simp only[Qa3];refine Z4 (Qa5 (by omega)) ?_
   unfold xk;exact Q9 (V9 (by omega) (by omega)) d
 .unfold xm
  exact Z4 (Qa5 (by omega)) rfl
theorem Z4v{l:List Version}{p:Place}(h:ZQ l p):HA F l p=some true:=by
 obtain⟨a,b,c,d⟩:=h;unfold HA PA
 refine Y9 (Qa6 a) (Y9 (Qa6 b) (Y9 (Qa6 c) (Q9 ⟨a,b⟩ ?_)))
 grind
theorem Q3z(hF:Q6<=F){l:List Version}:∀{y:List Yield},(∀x∈y,ZQ l x.place_/\J1 x.g_.t_)->GY F l y=some 0
 |[],_=>rfl
 |x::y,h=>by
  obtain⟨a,b⟩:=h x (by simp);unfold GY
  refine Q4 (Z4v a) (Y9 rfl (Q4 (Wz hF _) ?_));rw[Wi b]
  exact Y9 rfl (Q3z hF λz c=>h z (by simp[c]))
theorem Q3r:∀{l:List Line},(∀x∈l,x.g_.t_.length<=120)->HP F l=some ()
 |[],_=>rfl
 |x::l,h=>by
  have:=h x (by simp)
  unfold HP;exact Q4 (qp (by unfold Z9;omega)) (Q9 rfl (Q3r λz a=>h z (by simp[a])))
theorem Q3u:∀{l:List Version},(∀x∈l,x.lines_.length<=2/\∀y∈x.lines_,y.g_.t_.length<=120)->HQ F l=some ()
 |[],_=>rfl
 |x::l,h=>by
  obtain⟨c,a⟩:=h x (by simp);unfold HQ
  exact Q4 (Q7Z (by unfold Z9;omega)) (Q9 rfl (Q4 (Q3r a) (Q3u λz b=>h z (by simp[b]))))
theorem Hj{α:Type}[Emb α]{l:List α}{x:α}(h:x∈l):∃i,i<l.length/\gl l i=x:=by
 obtain⟨i,a,rfl⟩:=Qs2.1 h;exact⟨i,a,Uz l i a⟩
theorem Z5l(h:SmV v):FB F v=some ():=by
 have c:=h.len;unfold FB
 refine Q4 (Q7V (by unfold Z9;omega)) (Q9 rfl (Q3u λx b=>?_));obtain⟨i,d,rfl⟩:=Hj b
 refine⟨h.lns i,λy a=>?_⟩;obtain⟨k,e,rfl⟩:=Hj a
 exact(h.tr i k).val.1
theorem Z4E(hF:Q6<=F){y:List Yield}(h:SmV v)(hy:y.length<=200)(hyy:∀x∈y,ZQ v x.place_/\J1 x.g_.t_):∃o,Fp F v y=some (o,0)/\Sh o v:=by
 obtain⟨o,c,b⟩:=Q3w hF (y:=y) (l:=v) h.tr λx a=>⟨(hyy x a).1,by have:=(hyy x a).2.1;omega,(hyy x a).2.pos⟩
 refine⟨o,?_,b⟩;unfold Fp
 exact Q4 (Q2J hF h) (Z4 rfl (Z4 (Qa5 (by omega)) (Q4 (Q3z hF hyy) (Z4 rfl (Q4 (Z5l h) (Q4 c (Q4 (Q2K hF (h.of_sh b)) (Z4 rfl rfl))))))))
theorem Z4D(hF:Q6<=F){y:List Yield}(h:SmV v)(hy:y.length<=200)(hyy:∀ x ∈ y,ZQ v x.place_/\J1 x.g_.t_):
  ∃s ds,HF F v y=some (s,ds,0)/\Sh s v/\∀i k j m,i<v.length->k<(gl v i).lines_.length->j<v.length->m<(gl v j).lines_.length->(i,k)≠(j,m)->∀a b,Q2 (Qi s i k).g_.t_ a b=true->Q2 (Qi s j m).g_.t_ a b=true->False:=by
 obtain⟨o,B,e⟩:=Z4E hF h hy hyy;have g:=h.of_sh e
 obtain⟨ds,c,f⟩:=Z4G hF g;obtain⟨s,G,n,A⟩:=Q3x hF (ds:=ds) (l:=o) e.tr λd c=>⟨f.len.2 d c,(f.val d c).1,by have:=(f.val d c).2.1;omega,(f.val d c).2.pos⟩
 refine⟨s,ds,?_,n.trans e,λi k j m q H I D t a b u E=>?_⟩
 .unfold HF
  exact Q4 B (Z4 rfl (Q4 c (Z4 rfl (Q9 (by have:=f.len.1;show ds.length<=Z9;unfold Z9;omega) (Q4 G (Q4 (Q2K hF (g.of_sh n)) (Z4 rfl rfl)))))))
 .obtain ⟨d,c,C,z⟩:=f.cov i k j m (by rw[e.len];exact q) (by rw[e.lns];exact H) (by rw[e.len];exact I) (by rw[e.lns];exact D) t a b (n.sub i k a b u) (n.sub j m a b E)
  have:=A d c _ z a b u
  rw[C]at this;cases this
theorem Z1Q(hF:Q6<=F){t:Tape}(ht:TOk t)(hv:SmV v)(h1:1<=v.length):∃t' y,DU F t v=some (t',y)/\y.length<=3/\∀x∈y,ZQ v x.place_/\J1 x.g_.t_:=by
 have e:=hF;unfold Q6 at e
 have X:=hv.len
 suffices h:Ok (DU F t v) λz=>z.2.length<=3/\∀x∈z.2,ZQ v x.place_/\J1 x.g_.t_ by
  obtain⟨⟨a,b⟩,S,O⟩:=h;exact⟨a,b,S,O⟩
 obtain⟨V,n,P,E,J,W⟩:=QK (F:=F) ht (n:=4) (by omega) (by omega);unfold DU
 refine Qm P ?_;refine VS (λz:Int×(List Int)×Int×(List Yield)=>0<=z.1/\TOk ⟨z.2.1,z.2.2.1⟩/\z.1+z.2.2.2.length<=3/\∀x∈z.2.2.2,ZQ v x.place_/\J1 x.g_.t_) (λz=>z.1.toNat) (λB z R g=>?_) ⟨J,E,by show n+((0:Nat):Int)<=3;omega,λx c=>by simp at c⟩ (by simp only;omega)
 obtain⟨k,a,b,y⟩:=z;obtain⟨N,u,T,d⟩:=R
 simp only at N u T d;show Ok (yw F v B k a b y) _
 unfold yw;refine QE (λq=>?_) (λq=>?_)
 .have q:=Qa8 q
  obtain⟨Y,i,Q,o,j,s⟩:=QK (F:=F) u (n:=((v.length:Nat):Int)) (by omega) (by omega);have H:=hv.lns i.toNat
  refine Qm Q (G4 ⟨j,s⟩ (QE (λf=>?_) (λf=>?_)))
  .have f:(0:Int)<(((gl v i.toNat).lines_.length:Nat):Int):=Qa8 f
   obtain⟨U,m,A,I,M,C⟩:=QK (F:=F) o (n:=(((gl v i.toNat).lines_.length:Nat):Int)) (by omega) (by omega);obtain⟨Z,r,G,D,K⟩:=yy hF I (n:=9) (most:=2) (by omega) (by omega) (by omega) (by omega)
   unfold DT;refine Qm A (Qm G (G4 (by simp only[Qb1,Qc2];unfold Z9;omega) (G4 (V9 (by omega) (by omega)) (g _ ⟨by simp only;omega,D,by simp only[Qb7,Qb1,Qc2];omega,λx c=>?_⟩ (by simp only;omega)))))
   rcases Qa9.1 c with c|c
   .exact d x c
   .rw [Qb0.1 c]
    exact⟨⟨j,s,M,C⟩,K.val⟩
  .unfold DT
   exact G4 (V9 (by omega) (by omega)) (g _ ⟨by simp only;omega,o,by simp only;omega,d⟩ (by simp only;omega))
 .unfold yv
  exact Ur ⟨by simp only;omega,d⟩
theorem Z0N(hF:Q6<=F){l:List Re_}(hl:l.length<=60)(hv:∀x∈l,J1 x.t_)(hd:∀i j,i<j->j<l.length->∀x y,Q2 (gl l i).t_ x y=true->Q2 (gl l j).t_ x y=true->False):DK F l=some (0,0,false,0):=by
 have a:=hF;unfold Q6 at a
 have d:Tt F l=some 0:=by
  unfold Tt;refine Z4 (Qa5 (by omega)) (Q4 (UY (α:=Re_) hF (λx=> !QP x.t_) (by omega) λx _=>?_) ?_)
  .unfold zT
   exact Q4 (Wz hF x) rfl
  .refine Z4 ?_ rfl
   rw[Qf6];intro x s
   rw[Wi (hv x s)];simp
 unfold DK;refine Q4 d (Z4 rfl ?_)
 refine Hm l.length (λf i c b=>?_) (λf=>?_) (by omega)
 .unfold zV
  refine Y9 (Qa6 (by omega)) (Q9 (by omega) (Q9 (V9 (by omega) (by omega)) ?_));refine z5 (λz:Int=>∃k:Nat,i<k/\k<=l.length/\z=k) (λz=>l.length-z.toNat) (λh z o n=>?_) ⟨i+1,by omega,c,by simp⟩ (by omega)
  obtain⟨k,g,e,rfl⟩:=o;unfold Q0y
  simp only[Qa3];refine Z6 (λq=>?_) (λq=>?_)
  .have q:k<l.length:=by have:=Qa8 q;omega
   refine Q9 (by omega) (Q4 (zc hF _ _) ?_);rw[yk (hv _ (K3 c)) (hv _ (K3 q)) (hd i k g q)]
   exact Z4 rfl (Q9 (V9 (by omega) (by omega)) (n _ ⟨k+1,by omega,q,rfl⟩ (by omega)))
  .unfold zU
   exact Q9 (V9 (by omega) (by omega)) b
 .unfold zV
  exact Z4 (Qa5 (by omega)) rfl
end
end
section
theorem TR.nil:TR []:=xX J1.nil (d:=0) (by omega) λu v h=>by cases h
section
variable {F:Nat} {K:Int} {v s:List Version}
theorem VT.at_(hv:VT K v)(hi:i<v.length):LinT K P3 (gl v i).lines_/\(gl v i).lines_.length<=2:=hv _ (K3 hi)
theorem Z1J{x:Line}(h:LinO K P3 x):TR x.g_.t_:=by
 have a:1<=x.p_/\x.p_<=3:=h.par;exact xX h.val (d:=10*(x.p_-1)) (by omega) (h.pl Mb)
theorem vj{α:Type}[Emb α]{l:List α}(h:l.length<=i):gl l i=Emb.d:=by
 unfold gl;rw[Qa0,Qg7 h];rfl
theorem VT.sm(hv:VT K v)(h3:v.length<=3):SmV v:=by
 have b:∀i,(gl v i).lines_.length<=2:=λi=>by
  rcases Qd3 i v.length with h|h
  .exact (hv.at_ h).2
  .rw [vj h];exact Qc3 _
 refine⟨h3,b,λi k=>?_⟩;rcases Qd3 k (gl v i).lines_.length with h|h
 .rcases Qd3 i v.length with a|a
  .exact Z1J ((hv.at_ a).1.one _ (K3 h))
  .rw [vj a]at h;exact absurd h (Qc9 k)
 .unfold Qi
  rw[vj h];exact TR.nil
abbrev Zp(v:List Version):List Rect:=v.flatMap λa=>Vq a.lines_
theorem Q0T(v:List Version)(x y:Int):Q2 (Zp v) x y=v.any λa=>Q2 (Vq a.lines_) x y:=by
 unfold Q2;rw[List.any_flatMap]
theorem TF:∀{v:List Version},VT K v->(Zp v).length<=40*v.length/\∃R:List Rect,R.length<=4*v.length/\∀x y,Q2 (Zp v) x y=Q2 R x y
 |[],_=>⟨by simp,[],by simp,λx y=>rfl⟩
 |a::v,h=>by
  obtain⟨j,R,k,c⟩:=TF (v:=v) λx b=>h x (by simp[b])
  obtain⟨g,d⟩:=h a (by simp);obtain⟨i,Q,n,f⟩:=g.land d
  have e:Zp (a::v)=Vq a.lines_++Zp v:=by simp[Zp]
  refine⟨by rw[e,Qb7,Qb1];omega,Q++R,by rw[Qb7,Qb1];omega,λx y=>?_⟩;rw[e,Jk,Jk,c,f]
theorem Z1D(h:LinT K P3 l)(hh:Q2 (Vq l) x y=true):0<=x/\x<29/\0<=y/\y<9:=by
 rw[yp,Qc6]at hh;obtain⟨z,c,b⟩:=hh
 have a:=h.one z c;have d:1<=z.p_/\z.p_<=3:=a.par
 have:=a.pl Mb x y b
 omega
theorem Gt(hv:VT K v)(hh:Q2 (Zp v) x y=true):0<=x/\x<29/\0<=y/\y<9:=by
 rw[Q0T,Qc6]at hh;obtain⟨a,b,c⟩:=hh
 exact Z1D (hv a b).1 c
theorem Z1E(hv:VT K v)(h3:v.length<=3):J1 (cn (Q2 (Zp v))):=by
 obtain⟨_,R,q,k⟩:=TF hv;have c:=Qz (Zp v)
 have h:=UN c;have d:=Q2Q c (A:=[0,1,2,3,4,5,6,7,8,9]) (B:=R.map (·.L_)) (λx y g=>by
  have:0<=y/\y<=9:=by
   cases e:Q2 (Zp v) x y with
   |true=>have:=Gt hv e;omega
   |false=>
    cases e2:Q2 (Zp v) x (y-1)with
    |true=>have:=Gt hv e2;omega
    |false=>rw[e,e2]at g;exact absurd rfl g
  simp only[Qf0,Qe7,or_false];omega) (λx y j i=>by
  rw[k]at j i;exact Q1u j i)
 rw[Qg1]at d;have:10*R.length<=10*12:=Qx3 _ (by omega)
 have d:(cn (Q2 (Zp v))).length<=120:=Qc4 d this;refine⟨d,λr f=>?_,h⟩
 obtain⟨o,n⟩:=h.pos f;have a:=Gt hv (x:=r.L_) (y:=r.w_) (by rw[<-QN c];exact Uy f ((QG _ _ _).2 (by omega)))
 have b:=Gt hv (x:=r.R_-1) (y:=r.H_-1) (by rw[<-QN c];exact Uy f ((QG _ _ _).2 (by omega)));rw[Yr];omega
theorem Z1F(hv:VT K v):∀r∈Zp v,QQ r=true:=λr d=>by
 obtain⟨a,b,f⟩:=Qb8.1 d;obtain⟨z,e,c⟩:=Qb8.1 f
 exact((hv a b).1.one z e).val.2.1 r c
theorem qc(h:∀u v,S u v=true->0<=u/\u<29/\0<=v/\v<9):0<=sq S/\sq S<=261:=by
 rw[UW];refine⟨Z4Y _ _,?_⟩
 have a:cnt 16384 S<=cnt 16384 (Rect.has ⟨0,0,29,9⟩):=Q2Z λx y b=>by
  have:=h x y b
  rw[QG];simp only;omega
 rw[Q3a (by decide) (by decide) (by decide) (by decide) (by decide) (by decide)]at a;have:WK ⟨0,0,29,9⟩=261:=by decide
 omega
section
variable {L:List Scheme} {w:World} {i:Nat}
theorem jH(hsh:Sh s v)(hv:VT (w.crops_.length:Nat) v)(hdis:∀i k j m,i<v.length->k<(gl v i).lines_.length->j<v.length->m<(gl v j).lines_.length->(i,k)≠(j,m)->∀a b,Q2 (Qi s i k).g_.t_ a b=true->Q2 (Qi s j m).g_.t_ a b=true->False)(hL:LT L)(hg:GoodL 3 L)(hw:WT w)(hi:i<v.length):(∀x∈(gl s i).lines_,1<=x.p_/\x.p_<=P3.length)/\PY (gl s i).lines_/\∀ps,PrT P3 (gl s i).lines_ ps->GB P3 (gl s i).lines_ ps L w:=by
 obtain⟨M,O⟩:=hv.at_ hi;have t:=hsh.lns i
 have f:∀x∈(gl s i).lines_,∃k,k<(gl v i).lines_.length/\x=Qi s i k/\LinO (w.crops_.length:Nat) P3 (Qi v i k)/\x.p_=(Qi v i k).p_/\x.c_=(Qi v i k).c_:=λx c=>by
  obtain⟨k,g,rfl⟩:=Hj c;rw[t]at g
  obtain⟨H,I,_⟩:=hsh.sam i k;exact⟨k,g,rfl,M.one _ (K3 g),H,I⟩
 have h:∀x∈(gl s i).lines_,1<=x.p_/\x.p_<=3:=λx c=>by
  obtain⟨k,g,rfl,n,z,_⟩:=f x c;rw[z];exact n.par
 refine⟨h,PY.of (by omega) λx c=>⟨h x c,?_⟩,λps o=>⟨λx c=>?_,λx c=>?_,λx c=>?_,λx c u y A=>?_,o.len,o.at_,?_,hL,hg,hw,by omega⟩⟩
 .obtain ⟨k,g,rfl,n,z,_⟩:=f x c
  intro a b q;rw[z]
  exact n.pl Mb a b (hsh.sub i k a b q)
 .obtain ⟨k,g,rfl,_⟩:=f x c
  exact hsh.tr i k
 .obtain ⟨k,g,rfl,n,_,J⟩:=f x c
  rw[J];exact n.crop
 .have N:=h x c
  have D:(x.p_-1).toNat<P3.length:=by show _<3;omega
  exact xX (Mb.val D) (d:=10*((x.p_-1).toNat:Nat)) (by omega) (Mb.pl D)
 .obtain ⟨k,g,rfl,n,z,_⟩:=f x c
  unfold VP;rw[z]
  exact n.sub u y (hsh.sub i k u y A)
 .rw [Qc8]
  intro a b E G q x y B C;rw[<-Uz _ _ E]at B
  rw[<-Uz _ _ G]at C;exact hdis i a i b hi (by omega) hi (by omega) (λe=>by injection e with _ e;omega) x y B C
def YG(w:World)(x:Scheme)(s:List Version)(i:Nat):Sq:=Q2 (Qj w P3 x Um (gl s i).lines_)
theorem vX{x:Scheme}{a b:Int}(h:YG w x s i a b=true):∃k,k<(gl s i).lines_.length/\Q2 (Qi s i k).g_.t_ a b=true:=by
 unfold YG at h;rw[vr Xz a b,Qc6]at h
 obtain⟨z,e,d⟩:=h;obtain⟨k,c,rfl⟩:=Hj e
 exact⟨k,c,Q1M Xz _ _ _ d⟩
def WH(w:World)(x:Scheme)(s:List Version)(n:Nat):Sq:=λa b=>(List.range n).any λi=>YG w x s i a b
theorem Z4k(x:Scheme)(n:Nat):WH w x s (n+1)=λa b=>WH w x s n a b||YG w x s n a b:=by
 funext a b
 unfold WH;rw[Ql9,Qs1];simp
end
end
end
theorem Q5h(hF:Q6+3<=F)(tape:List Int):My F tape=some true:=by
 have c:Q6<=F:=by omega
 have b4:=c;unfold Q6 at b4
 obtain⟨t0,e0,o0⟩:=Z2p F tape;obtain⟨t1,cs,v,e1,o1,a7,v1,v3,f⟩:=Q5d c o0
 obtain⟨t2,L,e2,o2,U,hg⟩:=Z2b hF o1 (most:=2) (by omega) (by omega);obtain⟨t3,w,e3,o3,hw,b2,f3⟩:=Z1S c o2 a7
 have d9:=U.len;have I:GoodL 3 L:=by
  rcases hg with g|g
  .rw [g]
   exact⟨by simp,λi e=>absurd e (Qc9 i),λi _ e=>absurd e (Qc9 i),λi e=>absurd e (Qc9 i),λi e=>absurd e (Qc9 i)⟩
  .exact g
 rw[<-b2]at f;have B:=f.sm v3
 obtain⟨t4,y,e4,y1,y2⟩:=Z1Q c o3 B v1;obtain⟨s,ds,e5,d,H⟩:=Z4D c B (by omega) y2
 have d5:=d.len;unfold My
 refine Q4 e0 (Q4 e1 (Q4 e2 (Q4 e3 (Q4 e4 (Q4 e5 (Z4 rfl ?_))))));refine z5 (λz:(List Scheme)×(List Scheme)×Int=>∃k:Nat,k<=L.length/\z=(L,L,(k:Int))) (λz=>L.length-z.2.2.toNat) (λu z O ih=>?_) ⟨0,Qc3 _,rfl⟩ (by simp;omega)
 obtain⟨k,hk,rfl⟩:=O;show LA F (t1,cs,v,P3) (t2,L) (t3,w) (s,ds,0) u L L (k:Int)=_
 unfold LA;refine Z6 (λq=>?_) (λq=>?_)
 .have q:k<L.length:=by have:(k:Int)<((L.length:Nat):Int):=Qa8 q;omega
  have o:=I.one k q;have Q:=(U.st _ (K3 q)).sd
  refine Q9 (by omega) (Z4 (by rw[Qs8];simp only;omega) ?_);have a0:∀i,∀a b,YG w (gl L k) s i a b=true->i<v.length->Q2 (Zp v) a b=true:=λi a b h e=>by
   obtain⟨m,J,D⟩:=vX h;rw[Q0T,Qc6]
   refine⟨gl v i,K3 e,?_⟩;rw[yp,Qc6]
   rw[d.lns]at J;exact⟨_,K3 J,d.sub i m a b D⟩
  have b7:∀i j,i<j->j<v.length->∀a b,YG w (gl L k) s i a b=true->YG w (gl L k) s j a b=true->False:=λi j M N a b g D=>by
   obtain⟨m,J,h3⟩:=vX g;obtain⟨n,W,h4⟩:=vX D
   rw[d.lns]at J W
   grind
  have P:∀n,n<=v.length->∀a b,WH w (gl L k) s n a b=true->Q2 (Zp v) a b=true:=λn W a b h=>by
   unfold WH at h
   grind
  have c0:=TF f;have A:=Z1E f v3
  refine z5 (λz:Int×Int×(List Re_)×(List Rect)=>∃i:Nat,i<=v.length/\z=(sq (WH w (gl L k) s i),(i:Int),(List.range i).map (λj=>(⟨cn (YG w (gl L k) s j)⟩:Re_)),Zp (v.take i))) (λz=>v.length-z.2.1.toNat) (λag z O b0=>?_) ⟨0,Qc3 _,?_⟩ (by simp;omega)
  .obtain ⟨i,e,rfl⟩:=O
   have T:=qc λa b h=>Gt f (P i e a b h)
   show Lz F (t1,cs,v,P3) (t3,w) (s,ds,0) L L (k:Int) u ag (sq (WH w (gl L k) s i)) (i:Int) ((List.range i).map λj=>(⟨cn (YG w (gl L k) s j)⟩:Re_)) (Zp (v.take i))=_;unfold Lz
   simp only[Qa3];refine Z6 (λt=>?_) (λt=>?_)
   .have t:i<v.length:=by have:(i:Int)<((s.length:Nat):Int):=Qa8 t;omega
    have Z:=d.lns i;have a4:=(f.at_ t).2
    obtain⟨g1,V,g3⟩:=jH d f H U I hw t;have Y:=(TF (v:=v.take i) λx X=>f x (Qi1 X)).1
    rw[Qd7]at Y;refine Q9 (by omega) (Q9 (by omega) (Z4 (by rw[Qs8];omega) (Q9 (by omega) ?_)))
    refine z5 (λz:Int×List Rect=>∃m:Nat,m<=(gl v i).lines_.length/\z=((m:Int),Zp (v.take i)++Vq ((gl v i).lines_.take m))) (λz=>(gl v i).lines_.length-z.1.toNat) (λa3 z O a9=>?_) ⟨0,Qc3 _,by simp⟩ (by simp;omega);obtain⟨m,J,rfl⟩:=O
    show Lx F (t1,cs,v,P3) (t3,w) (s,ds,0) L L (k:Int) (sq (WH w (gl L k) s i)) (i:Int) ((List.range i).map λj=>(⟨cn (YG w (gl L k) s j)⟩:Re_)) ag a3 (m:Int) (Zp (v.take i)++Vq ((gl v i).lines_.take m))=_;unfold Lx
    simp only[Qa3];refine Z6 (λE=>?_) (λE=>?_)
    .have E:m<(gl v i).lines_.length:=by have:=Qa8 E;omega
     have hr:=(B.tr i m).val.1;have c4:(Vq ((gl v i).lines_.take m)).length<=240:=by
      have:∀l:List Line,(∀x∈l,x.g_.t_.length<=120)->(Vq l).length<=120*l.length:=λl=>by
       induction l with
       |nil=>intro _;simp
       |cons a l ih=>
        grind
      have g:=this ((gl v i).lines_.take m) λx X=>by
       obtain⟨j,N,rfl⟩:=Hj (Qi1 X);exact(B.tr i j).val.1
      grind
     refine Q9 (by omega) (Q9 (by rw[Qb7];unfold Z9;show _+(Qi v i m).g_.t_.length<=_;omega) (Q9 (V9 (by omega) (by omega)) (a9 _ ⟨m+1,E,?_⟩ (by simp only;omega))));rw[Qr E,Qh6]
     simp[Vq]
    .have E:m=(gl v i).lines_.length:=by have:=Qb2 E;omega
     obtain⟨ps,p1,p2⟩:=Q1j c (rs:=P3) (by decide) (l:=(gl s i).lines_) g1 (by omega);have G:=g3 ps p2
     have S:=G.join c V (k:=k) Xz;have R:sq (WH w (gl L k) s (i+1))=sq (WH w (gl L k) s i)+sq (YG w (gl L k) s i):=by
      rw[Z4k,UW,UW,UW,Q2X];intro a b g D
      unfold WH at g
      grind
     have f5:=qc λa b h=>Gt f (a0 i a b h t)
     have C:Uo F ⟨cn (Q2 (Qj w P3 (gl L k) Um (gl s i).lines_))⟩=some (sq (YG w (gl L k) s i)):=by
      refine(zn c (a:=⟨cn (Q2 (Qj w P3 (gl L k) Um (gl s i).lines_))⟩) S.1).trans (congrArg some ?_);refine S.1.area.trans ?_
      rw[ZO (Qz _)];rfl
     unfold Lw;simp only[Qa3]
     refine Q9 (by omega) (Q9 (by omega) (Q4 p1 (Q4 (G.Farm hF V q) (Z4 rfl (Q9 (by simp only[Qg1,List.length_range,Qb1,Qc2];unfold Z9;omega) (Q4 C (Q9 (V9 (by omega) (by omega)) ?_)))))));unfold Lu
     refine Q9 (V9 (by omega) (by omega)) (b0 _ ⟨i+1,t,?_⟩ (by simp only;omega));rw[R,Ql9,Qd6,Qr t,E,Qe5]
     simp[Zp,YG]
   .have t:i=v.length:=by have:¬(i:Int)<((s.length:Nat):Int):=Qb2 t;omega
    subst t;rw[Qe5]
    have C:Uo F ⟨cn (Q2 (Zp v))⟩=some (sq (Q2 (Zp v))):=by
     refine(zn c (a:=⟨cn (Q2 (Zp v))⟩) A).trans (congrArg some ?_);refine A.area.trans ?_
     rw[ZO (Qz _)]
    have a1:sq (WH w (gl L k) s v.length)<=sq (Q2 (Zp v)):=by
     rw[UW,UW];exact Q2Z (P _ (Qb4 _))
    have b8:=qc λa b h=>Gt f h
    have c5:=A.1;have b5:KX F (Zp v)=some (⟨cn (Q2 (Zp v))⟩,0):=by
     rw[cP c (by omega) (Z1F f),Qa1 (by omega)]
    have e9:∀i,i<v.length->J1 (cn (YG w (gl L k) s i)):=λi e=>by
     obtain⟨g1,V,g3⟩:=jH d f H U I hw e;have a4:=(f.at_ e).2
     have Z:=d.lns i;obtain⟨ps,p1,p2⟩:=Q1j c (rs:=P3) (by decide) (l:=(gl s i).lines_) g1 (by omega)
     exact((g3 ps p2).join c V (k:=k) Xz).1
    have a2:DK F ((List.range v.length).map λj=>(⟨cn (YG w (gl L k) s j)⟩:Re_))=some (0,0,false,0):=by
     refine Z0N c (by simp;omega) (λx X=>?_) λi j M N a b g D=>?_
     .grind
     .rw [Qg1,List.length_range]at N
      have ei:∀n,n<v.length->gl ((List.range v.length).map λj=>(⟨cn (YG w (gl L k) s j)⟩:Re_)) n=⟨cn (YG w (gl L k) s n)⟩:=λn W=>by
       rw[Uz _ _ (by simpa using W)];simp
      rw[ei i (by omega)]at g;rw[ei j N]at D
      unfold YG at g D;rw[QN (Qz _)]at g D
      exact b7 i j M N a b g D
    unfold Lt;simp only[Qa3]
    refine Q4 a2 (Q4 b5 (Q4 (jT hF Q o T.1 (by omega)) (Q4 C (Q4 (jT hF Q o b8.1 (by omega)) ?_))));refine Z4 rfl (Z4 rfl (Z4 rfl (Z4 rfl (Z4 rfl (Q4 C (Z4 (Qa5 (by omega)) ?_))))))
    have J:=Z5H o T.1 a1 (by omega);simp only
    rw[Qa5 (by omega)];unfold US Ls
    exact Z4 rfl (Q9 (V9 (by omega) (by omega)) (ih _ ⟨k+1,q,rfl⟩ (by simp only;omega)))
  .have:sq (WH w (gl L k) s 0)=0:=by rw[UW];exact Q2Y λa b=>by unfold WH;simp
   rw[this];simp
 .unfold Lr
  exact Q4 (Q5f hF) rfl
theorem Q5Y:J1 [(⟨0,0,10,10⟩:Rect)]:=Mv (by decide)
theorem Q5X(hF:Q6<=F):Ya F ⟨[⟨0,0,10,10⟩]⟩=some true:=by
 rw[Wz hF,Wi Q5Y]
theorem Q6d:Vw [[(⟨0,0,10,10⟩:Rect)]]=[0,10]:=by
 have h:(Vp [[(⟨0,0,10,10⟩:Rect)]]).mergeSort (λx y=>decide (x<=y))=[0,10]:=List.mergeSort_of_pairwise (by decide);unfold Vw
 rw[h];rfl
theorem Q6a(hF:Q6<=F)(y:Int):VN F [(⟨0,0,10,10⟩:Rect)] y=some (if 0<=y/\y<10 then[⟨0,10⟩]else[]):=by
 rw[Sn hF (by simp) (λr d=>by rw[Qb0.1 d];decide)];congr 1
 split
 .rename_i h
  refine KJ ⟨λs a=>by rw[Qb0.1 a];decide,by simp⟩ λx=>?_
  have c:=Qa6 h.1;have e:=Qa6 h.2
  simp[J8,Q2,Rect.has,Span.has,c,e]
 .rename_i h
  refine Rd λx=>?_
  rw[Bool.eq_false_iff];intro b
  simp[Q2,Rect.has]at b
  exact h ⟨by omega,by omega⟩
theorem gG(hF:Q6<=F):QU F [(⟨0,0,10,1⟩:Rect)] [] (λy0 y1=>DM F y0 y1)=some [⟨0,0,10,1⟩]:=by
 rw[JT hF (by simp) (λr a=>by rw[Qb0.1 a];decide) (λr a=>by simp at a) (k:=λu v=>u && !v) rfl (λu v=>by cases u<;>cases v<;>rfl)];rw[show(λx y=>Q2 [(⟨0,0,10,1⟩:Rect)] x y && !Q2 [] x y)=Q2 [(⟨0,0,10,1⟩:Rect)]from funext λx=>funext λy=>by simp[Q2]]
 rw[Q3c (by decide)]
theorem gF(hF:Q6<=F):QU F [] [(⟨0,0,10,1⟩:Rect)] (λy0 y1=>DM F y0 y1)=some []:=by
 rw[JT hF (by simp) (λr c=>by simp at c) (λr c=>by rw[Qb0.1 c];decide) (k:=λu v=>u && !v) rfl (λu v=>by cases u<;>cases v<;>rfl)];rw[PI (l:=[]) ⟨⟨λb a=>by simp at a,by simp⟩,λb a=>by simp at a,λb a=>by simp at a⟩ λx y=>by simp[Q2,J8,K5]]
 rfl
theorem Q5Z(hF:Q6<=F):Pc F [] [⟨0,10⟩] 0=some [⟨⟨0,0⟩,⟨10,0⟩⟩]:=by
 have d:=gG hF;have e:=gF hF
 obtain⟨G,hG⟩:∃G,F=G+3:=⟨F-3,by unfold Q6 at hF;omega⟩;unfold Pc
 have c:Je F [⟨0,10⟩]=some [⟨0,0,10,1⟩]:=by rw[hG];kernel_rfl
 have a:Je F []=some []:=by rw[hG];kernel_rfl
 refine Q4 c (Q4 a (Q4 d ?_));unfold zX
 generalize hk:Pb F [] [⟨0,10⟩] 0=k;refine Eq.trans (b:=k [⟨⟨0,0⟩,⟨10,0⟩⟩]) (by rw[hG];kernel_rfl) ?_
 subst hk;unfold Pb
 refine Q4 a (Q4 c (Q4 e ?_));rw[hG];kernel_rfl
theorem Q6c(hF:Q6<=F):Pc F [⟨0,10⟩] [] 10=some [⟨⟨10,10⟩,⟨0,10⟩⟩]:=by
 have d:=gG hF;have e:=gF hF
 obtain⟨G,hG⟩:∃G,F=G+3:=⟨F-3,by unfold Q6 at hF;omega⟩;unfold Pc
 have c:Je F [⟨0,10⟩]=some [⟨0,0,10,1⟩]:=by rw[hG];kernel_rfl
 have a:Je F []=some []:=by rw[hG];kernel_rfl
 refine Q4 a (Q4 c (Q4 e ?_));unfold zX
 generalize hk:Pb F [⟨0,10⟩] [] 10=k;refine Eq.trans (b:=k []) (by rw[hG];kernel_rfl) ?_
 subst hk;unfold Pb
 refine Q4 c (Q4 a (Q4 d ?_));rw[hG];kernel_rfl
theorem Q0S{σ R:Type}(f:(σ->Option R)->σ->Option R)(n:Nat)(z:σ):Y3 f (n+1) z=f (Y3 f n) z:=rfl
theorem Q6b(hF:Q6<=F):DN F ⟨[⟨0,0,10,10⟩]⟩=some [⟨⟨0,0⟩,⟨10,0⟩⟩,⟨⟨0,10⟩,⟨0,0⟩⟩,⟨⟨10,0⟩,⟨10,10⟩⟩,⟨⟨10,10⟩,⟨0,10⟩⟩]:=by
 have a:KY F [[(⟨0,0,10,10⟩:Rect)]]=some [0,10]:=by rw[zh hF (by decide) (by decide),Q6d]
 have r:∀y z l,y=z->(if 0<=z/\z<10 then[(⟨0,10⟩:Span)]else[])=l->VN F (⟨[⟨0,0,10,10⟩]⟩:Re_).t_ y=some l:=λy z l h e=>by rw[h, <-e];exact Q6a hF z
 have u:=Q5Z hF;have d:=Q6c hF
 obtain⟨G,hG⟩:∃G,F=G+3:=⟨F-3,by unfold Q6 at hF;omega⟩;unfold DN
 refine Q4 a ?_;rw[hG,Q0S _ (G+2), <-hG]
 generalize hA:Y3 (λagain (z:Int×List Edge)=>Pd F ⟨[⟨0,0,10,10⟩]⟩ [0,10] again z.1 z.2) (G+2)=ag;show Pd F _ [0,10] ag 0 []=_
 unfold Pd;refine Y9 rfl (Q9 (by decide) (Q9 (by decide) (Q4 (r _ (-1) [] (by kernel_rfl) (by decide)) (Q4 (r _ 0 [⟨0,10⟩] (by kernel_rfl) (by decide)) (Q4 u (Q9 (by decide) (Q9 (by decide) (Z4 (by decide) (Q4 (r _ 0 [⟨0,10⟩] (by kernel_rfl) (by decide)) ?_)))))))))
 refine Eq.trans (b:=ag (1,[⟨⟨0,0⟩,⟨10,0⟩⟩,⟨⟨0,10⟩,⟨0,0⟩⟩,⟨⟨10,0⟩,⟨10,10⟩⟩])) (by rw[hG];kernel_rfl) ?_;subst hA
 rw[Q0S _ (G+1)];show Pd F _ [0,10] _ 1 [⟨⟨0,0⟩,⟨10,0⟩⟩,⟨⟨0,10⟩,⟨0,0⟩⟩,⟨⟨10,0⟩,⟨10,10⟩⟩]=_
 unfold Pd;exact Y9 rfl (Q9 (by decide) (Q9 (by decide) (Q4 (r _ 9 [⟨0,10⟩] (by kernel_rfl) (by decide)) (Q4 (r _ 10 [] (by kernel_rfl) (by decide)) (Q4 d (Q9 (by decide) (Q9 (by decide) (Y9 (by decide) rfl))))))))
end
end Go.Ab
