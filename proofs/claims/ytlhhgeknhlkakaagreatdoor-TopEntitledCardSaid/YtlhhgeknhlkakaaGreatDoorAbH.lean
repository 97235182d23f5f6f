/- Abstract states over the model. -/
import Derived.Test.YtlhhgeknhlkakaaGreatDoorAbD
import Derived.Test.YtlhhgeknhlkakaaGreatDoorLwF
import Derived.Test.YtlhhgeknhlkakaaGreatDoorAbF
import Derived.Test.YtlhhgeknhlkakaaGreatDoorAbG
import Derived.Test.YtlhhgeknhlkakaaGreatDoorLwA
import Derived.Test.YtlhhgeknhlkakaaGreatDoorLwE
set_option linter.unusedVariables false
set_option linter.unusedSimpArgs false
set_option maxRecDepth 20000
namespace Go.Ab
noncomputable section
variable {i k F:Nat}{K:Int}{rs:List Re_}{l:List Line}{t:Tape}{m:List Lot}
section
structure GB (rs:List Re_) (l:List Line) (ps:List Re_) (L:List Scheme) (w:World):Prop where
 trm:∀x∈l,TR x.g_.t_
 cr:∀x∈l,0<=x.c_/\x.c_<(w.crops_.length:Nat)
 pr:∀x∈l,TR (Uz rs x).t_
 sb:∀x∈l,∀u v,Q8 x.g_.t_ u v=true->Q8 (Uz rs x).t_ u v=true
 len:ps.length=l.length
 pc:∀i,i<l.length->gl ps i=Uz rs (gl l i)
 ap:l.Pairwise Q3S
 lt:LT L
 goodL:GoodL 3 L
 w:WT w
 few:l.length<=6
section
variable {F:Nat} {rs:List Re_} {l:List Line} {ps:List Re_} {L:List Scheme} {w:World}
theorem GB.line(hF:Q7+3<=F)(h:GB rs l ps L w)(hi:i<l.length)(hk:k<L.length):Gc F (gl l i) (gl ps i) (gl L k) w=some ((UE w (gl l i) (gl ps i) (gl L k)).t3 (gl l i).g_.t_,0):=by
 rw[h.pc i hi];exact Z1h hF h.w (h.trm _ (J9 hi)) (h.cr _ (J9 hi)) (h.lt.st _ (J9 hk)).sd (h.goodL.one k hk) (h.pr _ (J9 hi)) (h.sb _ (J9 hi))
theorem GB.check(hF:Q7+3<=F)(h:GB rs l ps L w):Fl F l ps L=some 0:=by
 have a:=h.few;have c:=h.len
 unfold Fl;refine Z8 (by rw[bne_eq_false_iff_eq];omega) (Z8 (Qa7 (by omega)) (Q4 (Q7E (d:=3) (by omega) hF λs b=>(h.lt.st s b).sd) ?_))
 rw[Q2V h.goodL]
theorem GB.apart(hF:Q7<=F)(h:GB rs l ps L w):Fq F l=some 0:=by
 have m:=h.few;have d:=hF
 unfold Q7 at d;unfold Fq
 refine vG l.length (λp i c b=>?_) (λp=>?_) (by omega)
 .unfold xv
  have n:ZN F (l.take i) (λo=>Fp F o (gl l i))=some false:=by
   rw[Jf (α:=Line) hF (λy=>Zm (gl l i).g_ y.g_) (by simp;omega) λy _=>by
    unfold Fp;exact Q4 (cJ hF _ _) rfl]
   congr 1
   rw[Qf0];intro y g
   obtain⟨k,q,e⟩:=Qt7.1 g;have a:=Qd6.1 h.ap k i (by omega) c (by omega)
   rw[Q0G (h.trm _ (J9 c)).val (h.trm y (Qh5 g)).val λu v j f=>by
    rw[XJ l i c]at j;rw[<-e]at f
    exact a u v f j]
   exact Bool.noConfusion
  refine U3 (Qa5 (by omega)) (Q9 (by omega) (Q9 (by omega) ?_));rw[Qa3]
  exact Q4 n (Z8 rfl (Q9 (Y8 (by omega) (by omega)) b))
 .unfold xv
  exact Z8 (Qa7 (by omega)) rfl
theorem GB.farm(hF:Q7+3<=F)(h:GB rs l ps L w)(hk:k<L.length):Fk F l ps (gl L k) w=some (⟨QL w rs (gl L k) Vs l,QL w rs (gl L k) GN l,QL w rs (gl L k) Jj l⟩,0):=by
 have r:=h.few;have A:Q7<=F:=by omega
 have p:=A;unfold Q7 at p
 have K:=h.len;unfold Fk
 refine Qa (λz:Int×(List Rect)×(List Rect)×(List Rect)=>∃i:Nat,i<=l.length/\z=((i:Int),QL w rs (gl L k) Vs (l.take i),QL w rs (gl L k) GN (l.take i),QL w rs (gl L k) Jj (l.take i))) (λz=>l.length-z.1.toNat) (λd z C v=>?_) ⟨0,Qc2 _,rfl⟩ (by simp;omega);obtain⟨i,N,rfl⟩:=C
 have f:∀g,SelOk g->(QL w rs (gl L k) g (l.take i)).length<=720:=λg D=>by
  have:=Cv (w:=w) (rs:=rs) (s:=gl L k) D (m:=l.take i) λx B=>h.trm x (Qh5 B)
  have e:(l.take i).length<=6:=by rw[Qd1];omega
  omega
 show xu F l ps (gl L k) w d (i:Int) _ _ _=_;unfold xu
 refine Z9 (λq=>?_) (λq=>?_)
 .have q:i<l.length:=by have:=Qa6 q;omega
  refine Q9 (by omega) (Q9 (by omega) ?_);rw[Qa3]
  refine Q4 (h.line hF q hk) (Z8 rfl (Q9 (jL (h.goodL.one k hk)) ?_));have o:=h.trm _ (J9 q)
  have j:=Tw w (gl l i) (gl ps i) (gl L k);have n:∀a b c,a=QL w rs (gl L k) Vs (l.take (i+1))->b=QL w rs (gl L k) GN (l.take (i+1))->c=QL w rs (gl L k) Jj (l.take (i+1))->Hq F (i:Int) d a b c=some (⟨QL w rs (gl L k) Vs l,QL w rs (gl L k) GN l,QL w rs (gl L k) Jj l⟩,0):=λa b c y t u=>by
   unfold Hq;refine Q9 (Y8 (by omega) (by omega)) (v _ ⟨i+1,q,?_⟩ (by simp only;omega))
   rw[y,t,u];rfl
  have M:=f Vs Ri;have I:=f GN Q7y
  have G:=f Jj Q7x;have H:=(j.vY o).1
  have E:=(j.vN o).1;have J:=(j.vO o).1
  refine Z9 (λb=>?_) (λb=>?_)
  .rw [Vh]at b
   have b:ZS (gl l i).s_ (gl L k).N_=false:=by simpa using b
   refine n _ _ _ ?_ ?_ ?_<;>rw[QB q,Cw,vF,Qa1 (by rw[b];simp),Qi2]
  .rw [Vh]at b
   have b:ZS (gl l i).s_ (gl L k).N_=true:=by simpa using b
   refine Q9 ?_ (Q9 (Y8 (by omega) (by omega)) (Q9 ?_ (Q9 (Y8 (by omega) (by omega)) (Q9 ?_ (Q9 (Y8 (by omega) (by omega)) (n _ _ _ ?_ ?_ ?_))))))
   .simp only[TS.t3];unfold Y6;omega
   .simp only[TS.t3];unfold Y6;omega
   .simp only[TS.t3];unfold Y6;omega
   all_goals
    rw[QB q,Cw,vF,Qa2 b, <-h.pc i q];rfl
 .have q:i=l.length:=by have:=Qa8 q;omega
  rw[q,Qe5];rfl
theorem GB.Areas(hF:Q7+3<=F)(h:GB rs l ps L w):Fs F l ps L w=some (L.map (YX w rs l),0):=by
 have f:=h.few;have c:Q7<=F:=by omega
 have d:=c;unfold Q7 at d
 have j:=h.lt.len;unfold Fs
 refine Q4 (h.check hF) (Z8 rfl ?_);refine Qa (λz:Int×(List Int)=>∃i:Nat,i<=L.length/\z=((i:Int),(L.take i).map (YX w rs l))) (λz=>L.length-z.1.toNat) (λa z k g=>?_) ⟨0,Qc2 _,rfl⟩ (by simp;omega)
 obtain⟨i,p,rfl⟩:=k;show xx F l ps L w a (i:Int) _=_
 unfold xx;refine Z9 (λq=>?_) (λq=>?_)
 .have q:i<L.length:=by have:=Qa6 q;omega
  refine Q9 (by omega) ?_;rw[Qa3]
  have e:=Cv (w:=w) (rs:=rs) (s:=gl L i) Ri h.trm;have k1:∀n,n=YX w rs l (gl L i)->Hs F (i:Int) ((L.take i).map (YX w rs l)) a n=some (L.map (YX w rs l),0):=λn o=>by
   unfold Hs;refine Q9 (by simp only[Qg1,Qd1,Qb0,Qb6];unfold Y6;omega) (Q9 (Y8 (by omega) (by omega)) (g _ ⟨i+1,q,?_⟩ (by simp only;omega)))
   rw[QB q,Qe0,o];rfl
  refine Q4 (h.farm hF q) (Z8 rfl (Q4 (qQ c (by simp only;omega) λr m=>(Q1y Ri h.trm r m).1) (Z9 (λb=>?_) λb=>?_)))
  .exact k1 _ (by unfold YX;rw[Qa2 (Qa6 b)])
  .exact k1 _ (by unfold YX;rw[Qa1 (Qa8 b)])
 .have q:i=L.length:=by have:=Qa8 q;omega
  rw[q,Qe5];unfold xw
  exact Q4 (h.apart c) (Z8 rfl rfl)
end
end
section
def P3:List Re_:=[⟨[⟨0,0,9,9⟩]⟩,⟨[⟨10,0,19,9⟩]⟩,⟨[⟨20,0,29,9⟩]⟩]
theorem Q3D:ParT P3:=⟨by decide,λi a=>by
 have a:i<3:=a;obtain rfl|rfl|rfl:i=0\/i=1\/i=2:=by omega
 all_goals exact⟨9,9,by omega,by omega,by omega,by omega,rfl⟩⟩
theorem Q3E(hi:i<3):gl P3 i=⟨[⟨10*i,0,10*i+9,9⟩]⟩:=by
 obtain rfl|rfl|rfl:i=0\/i=1\/i=2:=by omega
 all_goals rfl
theorem LinO.p3(hp:ParT rs){x:Line}(h:LinO K rs x):LinO K P3 x:=by
 have f:=h.par;have g:=hp.len
 refine⟨h.crop,⟨f.1,by show x.p_<=3;omega⟩,h.sch,h.val,h.ne,λu v a=>?_⟩;have i:=h.pl hp u v a
 obtain⟨w,k,m,o,j,n,e⟩:=hp.one (x.p_-1).toNat (by omega);have d:=h.sub u v a
 rw[e,Va]at d;obtain⟨r,c,b⟩:=d
 rw[Qb1]at c;subst c
 rw[ZZ]at b;rw[Q3E (by omega),Va]
 refine⟨_,Qb1.2 rfl,?_⟩;rw[ZZ]
 simp only at b⊢;omega
theorem LinT.p3(hp:ParT rs)(h:LinT K rs l):LinT K P3 l:=⟨λx a=>(h.one x a).p3 hp,h.apart,h.two⟩
theorem Z1Q(hF:Q7<=F)(hr:rs.length<=100)(hl:∀x∈l,1<=x.p_/\x.p_<=rs.length)(h3:l.length<=100):∃ps,Ca F l rs=some ps/\PrT rs l ps:=by
 unfold Q7 at hF;unfold Ca
 suffices h:Ok (Y3 (λb (z:Int×(List Re_))=>TZ F l rs b z.1 z.2) F ((0:Int),([]:List Re_))) λps=>PrT rs l ps by
  obtain⟨ps,e,j⟩:=h;exact⟨ps,e,j⟩
 refine Zb (λz:Int×List Re_=>∃i:Nat,z.1=i/\i<=l.length/\z.2.length=i/\∀k,k<i->gl z.2 k=gl rs ((gl l k).p_-1).toNat) (λz=>l.length-z.1.toNat) (λb z n m=>?_) ⟨0,rfl,Qc2 _,rfl,λk f=>absurd f (Qd7 k)⟩ (by simp;omega);obtain⟨a,ps⟩:=z
 obtain⟨i,e,p,c,d⟩:=n;simp only at e c d
 subst e;show Ok (TZ F l rs b (i:Int) ps) _
 unfold TZ;refine V7 (λh=>?_) (λh=>?_)
 .have h:i<l.length:=by have:=Qa6 h;omega
  have o:=hl _ (J9 h);rw[Qa3]
  refine V9 (by omega) (V9 (Y8 (by omega) (by omega)) (G5 (Z1T (by omega) (by omega)) (V9 (by omega) (V9 (by simp only[Qb0,Qb6];unfold Y6;omega) (V9 (Y8 (by omega) (by omega)) (m _ ⟨i+1,by simp,h,by simp[c],λk f=>?_⟩ (by simp only;omega)))))));rcases Qc8 k i with g|g
  .rw [vx _ _ (by omega)];exact d k g
  .have:k=ps.length:=by omega
   subst this;rw[vw,c]
 .have h:i=l.length:=by have:=Qa8 h;omega
  unfold yY;exact K2 ⟨by omega,λk f=>d k (by omega)⟩
section
variable {rs:List Re_} {l:List Line} {ps:List Re_} {L:List Scheme} {w:World}
theorem Z5T(hp:ParT rs)(hl:LinT (w.crops_.length:Nat) rs l)(hps:PrT rs l ps)(hL:LT L)(hg:GoodL 3 L)(hw:WT w)(h6:l.length<=6):GB rs l ps L w:=by
 have f:=hp.len;refine⟨λx a=>?_,λx a=>(hl.one x a).crop,λx a=>?_,λx a=>(hl.one x a).sub,hps.len,hps.at_,hl.apart,hL,hg,hw,h6⟩
 .have b:=hl.one x a
  have e:=b.par;exact xZ b.val (d:=10*(x.p_-1)) (by omega) (b.pl hp)
 .have e:=(hl.one x a).par
  have c:(x.p_-1).toNat<rs.length:=by omega
  exact xZ (hp.val c) (d:=10*((x.p_-1).toNat:Nat)) (by omega) (hp.pl c)
end
end
theorem Q7s(hF:Q7<=F):Jc ([0,1]:List Int) (λy0 y1=>Hb F y0 y1 [0,0])=some [0,1]:=by
 have f:∀a b:Int,(a=0\/a=1)->(b=0\/b=1)->Hb F a b [0,0]=some (if a<b then -1 else if b<a then 1 else 0):=by
  intro a b c d;have e:∀x:Int,(x=0\/x=1)->gl ([0,0]:List Int) x.toNat=0:=by rintro x (rfl|rfl)<;>rfl
  unfold Hb;rw[e a c,e b d]
  refine Q9 (by simp only[Qb0,Qb6];omega) (Q9 (by simp only[Qb0,Qb6];omega) (Q4 (Hx F _ _) (Q4 (Hx F _ _) (Q4 (Q2T F hF _ _) ?_))));simp
 refine Q6d (by simp[Y6]) ⟨.refl _,?_,λa c=>?_⟩
 .refine .cons (λb d=>?_) (Qf4 _ _)
  rw[Qb1]at d;subst d
  exact⟨⟨_,f 0 1 (.inl rfl) (.inr rfl),by decide⟩,⟨_,f 1 0 (.inr rfl) (.inl rfl),by decide⟩⟩
 .have c:a=0\/a=1:=by simpa using c
  exact⟨_,f a a c c,by simp⟩
theorem Q7t(hF:Q7<=F):CL F 3 [1,2]=some ([1,2],0):=by
 have a:=hF;unfold Q7 at a
 obtain⟨G,rfl⟩:∃G,F=G+8:=⟨F-8,by omega⟩;have h:CL (G+8) 3 [1,2]=CK (G+8) 0 [1,2] [0,1] [0,0]:=by kernel_rfl
 rw[h];unfold CK
 exact Q4 (Q7s hF) rfl
abbrev VT(K:Int)(v:List Version):Prop:=∀x∈v,LinT K P3 x.lines_/\x.lines_.length<=2
theorem Q4w(hF:Q7<=F)(ht:TOk t):∃t' cs v,Py F t=some (t',cs,v,P3)/\TOk t' /\ CropT cs/\1<=v.length/\v.length<=3/\VT (cs.length:Nat) v:=by
 have B:=hF;unfold Q7 at B
 obtain⟨o,cs,G,C,e⟩:=Z1M hF ht;have u:=e.len
 suffices h:Ok (Py F t) λz=>∃t' v,z=(t',cs,v,P3)/\TOk t' /\ 1<=v.length/\v.length<=3/\VT (cs.length:Nat) v by
  obtain⟨_,A,t',v,rfl,s,q,K,N⟩:=h;exact⟨t',cs,v,A,s,e,q,K,N⟩
 unfold Py;refine G5 G ?_
 refine Zb (λz:Int×List Re_=>∃i:Nat,i<=3/\z=((i:Int),P3.take i)) (λz=>3-z.1.toNat) (λc z j m=>?_) ⟨0,Qc2 _,rfl⟩ (by simp;omega);obtain⟨i,hi,rfl⟩:=j
 show Ok (Lp F (o,cs) c (i:Int) (P3.take i)) _;unfold Lp
 refine V7 (λh=>?_) (λh=>?_)
 .have h:i<3:=by have:=Qa6 h;omega
  have f:(P3.take i).length=i:=by rw[Qd1];show min i 3=i;omega
  refine V9 (Y8 (by omega) (by omega)) (V9 (Y8 (by omega) (by omega)) (V9 (Y8 (by omega) (by omega)) (V9 ?_ (V9 (Y8 (by omega) (by omega)) (m _ ⟨i+1,h,?_⟩ (by simp only;omega))))))
  .rw [f];simp only[Qb0,Qb6];unfold Y6;omega
  .rw [QB (show i<P3.length from h),Q3E h];rfl
 .have h:i=3:=by have:=Qa8 h;omega
  subst h;show Ok (Mf F (o,cs) P3) _
  unfold Mf;obtain⟨P,n,D,H,Q,n2⟩:=ZR (F:=F) C (lo:=1) (hi:=3) (by omega) (by omega) (by omega)
  refine G5 D ?_;refine Zb (λz:Int×(List Int)×Int×(List Version)=>0<=z.1/\TOk ⟨z.2.1,z.2.2.1⟩/\z.1+z.2.2.2.length=n/\VT (cs.length:Nat) z.2.2.2) (λz=>z.1.toNat) (λc z j m=>?_) ⟨by simp only;omega,H,by simp,λx d=>by simp at d⟩ (by simp only;omega)
  obtain⟨k,a,b,v⟩:=z;obtain⟨J,p,r,g⟩:=j
  simp only at J p r g;show Ok (Lo F (o,cs) P3 c k a b v) _
  unfold Lo;refine V7 (λh=>?_) (λh=>?_)
  .have h:=Qa6 h
   obtain⟨O,l,R,rs,y,I,M,E,q⟩:=Z1v hF p (cs:=cs) (by omega) (most:=2) (by omega) (by omega);refine G5 y (V9 ?_ (V9 (Y8 (by omega) (by omega)) (m _ ⟨by simp only;omega,I,?_,λx d=>?_⟩ (by simp only;omega))))
   .simp only[Qb0,Qb6];unfold Y6;omega
   .simp only[Qb5,Qb0,Qb6];omega
   .rcases Qb2.1 d with d|d
    .exact g x d
    .rw [Qb1.1 d]
     exact⟨E.p3 M,by simp only;omega⟩
  .have h:=Qa8 h
   unfold Ln;exact K2 ⟨_,_,rfl,p,by omega,by omega,g⟩
theorem Q5x:K7 [(⟨0,0,10,10⟩:Rect)]:=Me (by decide)
theorem Q4y(hF:Q7+3<=F):Mg F=some true:=by
 have a:Q7<=F:=by omega
 have b:=a;unfold Q7 at b
 have e:Bk F [(⟨0,0,10,10⟩:Rect)]=some (⟨[⟨0,0,10,10⟩]⟩,0):=by
  rw[Q8P a (by simp) (λr f=>by rw[Qb1.1 f];decide),Q2Q (by decide)];rfl
 have j:Dy F ⟨[⟨0,0,10,10⟩]⟩=some ([[⟨0,0⟩,⟨10,0⟩,⟨10,10⟩,⟨0,10⟩]],0):=by
  unfold Dy;exact Qa2 rfl
 have n:Bq F ⟨[⟨0,0,10,10⟩]⟩=some 100:=by
  rw[Q8V a Q5x];rfl
 have h:Ps F ⟨#[97,32,98,10]⟩=some ([[⟨#[97]⟩,⟨#[98]⟩]],0):=by
  unfold Ps;exact Qa2 rfl
 have d:Rv F ⟨0,⟨#[115]⟩,⟨1,0,0,[]⟩,[⟨1000,200⟩],0,0,false⟩ 100=some (200,0):=by
  have c:SD 3 ⟨0,⟨#[115]⟩,⟨1,0,0,[]⟩,[⟨1000,200⟩],0,0,false⟩:=⟨Q5d 2,by show(1:Nat)<=_;omega,by simp⟩;have k:Za 3 ⟨0,⟨#[115]⟩,⟨1,0,0,[]⟩,[⟨1000,200⟩],0,0,false⟩=0:=by
   have i:QV (ByteArray.mk #[115])=true:=by decide +kernel
   have g:Ul [⟨1000,200⟩]=true:=by decide +kernel
   unfold Za;rw[show YG 3 ⟨1,0,0,[]⟩=0 from Q5c 2,Qa1 (by simp),Qa1 (by rw[i];simp),Qa1 (by simp),Qa1 (by rw[g];simp[Z3q.2])]
  unfold Rv;refine Q4 (Rs (by omega) hF c) ?_
  rw[k];obtain⟨G,rfl⟩:∃G,F=G+3:=⟨F-3,by omega⟩
  rfl
 have m:=Q7t a;unfold Mg
 exact Q4 e (Q4 j (Q4 n (Q4 d (Q4 h (Q4 m rfl)))))
theorem Z4N{l:List Rect}(h:∀r∈l,r.L_<=r.R_/\r.R_<=r.L_+9/\r.w_<=r.H_/\r.H_<=r.w_+9):0<=Wn l/\Wn l<=81*l.length:=by
 induction l with
 |nil=>exact⟨by decide,by decide⟩
 |cons r l ih=>
  have f:=h r Qg5;have b:=ih λq a=>h q (Qf9 _ a)
  have e:Wn (r::l)=Ww r+Wn l:=by unfold Wn;simp
  have c:0<=Ww r:=Qs3 (by omega) (by omega);have d:Ww r<=9*9:=Qw3 (by omega) (by omega) (by omega) (by omega)
  rw[e,Qb0];omega
theorem Z3f{w:World}(hp:ParT rs){s:Scheme}(h:LinT K rs l)(h6:l.length<=6):0<=Wn (QL w rs s Vs l)/\Wn (QL w rs s Vs l)<=58320:=by
 have j:=hp.len;have k:∀x∈l,TR x.g_.t_:=λx e=>by
  have c:=h.one x e;have i:=c.par
  exact xZ c.val (d:=10*(x.p_-1)) (by omega) (c.pl hp)
 have m:=Cv (w:=w) (rs:=rs) (s:=s) Ri k;have:=Z4N (l:=QL w rs s Vs l) λr b=>by
  obtain⟨x,e,b⟩:=Qc1.1 b;split at b
  .have c:=h.one x e
   have i:=c.par;have a:=Tw w x (Uz rs x) s
   have g:=yl (S:=(UE w x (Uz rs x) s).Y) (d:=10*(x.p_-1)) a.fY (by omega) λu v f=>c.pl hp u v (a.sY u v f)
   have n:=g.2 r b;have o:=(US a.fY).pos b
   omega
  .simp at b
 omega
theorem Q4p{w:World}(hp:ParT rs){s:Scheme}(h:LinT K rs l)(h6:l.length<=6):0<=YX w rs l s/\YX w rs l s<=58320:=by
 have:=Z3f (w:=w) hp (s:=s) h h6
 unfold YX;split<;>omega
section
structure RgI (k:Nat) (x:Entitlements):Prop where
 len:x.lots_.length<=k
 nx:x.next_<=k+1
 ud:∀l∈x.lots_,l.used_<=5
theorem RgI.up{x:Entitlements}(h:RgI k x):RgI (k+1) x:=⟨Qm5 h.len,by have:=h.nx;omega,h.ud⟩
abbrev LP(l:Lot):Prop:=1<=l.squares_/\l.squares_<=268435456
structure RgC (x:Entitlements):Prop where
 nx:1<=x.next_/\x.next_<=1073741824
 rs:0<=x.reserve_/\x.reserve_<=1099511627776
 sq:∀i,i<x.lots_.length->LP (gl x.lots_ i)
theorem QH{α R:Type}{x:Option α}{f:α->Option R}{P:α->Prop}{G:R->Prop}(h:Ok x P)(k:∀a,P a->Ok (f a) G):Ok (x.bind f) G:=by
 obtain⟨a,e,p⟩:=h;exact G5 e (k a p)
theorem Z0S{α:Type}[Emb α]{l:List α}{x:α}(h:x∈l):∃i,i<l.length/\gl l i=x:=by
 obtain⟨i,a,e⟩:=Qc3 h;exact⟨i,a,(y7 a).trans e⟩
theorem vv{α:Type}[Emb α]{l:List α}{x:α}(hi:i<l.length)(j:Nat):gl (l.set i x) j=if j=i then x else gl l j:=by
 unfold gl;simp only[Qa0,Qp7]
 by_cases h:i=j
 .subst h;simp[hi]
 .rw [Qa1 h,Qa1 (Qw1 h)]
theorem Ba{α:Type}{P:α->Prop}{l:List α}{x:α}(h:∀y∈l,P y)(hx:P x):∀y∈l.set i x,P y:=λy b=>by
 rcases Ql8 b with a|a
 .exact h y a
 .rw [a];exact hx
theorem HH{α:Type}{P:α->Prop}{l:List α}{x:α}(h:∀y∈l,P y)(hx:P x):∀y∈l++[x],P y:=λy b=>by
 rcases Qb2.1 b with a|a
 .exact h y a
 .rw [Qb1.1 a];exact hx
section
variable {F:Nat} {x:Entitlements} {k:Nat} {a:Act}
theorem Kr(F:Nat)(n:Int):Ok (VR F n) λ_=>True:=by
 unfold VR Sf;exact V7 (λ_=>K2 trivial) λ_=>K2 trivial
theorem Q8Z(hF:Q7<=F)(hl:x.lots_.length<=80)(hr:0<=x.reserve_/\x.reserve_<=1099511627776)(hp:∀i,i<x.lots_.length->LP (gl x.lots_ i)):Ok (Sd F x) λ_=>True:=by
 unfold Q7 at hF;unfold Sd
 refine Zb (λz:Int×Int=>∃i:Nat,i<=x.lots_.length/\z.2=i/\0<=z.1/\z.1<=1099511627776+i*268435456) (λz=>x.lots_.length-z.2.toNat) (λb z e f=>?_) ⟨0,Qc2 _,rfl,hr.1,by simp only;omega⟩ (by simp only;omega);obtain⟨s,c⟩:=z
 obtain⟨i,m,d,g,j⟩:=e;simp only at d g j
 subst d;show Ok (zn F x b s (i:Int)) _
 unfold zn zm;refine V7 (λh=>?_) (λh=>K2 trivial)
 have h:i<x.lots_.length:=by have:=Qa6 h;omega
 have n:=hp i h;rw[Qa3]
 exact V9 (by omega) (V9 (Y8 (by omega) (by omega)) (V9 (Y8 (by omega) (by omega)) (f _ ⟨i+1,h,by simp,by simp only;omega,by simp only;omega⟩ (by simp only;omega))))
theorem zE(hF:Q7<=F)(hl:x.lots_.length<=80):Ok (Xc F x) λe=>e=0->RgC x:=by
 have K:=hF;unfold Q7 at K
 have f:∀n:Int,n≠0->Ok (some n) λe=>e=0->RgC x:=λn y=>K2 λh=>absurd h y
 have r:∀b,(b=false->(1<=x.next_/\x.next_<=1073741824)/\0<=x.reserve_/\x.reserve_<=1099511627776)->Ok (Kw F x b) λe=>e=0->RgC x:=λb N=>by
  unfold Kw;refine V7 (λ_=>f 2 (by decide)) (λh=>?_)
  obtain⟨y,E⟩:=N h;refine Zb (λz:Int×Int=>∃i:Nat,i<=x.lots_.length/\z.2=i/\∀j,j<i->LP (gl x.lots_ j)) (λz=>x.lots_.length-z.2.toNat) (λd z M J=>?_) ⟨0,Qc2 _,rfl,λj I=>absurd I (Qd7 j)⟩ (by simp only;omega)
  obtain⟨s,c⟩:=z;obtain⟨i,O,A,u⟩:=M
  simp only at A;subst A
  show Ok (zG F x d s (i:Int)) _;unfold zG
  refine V7 (λh=>?_) (λh=>?_)
  .have h:i<x.lots_.length:=by have:=Qa6 h;omega
   rw[Qa3];have C:∀v,LP (gl x.lots_ i)->Ok (BJ F x (i:Int) d v) λe=>e=0->RgC x:=λv q=>by
    unfold BJ;refine V7 (λ_=>f 18 (by decide)) λ_=>V9 (Y8 (by omega) (by omega)) (J _ ⟨i+1,h,by simp,λj I=>?_⟩ (by simp only;omega))
    rcases Qc8 j i with g|g
    .exact u j g
    .rw [show j=i by omega];exact q
   have t:∀v,(v=false->LP (gl x.lots_ i))->Ok (Kv F x (i:Int) d v) λe=>e=0->RgC x:=λv q=>by
    unfold Kv;exact V7 (λ_=>f 2 (by decide)) λh=>V7 (λ_=>C _ (q h)) λ_=>C _ (q h)
   have m:∀{p:Prop},true=false->p:=λh=>Bool.noConfusion h
   have D:∀v,Ok (BK F x (i:Int) d v) λe=>e=0->RgC x:=λv=>by
    unfold BK;rw[Qa3]
    refine V7 (λ_=>f 20 (by decide)) λ_=>V7 (λ_=>t _ m) λg=>V7 (λ_=>t _ m) λo=>?_
    have g:=Qa8 g;have o:=Qa8 o
    exact V7 (λ_=>t _ m) λ_=>t _ λ_=>⟨by omega,by omega⟩
   have k2:∀v,Ok (BL F x (i:Int) d v) λe=>e=0->RgC x:=λv=>by
    unfold BL;exact V7 (λ_=>f 19 (by decide)) λ_=>QH (Kr F _) λ_ _=>V7 (λ_=>D _) λ_=>QH (Kr F _) λ_ _=>D _
   exact V9 (by omega) (V7 (λ_=>k2 _) λ_=>k2 _)
  .have h:i=x.lots_.length:=by have:=Qa8 h;omega
   subst h;unfold zF
   have G:RgC x:=⟨y,E,u⟩;exact QH (Q8Z hF hl E u) λ_ _=>V7 (λ_=>K2 λ_=>G) λ_=>K2 λ_=>G
 have m:∀{p:Prop},true=false->p:=λh=>Bool.noConfusion h
 unfold Xc;refine V7 (λ_=>f 1 (by decide)) λ_=>V7 (λ_=>r _ m) λg=>V7 (λ_=>r _ m) λo=>V7 (λ_=>r _ m) λB=>r _ λH=>?_
 have g:=Qa8 g;have o:=Qa8 o
 have B:=Qa8 B;have H:=Qa8 H
 exact⟨⟨by omega,by omega⟩,by omega,by omega⟩
theorem Q9i(hl:x.lots_.length<=80):Ku F x=some x:=by
 unfold Ku;exact Q9 (by unfold Y6;omega) rfl
theorem zq(hF:Q7<=F)(hl:x.lots_.length<=80)(n:Int):Ok (GZ F x n) λz=>z<(x.lots_.length:Nat):=by
 unfold Q7 at hF;unfold GZ
 refine Zb (λz:Int=>∃i:Nat,i<=x.lots_.length/\z=i) (λz=>x.lots_.length-z.toNat) (λb z c d=>?_) ⟨0,Qc2 _,rfl⟩ (by omega);obtain⟨i,e,rfl⟩:=c
 unfold cR zr;refine V7 (λh=>?_) (λh=>K2 (by omega))
 have h:i<x.lots_.length:=by have:=Qa6 h;omega
 exact V9 (by omega) (V7 (λ_=>K2 (by omega)) λ_=>V9 (Y8 (by omega) (by omega)) (d _ ⟨i+1,h,by simp⟩ (by omega)))
theorem zu(h:RgI k x)(hk:k<=70)(hn:1<=x.next_){l:Lot}(hu:l.used_<=5):Ok (Xa F x l) λz=>RgI (k+1) z.1:=by
 have e:=h.len;have d:=h.nx
 have c:∀b,Ok (BA F x l b) λz=>RgI (k+1) z.1:=λb=>by
  unfold BA;refine V7 (λ_=>K2 h.up) λ_=>V9 (by simp only[Qb0,Qb6];unfold Y6;omega) (V9 (Y8 (by omega) (by omega)) (K2 ⟨?_,?_,HH h.ud hu⟩))
  .simp only[Qb5,Qb0,Qb6];omega
  .simp only;omega
 unfold Xa;exact V7 (λ_=>c _) λ_=>c _
theorem cP(hF:Q7<=F)(h:RgI k x)(hk:k<=70)(c:RgC x)(j:Int){s:Int}(hs:0<=s/\s<=268435456):Ok (Bw F x j s) λy=>RgI k y/\y.reserve_=x.reserve_/\y.next_=x.next_:=by
 have A:=h.len;have p:=h.nx
 have f:∀i,i<x.lots_.length->(gl x.lots_ i).used_<=5:=λi o=>h.ud _ (J9 o)
 unfold Q7 at hF;unfold Bw
 refine Zb (λz:Int×List Lot=>∃i:Nat,i<=x.lots_.length/\z.1=i/\z.2.length<=i/\∀l∈z.2,l.used_<=5) (λz=>x.lots_.length-z.1.toNat) (λb z u n=>?_) ⟨0,Qc2 _,rfl,Qb3 _,λl r=>by cases r⟩ (by simp only;omega);obtain⟨q,m⟩:=z
 obtain⟨i,o,g,t,e⟩:=u;simp only at g t e
 subst g;show Ok (zl F x j s b (i:Int) m) _
 unfold zl;refine V7 (λh=>?_) (λ_=>?_)
 .have d:i<x.lots_.length:=by have:=Qa6 h;omega
  have B:=c.sq i d;rw[Qa3]
  have k1:∀v,Ok (Bv F x (i:Int) m b v) λy=>RgI k y/\y.reserve_=x.reserve_/\y.next_=x.next_:=λv=>by
   unfold Bv Sc;rw[Qa3]
   refine V7 (λ_=>V9 (by simp only[Qb0,Qb6];unfold Y6;omega) (V9 (Y8 (by omega) (by omega)) (n _ ⟨i+1,d,by simp,?_,HH e (f i d)⟩ (by simp only;omega)))) λ_=>V9 (Y8 (by omega) (by omega)) (n _ ⟨i+1,d,by simp,by simp only;omega,e⟩ (by simp only;omega))
   simp only[Qb5,Qb0,Qb6];omega
  exact V9 (by omega) (V7 (λ_=>V9 (Y8 (by omega) (by omega)) (k1 _)) λ_=>k1 _)
 .exact K2 ⟨⟨by simp only;omega,p,e⟩,rfl,rfl⟩
theorem Q9X(F:Nat){v:Int}(h0:0<=v/\v<=268435456000000):Ok (Th F v 1000000) λd=> -1<=d/\d<=268435456000000:=by
 have c:0<=v.tdiv 1000000:=Int.tdiv_nonneg h0.1 (by omega);have e:v.tdiv 1000000<=v:=Int.tdiv_le_self _ h0.1
 have f:v.tdiv 1000000*1000000<=v:=by
  rw[Int.tdiv_eq_ediv_of_nonneg h0.1];omega
 have b:Ok (Tc F v 1000000) λ_=>True:=by
  unfold Tc Xn;exact V7 (λ_=>V7 (λ_=>V7 (λ_=>K2 trivial) λ_=>K2 trivial) λ_=>K2 trivial) λ_=>K2 trivial
 unfold Th Tg;exact QH b λ_ _=>V7 (λ_=>K2 (by omega)) λ_=>V9 ⟨Y8 (by omega) (by omega),by decide⟩ (V9 (Y8 (by omega) (by omega)) (V7 (λ_=>V9 (Y8 (by omega) (by omega)) (K2 (by omega))) λ_=>K2 (by omega)))
theorem Q9b(hF:Q7<=F)(h:RgI k x)(hk:k<=70)(c:RgC x):Ok (Se F x a) λz=>RgI (k+1) z.1:=by
 have P:=h.len;have m:∀n:Int,Ok (some (x,n)) λz=>RgI (k+1) z.1:=λn=>K2 h.up
 unfold Se;refine QH (zq hF (by omega) a.lot_) λz S=>V7 (λ_=>m _) λf=>?_
 have f:=Qa8 f;have i:z.toNat<x.lots_.length:=by omega
 have Q:=c.sq _ i;have M:=h.ud _ (J9 i)
 have k2:∀(y:Entitlements) (r o s:Int),RgI k y->y.next_=x.next_->Ok (Bx F x a z y r o s) λz=>RgI (k+1) z.1:=λy r o s b W=>by
  unfold Bx;have j:RgI k ⟨y.lots_,r,y.next_⟩:=⟨b.len,b.nx,b.ud⟩
  exact V7 (λ_=>K2 j.up) λ_=>QH (zu j hk (by have:=c.nx;simp only;omega) M) λw I=>K2 I
 have k1:∀v,(v=false->1<=a.squares_/\a.squares_<=268435456/\(a.k_=2->0<=a.keep_/\a.keep_<=1000000))->Ok (Jo F x a z v) λz=>RgI (k+1) z.1:=λv H=>by
  unfold Jo;refine V7 (λ_=>m _) λK=>?_
  obtain⟨O,N,t⟩:=H K;refine QH (cP hF h hk c z (s:=a.squares_) (by omega)) λy b=>?_
  obtain⟨b,U,G⟩:=b;refine V7 (λu=>?_) λ_=>k2 y _ _ _ b G
  obtain⟨A,J⟩:=t (by simpa using u);have X:0<=a.squares_*a.keep_:=Qs3 (by omega) A
  have R:a.squares_*a.keep_<=268435456*1000000:=Qw3 N J A (by omega);have V:=c.rs
  refine V9 (Y8 (by omega) (by omega)) (QH (Q9X F (by omega)) λd T=>V9 (Y8 (by omega) (by omega)) (V9 (Y8 (by omega) (by omega)) (k2 y _ _ _ b G)))
 have q:∀{p:Prop},true=false->p:=λh=>Bool.noConfusion h
 have C:∀v,Ok (Bz F x a z v) λz=>RgI (k+1) z.1:=λv=>by
  unfold Bz;refine V7 (λ_=>m _) λ_=>V7 (λ_=>k1 _ q) λD=>V7 (λ_=>k1 _ q) λE=>?_
  have D:=Qa8 D;have E:=Qa8 E
  refine V7 (λ_=>V7 (λ_=>k1 _ q) λg=>k1 _ λB=>?_) λg=>k1 _ λ_=>⟨by omega,by omega,λe=>by rw[e]at g;simp at g⟩
  have g:=Qa8 g;have B:=Qa8 B
  exact⟨by omega,by omega,λ_=>by omega⟩
 exact V9 (by omega) (QH (Kr F _) λ_ _=>V7 (λ_=>m _) λ_=>V7 (λ_=>C _) λ_=>C _)
end
end
section
section
variable {F:Nat} {x:Entitlements} {k:Nat} {a:Act}
abbrev Pl(n:Nat)(l:List Int):Prop:=∀i∈l,0<=i/\i<(n:Int)
theorem Q9f(hF:Q7<=F)(hl:x.lots_.length<=80)(f:Int):Ok (Sk F x f) λl=>l.length<=x.lots_.length/\Pl x.lots_.length l:=by
 have D:=hF;unfold Q7 at D
 unfold Sk;refine QH (zE hF hl) λe _=>V7 (λ_=>K2 ⟨Qc2 _,λi u=>by cases u⟩) λ_=>?_
 refine Zb (λz:Int×List Int=>∃i:Nat,i<=x.lots_.length/\z.1=i/\z.2.length<=i/\Pl x.lots_.length z.2) (λz=>x.lots_.length-z.1.toNat) (λb z n B=>?_) ⟨0,Qc2 _,rfl,Qb3 _,λl hl=>by cases hl⟩ (by simp only;omega);obtain⟨q,m⟩:=z
 obtain⟨i,u,p,E,d⟩:=n;simp only at p E d
 subst p;show Ok (zy F x f b (i:Int) m) _
 unfold zy;refine V7 (λh=>?_) (λ_=>K2 ⟨by omega,d⟩)
 have h:i<x.lots_.length:=by have:=Qa6 h;omega
 have s:∀v:List Int,v.length<=i+1->Pl x.lots_.length v->Ok (BG F (i:Int) b v) λl=>l.length<=x.lots_.length/\Pl x.lots_.length l:=λv r g=>by
  unfold BG;exact V9 (Y8 (by omega) (by omega)) (B _ ⟨i+1,h,by simp,r,g⟩ (by simp only;omega))
 refine V9 (by omega) (V7 (λ_=>s m (by omega) d) λ_=>?_);refine Zb (λz:Int=>∃t:Nat,t<=m.length/\z=t) (λz=>z.toNat) (λG z n j=>?_) ⟨m.length,Qb3 _,rfl⟩ (by omega)
 obtain⟨t,H,rfl⟩:=n;have C:Ok (Sj F (i:Int) m b (t:Int)) λl=>l.length<=x.lots_.length/\Pl x.lots_.length l:=by
  unfold Sj;have r:Y6=4294967296:=rfl
  simp only[Qa3];refine V9 (by omega) (V9 (by omega) (V9 (by omega) (V9 (by simp only[Qb0,Qb6];omega) (V9 (by omega) (V9 (by omega) (V9 (by simp only[Qb0,Qb6];omega) (s _ ?_ ?_)))))))
  .simp only[Qb5,Qb0,Qb6,Qd1,Qk8];omega
  .intro e c
   simp only[Qk2,Qb2,Qb1]at c;rcases c with (c|c)|c
   .exact d e (Qo3 (Qh5 c))
   .rw [c];omega
   .exact d e (Qo3 (Qh5 c))
 have k2:∀v,(v=true->1<=t)->Ok (BH F (i:Int) m (t:Int) G b v) λl=>l.length<=x.lots_.length/\Pl x.lots_.length l:=λv y=>by
  unfold BH;refine V7 (λh=>?_) λ_=>C
  have h:=y h;exact V9 (Y8 (by omega) (by omega)) (j _ ⟨t-1,by omega,by omega⟩ (by omega))
 unfold cU;refine V7 (λg=>?_) λ_=>k2 _ (λh=>Bool.noConfusion h)
 have g:=Qa6 g;have A:(t:Int)-1=((t-1:Nat):Int):=by omega
 have o:=d _ (J9 (l:=m) (i:=t-1) (by omega));rw[A,Qa3]
 exact V9 (Y8 (by omega) (by omega)) (V9 (by omega) (V9 o (k2 _ λ_=>by omega)))
theorem Q9h(hF:Q7<=F)(hl:x.lots_.length<=80)(f:Int):Ok (Sn F x f) λ_=>True:=by
 have v:=hF;unfold Q7 at v
 unfold Sn;refine QH (zE hF hl) λe r=>V7 (λ_=>K2 trivial) λt=>?_
 have c:=r (by simpa using t);refine Zb (λz:Int×Int×Int=>∃i:Nat,i<=x.lots_.length/\z.2.2=i/\0<=z.1/\z.1<=i*268435456/\0<=z.2.1/\z.2.1<=i*268435456) (λz=>x.lots_.length-z.2.2.toNat) (λb z y n=>?_) ⟨0,Qc2 _,rfl,by simp,by simp,by simp,by simp⟩ (by simp only;omega)
 obtain⟨o,u,q⟩:=z;obtain⟨i,D,m,g,B,A,s⟩:=y
 simp only at m g B A s;subst m
 show Ok (zB F x f b o u (i:Int)) _;unfold zB zA
 refine V7 (λh=>?_) (λ_=>K2 trivial);have h:i<x.lots_.length:=by have:=Qa6 h;omega
 have C:=c.sq i h;have k1:∀d : Int,0<=d -> d <= ((i+1:Nat):Int)*268435456->Ok (BI F x f u (i:Int) b d) λ_=>True:=λd j p=>by
  unfold BI Sl;rw[Qa3]
  exact V7 (λ_=>V9 (Y8 (by omega) (by omega)) (V9 (Y8 (by omega) (by omega)) (n _ ⟨i+1,h,by simp,j,p,by simp only;omega,by simp only;omega⟩ (by simp only;omega)))) λ_=>V9 (Y8 (by omega) (by omega)) (n _ ⟨i+1,h,by simp,j,p,by simp only;omega,by simp only;omega⟩ (by simp only;omega))
 rw[Qa3];exact V9 (by omega) (V7 (λ_=>V9 (Y8 (by omega) (by omega)) (k1 _ (by omega) (by omega))) λ_=>k1 _ g (by omega))
abbrev LU(n:Nat)(m:List Lot):Prop:=m.length=n/\∀l∈m,l.used_<=5/\LP l
theorem Q8X(hF:Q7<=F)(h:RgI k x)(hk:k<=70)(c:RgC x)(hy:a.year_<=5):Ok (Sb F x a) λz=>RgI (k+1) z.1:=by
 have U:=hF;unfold Q7 at U
 have h1:=h.len;have A:∀n:Int,Ok (some (x,n)) λz=>RgI (k+1) z.1:=λn=>K2 h.up
 unfold Sb;refine QH (Kr F _) λ_ _=>V7 (λ_=>A _) λ_=>QH (Q9f hF (by omega) a.farm_) λl X=>?_
 obtain⟨a1,o⟩:=X;have M:∀m,LU x.lots_.length m->Ok (Br F x m) λz=>RgI (k+1) z.1:=λm f=>by
  unfold Br;exact K2 (RgI.up ⟨by simp only;omega,h.nx,λy hy=>(f.2 y hy).1⟩)
 have N:∀v,(v=false->1<=a.squares_/\a.squares_<=268435456)->Ok (Bs F x a l v) λz=>RgI (k+1) z.1:=λv S=>by
  unfold Bs;refine V7 (λ_=>A _) λV=>QH (Q9h hF (by omega) _) λ_ _=>V7 (λ_=>A _) λ_=>?_
  obtain⟨s0,s1⟩:=S V;have B:LU x.lots_.length x.lots_:=⟨rfl,λy hy=>⟨h.ud y hy,by obtain⟨i,C,e⟩:=Z0S hy;rw[<-e];exact c.sq i C⟩⟩
  refine Zb (λz:Int×Int×List Lot=>∃i:Nat,i<=l.length/\z.2.1=i/\0<=z.1/\z.1<=268435456/\LU x.lots_.length z.2.2) (λz=>l.length-z.2.1.toNat) (λb z s D=>?_) ⟨0,Qc2 _,rfl,by simp only;omega,s1,B⟩ (by simp only;omega);obtain⟨w,q,m⟩:=z
  obtain⟨i,C,t,W,R,f⟩:=s;simp only at t W R f
  subst t;show Ok (zj F x a l b w (i:Int) m) _
  unfold zj;refine V7 (λg=>?_) λ_=>M m f
  have g:i<l.length:=by have:=Qa6 g;omega
  have J:=o _ (J9 g);rw[Qa3]
  refine V9 (by omega) (V7 (λ_=>M m f) λG=>?_);have G:¬w=0:=by simpa using G
  obtain⟨j,hje⟩:∃j,(gl l i).toNat=j:=⟨_,rfl⟩;have u:j<m.length:=by have:=f.1;omega
  have d:0<=gl l i/\gl l i<((m.length:Nat):Int):=by have:=f.1;omega
  rw[hje];have T:=f.2 _ (J9 u)
  obtain⟨hu,Y,O⟩:=T;refine V9 d (V7 (λ_=>?_) λr=>?_)
  .rw [Qh1,vv u,Qa2 rfl]
   refine V9 d (V9 d (V9 (Y8 (by simp only;omega) (by simp only;omega)) (V9 (Y8 (by omega) (by omega)) (D _ ⟨i+1,g,by simp,?_,?_,by rw[Qh1];exact f.1,Ba f.2 ⟨hy,Y,O⟩⟩ (by simp only;omega)))))
   .rename_i E;have:=Qa6 E;simp only;omega
   .simp only;omega
  .have r:=Qa8 r
   refine V9 d (V9 d (V9 (Y8 (by omega) (by omega)) (V9 d (QH (P:=λz=>RgI (k+1) z.1) ?_ λz s=>K2 s))));refine zu (k:=k) ?_ hk ?_ ?_
   .refine ⟨?_,h.nx,?_⟩
    .simp only[Qh1];have:=f.1;omega
    .exact Ba (λy hy=>(f.2 y hy).1) hu
   .exact c.nx.1
   .exact hy
 have Q:∀{p:Prop},true=false->p:=λh=>Bool.noConfusion h
 have Z:∀v,Ok (Sa F x a l v) λz=>RgI (k+1) z.1:=λv=>by
  unfold Sa;refine V7 (λ_=>A _) λ_=>V7 (λ_=>N _ Q) λI=>N _ λK=>?_
  have I:=Qa8 I;have K:=Qa8 K
  omega
 have H:∀v,Ok (Bu F x a l v) λz=>RgI (k+1) z.1:=λv=>by
  unfold Bu;refine Zb (λz:Bool×Int=>∃i:Nat,i<=l.length/\z.2=i) (λz=>l.length-z.2.toNat) (λb z s D=>?_) ⟨0,Qc2 _,rfl⟩ (by simp only;omega)
  obtain⟨w,q⟩:=z;obtain⟨i,C,t⟩:=s
  simp only at t;subst t
  show Ok (zk F x a l b w (i:Int)) _;unfold zk
  refine V7 (λg=>?_) λ_=>Z _
  have g:i<l.length:=by have:=Qa6 g;omega
  have J:=o _ (J9 g);have k2:∀v,Ok (Bt F (i:Int) b v) λz=>RgI (k+1) z.1:=λv=>by
   unfold Bt;exact V9 (Y8 (by omega) (by omega)) (D _ ⟨i+1,g,by simp⟩ (by simp only;omega))
  rw[Qa3];exact V9 (by omega) (V7 (λ_=>k2 _) λ_=>V9 J (k2 _))
 exact V7 (λ_=>H _) λ_=>H _
theorem Q9d(hF:Q7<=F)(h:RgI k x)(hk:k<=70)(c:RgC x)(hy:a.year_<=5):Ok (Sh F x a) λz=>RgI (k+1) z.1:=by
 have W:=hF;unfold Q7 at W
 have U:=h.len;have hr:=c.rs
 have o:∀n:Int,Ok (some (x,n)) λz=>RgI (k+1) z.1:=λn=>K2 h.up
 have D:∀{p:Prop},true=false->p:=λh=>Bool.noConfusion h
 have u:∀(r n:Int) (m:List Lot),m.length<=k->n=x.next_->(∀l∈m,l.used_<=5)->Ok (Ks F r n m) λz=>RgI (k+1) z.1:=λr n m B C X=>by
  unfold Ks;exact K2 (RgI.up ⟨B,by have:=h.nx;simp only;omega,X⟩)
 have N:∀v,(v=false->1<=a.squares_/\a.squares_<=268435456)->Ok (Kt F x a v) λz=>RgI (k+1) z.1:=λv e=>by
  unfold Kt;refine V7 (λ_=>o _) λH=>V7 (λ_=>o _) λ_=>?_
  obtain⟨M,Q⟩:=e H;refine V9 (Y8 (by omega) (by omega)) (QH (P:=λz=>RgI (k+1) z.1) ?_ λz j=>K2 j)
  refine zu (k:=k) ?_ hk ?_ ?_
  .exact ⟨h.len,h.nx,h.ud⟩
  .exact c.nx.1
  .show (-1:Int)<=5;omega
 have k2:∀v,Ok (Xb F x a v) λz=>RgI (k+1) z.1:=λv=>by
  unfold Xb;refine V7 (λ_=>o _) λ_=>?_
  refine Zb (λz:Int×List Lot=>∃i:Nat,i<=x.lots_.length/\z.1=i/\z.2.length=x.lots_.length/\∀l∈z.2,l.used_<=5) (λz=>x.lots_.length-z.1.toNat) (λb z j O=>?_) ⟨0,Qc2 _,rfl,rfl,h.ud⟩ (by simp only;omega);obtain⟨q,m⟩:=z
  obtain⟨i,Y,K,G,d⟩:=j;simp only at K G d
  subst K;show Ok (zx F x a b (i:Int) m) _
  unfold zx;refine V7 (λt=>?_) λ_=>u _ _ m (by omega) rfl d
  have t:i<x.lots_.length:=by have:=Qa6 t;omega
  have R:∀v:List Lot,v.length=x.lots_.length->(∀l∈v,l.used_<=5)->Ok (BC F (i:Int) b v) λz=>RgI (k+1) z.1:=λv B C=>by
   unfold BC;exact V9 (Y8 (by omega) (by omega)) (O _ ⟨i+1,t,by simp,B,C⟩ (by simp only;omega))
  have T:∀v:List Lot,v.length=x.lots_.length->(∀l∈v,l.used_<=5)->Ok (BD F a (i:Int) b v) λz=>RgI (k+1) z.1:=λv B C=>by
   unfold BD;rw[Qa3]
   have e:=C _ (J9 (l:=v) (i:=i) (by omega));exact V9 (by omega) (V7 (λ_=>V9 (by omega) (R _ (by rw[Qh1];exact B) (Ba C e))) λ_=>R _ B C)
  rw[Qa3];have e:=d _ (J9 (l:=m) (i:=i) (by omega))
  exact V9 (by omega) (V7 (λ_=>V9 (by omega) (T _ (by rw[Qh1];exact G) (Ba d e))) λ_=>T _ G d)
 have S:∀v,(v=false->0<=a.year_)->Ok (BB F x a v) λz=>RgI (k+1) z.1:=λv e=>by
  unfold BB;refine V7 (λ_=>o _) λH=>?_
  have y0:=e H;refine Zb (λz:Int×Int×List Lot=>∃i:Nat,i<=x.lots_.length/\z.1=i/\0<=z.2.1/\z.2.1<=1099511627776+i*268435456/\z.2.2.length<=i/\∀l∈z.2.2,l.used_<=5) (λz=>x.lots_.length-z.1.toNat) (λb z j O=>?_) ⟨0,Qc2 _,rfl,hr.1,by simp only;omega,Qb3 _,λl Z=>by cases Z⟩ (by simp only;omega)
  obtain⟨q,s,m⟩:=z;obtain⟨i,Y,K,M,Q,G,d⟩:=j
  simp only at K M Q G d;subst K
  show Ok (zw F x a b (i:Int) s m) _;unfold zw zv
  refine V7 (λt=>?_) λ_=>u _ _ m (by omega) rfl d
  have t:i<x.lots_.length:=by have:=Qa6 t;omega
  have V:=c.sq i t;have e:=h.ud _ (J9 t)
  rw[Qa3];unfold Sg
  refine V9 (by omega) (V9 (Y8 (by omega) (by omega)) (V7 (λ_=>V9 (Y8 (by omega) (by omega)) (V9 (Y8 (by omega) (by omega)) (O _ ⟨i+1,t,by simp,by simp only;omega,by simp only;omega,by simp only;omega,d⟩ (by simp only;omega)))) λ_=>V9 (by simp only[Qb0,Qb6];unfold Y6;omega) (V9 (Y8 (by omega) (by omega)) (O _ ⟨i+1,t,by simp,M,by simp only;omega,?_,HH d e⟩ (by simp only;omega)))));simp only[Qb5,Qb0,Qb6];omega
 have k1:∀v,Ok (BF F x a v) λz=>RgI (k+1) z.1:=λv=>by
  unfold BF;refine V7 (λ_=>QH (Q9b hF h hk c) λz j=>K2 j) λ_=>V7 (λ_=>?_) λ_=>V7 (λ_=>?_) λ_=>V7 (λ_=>QH (Q8X hF h hk c hy) λz j=>K2 j) λ_=>V7 (λ_=>?_) λ_=>V7 (λ_=>?_) λ_=>o _
  .refine QH (zq hF (by omega) a.lot_) λz j=>V7 (λ_=>o _) λf=>?_
   have f:=Qa8 f;have A:z.toNat<x.lots_.length:=by omega
   have d:=h.ud _ (J9 A);exact V9 (by omega) (V9 (by omega) (V7 (λ_=>o _) λ_=>V9 (by omega) (V9 (by omega) (u _ _ _ (by rw[Qh1];exact U) rfl (Ba h.ud d)))))
  .exact QH (Kr F _) λ_ _=>V7 (λ_=>k2 _) λ_=>QH (Kr F _) λ_ _=>V7 (λ_=>k2 _) λ_=>k2 _
  .refine V7 (λ_=>S _ D) λg=>S _ λ_=>?_
   have g:=Qa8 g;omega
  .refine QH (zq hF (by omega) a.lot_) λz j=>V7 (λ_=>o _) λf=>?_
   have f:=Qa8 f;have A:z.toNat<x.lots_.length:=by omega
   have V:=c.sq _ A;have E:∀v,(v=false->1<=a.squares_/\a.squares_<=268435456)->Ok (BE F x a z v) λz=>RgI (k+1) z.1:=λv e=>by
    unfold BE;refine V7 (λ_=>o _) λH=>V9 (by omega) (V9 (by omega) (V7 (λ_=>o _) λ_=>?_))
    obtain⟨M,Q⟩:=e H;refine QH (cP hF h hk c z (s:=a.squares_) (by omega)) λy hy=>?_
    obtain⟨hy,yr,yn⟩:=hy;exact V9 (Y8 (by omega) (by omega)) (u _ _ _ hy.len yn hy.ud)
   refine V7 (λ_=>E _ D) λI=>V9 (by omega) (E _ λJ=>?_)
   have I:=Qa8 I;have J:=Qa8 J
   omega
 unfold Sh;refine V7 (λ_=>QH (Kr F _) λ_ _=>V7 (λ_=>o _) λ_=>V7 (λ_=>N _ D) λI=>V7 (λ_=>N _ D) λJ=>?_) λ_=>V7 (λ_=>k1 _) λ_=>k1 _
 have I:=Qa8 I;have J:=Qa8 J
 exact V7 (λ_=>N _ D) λ_=>N _ λ_=>by omega
theorem cW(hF:Q7<=F)(h:RgI k x)(hk:k<=70)(hy:a.year_<=5):Ok (BM F x a) λz=>RgI (k+1) z.1:=by
 have g:=h.len;have b:Ku F x=some x:=Q9i (by omega)
 unfold BM;refine QH (zE hF (by omega)) λe c=>V7 (λ_=>G5 b (K2 h.up)) λf=>G5 b (QH (Q9d hF h hk (c (by simpa using f)) hy) λz d=>V7 (λ_=>G5 b (K2 h.up)) λ_=>K2 d)
theorem Z1O(hF:Q7<=F)(ht:TOk t)(hl:x.lots_.length<=80):Ok (TY F t x) λz=>TOk z.1/\z.2.year_<=5:=by
 obtain⟨K,E,D,y,_,_⟩:=ZR (F:=F) ht (lo:=1) (hi:=8) (by omega) (by omega) (by omega);obtain⟨i,n2,A,S,_,_⟩:=ZR (F:=F) y (lo:=1) (hi:=4) (by omega) (by omega) (by omega)
 obtain⟨f,n3,T,G,_,_⟩:=ZR (F:=F) S (lo:=1) (hi:=4) (by omega) (by omega) (by omega);obtain⟨X,n4,M,O,_,_⟩:=ZR (F:=F) G (lo:=1) (hi:=60) (by omega) (by omega) (by omega)
 obtain⟨I,P,H,p,_,_⟩:=Qz (F:=F) O (n:=500) (by omega) (by omega);obtain⟨N,C,u,r,a6,V⟩:=Qz (F:=F) p (n:=4) (by omega) (by omega)
 obtain⟨g,q,R,c,a7,U⟩:=Qz (F:=F) r (n:=6) (by omega) (by omega);unfold TY
 refine G5 D (G5 A (G5 T (G5 M (G5 H (G5 u (V9 (by simp only[Qb0,Qb6];omega) (G5 R (V7 (λh=>?_) λ_=>?_))))))))
 .have h:=Qa6 h
  obtain⟨o,j,s,Q,Y,Z⟩:=Qz (F:=F) c (n:=((x.lots_.length:Nat):Int)) (by omega) (by omega);obtain⟨e,W,J,B⟩:=DD (F:=F) Q (n:=2) (by omega) (by omega)
  have d:∀v,Ok (DI F x (K,E) (i,n2) (f,n3) (I,P) (N,C) (g,q) (o,j) e.l_ e.at_ v) λz=>TOk z.1/\z.2.year_<=5:=λv=>by
   obtain⟨ta,na,m,b⟩:=DD (F:=F) B (n:=2) (by omega) (by omega);unfold DI XD
   exact G5 m (V7 (λ_=>K2 ⟨b,by simp only;omega⟩) λ_=>K2 ⟨b,by simp only;omega⟩)
  exact G5 s (V9 (by simp only;omega) (G5 J (V7 (λ_=>d _) λ_=>d _)))
 .unfold XD
  exact K2 ⟨c,by simp only;omega⟩
theorem Z1K(hF:Q7<=F)(ht:TOk t):Ok (TW F t 3) λz=>TOk z.1/\RgI 7 z.2.1:=by
 have E:=hF;unfold Q7 at E
 obtain⟨t1,Y,K,H,a1,b1⟩:=ZR (F:=F) ht (lo:=50) (hi:=400) (by omega) (by omega) (by omega);obtain⟨U,n2,I,S,V,O⟩:=ZR (F:=F) H (lo:=1) (hi:=4) (by omega) (by omega) (by omega)
 unfold TW;refine G5 K (G5 I (Zb (λz:Int×List Int×Int×List Lot×Int×Int=>TOk ⟨z.2.1,z.2.2.1⟩/\0<=z.1/\z.1<=4/\RgI (4-z.1.toNat) ⟨z.2.2.2.1,z.2.2.2.2.1,z.2.2.2.2.2⟩) (λz=>z.1.toNat) (λd z c M=>?_) ⟨S,by simp only;omega,O,by simp,by simp only;omega,λl i=>by cases i⟩ (by simp only;omega)))
 obtain⟨n,p,q,m,r,s⟩:=z;obtain⟨f,v,u,b⟩:=c
 simp only at f v u b;show Ok (yX F 3 d n p q m r s) _
 unfold yX;refine V7 (λh=>?_) (λh=>?_)
 .have h:=Qa6 h
  obtain⟨B,n3,A,j,_,_⟩:=ZR (F:=F) f (lo:=1) (hi:=4) (by omega) (by omega) (by omega);obtain⟨T,n5,P,Q,_,_⟩:=ZR (F:=F) j (lo:=1) (hi:=60) (by omega) (by omega) (by omega)
  obtain⟨Z,X,N,G,_,_⟩:=Qz (F:=F) Q (n:=500) (by omega) (by omega);refine G5 A (G5 P (G5 N (QH (cW hF b (by omega) (by simp only;omega)) λz c=>V9 (Y8 (by omega) (by omega)) (M _ ⟨G,by simp only;omega,by simp only;omega,?_⟩ (by simp only;omega)))))
  have e:4-(n-1).toNat=4-n.toNat+1:=by omega
  rw[e];exact c
 .have h:=Qa8 h
  have o:n=0:=by omega
  subst o;have b:RgI 4 ⟨m,r,s⟩:=b
  unfold yV;obtain⟨B,n3,A,j,D,W⟩:=Qz (F:=F) f (n:=3+1) (by omega) (by omega)
  refine V9 (Y8 (by omega) (by omega)) (G5 A (Zb (λz:Int×List Int×Int×List Lot×Int×Int×List Act=>TOk ⟨z.2.1,z.2.2.1⟩/\0<=z.1/\z.1<=3/\RgI (7-z.1.toNat) ⟨z.2.2.2.1,z.2.2.2.2.1,z.2.2.2.2.2.1⟩/\z.2.2.2.2.2.2.length<=3-z.1.toNat) (λz=>z.1.toNat) (λR z c g=>?_) ⟨j,D,by simp only;omega,⟨?_,?_,b.ud⟩,by simp⟩ (by simp only;omega)))
  .obtain ⟨n,p,q,m,r,s,w⟩:=z
   obtain⟨f,v,u,b,C⟩:=c;simp only at f v u b C
   have i:=b.len;simp only at i
   show Ok (yW F R n p q m r s w) _;unfold yW
   refine V7 (λh=>?_) (λh=>?_)
   .have h:=Qa6 h
    have e:7-(n-1).toNat=7-n.toNat+1:=by omega
    refine QH (Z1O hF f (x:=⟨m,r,s⟩) (by simp only;omega)) λz c=>QH (cW hF b (by omega) c.2) λy J=>?_
    unfold TU;refine V7 (λ_=>V9 (by simp only[Qb0,Qb6];unfold Y6;omega) (V9 (Y8 (by omega) (by omega)) (g _ ⟨c.1,by simp only;omega,by simp only;omega,?_,?_⟩ (by simp only;omega)))) λ_=>V9 (Y8 (by omega) (by omega)) (g _ ⟨c.1,by simp only;omega,by simp only;omega,?_,by simp only;omega⟩ (by simp only;omega))
    .simp only;rw[e];exact J
    .simp only[Qb5,Qb0,Qb6];omega
    .simp only;rw[e];exact b.up
   .have h:=Qa8 h
    have o:n=0:=by omega
    subst o;unfold yU
    exact K2 ⟨f,b⟩
  .have:=b.len;simp only at this⊢;omega
  .have:=b.nx;simp only at this⊢;omega
end
end
section
theorem Ok.imp{R:Type}{x:Option R}{G H:R->Prop}(h:Ok x G)(k:∀r,G r->H r):Ok x H:=by
 obtain⟨r,e,g⟩:=h;exact⟨r,e,k r g⟩
def sS:List Lot->Int
 |[]=>0
 |x::l=>x.squares_+sS l
def uS(f:Int):List Lot->Int
 |[]=>0
 |x::l=>(if x.user_=f then x.squares_ else 0)+uS f l
theorem jZ(l m:List Lot):sS (l++m)=sS l+sS m:=by
 induction l with
 |nil=>simp[sS]
 |cons a l ih=>simp only[Qi6,sS,ih];omega
theorem Px(f:Int)(l m:List Lot):uS f (l++m)=uS f l+uS f m:=by
 induction l with
 |nil=>simp[uS]
 |cons a l ih=>simp only[Qi6,uS,ih];omega
abbrev Vk(l:Lot):Prop:=(1<=l.owner_/\l.owner_<=60)/\(1<=l.user_/\l.user_<=60)/\(1<=l.squares_/\l.squares_<=268435456)/\(0<=l.value_/\l.value_<=1048576)/\(-1<=l.used_/\l.used_<=100)
abbrev HP(x:Entitlements)(i:Nat):Prop:=1<=(gl x.lots_ i).N_/\(gl x.lots_ i).N_<x.next_/\(0<i->(gl x.lots_ (i-1)).N_<(gl x.lots_ i).N_)/\Vk (gl x.lots_ i)
structure RgV (x:Entitlements):Prop where
 len:x.lots_.length<=80
 nx:1<=x.next_/\x.next_<=1073741824
 rs:0<=x.reserve_/\x.reserve_<=1099511627776
 lt:∀i,i<x.lots_.length->HP x i
 sm:sS x.lots_+x.reserve_<=1099511627776
section
variable {F:Nat} {x:Entitlements} {f:Int}
theorem Fg(F:Nat)(n:Int):KZ F n=some (decide (1<=n/\n<=60)):=by
 unfold KZ CZ br
 by_cases h:1<=n<;>simp[h]
theorem Q2k(F:Nat)(n:Int):Hh F n=some (decide (1<=n/\n<=268435456)):=by
 unfold Hh CX br
 by_cases h:1<=n<;>simp[h]
theorem Z3F(F:Nat)(n:Int):CS F n=some (decide (0<=n/\n<=1048576)):=by
 unfold CS CR br
 by_cases h:0<=n<;>simp[h]
theorem Z3H(F:Nat)(hi:i<x.lots_.length)(hl:x.lots_.length<=80):Ok (CY F x i) λe=>e=0↔HP x i:=by
 have m:∀v,Ok (Hi F v) λe=>e=0↔v=false:=λv=>by
  unfold Hi;exact V7 (λh=>K2 (by rw[h];decide)) λh=>K2 (by rw[h];decide)
 have k2:∀v,Ok (Hj F x (i:Int) v) λe=>e=0↔v=false/\(-1<=(gl x.lots_ i).used_/\(gl x.lots_ i).used_<=100):=λv=>by
  unfold Hj;rw[Qa3]
  refine V7 (λh=>K2 (by rw[h];simp)) λh=>V7 (λg=>(m _).imp λe b=>?_) λg=>(m _).imp λe b=>?_
  .have g:=Qa6 g
   rw[b,h];simp;omega
  .have g:=Qa8 g
   rw[b,h,Qe2];simp;omega
 have k1:∀v,Ok (Hk F x (i:Int) v) λe=>e=0↔v=false/\(1<=(gl x.lots_ i).squares_/\(gl x.lots_ i).squares_<=268435456)/\(0<=(gl x.lots_ i).value_/\(gl x.lots_ i).value_<=1048576)/\(-1<=(gl x.lots_ i).used_/\(gl x.lots_ i).used_<=100):=λv=>by
  unfold Hk;rw[Qa3]
  refine V7 (λh=>K2 (by rw[h];simp)) λh=>G5 (Q2k F _) (V7 (λg=>(k2 _).imp λe b=>?_) λg=>G5 (Z3F F _) ((k2 _).imp λe b=>?_))
  .rw [b,h];simp at g⊢;omega
  .rw [b,h];simp at g⊢;omega
 have j:∀v,Ok (KY F x (i:Int) v) λe=>e=0↔v=false/\Vk (gl x.lots_ i):=λv=>by
  unfold KY;rw[Qa3]
  refine V7 (λh=>K2 (by rw[h];simp)) λh=>G5 (Fg F _) (V7 (λg=>(k1 _).imp λe b=>?_) λg=>G5 (Fg F _) ((k1 _).imp λe b=>?_))
  .rw [b,h];simp at g⊢;omega
  .rw [b,h];simp at g⊢;omega
 unfold CY;rw[Qa3]
 refine V9 (by omega) (V7 (λg=>(j _).imp λe b=>?_) λg=>V7 (λc=>(j _).imp λe b=>?_) λc=>V7 (λd=>V9 (Y8 (by omega) (by omega)) (V9 (by have:=Qa6 d;omega) ((j _).imp λe b=>?_))) λd=>(j _).imp λe b=>?_)
 .have g:=Qa6 g
  rw[b];simp;omega
 .have c:=Qa6 c
  rw[b];simp;omega
 .have g:=Qa8 g
  have c:=Qa8 c;have d:=Qa6 d
  have n:((i:Int)-1).toNat=i-1:=by omega
  rw[b,n,Qe2];constructor
  .exact λ⟨p,q⟩=>⟨by omega,by omega,λ_=>by omega,q⟩
  .exact λ⟨p,q,r,s⟩=>⟨by have:=r (by omega);omega,s⟩
 .have g:=Qa8 g
  have c:=Qa8 c;have d:=Qa8 d
  rw[b];constructor
  .exact λ⟨p,q⟩=>⟨by omega,by omega,λ_=>by omega,q⟩
  .exact λ⟨p,q,r,s⟩=>⟨rfl,s⟩
theorem qy{l:List Lot}(h:∀i,i<l.length->Vk (gl l i)):0<=sS l/\sS l<=l.length*268435456:=by
 induction l with
 |nil=>simp[sS]
 |cons a l ih=>
  have b:=h 0 (by simp);have b:Vk a:=b
  have d:=ih λi c=>h (i+1) (by simpa using c)
  simp only[sS,Qb0];omega
theorem Q2j(hF:Q7<=F){l:List Lot}(hl:l.length<=80)(h:∀i,i<l.length->Vk (gl l i)):Hg F l=some (sS l):=by
 unfold Q7 at hF;unfold Hg
 refine Qa (λz:Int×Int=>∃i:Nat,i<=l.length/\z=(sS (l.take i),(i:Int))) (λz=>l.length-z.2.toNat) (λb z n p=>?_) ⟨0,Qc2 _,rfl⟩ (by simp only;omega);obtain⟨i,q,rfl⟩:=n
 show xk F l b (sS (l.take i)) (i:Int)=_;unfold xk xj
 refine Z9 (λg=>?_) λg=>?_
 .have g:i<l.length:=by have:=Qa6 g;omega
  have o:=qy (l:=l.take i) λj m=>by
   have c:j<l.length:=by rw[Qd1]at m;omega
   have e:gl (l.take i) j=gl l j:=by rw[y7 m,y7 c,Qk4]
   rw[e];exact h j c
  have r:=h i g;have d:(l.take i).length=i:=by rw[Qd1];omega
  rw[d]at o;rw[Qa3]
  refine Q9 (by omega) (Q9 (Y8 (by omega) (by omega)) (Q9 (Y8 (by omega) (by omega)) (p _ ⟨i+1,g,?_⟩ (by simp only;omega))));rw[QB g,jZ]
  simp[sS]
 .have g:i=l.length:=by have:=Qa8 g;omega
  rw[g,Qe5]
theorem Q2n(hF:Q7<=F)(hl:x.lots_.length<=80):Ok (JK F x) λe=>e=0↔RgV x:=by
 have G:=hF;unfold Q7 at G
 have d:∀n:Int,n≠0->¬RgV x->Ok (some n) λe=>e=0↔RgV x:=λn y c=>K2 ⟨λh=>absurd h y,λh=>absurd h c⟩
 have q:∀b,(b=true->¬RgV x)->(b=false->(1<=x.next_/\x.next_<=1073741824)/\0<=x.reserve_/\x.reserve_<=1099511627776)->Ok (Gb F x b) λe=>e=0↔RgV x:=λb t J=>by
  unfold Gb;refine V7 (λh=>d 2 (by decide) (t h)) (λh=>?_)
  obtain⟨y,I⟩:=J h;refine Zb (λz:Int=>∃i:Nat,i<=x.lots_.length/\z=i/\∀j,j<i->HP x j) (λz=>x.lots_.length-z.toNat) (λu z H E=>?_) ⟨0,Qc2 _,rfl,λj r=>absurd r (Qd7 j)⟩ (by omega)
  obtain⟨i,K,rfl,v⟩:=H;unfold Q2h
  refine V7 (λh=>?_) (λh=>?_)
  .have h:i<x.lots_.length:=by have:=Qa6 h;omega
   refine QH (Z3H F h hl) λe B=>V7 (λo=>d e (by simpa using o) λc=>?_) λo=>V9 (Y8 (by omega) (by omega)) (E _ ⟨i+1,h,by simp,λj r=>?_⟩ (by omega))
   .have:=B.2 (c.lt i h)
    simp[this]at o
   .rcases Qc8 j i with m|m
    .exact v j m
    .rw [show j=i by omega];exact B.1 (by simpa using o)
  .have h:i=x.lots_.length:=by have:=Qa8 h;omega
   subst h;have c:∀j,j<x.lots_.length->Vk (gl x.lots_ j):=λj r=>(v j r).2.2.2
   have M:=qy c;unfold xt
   refine G5 (Q2j hF hl c) (V9 (Y8 (by omega) (by omega)) (V7 (λg=>d 1 (by decide) λc=>?_) λg=>K2 ⟨λ_=>⟨hl,y,I,v,?_⟩,λ_=>rfl⟩))
   .have:=c.sm
    have g:=Qa6 g;omega
   .have g:=Qa8 g
    omega
 have s:∀{p:Prop},true=false->p:=λh=>Bool.noConfusion h
 unfold JK;refine V7 (λh=>by have:=Qa6 h;omega) λ_=>V7 (λg=>q _ (λ_ c=>by have:=c.nx;have:=Qa6 g;omega) s) λm=>V7 (λg=>q _ (λ_ c=>by have:=c.nx;have:=Qa6 g;omega) s) λA=>V7 (λg=>q _ (λ_ c=>by have:=c.rs;have:=Qa6 g;omega) s) λC=>q _ (λg c=>by have:=c.rs;have:=Qa6 g;omega) λD=>?_
 have m:=Qa8 m;have A:=Qa8 A
 have C:=Qa8 C;have D:=Qa8 D
 exact⟨⟨by omega,by omega⟩,by omega,by omega⟩
theorem Fh(hF:Q7<=F)(h:RgV x):JK F x=some 0:=by
 obtain⟨e,b,c⟩:=Q2n hF h.len;rw[b,c.2 h]
theorem RgV.lv(h:RgV x):∀i,i<x.lots_.length->Vk (gl x.lots_ i):=λi b=>(h.lt i b).2.2.2
theorem Q2l(hF:Q7<=F)(h:RgV x):Hm F x=some (sS x.lots_+x.reserve_):=by
 have b:=qy h.lv;have c:=h.len
 have d:=h.rs;unfold Hm
 exact Q4 (Fh hF h) (Z8 rfl (Q4 (Q2j hF h.len h.lv) (Q9 (Y8 (by omega) (by omega)) rfl)))
theorem Lm{l:List Lot}(h:∀i,i<l.length->Vk (gl l i)):0<=uS f l/\uS f l<=l.length*268435456:=by
 induction l with
 |nil=>simp[uS]
 |cons a l ih=>
  have d:Vk a:=h 0 (by simp);have c:=ih λi b=>h (i+1) (by simpa using b)
  simp only[uS,Qb0];split<;>omega
theorem Q2m(hF:Q7<=F)(h:RgV x):∃o,JJ F x f=some (o,uS f x.lots_):=by
 suffices H:Ok (JJ F x f) λz=>z.2=uS f x.lots_ by
  obtain⟨⟨o,u⟩,A,t⟩:=H;exact⟨o,by rw[A];exact congrArg (λq=>some (o,q)) t⟩
 have I:=h.len;have B:=hF
 unfold Q7 at B;unfold JJ
 refine G5 (Fh hF h) (V7 (λh=>by simp at h) λ_=>?_);refine Zb (λz:Int×Int×Int=>∃i:Nat,i<=x.lots_.length/\z.2.2=i/\0<=z.1/\z.1<=i*268435456/\z.2.1=uS f (x.lots_.take i)) (λz=>x.lots_.length-z.2.2.toNat) (λb z C y=>?_) ⟨0,Qc2 _,rfl,by simp,by simp,rfl⟩ (by simp only;omega)
 obtain⟨o,u,q⟩:=z;obtain⟨i,K,r,p,G,d⟩:=C
 simp only at r p G d;subst r d
 show Ok (xr F x f b o (uS f (x.lots_.take i)) (i:Int)) _;unfold xr xq
 refine V7 (λg=>?_) (λg=>K2 ?_)
 .have g:i<x.lots_.length:=by have:=Qa6 g;omega
  have J:=h.lv i g;have D:=Lm (f:=f) (l:=x.lots_.take i) λj n=>by
   have n:j<i:=by rw[Qd1]at n;omega
   rw[Z2F _ n];exact h.lv j (by omega)
  have m:(x.lots_.take i).length=i:=by rw[Qd1];omega
  rw[m]at D;have k1:∀c : Int,0<=c -> c <= ((i+1:Nat):Int)*268435456->Ok (Ho F x f (uS f (x.lots_.take i)) (i:Int) b c) λz=>z.2=uS f x.lots_:=λc v E=>by
   have s:∀u,u=uS f (x.lots_.take (i+1))->Ok (Hn F (i:Int) b c u) λz=>z.2=uS f x.lots_:=λu d=>by
    unfold Hn;exact V9 (Y8 (by omega) (by omega)) (y _ ⟨i+1,g,by simp,v,E,d⟩ (by simp only;omega))
   unfold Ho;rw[Qa3]
   refine V7 (λe=>V9 (Y8 (by omega) (by omega)) (s _ ?_)) λe=>s _ ?_
   .have e:(gl x.lots_ i).user_=f:=by simpa using e
    rw[QB g,Px];simp[uS,e]
   .have e:¬(gl x.lots_ i).user_=f:=by simpa using e
    rw[QB g,Px];simp[uS,e]
  rw[Qa3];exact V9 (by omega) (V7 (λ_=>V9 (Y8 (by omega) (by omega)) (k1 _ (by omega) (by omega))) λ_=>k1 _ p (by omega))
 .have g:i=x.lots_.length:=by have:=Qa8 g;omega
  rw[g,Qe5]
theorem Z3K(hF:Q7<=F)(hl:x.lots_.length<=80)(h:¬RgV x):JJ F x f=some (0,0):=by
 obtain⟨e,b,c⟩:=Q2n hF hl;unfold JJ
 exact Q4 b (U3 (by rw[bne_iff_ne];exact λd=>h (c.1 d)) rfl)
theorem gz:∀(l:List Int) (j:Nat),j+1<l.length->((l.set (j+1) (gl l j)).set j (gl l (j+1))).Perm l
 |[],_,h=>by simp at h
 |[_],_,h=>by simp at h
 |a::b::l,0,_=>List.Perm.swap a b l
 |a::b::l,j+1,h=>(gz (b::l) j (by simpa using h)).cons a
theorem Z1X(hF:Q7<=F){q:Int->Int->Option Int}{l:List Int}(hl:l.length<=80)(hq:∀a∈l,∀b∈l,∃c,q a b=some c):Ok (PQ F l 0 ((l.length:Nat):Int) q) λr=>r.Perm l:=by
 unfold Q7 at hF;unfold PQ
 refine V9 (Y8 (by omega) (by omega)) (Zb (λz:Int×List Int=>∃i:Nat,z.1=i/\z.2.Perm l) (λz=>l.length+1-z.1.toNat) (λd z s D=>?_) ⟨1,rfl,Qs2 _⟩ (by simp only;omega));obtain⟨p,m⟩:=z
 obtain⟨i,y,n⟩:=s;simp only at y n
 subst y;show Ok (qb F 0 ((l.length:Nat):Int) q d (i:Int) m) _
 unfold qb;refine V7 (λg=>?_) λ_=>K2 n
 have g:i<l.length:=by have:=Qa6 g;omega
 refine Zb (λz:Int×List Int=>∃j:Nat,j<=i/\z.1=j/\z.2.Perm l) (λz=>z.1.toNat) (λu z s o=>?_) ⟨i,Qb3 _,rfl,n⟩ (by simp only;omega);obtain⟨p,m⟩:=z
 obtain⟨j,I,t,n⟩:=s;simp only at t n
 subst t;have E:=n.length_eq
 have G:Ok (MM F (i:Int) d m) λr=>r.Perm l:=by
  unfold MM;exact V9 (Y8 (by omega) (by omega)) (D _ ⟨i+1,by simp,n⟩ (by simp only;omega))
 have k2:∀v,(v=true->1<=j)->Ok (PP F (i:Int) (j:Int) m u d v) λr=>r.Perm l:=λv C=>by
  unfold PP;refine V7 (λh=>?_) λ_=>G
  have h:=C h;have e:(j:Int)-1=((j-1:Nat):Int):=by omega
  have H:j-1+1=j:=by omega
  rw[e];simp only[Qa3,Qh1]
  have A:=gz m (j-1) (by omega);rw[H]at A
  exact V9 (Y8 (by omega) (by omega)) (V9 (Y8 (by omega) (by omega)) (V9 (by omega) (V9 (by omega) (V9 (by omega) (V9 (by omega) (V9 (Y8 (by omega) (by omega)) (o _ ⟨j-1,by omega,rfl,A.trans n⟩ (by simp only;omega))))))))
 show Ok (qa F 0 q (i:Int) d u (j:Int) m) _;unfold qa
 refine V7 (λh=>?_) λ_=>k2 _ λh=>Bool.noConfusion h
 have h:=Qa6 h;have e:(j:Int)-1=((j-1:Nat):Int):=by omega
 obtain⟨c,B⟩:=hq (gl m j) (n.mem_iff.1 (J9 (by omega))) (gl m (j-1)) (n.mem_iff.1 (J9 (by omega)));rw[e]
 simp only[Qa3];exact V9 (by omega) (V9 (Y8 (by omega) (by omega)) (V9 (by omega) (G5 B (k2 _ λ_=>by omega))))
def sX(m:List Lot):List Int->Int
 |[]=>0
 |i::l=>(gl m i.toNat).squares_+sX m l
theorem jY(m:List Lot)(l r:List Int):sX m (l++r)=sX m l+sX m r:=by
 induction l with
 |nil=>simp[sX]
 |cons a l ih=>simp only[Qi6,sX,ih];omega
theorem Q7K(m:List Lot){l r:List Int}(h:l.Perm r):sX m l=sX m r:=by
 induction h with
 |nil=>rfl
 |cons a _ ih=>simp only[sX,ih]
 |swap a b l=>simp only[sX];omega
 |trans _ _ h1 h2=>rw[h1,h2]
theorem Z4w(F:Nat)(a b:Int):∃c,YB F a b=some c:=by
 suffices h:Ok (YB F a b) λ_=>True by
  obtain⟨c,e,_⟩:=h;exact⟨c,e⟩
 unfold YB
 repeat' first|exact K2 trivial|refine V7 (λ_=>?_) λ_=>?_
structure UsL (f:Int) (m:List Lot) (l:List Int):Prop where
 ix:∀i∈l,0<=i/\i<(m.length:Int)
 len:l.length<=m.length
 us:∀i∈l,(gl m i.toNat).user_=f
 sm:sX m l=uS f m
theorem Q2i(hF:Q7<=F)(hl:x.lots_.length<=19):Ok (Hf F x f) (UsL f x.lots_):=by
 have H:=hF;unfold Q7 at H
 unfold Hf;refine Zb (λz:Int×List Int=>∃i:Nat,i<=x.lots_.length/\z.1=i/\z.2.length<=i/\(∀j∈z.2,0<=j/\j<(x.lots_.length:Int))/\(∀j∈z.2,(gl x.lots_ j.toNat).user_=f)/\sX x.lots_ z.2=uS f (x.lots_.take i)) (λz=>x.lots_.length-z.1.toNat) (λo z I A=>?_) ⟨0,Qc2 _,rfl,Qb3 _,(λj s=>by cases s),(λj s=>by cases s),rfl⟩ (by simp only;omega)
 obtain⟨p,l⟩:=z;obtain⟨i,M,B,y,d,n,m⟩:=I
 simp only at B y d n m;subst B
 show Ok (xi F x f o (i:Int) l) _;unfold xi
 refine V7 (λg=>?_) λg=>?_
 .have g:i<x.lots_.length:=by have:=Qa6 g;omega
  rw[Qa3];unfold CW
  refine V9 (by omega) (V7 (λh=>?_) λh=>?_)
  .have h:(gl x.lots_ i).user_=f:=by simpa using h
   refine V9 (by simp only[Qb0,Qb6];unfold Y6;omega) (V9 (Y8 (by omega) (by omega)) (A _ ⟨i+1,g,by simp,?_,HH d (by omega),HH n (by rw[Qa3];exact h),?_⟩ (by simp only;omega)))
   .simp only[Qb5,Qb0,Qb6];omega
   .rw [QB g,Px,jY,m];simp[sX,uS,h]
  .have h:¬(gl x.lots_ i).user_=f:=by simpa using h
   refine V9 (Y8 (by omega) (by omega)) (A _ ⟨i+1,g,by simp,by simp only;omega,d,n,?_⟩ (by simp only;omega));rw[QB g,Px,m];simp[uS,h]
 .have g:i=x.lots_.length:=by have:=Qa8 g;omega
  rw[g,Qe5]at m;unfold xh qc LZ LY
  have K:=Z1X (F:=F) hF (q:=λv u=>He F v u x) (l:=l) (by omega) λa D b J=>by
   obtain⟨c,C⟩:=Z4w F (gl x.lots_ b.toNat).value_ (gl x.lots_ a.toNat).value_;exact⟨c,by unfold He;exact Q9 (d b J) (Q9 (d a D) (Q4 C rfl))⟩
  obtain⟨r,e,t⟩:=K;have E:=t.length_eq
  have G:(br (decide ((20:Int)<=((l.length:Nat):Int))) (none:Option (List Int)) ((PQ F l 0 ((l.length:Nat):Int) λv u=>He F v u x).bind λz=>br (decide ((20:Int)<((l.length:Nat):Int))) none (some z)))=some r:=
   Z8 (Qa7 (by omega)) (Q4 e (Z8 (Qa7 (by omega)) rfl))
  refine G5 (Q4 G rfl) (K2 ⟨λj s=>d j (t.mem_iff.1 s),by omega,λj s=>n j (t.mem_iff.1 s),?_⟩);rw[Q7K _ t,m]
theorem jX(h:∀i,i<m.length->Vk (gl m i)){l:List Int}(hix:∀i∈l,0<=i/\i<(m.length:Int)):0<=sX m l:=by
 induction l with
 |nil=>simp[sX]
 |cons a l ih=>
  have d:=ih λi b=>hix i (Qf9 _ b)
  have c:=hix a Qg5;have e:=h a.toNat (by omega)
  simp only[sX];omega
end
end
section
section
variable {F:Nat} {x:Entitlements} {f:Int}
theorem qx(h:∀i,i<m.length->Vk (gl m i)){l:List Int}(hix:∀i∈l,0<=i/\i<(m.length:Int))(i:Nat):0<=sX m (l.drop i)/\sX m (l.drop i)<=sX m l:=by
 have e:=jX h (l:=l.drop i) λj b=>hix j (Qo3 b)
 have d:=jX h (l:=l.take i) λj b=>hix j (Qh5 b)
 have c:=jY m (l.take i) (l.drop i);rw[Qh2]at c
 omega
theorem Z3p(F:Nat){v:Int}(h0:0<=v)(h1:v<=4503599627370496):Ok (Hc F v 100) λd=>0<=d:=by
 have c:Ok (CJ F v 100) λ_=>True:=by
  unfold CJ XO;exact V7 (λ_=>V7 (λ_=>V7 (λ_=>K2 trivial) λ_=>K2 trivial) λ_=>K2 trivial) λ_=>K2 trivial
 have b:0<=v.tdiv 100:=Int.tdiv_nonneg h0 (by omega);have e:v.tdiv 100<=v:=Int.tdiv_le_self _ h0
 have h:0<=v.tmod 100:=Int.tmod_nonneg _ h0;unfold Hc CM
 exact QH c λ_ _=>V7 (λ_=>K2 (by omega)) λ_=>V9 ⟨Y8 (by omega) (by omega),by omega⟩ (V9 (by omega) (V7 (λg=>by have:=Qa6 g;omega) λ_=>K2 b))
theorem Z3J(hF:Q7<=F)(h:RgV x)(hl:x.lots_.length<=19)(hf:1<=f/\f<=60){n:Int}(hn:0<=n/\n<=268435456)(hu:n<=uS f x.lots_):Ok (Fd F x f n) λz=>z.2=0/\0<=z.1:=by
 have C:=hF;unfold Q7 at C
 unfold Fd;refine G5 (Fh hF h) (V7 (λg=>by simp at g) λ_=>G5 (Fg F f) (V7 (λg=>by simp at g;omega) λ_=>V7 (λg=>by have:=Qa6 g;omega) λ_=>?_))
 unfold Fc;refine V7 (λg=>by have:=Qa6 g;omega) λ_=>QH (Q2i hF hl) λl j=>?_
 have E:=j.len;refine Zb (λz:Int×Int×Int=>∃i:Nat,i<=l.length/\z.2.2=i/\0<=z.1/\z.1<=n/\0<=z.2.1/\z.2.1<=(n-z.1)*1048576/\z.1<=sX x.lots_ (l.drop i)) (λz=>l.length-z.2.2.toNat) (λb z G A=>?_) ⟨0,Qc2 _,rfl,hn.1,by simp,by simp,by simp,by rw[Qj9,j.sm];exact hu⟩ (by simp only;omega)
 obtain⟨w,t,q⟩:=z;obtain⟨i,N,m,J,u,r,B,c⟩:=G
 simp only at m J u r B c;subst m
 show Ok (xp F x l b w t (i:Int)) _;unfold xp
 refine V7 (λg=>?_) λg=>?_
 .have g:i<l.length:=by have:=Qa6 g;omega
  have M:=j.ix _ (J9 g);rw[Qa3]
  rw[Yc g]at c;simp only[sX]at c
  have K:=(qx h.lv j.ix (i+1)).1;obtain⟨_,_,m,o,_⟩:=h.lv (gl l i).toNat (by omega)
  obtain⟨s,hse⟩:∃s,(gl x.lots_ (gl l i).toNat).squares_=s:=⟨_,rfl⟩;obtain⟨v,hve⟩:∃v,(gl x.lots_ (gl l i).toNat).value_=v:=⟨_,rfl⟩
  rw[hse]at c m⊢;rw[hve]at o⊢
  obtain⟨p,hp⟩:∃p,y6 w s=p:=⟨_,rfl⟩;have e:0<=p/\p<=w/\(p=w\/p=s):=by
   unfold y6 at hp;split at hp<;>omega
  rw[hp];have I:0<=p*v:=Qs3 e.1 o.1
  have D:p*v<=p*1048576:=Int.mul_le_mul_of_nonneg_left o.2 e.1;obtain⟨y,hy⟩:∃y,p*v=y:=⟨_,rfl⟩
  rw[hy]at I D⊢;refine V9 (by omega) (V9 (by omega) (V9 (by omega) (V9 (Y8 (by omega) (by omega)) (V9 (Y8 (by omega) (by omega)) (V9 (Y8 (by omega) (by omega)) (V9 (Y8 (by omega) (by omega)) (A _ ⟨i+1,g,by simp,?_,?_,?_,?_,?_⟩ (by simp only;omega))))))))
  all_goals simp only;omega
 .have g:i=l.length:=by have:=Qa8 g;omega
  rw[g,Qk9]at c;have c:w<=0:=c
  unfold xo;exact V7 (λg=>by have:=Qa6 g;omega) λ_=>QH (Z3p F r (by omega)) λd H=>K2 ⟨rfl,H⟩
structure LSm (L m:List Lot):Prop where
 len:m.length=L.length
 el:∀i,i<L.length->(gl m i).N_=(gl L i).N_/\(gl m i).owner_=(gl L i).owner_/\(gl m i).user_=(gl L i).user_/\(gl m i).squares_=(gl L i).squares_/\(gl m i).value_=(gl L i).value_ /\ -1<=(gl m i).used_/\(gl m i).used_<=100
theorem MH(f:Int):∀{L m:List Lot},m.length=L.length->(∀i,i<L.length->(gl m i).user_=(gl L i).user_/\(gl m i).squares_=(gl L i).squares_)->sS m=sS L/\uS f m=uS f L
 |[],[],_,_=>⟨rfl,rfl⟩
 |[],_::_,h,_=>by simp at h
 |_::_,[],h,_=>by simp at h
 |a::L,b::m,h,k=>by
  have c:=k 0 (by simp);have c:b.user_=a.user_/\b.squares_=a.squares_:=c
  have d:=MH f (L:=L) (m:=m) (by simpa using h) λi e=>k (i+1) (by simpa using e)
  simp only[sS,uS,c.1,c.2,d.1,d.2,and_self]
theorem gB(f:Int):∀{m:List Lot} {j:Nat} {e:Lot},j<m.length->e.user_=(gl m j).user_->sS (m.set j e)=sS m-(gl m j).squares_+e.squares_/\uS f (m.set j e)=uS f m-(if e.user_=f then(gl m j).squares_ else 0)+(if e.user_=f then e.squares_ else 0)
 |[],_,_,h,_=>by simp at h
 |a::m,0,e,_,b=>by
  have b:e.user_=a.user_:=b;have c:gl (a::m) 0=a:=rfl
  rw[c];simp only[List.set_cons_zero,sS,uS,b]
  refine⟨by omega,?_⟩;split<;>omega
 |a::m,j+1,e,h,b=>by
  have d:=gB f (m:=m) (j:=j) (e:=e) (by simpa using h) b;have c:gl (a::m) (j+1)=gl m j:=rfl
  rw[c];simp only[List.set_cons_succ,sS,uS,d.1,d.2]
  omega
theorem LSm.rg(h:RgV x)(s:LSm x.lots_ m):RgV ⟨m,x.reserve_,x.next_⟩:=by
 have g:=(MH 0 s.len λi b=>⟨(s.el i b).2.2.1,(s.el i b).2.2.2.1⟩).1;refine⟨by rw[s.len];exact h.len,h.nx,h.rs,λi b=>?_,by show sS m+x.reserve_<=_;rw[g];exact h.sm⟩
 have b:i<x.lots_.length:=by rw[<-s.len];exact b
 obtain⟨n,p,z,t,q,e,d⟩:=s.el i b;obtain⟨o,n2,n3,v,y,u,j,r⟩:=h.lt i b
 refine⟨by simp only;omega,by simp only;omega,λc=>?_,by simp only;omega,by simp only;omega,by simp only;omega,by simp only;omega,e,d⟩;have:=(s.el (i-1) (by omega)).1
 have:=n3 c
 simp only
 omega
theorem LSm.set{L:List Lot}(s:LSm L m){j:Nat}(hj:j<L.length){y:Int}(hy : -1<=y/\y<=100):LSm L (m.set j ⟨(gl m j).N_,(gl m j).owner_,(gl m j).user_,(gl m j).squares_,(gl m j).value_,y⟩):=by
 refine⟨by rw[Qh1];exact s.len,λi n=>?_⟩;rw[vv (by rw[s.len];exact hj)]
 obtain⟨c,e,g,b,d,p,o⟩:=s.el i n;split
 .rename_i h
  subst h;exact⟨c,e,g,b,d,hy⟩
 .exact ⟨c,e,g,b,d,p,o⟩
abbrev Gr(f:Int)(x y:Entitlements):Prop:=RgV y/\uS f y.lots_=uS f x.lots_/\sS y.lots_+y.reserve_=sS x.lots_+x.reserve_
theorem LSm.us(h:RgV x)(s:LSm x.lots_ m):Gr f x ⟨m,x.reserve_,x.next_⟩:=by
 have b:=MH f s.len λi c=>⟨(s.el i c).2.2.1,(s.el i c).2.2.2.1⟩
 exact⟨s.rg h,b.2,by simp only;rw[b.1]⟩
theorem LSm.cut(h:RgV x)(s:LSm x.lots_ m)(hl:x.lots_.length<=19)(hn:x.next_+1<=1073741824){j:Nat}(hj:j<x.lots_.length){w y:Int}(hw:0<w/\w<(gl m j).squares_)(hy : -1<=y/\y<=100){A B:Lot}(hA:A.N_=(gl m j).N_/\A.owner_=(gl m j).owner_/\A.user_=(gl m j).user_/\A.squares_=(gl m j).squares_-w/\A.value_=(gl m j).value_/\A.used_=(gl m j).used_)(hB:B.N_=x.next_/\B.owner_=(gl m j).owner_/\B.user_=(gl m j).user_/\B.squares_=w/\B.value_=(gl m j).value_/\B.used_=y):Gr f x ⟨m.set j A++[B],x.reserve_,x.next_+1⟩:=by
 have g:=s.rg h;have Q:=s.len
 have d:j<m.length:=by omega
 have v:=MH f s.len λi q=>⟨(s.el i q).2.2.1,(s.el i q).2.2.2.1⟩
 obtain⟨I,W⟩:=gB f (m:=m) (j:=j) (e:=A) d hA.2.2.1;obtain⟨U,a2,K,a4,a5,a6⟩:=hA
 obtain⟨b1,b2,P,b4,b5,Y⟩:=hB;have Z:=h.nx
 have M:HP ⟨m,x.reserve_,x.next_⟩ j:=g.lt j d;obtain⟨_,_,_,O,X,N,R,V⟩:=M
 simp only at O X N R V;have H:sS (m.set j A++[B])=sS x.lots_:=by
  rw[jZ,I, <-v.1];simp only[sS];omega
 have c:(m.set j A).length=m.length:=Qh1;have p:∀k,k<m.length->gl (m.set j A++[B]) k=if k=j then A else gl m k:=λk r=>by
  rw[vx _ _ (by rw[c];exact r),vv d]
 have b:∀k,k<m.length->(gl (m.set j A++[B]) k).N_=(gl m k).N_:=λk r=>by
  rw[p k r];split
  .rename_i h;rw[h,U]
  .rfl
 refine⟨⟨?_,by simp only;omega,h.rs,λi q=>?_,?_⟩,?_,?_⟩
 .simp only[Qb5,Qh1,Qb0,Qb6];omega
 .simp only[Qb5,Qh1,Qb0,Qb6]at q
  show 1<=(gl (m.set j A++[B]) i).N_/\(gl (m.set j A++[B]) i).N_<x.next_+1/\(0<i->(gl (m.set j A++[B]) (i-1)).N_<(gl (m.set j A++[B]) i).N_)/\Vk (gl (m.set j A++[B]) i);rcases Qc8 i m.length with o|o
  .have J:HP ⟨m,x.reserve_,x.next_⟩ i:=g.lt i o
   obtain⟨S,n2,n3,z,G,C,E,u⟩:=J;simp only at S n2 n3 z G C E u
   refine⟨by rw[b i o];omega,by rw[b i o];omega,λD=>by rw[b i o,b (i-1) (by omega)];exact n3 D,?_⟩;rw[p i o]
   split
   .exact ⟨by omega,by omega,by omega,by omega,by omega⟩
   .exact ⟨z,G,C,E,u⟩
  .have T:i=(m.set j A).length:=by rw[c];omega
   have n:gl (m.set j A++[B]) i=B:=by rw[T,vw]
   rw[n];refine⟨by omega,by omega,λD=>?_,by omega,by omega,by omega,by omega,by omega⟩
   have t:i-1<m.length:=by omega
   have:=(g.lt (i-1) t).2.1
   simp only at this;rw[b _ t];omega
 .show sS (m.set j A++[B])+x.reserve_<=_
  rw[H];exact h.sm
 .show uS f (m.set j A++[B])=_
  rw[Px,W, <-v.2];simp only[uS]
  rw[P, <-K];split<;>omega
 .show sS (m.set j A++[B])+x.reserve_=_
  rw[H]
theorem Z3G(hF:Q7<=F)(h:RgV x)(hl:x.lots_.length<=19)(hn:x.next_+1<=1073741824){a:Act}{b:Entitlements}(hf:1<=a.farm_/\a.farm_<=60)(ha:1<=a.squares_/\a.squares_<=268435456)(hu:a.squares_<=uS a.farm_ x.lots_)(hy:0<=a.year_/\a.year_<=100)(hud:∀l∈x.lots_,l.used_<=a.year_):Ok (CU F ⟨x,b⟩ a) λz=>z.2=0/\Gr a.farm_ x z.1.now_:=by
 have J:=hF;unfold Q7 at J
 unfold CU;refine QH (Q2i (x:=x) (f:=a.farm_) hF hl) λl r=>?_
 have V:=r.len;have O:=Lm (f:=a.farm_) h.lv
 have H:∀m,LSm x.lots_ m->Ok (Hd F ⟨x,b⟩ m) λz=>z.2=0/\Gr a.farm_ x z.1.now_:=λm o=>by
  unfold Hd;exact K2 ⟨rfl,o.us h⟩
 have U:Ok (XP F ⟨x,b⟩ a l (uS a.farm_ x.lots_) false) λz=>z.2=0/\Gr a.farm_ x z.1.now_:=by
  unfold XP;refine V7 (λg=>by simp at g) λ_=>G5 (Q2k F _) (V7 (λg=>by simp at g;omega) λ_=>V7 (λg=>by have:=Qa6 g;omega) λ_=>?_)
  refine Zb (λz:Int×Int×List Lot=>∃i:Nat,i<=l.length/\z.2.1=i/\0<=z.1/\z.1<=268435456/\LSm x.lots_ z.2.2) (λz=>l.length-z.2.1.toNat) (λd z t E=>?_) ⟨0,Qc2 _,rfl,by simp only;omega,ha.2,rfl,λi D=>⟨rfl,rfl,rfl,rfl,rfl,(h.lv i D).2.2.2.2⟩⟩ (by simp only;omega);obtain⟨w,q,m⟩:=z
  obtain⟨i,D,u,Q,I,o⟩:=t;simp only at u Q I o
  subst u;show Ok (xf F ⟨x,b⟩ a l d w (i:Int) m) _
  unfold xf;refine V7 (λg=>?_) λ_=>H m o
  have g:i<l.length:=by have:=Qa6 g;omega
  have C:=r.ix _ (J9 g);have S:=o.len
  rw[Qa3];have n:0<=gl l i/\gl l i<((m.length:Nat):Int):=by omega
  obtain⟨j,hje⟩:∃j,(gl l i).toNat=j:=⟨_,rfl⟩;have p:j<x.lots_.length:=by omega
  rw[hje];have u:=(o.el j p).2.2.2.1
  have N:=(h.lv j p).2.2.1;refine V9 (by omega) (V9 n (V7 (λs=>V7 (λG=>?_) λ_=>H m o) λs=>?_))
  .have s:=Qa6 s
   have G:=Qa6 G;refine V9 n (V9 n (V9 (Y8 (by omega) (by omega)) (V9 n ?_)))
   have R:=λA B=>o.cut (f:=a.farm_) h hl hn p (w:=w) (y:=a.year_) ⟨G,s⟩ ⟨by omega,hy.2⟩ (A:=A) (B:=B)
   unfold xn Fa;simp only[Qh1]
   refine QH (P:=λz=>z.2=0/\Gr a.farm_ x z.1.now_) (V7 (λc=>by have:=Qa6 c;omega) λ_=>V7 (λc=>by have:=Qa6 c;omega) λ_=>V9 (Y8 (by have:=h.nx;omega) (by omega)) (V9 (by simp only[Qb0,Qb6];unfold Y6;omega) (K2 ⟨rfl,?_⟩))) λz t=>K2 t
   refine R _ _ ?_ ?_<;>exact⟨rfl,rfl,rfl,rfl,rfl,rfl⟩
  .have s:=Qa8 s
   exact V9 n (V9 (Y8 (by omega) (by omega)) (V9 n (V9 (Y8 (by omega) (by omega)) (E _ ⟨i+1,g,by simp,by simp only;omega,by simp only;omega,o.set p ⟨by omega,hy.2⟩⟩ (by simp only;omega)))))
 refine Zb (λz:Int×Bool×Int=>∃i:Nat,i<=l.length/\z=(uS a.farm_ x.lots_-sX x.lots_ (l.drop i),false,(i:Int))) (λz=>l.length-z.2.2.toNat) (λd z t E=>?_) ⟨0,Qc2 _,by rw[Qj9,r.sm,Int.sub_self];rfl⟩ (by simp only;omega);obtain⟨i,D,rfl⟩:=t
 show Ok (xg F ⟨x,b⟩ a l d (uS a.farm_ x.lots_-sX x.lots_ (l.drop i)) false (i:Int)) _;unfold xg
 have K:=qx h.lv r.ix i;rw[r.sm]at K
 have W:=h.len;refine V7 (λg=>?_) λg=>?_
 .have g:i<l.length:=by have:=Qa6 g;omega
  have C:=r.ix _ (J9 g);have v:=qx h.lv r.ix (i+1)
  rw[r.sm]at v;rw[Qa3]
  have M:=hud _ (J9 (l:=x.lots_) (i:=(gl l i).toNat) (by omega));have T:sX x.lots_ (l.drop i)=(gl x.lots_ (gl l i).toNat).squares_+sX x.lots_ (l.drop (i+1)):=by rw[Yc g];rfl
  refine V9 (by omega) (V9 C (V9 (Y8 (by simp only;omega) (by simp only;omega)) (V7 (λc=>by simp at c) λ_=>V9 C ?_)));unfold CT
  rw[Qa3];refine V9 (Y8 (by omega) (by omega)) (E _ ⟨i+1,g,?_⟩ (by simp only;omega))
  rw[Qa7 (show ¬a.year_<(gl x.lots_ (gl l i).toNat).used_ by omega)];refine Prod.ext ?_ (Prod.ext rfl ?_)
  .simp only;omega
  .simp only;omega
 .have g:i=l.length:=by have:=Qa8 g;omega
  rw[g,Qk9];have e:uS a.farm_ x.lots_-sX x.lots_ []=uS a.farm_ x.lots_:=by simp only[sX];omega
  rw[e];unfold xe
  exact G5 (Fg F _) (V7 (λc=>by simp at c;omega) λ_=>V7 (λc=>by have:=Qa6 c;omega) λ_=>V7 (λc=>by have:=Qa6 c;omega) λ_=>U)
theorem Z3I(hl:x.lots_.length<=80):Ga F x=some x:=by
 have h:Rb F x.lots_=some x.lots_:=by
  unfold Rb;have e:gd (0+List.length (α:=Lot) x.lots_<=Y6) (some (([]:List Lot)++x.lots_))=some x.lots_:=Q9 (by unfold Y6;omega) rfl
  rw[e]
  cases hx:x.lots_ with
  |nil=>exact Qa2 rfl
  |cons a l=>rfl
 unfold Ga;exact Q4 h rfl
theorem Z3L(hF:Q7<=F)(h:RgV x)(hl:x.lots_.length<=19)(hn:x.next_+1<=1073741824){a:Act}(hk:a.k_=6)(hf:1<=a.farm_/\a.farm_<=60)(ha:1<=a.squares_/\a.squares_<=268435456)(hu:a.squares_<=uS a.farm_ x.lots_)(hy:0<=a.year_/\a.year_<=100)(hud:∀l∈x.lots_,l.used_<=a.year_):∃y,Ff F x a=some (y,0)/\Gr a.farm_ x y:=by
 obtain⟨⟨u,e⟩,j,d,i⟩:=Z3G (F:=F) (b:=x) hF h hl hn hf ha hu hy hud;simp only at d i
 subst d;have g:Ga F x=some x:=Z3I h.len
 have c:Fb F ⟨x,x⟩ a=some (u,0):=by
  unfold Fb;exact Q9 hk (Q4 j (Q9 rfl rfl))
 refine⟨u.now_,?_,i⟩;unfold Ff
 exact Q4 (Fh hF h) (Z8 rfl (Q4 g (Q4 g (Q4 c rfl))))
end
end
theorem Q4A(hF:Q7+3<=F)(tape:List Int){x:Int}(hx:0<=x/\x<=255):Mh F tape x=some true:=by
 have b:Q7<=F:=by omega
 have B:=b;unfold Q7 at B
 obtain⟨t0,e0,W⟩:=Z1S F tape;obtain⟨t1,cs,v,e1,V,D,v1,v3,hv⟩:=Q4w b W
 obtain⟨z,L,e2,J,P,hg⟩:=Z1z hF V (most:=2) (by omega) (by omega);obtain⟨⟨u,E,c⟩,e3,N,hE⟩:=Z1K b J
 simp only at N hE;obtain⟨t4,w,e4,o4,T,H,a4⟩:=Z1q b N D
 obtain⟨m,Q⟩:=hv (gl v 0) (J9 v1);have Y:=P.len
 have t:GoodL 3 L:=by
  rcases hg with A|A
  .rw [A]
   exact⟨by simp,λi d=>absurd d (Qd7 i),λi _ d=>absurd d (Qd7 i),λi d=>absurd d (Qd7 i),λi d=>absurd d (Qd7 i)⟩
  .exact A
 obtain⟨c1,c2⟩:=Q4D hx.1 (n:=4) (by omega);obtain⟨l,hl0⟩:∃l,(gl v 0).lines_=l:=⟨_,rfl⟩
 rw[hl0]at m Q;obtain⟨ps,p1,p2⟩:=Z1Q b (rs:=P3) (by decide) (l:=l) (λx hx=>(m.one x hx).par) (by omega)
 have G:GB P3 l ps L w:=Z5T Q3D (by rw[H];exact m) p2 P t T (by omega);have X:=G.Areas hF
 unfold Mh;refine Q4 e0 (Q4 e1 (Q4 e2 (Q4 e3 (Q9 (Y8 (by omega) (by omega)) (Q9 (by omega) (Q9 (Y8 (by omega) (by omega)) (Q9 (by simp only;omega) (Q9 (by simp only;omega) ?_))))))))
 obtain⟨f,hfe⟩:∃f,1+x.tmod 4=f:=⟨_,rfl⟩;have I:1<=f/\f<=60:=by omega
 simp only[Int.toNat_zero,hl0];refine Q4 p1 (Q4 e4 (Q4 X (Z8 rfl ?_)))
 show Pz F x (z,L) (u,E,c) (L.map (YX w P3 l),0) _=_;unfold Pz
 have b7:=hE.len;have a0:=hE.nx
 refine Z8 (by simp only[Qg1,Qt3]) (vG L.length (λr k S C=>?_) (λr=>?_) (by omega))
 .show PA F x (z,L) (u,E,c) (L.map (YX w P3 l),0) r (k:Int)=_
  unfold PA;simp only[Qa3,hfe,Q1r (YX w P3 l) L k S]
  have p:Gz F (k:Int) r=some true:=by
   unfold Gz;exact Q9 (Y8 (by omega) (by omega)) C
  have Z:=Q4p (w:=w) Q3D (s:=gl L k) m (by omega);refine U3 (Qa5 (by omega)) (Q9 (by omega) (Z9 (λ_=>p) λ_=>?_))
  by_cases hV:RgV E
  .obtain ⟨o,ho⟩:=Q2m (F:=F) (f:=f) b hV
   have b1:=Lm (f:=f) hV.lv;obtain⟨n,hn⟩:∃n,y6 (YX w P3 l (gl L k)) (uS f E.lots_)=n:=⟨_,rfl⟩
   have j:0<=n/\n<=58320/\n<=uS f E.lots_:=by unfold y6 at hn;split at hn<;>omega
   refine Q4 ho (Q9 (by simp only[Qg1];omega) ?_);simp only[hn]
   refine Z9 (λ_=>p) λK=>?_
   have K:¬n=0:=by simpa using K
   obtain⟨⟨a,g⟩,R,O,q3⟩:=Z3J (F:=F) (f:=f) (n:=n) b hV (by omega) I (by omega) j.2.2;simp only at O q3
   subst O;obtain⟨y,r1,M,r3,r4⟩:=Z3L (F:=F) (x:=E) (a:=⟨6,f,0,0,n,0,0,60+(k:Int)⟩) b hV (by omega) (by omega) rfl I (by simp only;omega) j.2.2 (by simp only;omega) (λq U=>by have:=hE.ud q U;simp only;omega)
   obtain⟨J,h⟩:=Q2m (F:=F) (f:=f) b M;rw[r3]at h
   refine Q4 R (Q9 (Y8 (by omega) (by omega)) (Q4 r1 (Q4 h (Z8 rfl (Z8 rfl (Z8 (Qa7 (by simp only;omega)) (Z8 (by simp only[Qt3]) (Q4 (Q2l b M) (Q4 (Q2l b hV) ?_)))))))));rw[r4,Qt3]
   unfold JU;exact Z8 rfl p
  .refine Q4 (Z3K b (by omega) hV) (Q9 (by simp only[Qg1];omega) (U3 ?_ p))
   have e:y6 (YX w P3 l (gl L k)) 0=0:=by unfold y6;split<;>omega
   simp only[e,Qu5]
 .show PA F x (z,L) (u,E,c) (L.map (YX w P3 l),0) r (L.length:Int)=_
  unfold PA;refine Z8 (Qa7 (by simp only;omega)) ?_
  unfold Lq;exact Q4 (Q4y hF) rfl
theorem Q5r:K7 [(⟨0,0,10,10⟩:Rect)]:=Me (by decide)
theorem Q5q(hF:Q7<=F):Wa F ⟨[⟨0,0,10,10⟩]⟩=some true:=by
 rw[Vw hF,WN Q5r]
theorem Q5w:Vd [[(⟨0,0,10,10⟩:Rect)]]=[0,10]:=by
 have h:(WY [[(⟨0,0,10,10⟩:Rect)]]).mergeSort (λx y=>decide (x<=y))=[0,10]:=List.mergeSort_of_pairwise (by decide);unfold Vd
 rw[h];rfl
theorem Q5t(hF:Q7<=F)(y:Int):Vx F [(⟨0,0,10,10⟩:Rect)] y=some (if 0<=y/\y<10 then[⟨0,10⟩]else[]):=by
 rw[RV hF (by simp) (λr d=>by rw[Qb1.1 d];decide)];congr 1
 split
 .rename_i h
  refine Ka ⟨λs e=>by rw[Qb1.1 e];decide,by simp⟩ λx=>?_
  have g:=Qa5 h.1;have b:=Qa5 h.2
  simp[K8,Q8,Rect.has,Span.has,g,b]
 .rename_i h
  refine MI λx=>?_
  rw[Bool.eq_false_iff];intro c
  simp[Q8,Rect.has]at c
  exact h ⟨by omega,by omega⟩
theorem gJ(hF:Q7<=F):ZG F [(⟨0,0,10,1⟩:Rect)] [] (λy0 y1=>Dw F y0 y1)=some [⟨0,0,10,1⟩]:=by
 rw[Bn hF (by simp) (λr b=>by rw[Qb1.1 b];decide) (λr b=>by simp at b) (k:=λu v=>u && !v) rfl (λu v=>by cases u<;>cases v<;>rfl)];rw[show(λx y=>Q8 [(⟨0,0,10,1⟩:Rect)] x y && !Q8 [] x y)=Q8 [(⟨0,0,10,1⟩:Rect)]from funext λx=>funext λy=>by simp[Q8]]
 rw[Q2Q (by decide)]
theorem gI(hF:Q7<=F):ZG F [] [(⟨0,0,10,1⟩:Rect)] (λy0 y1=>Dw F y0 y1)=some []:=by
 rw[Bn hF (by simp) (λr d=>by simp at d) (λr d=>by rw[Qb1.1 d];decide) (k:=λu v=>u && !v) rfl (λu v=>by cases u<;>cases v<;>rfl)];rw[XX (l:=[]) ⟨⟨λb c=>by simp at c,by simp⟩,λb c=>by simp at c,λb c=>by simp at c⟩ λx y=>by simp[Q8,K8,G9]]
 rfl
theorem Q5s(hF:Q7<=F):Xq F [] [⟨0,10⟩] 0=some [⟨⟨0,0⟩,⟨10,0⟩⟩]:=by
 have e:=gJ hF;have g:=gI hF
 obtain⟨G,hG⟩:∃G,F=G+3:=⟨F-3,by unfold Q7 at hF;omega⟩;unfold Xq
 have d:UA F [⟨0,10⟩]=some [⟨0,0,10,1⟩]:=by rw[hG];kernel_rfl
 have c:UA F []=some []:=by rw[hG];kernel_rfl
 refine Q4 d (Q4 c (Q4 e ?_));unfold yo
 generalize hk:Xp F [] [⟨0,10⟩] 0=k;refine Eq.trans (b:=k [⟨⟨0,0⟩,⟨10,0⟩⟩]) (by rw[hG];kernel_rfl) ?_
 subst hk;unfold Xp
 refine Q4 c (Q4 d (Q4 g ?_));rw[hG];kernel_rfl
theorem Q5v(hF:Q7<=F):Xq F [⟨0,10⟩] [] 10=some [⟨⟨10,10⟩,⟨0,10⟩⟩]:=by
 have e:=gJ hF;have g:=gI hF
 obtain⟨G,hG⟩:∃G,F=G+3:=⟨F-3,by unfold Q7 at hF;omega⟩;unfold Xq
 have d:UA F [⟨0,10⟩]=some [⟨0,0,10,1⟩]:=by rw[hG];kernel_rfl
 have c:UA F []=some []:=by rw[hG];kernel_rfl
 refine Q4 c (Q4 d (Q4 g ?_));unfold yo
 generalize hk:Xp F [⟨0,10⟩] [] 10=k;refine Eq.trans (b:=k []) (by rw[hG];kernel_rfl) ?_
 subst hk;unfold Xp
 refine Q4 d (Q4 c (Q4 e ?_));rw[hG];kernel_rfl
theorem Q0L{σ R:Type}(f:(σ->Option R)->σ->Option R)(n:Nat)(z:σ):Y3 f (n+1) z=f (Y3 f n) z:=rfl
theorem Q5u(hF:Q7<=F):Dx F ⟨[⟨0,0,10,10⟩]⟩=some [⟨⟨0,0⟩,⟨10,0⟩⟩,⟨⟨0,10⟩,⟨0,0⟩⟩,⟨⟨10,0⟩,⟨10,10⟩⟩,⟨⟨10,10⟩,⟨0,10⟩⟩]:=by
 have c:Kp F [[(⟨0,0,10,10⟩:Rect)]]=some [0,10]:=by rw[zc hF (by decide) (by decide),Q5w]
 have r:∀y z l,y=z->(if 0<=z/\z<10 then[(⟨0,10⟩:Span)]else[])=l->Vx F (⟨[⟨0,0,10,10⟩]⟩:Re_).t_ y=some l:=λy z l h e=>by rw[h, <-e];exact Q5t hF z
 have u:=Q5s hF;have d:=Q5v hF
 obtain⟨G,hG⟩:∃G,F=G+3:=⟨F-3,by unfold Q7 at hF;omega⟩;unfold Dx
 refine Q4 c ?_;rw[hG,Q0L _ (G+2), <-hG]
 generalize hA:Y3 (λagain (z:Int×List Edge)=>Xr F ⟨[⟨0,0,10,10⟩]⟩ [0,10] again z.1 z.2) (G+2)=ag;show Xr F _ [0,10] ag 0 []=_
 unfold Xr;refine U3 rfl (Q9 (by decide) (Q9 (by decide) (Q4 (r _ (-1) [] (by kernel_rfl) (by decide)) (Q4 (r _ 0 [⟨0,10⟩] (by kernel_rfl) (by decide)) (Q4 u (Q9 (by decide) (Q9 (by decide) (Z8 (by decide) (Q4 (r _ 0 [⟨0,10⟩] (by kernel_rfl) (by decide)) ?_)))))))))
 refine Eq.trans (b:=ag (1,[⟨⟨0,0⟩,⟨10,0⟩⟩,⟨⟨0,10⟩,⟨0,0⟩⟩,⟨⟨10,0⟩,⟨10,10⟩⟩])) (by rw[hG];kernel_rfl) ?_;subst hA
 rw[Q0L _ (G+1)];show Xr F _ [0,10] _ 1 [⟨⟨0,0⟩,⟨10,0⟩⟩,⟨⟨0,10⟩,⟨0,0⟩⟩,⟨⟨10,0⟩,⟨10,10⟩⟩]=_
 unfold Xr;exact U3 rfl (Q9 (by decide) (Q9 (by decide) (Q4 (r _ 9 [⟨0,10⟩] (by kernel_rfl) (by decide)) (Q4 (r _ 10 [] (by kernel_rfl) (by decide)) (Q4 d (Q9 (by decide) (Q9 (by decide) (U3 (by decide) rfl))))))))
end
end Go.Ab
