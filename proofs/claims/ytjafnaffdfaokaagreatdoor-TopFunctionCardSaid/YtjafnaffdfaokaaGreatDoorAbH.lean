/- Abstract states over the model. -/
import Derived.Test.YtjafnaffdfaokaaGreatDoorAbD
import Derived.Test.YtjafnaffdfaokaaGreatDoorLwF
import Derived.Test.YtjafnaffdfaokaaGreatDoorAbF
import Derived.Test.YtjafnaffdfaokaaGreatDoorAbG
set_option linter.unusedVariables false
set_option linter.unusedSimpArgs false
set_option maxRecDepth 20000
namespace Go.Ab
noncomputable section
def hB(w:Int):List Rect:=[⟨0,0,w,20⟩]
def YF(w:Int)(x:Line):Line:=⟨x.p_,⟨cn fun u v=>Q4 x.g_.t_ u v&&Q4 (hB w) u v⟩,x.c_,x.s_⟩
def Yu(w:Int)(x:Line):Line:=⟨x.p_,⟨cn fun u v=>Q4 x.g_.t_ u v && !Q4 (hB w) u v⟩,x.c_,x.s_⟩
def WB(w:Int)(l:List Line):List Line:=l.flatMap fun x=>[YF w x,Yu w x]
theorem yL(w:Int)(l:List Line)(x:Line):WB w (x::l)=YF w x::Yu w x::WB w l:=by unfold WB;simp
theorem yK(w:Int)(l:List Line):(WB w l).length=2*l.length:=by
 induction l with
 | nil=>rfl
 | cons x l ih=>rw [yL,List.length_cons,List.length_cons,List.length_cons,ih];omega
theorem yX(w:Int)(x:Line)(u v:Int):Q4 (YF w x).g_.t_ u v=(Q4 x.g_.t_ u v&&Q4 (hB w) u v):=ZM (Q0x _ _) u v
theorem CW(w:Int)(x:Line)(u v:Int):Q4 (Yu w x).g_.t_ u v=(Q4 x.g_.t_ u v && !Q4 (hB w) u v):=ZM (DA _ _) u v
theorem Q1j{w:Int}{l:List Line}{y:Line}(h:y ∈ WB w l):∃ x ∈ l,y=YF w x\/y=Yu w x:=by
 unfold WB at h;obtain ⟨x,a,b⟩:=List.mem_flatMap.1 h
 refine ⟨x,a,?_⟩;simpa using b
section
structure GB (rs:List Re_) (l:List Line) (ps:List Re_) (L:List Scheme) (w:World):Prop where
 trm:∀ x ∈ l,TR x.g_.t_
 cr:∀ x ∈ l,0<=x.c_/\x.c_<(w.crops_.length:Nat)
 pr:∀ x ∈ l,TR (ZJ rs x).t_
 sb:∀ x ∈ l,∀ u v,Q4 x.g_.t_ u v=true->Q4 (ZJ rs x).t_ u v=true
 len:ps.length=l.length
 pc:∀ i,i<l.length->gl ps i=ZJ rs (gl l i)
 ap:l.Pairwise Q2H
 lt:LT L
 goodL:GoodL 3 L
 w:WT w
 few:l.length<=6
section
variable {F:Nat} {rs:List Re_} {l:List Line} {ps:List Re_} {L:List Scheme} {w:World}
theorem GB.line(hF:Q7+3<=F)(h:GB rs l ps L w){i:Nat}(hi:i<l.length){k:Nat}(hk:k<L.length):Gh F (gl l i) (gl ps i) (gl L k) w=some ((Yn w (gl l i) (gl ps i) (gl L k)).t3 (gl l i).g_.t_,0):=by
 rw [h.pc i hi];exact Q9X hF h.w (h.trm _ (J7 hi)) (h.cr _ (J7 hi)) (h.lt.st _ (J7 hk)).sd (h.goodL.one k hk) (h.pr _ (J7 hi)) (h.sb _ (J7 hi))
theorem GB.check(hF:Q7+3<=F)(h:GB rs l ps L w):Cg F l ps L=some 0:=by
 have a:=h.few;have c:=h.len
 unfold Cg;refine Z5 (by rw [bne_eq_false_iff_eq];omega) (Z5 (decide_eq_false (by omega)) (Q3 (Q6C (d:=3) (by omega) hF fun s b=>(h.lt.st s b).sd) ?_))
 rw [Q1E h.goodL]
theorem GB.apart(hF:Q7<=F)(h:GB rs l ps L w):Cj F l=some 0:=by
 have j:=h.few;have a:=hF
 unfold Q7 at a;unfold Cj
 refine Tz l.length (fun o i d c=>?_) (fun o=>?_) (by omega)
 .unfold yE
  have n:PU F (l.take i) (fun p=>Ci F p (gl l i))=some false:=by
   rw [Q6g hF (fun y=>Zo (gl l i).g_ y.g_) (by simp;omega) fun y _=>by
    unfold Ci;exact Q3 (gX hF _ _) rfl]
   congr 1
   rw [List.any_eq_false];intro y g
   obtain ⟨k,q,e⟩:=List.mem_take_iff_getElem.1 g;have b:=List.pairwise_iff_getElem.1 h.ap k i (by omega) d (by omega)
   rw [cY (h.trm _ (J7 d)).val (h.trm y (List.mem_of_mem_take g)).val fun u v f m=>by
    rw [JJ l i d] at f;rw [<-e] at m
    exact b u v m f]
   exact Bool.noConfusion
  refine Y7 (decide_eq_true (by omega)) (Q8 (by omega) (Q8 (by omega) ?_));rw [Int.toNat_natCast]
  exact Q3 n (Z5 rfl (Q8 (V9 (by omega) (by omega)) c))
 .unfold yE
  exact Z5 (decide_eq_false (by omega)) rfl
theorem GB.farm(hF:Q7+3<=F)(h:GB rs l ps L w){k:Nat}(hk:k<L.length):Cf F l ps (gl L k) w=some (⟨Qu w rs (gl L k) Wl l,Qu w rs (gl L k) GU l,Qu w rs (gl L k) Jl l⟩,0):=by
 have r:=h.few;have hB:Q7<=F:=by omega
 have o:=hB;unfold Q7 at o
 have E:=h.len;unfold Cf
 refine K9 (fun z:Int×(List Rect)×(List Rect)×(List Rect)=>∃ i:Nat,i<=l.length/\z=((i:Int),Qu w rs (gl L k) Wl (l.take i),Qu w rs (gl L k) GU (l.take i),Qu w rs (gl L k) Jl (l.take i))) (fun z=>l.length-z.1.toNat) (fun f z u y=>?_) ⟨0,Nat.zero_le _,rfl⟩ (by simp;omega);obtain ⟨i,J,rfl⟩:=u
 have d:∀ j,SelOk j->(Qu w rs (gl L k) j (l.take i)).length<=720:=fun j A=>by
  have:=Ty (w:=w) (rs:=rs) (s:=gl L k) A (m:=l.take i) fun x t=>h.trm x (List.mem_of_mem_take t)
  have e:(l.take i).length<=6:=by rw [List.length_take];omega
  omega
 show yD F l ps (gl L k) w f (i:Int) _ _ _=_;unfold yD
 refine Z6 (fun q=>?_) (fun q=>?_)
 .have q:i<l.length:=by have:=of_decide_eq_true q;omega
  refine Q8 (by omega) (Q8 (by omega) ?_);rw [Int.toNat_natCast]
  refine Q3 (h.line hF q hk) (Z5 rfl (Q8 (gq (h.goodL.one k hk)) ?_));have p:=h.trm _ (J7 q)
  have g:=KU w (gl l i) (gl ps i) (gl L k);have n:∀ a b c,a=Qu w rs (gl L k) Wl (l.take (i+1))->b=Qu w rs (gl L k) GU (l.take (i+1))->c=Qu w rs (gl L k) Jl (l.take (i+1))->DN F (i:Int) f a b c=some (⟨Qu w rs (gl L k) Wl l,Qu w rs (gl L k) GU l,Qu w rs (gl L k) Jl l⟩,0):=fun a b c v C B=>by
   unfold DN;refine Q8 (V9 (by omega) (by omega)) (y _ ⟨i+1,q,?_⟩ (by simp only;omega))
   rw [v,C,B];rfl
  have D:=d Wl MH;have K:=d GU Q6w
  have M:=d Jl Q6v;have G:=(g.vY p).1
  have I:=(g.vN p).1;have H:=(g.vO p).1
  refine Z6 (fun b=>?_) (fun b=>?_)
  .rw [Vs] at b
   have b:ZG (gl l i).s_ (gl L k).N_=false:=by simpa using b
   refine n _ _ _ ?_ ?_ ?_ <;> rw [Qx q,Ge,XN,if_neg (by rw [b];simp),List.append_nil]
  .rw [Vs] at b
   have b:ZG (gl l i).s_ (gl L k).N_=true:=by simpa using b
   refine Q8 ?_ (Q8 (V9 (by omega) (by omega)) (Q8 ?_ (Q8 (V9 (by omega) (by omega)) (Q8 ?_ (Q8 (V9 (by omega) (by omega)) (n _ _ _ ?_ ?_ ?_))))))
   .simp only [TS.t3];unfold Y5;omega
   .simp only [TS.t3];unfold Y5;omega
   .simp only [TS.t3];unfold Y5;omega
   all_goals
    rw [Qx q,Ge,XN,if_pos b, <-h.pc i q];rfl
 .have q:i=l.length:=by have:=of_decide_eq_false q;omega
  rw [q,List.take_length];rfl
theorem GB.Areas(hF:Q7+3<=F)(h:GB rs l ps L w):DQ F l ps L w=some (L.map (Ya w rs l),0):=by
 have e:=h.few;have hB:Q7<=F:=by omega
 have c:=hB;unfold Q7 at c
 have g:=h.lt.len;unfold DQ
 refine Q3 (h.check hF) (Z5 rfl ?_);refine K9 (fun z:Int×(List Int)=>∃ i:Nat,i<=L.length/\z=((i:Int),(L.take i).map (Ya w rs l))) (fun z=>L.length-z.1.toNat) (fun a z f j=>?_) ⟨0,Nat.zero_le _,rfl⟩ (by simp;omega)
 obtain ⟨i,o,rfl⟩:=f;show yG F l ps L w a (i:Int) _=_
 unfold yG;refine Z6 (fun q=>?_) (fun q=>?_)
 .have q:i<L.length:=by have:=of_decide_eq_true q;omega
  refine Q8 (by omega) ?_;rw [Int.toNat_natCast]
  have d:=Ty (w:=w) (rs:=rs) (s:=gl L i) MH h.trm;have k1:∀ n,n=Ya w rs l (gl L i)->DP F (i:Int) ((L.take i).map (Ya w rs l)) a n=some (L.map (Ya w rs l),0):=fun n m=>by
   unfold DP;refine Q8 (by simp only [List.length_map,List.length_take,List.length_cons,List.length_nil];unfold Y5;omega) (Q8 (V9 (by omega) (by omega)) (j _ ⟨i+1,q,?_⟩ (by simp only;omega)))
   rw [Qx q,List.map_append,m];rfl
  refine Q3 (h.farm hF q) (Z5 rfl (Q3 (LO hB (by simp only;omega) fun r k=>(Q0n MH h.trm r k).1) (Z6 (fun b=>?_) fun b=>?_)))
  .exact k1 _ (by unfold Ya;rw [if_pos (of_decide_eq_true b)])
  .exact k1 _ (by unfold Ya;rw [if_neg (of_decide_eq_false b)])
 .have q:i=L.length:=by have:=of_decide_eq_false q;omega
  rw [q,List.take_length];unfold yF
  exact Q3 (h.apart hB) (Z5 rfl rfl)
end
end
section
def P3:List Re_:=[⟨[⟨0,0,9,9⟩]⟩,⟨[⟨10,0,19,9⟩]⟩,⟨[⟨20,0,29,9⟩]⟩]
theorem Q2p:ParT P3:=⟨by decide,fun i a=>by
 have a:i<3:=a;obtain rfl|rfl|rfl:i=0\/i=1\/i=2:=by omega
 all_goals exact ⟨9,9,by omega,by omega,by omega,by omega,rfl⟩⟩
theorem Q2q{i:Nat}(hi:i<3):gl P3 i=⟨[⟨10*i,0,10*i+9,9⟩]⟩:=by
 obtain rfl|rfl|rfl:i=0\/i=1\/i=2:=by omega
 all_goals rfl
theorem LinO.p3{K:Int}{rs:List Re_}(hp:ParT rs){x:Line}(h:LinO K rs x):LinO K P3 x:=by
 have f:=h.par;have j:=hp.len
 refine ⟨h.crop,⟨f.1,by show x.p_<=3;omega⟩,h.sch,h.val,h.ne,fun u v a=>?_⟩;have i:=h.pl hp u v a
 obtain ⟨w,k,n,g,m,o,e⟩:=hp.one (x.p_-1).toNat (by omega);have d:=h.sub u v a
 rw [e,WQ] at d;obtain ⟨r,c,b⟩:=d
 rw [List.mem_singleton] at c;subst c
 rw [Zp] at b;rw [Q2q (by omega),WQ]
 refine ⟨_,List.mem_singleton.2 rfl,?_⟩;rw [Zp]
 simp only at b ⊢;omega
theorem LinT.p3{K:Int}{rs:List Re_}(hp:ParT rs){l:List Line}(h:LinT K rs l):LinT K P3 l:=⟨fun x a=>(h.one x a).p3 hp,h.apart,h.two⟩
theorem bH{F:Nat}(hF:Q7<=F){rs:List Re_}(hr:rs.length<=100){l:List Line}(hl:∀ x ∈ l,1<=x.p_/\x.p_<=rs.length)(h3:l.length<=100):∃ ps,Dp F l rs=some ps/\PrT rs l ps:=by
 unfold Q7 at hF;unfold Dp
 suffices h:Ok (Z9 (fun b (z:Int×(List Re_))=>Tc F l rs b z.1 z.2) F ((0:Int),([]:List Re_))) fun ps=>PrT rs l ps by
  obtain ⟨ps,e,n⟩:=h;exact ⟨ps,e,n⟩
 refine JD (fun z:Int×List Re_=>∃ i:Nat,z.1=i/\i<=l.length/\z.2.length=i/\∀ k,k<i->gl z.2 k=gl rs ((gl l k).p_-1).toNat) (fun z=>l.length-z.1.toNat) (fun b z j m=>?_) ⟨0,rfl,Nat.zero_le _,rfl,fun k f=>absurd f (Nat.not_lt_zero k)⟩ (by simp;omega);obtain ⟨a,ps⟩:=z
 obtain ⟨i,e,p,c,d⟩:=j;simp only at e c d
 subst e;show Ok (Tc F l rs b (i:Int) ps) _
 unfold Tc;refine Zg (fun h=>?_) (fun h=>?_)
 .have h:i<l.length:=by have:=of_decide_eq_true h;omega
  have o:=hl _ (J7 h);rw [Int.toNat_natCast]
  refine Qd (by omega) (Qd (V9 (by omega) (by omega)) (QW (Z0E (by omega) (by omega)) (Qd (by omega) (Qd (by simp only [List.length_cons,List.length_nil];unfold Y5;omega) (Qd (V9 (by omega) (by omega)) (m _ ⟨i+1,by simp,h,by simp [c],fun k f=>?_⟩ (by simp only;omega)))))));rcases Nat.lt_or_ge k i with g|g
  .rw [zX _ _ (by omega)];exact d k g
  .have:k=ps.length:=by omega
   subst this;rw [zW,c]
 .have h:i=l.length:=by have:=of_decide_eq_false h;omega
  unfold zG;exact JC ⟨by omega,fun k f=>d k (by omega)⟩
section
variable {rs:List Re_} {l:List Line} {ps:List Re_} {L:List Scheme} {w:World}
theorem Z4y(hp:ParT rs)(hl:LinT (w.crops_.length:Nat) rs l)(hps:PrT rs l ps)(hL:LT L)(hg:GoodL 3 L)(hw:WT w)(h6:l.length<=6):GB rs l ps L w:=by
 have f:=hp.len;refine ⟨fun x a=>?_,fun x a=>(hl.one x a).crop,fun x a=>?_,fun x a=>(hl.one x a).sub,hps.len,hps.at_,hl.apart,hL,hg,hw,h6⟩
 .have b:=hl.one x a
  have e:=b.par;exact vu b.val (d:=10*(x.p_-1)) (by omega) (b.pl hp)
 .have e:=(hl.one x a).par
  have c:(x.p_-1).toNat<rs.length:=by omega
  exact vu (hp.val c) (d:=10*((x.p_-1).toNat:Nat)) (by omega) (hp.pl c)
theorem yo(A B:List Rect):Fin fun u v=>Q4 A u v&&Q4 B u v:=Vn _ _ 2
theorem yl(A B:List Rect):Fin fun u v=>Q4 A u v && !Q4 B u v:=Vn _ _ 3
theorem GB.of_cut(h:GB rs l ps L w)(h3:l.length<=3){c:Int}{m:List Line}(hm:m.Perm (WB c l)){ps' : List Re_}(hps:PrT rs m ps'):GB rs m ps' L w:=by
 have i:∀ y ∈ m,∃ x ∈ l,y=YF c x\/y=Yu c x:=fun y d=>Q1j (hm.mem_iff.1 d)
 have k:∀ x ∈ l,∀ y,y=YF c x\/y=Yu c x->∀ u v,Q4 y.g_.t_ u v=true->Q4 x.g_.t_ u v=true:=by
  intro x g y d u v f;rcases d with rfl|rfl
  .rw [yX,Bool.and_eq_true] at f;exact f.1
  .rw [CW,Bool.and_eq_true] at f;exact f.1
 have j:∀ x y:Line,y=YF c x\/y=Yu c x->ZJ rs y=ZJ rs x/\y.c_=x.c_:=by
  rintro x y (rfl|rfl) <;> exact ⟨rfl,rfl⟩
 refine ⟨fun y d=>?_,fun y d=>?_,fun y d=>?_,fun y d u v f=>?_,hps.len,hps.at_,?_,h.lt,h.goodL,h.w,?_⟩
 .obtain ⟨x,g,rfl|rfl⟩:=i y d
  .exact (h.trm x g).part (yo _ _) fun u v q=>(Bool.and_eq_true _ _ ▸ q).1
  .exact (h.trm x g).part (yl _ _) fun u v q=>(Bool.and_eq_true _ _ ▸ q).1
 .obtain ⟨x,g,e⟩:=i y d
  rw [(j x y e).2];exact h.cr x g
 .obtain ⟨x,g,e⟩:=i y d
  rw [(j x y e).1];exact h.pr x g
 .obtain ⟨x,g,e⟩:=i y d
  rw [(j x y e).1];exact h.sb x g u v (k x g y e u v f)
 .refine (hm.pairwise_iff fun {a b} hab u v h1 h2=>hab u v h2 h1).2 ?_
  unfold WB;rw [List.pairwise_flatMap]
  refine ⟨fun x g=>?_,h.ap.imp_of_mem fun {a b} ha hb hab y d z hz u v o n=>?_⟩
  .refine .cons (fun y d=>?_) (.cons (fun y d=>by simp at d) .nil)
   rw [List.mem_singleton] at d;subst d
   intro u v o n;rw [yX,Bool.and_eq_true] at o
   rw [CW,Bool.and_eq_true] at n;rw [o.2] at n
   simp at n
  .exact hab u v (k a ha y (by simpa using d) u v o) (k b hb z (by simpa using hz) u v n)
 .have:=yK c l
  have:=hm.length_eq
  omega
theorem Q4a{a b:List Int}(h:a.Perm b):a.sum=b.sum:=by
 induction h with
 | nil=>rfl
 | cons x _ ih=>rw [List.sum_cons,List.sum_cons,ih]
 | swap x y l=>rw [List.sum_cons,List.sum_cons,List.sum_cons,List.sum_cons];omega
 | trans _ _ h1 h2=>exact h1.trans h2
theorem Z3q{s:Scheme}{a b:List Line}(h:a.Perm b):area (Qu w rs s Wl a)=area (Qu w rs s Wl b):=by
 unfold area Qu;exact Q4a ((h.flatMap_right _).map _)
theorem Z3r{A:List Rect}(hA:TR A){B C:List Rect}(hB:TR B)(hC:TR C){h:Sq}(qB:∀ u v,Q4 B u v=(Q4 A u v&&h u v))(qC:∀ u v,Q4 C u v=(Q4 A u v && !h u v)){P:TS}(hti:TIn A P)(h2:TIn B (P.pt h))(h3:TIn C (P.pt fun u v=> !h u v)):
  area (cn (P.pt h).Y)+area (cn (P.pt fun u v=> !h u v).Y)=area (cn P.Y):=by
 rw [(h2.vY hB).area,(h3.vY hC).area,(hti.vY hA).area,ZE h2.fY,ZE h3.fY,ZE hti.fY,PP,PP,PP, <-Q1v fun u v b a=>?_]
 .congr 1
  funext u v
  simp only [TS.pt]
  cases P.Y u v <;> cases h u v <;> rfl
 .simp only [TS.pt,Bool.and_eq_true] at b a
  rw [b.2] at a;simp at a
theorem Q2a{s:Scheme}{c:Int}:∀ {l:List Line},(∀ x ∈ l,TR x.g_.t_)->area (Qu w rs s Wl (WB c l))=area (Qu w rs s Wl l)
 | [],_=>rfl
 | x::l,h=>by
  have j:=Q2a (s:=s) (c:=c) (l:=l) fun y m=>h y (List.mem_cons_of_mem _ m)
  have a:=h x List.mem_cons_self;have p:TR (YF c x).g_.t_:=a.part (yo _ _) fun u v q=>(Bool.and_eq_true _ _ ▸ q).1
  have i:TR (Yu c x).g_.t_:=a.part (yl _ _) fun u v q=>(Bool.and_eq_true _ _ ▸ q).1
  have e:=yX c x;have f:=CW c x
  rw [yL,show YF c x::Yu c x::WB c l=[YF c x]++([Yu c x]++WB c l) from rfl,show x::l=[x]++l from rfl,Ge,Ge,Ge,vm,vm,vm,j,XN,XN,XN];have o:(YF c x).s_=x.s_:=rfl
  have g:(Yu c x).s_=x.s_:=rfl;rw [o,g]
  by_cases hb:ZG x.s_ s.N_=true
  .rw [if_pos hb,if_pos hb,if_pos hb]
   have n:Yn w (YF c x) (ZJ rs (YF c x)) s=(Yn w x (ZJ rs x) s).pt (Q4 (hB c)):=bf e (ZJ rs x) s;have k:Yn w (Yu c x) (ZJ rs (Yu c x)) s=(Yn w x (ZJ rs x) s).pt (fun u v=> !Q4 (hB c) u v):=bf f (ZJ rs x) s
   have r:=KU w x (ZJ rs x) s;have b:=KU w (YF c x) (ZJ rs (YF c x)) s
   have d:=KU w (Yu c x) (ZJ rs (Yu c x)) s;rw [n] at b ⊢
   rw [k] at d ⊢;have:=Z3r a p i e f r b d
   show area (cn ((Yn w x (ZJ rs x) s).pt (Q4 (hB c))).Y)+(area (cn ((Yn w x (ZJ rs x) s).pt (fun u v=> !Q4 (hB c) u v)).Y)+_)=area (cn (Yn w x (ZJ rs x) s).Y)+_;omega
  .rw [if_neg hb,if_neg hb,if_neg hb]
   have:area ([]:List Rect)=0:=rfl
   omega
theorem Q3h{s:Scheme}{c:Int}(h:∀ x ∈ l,TR x.g_.t_){m:List Line}(hm:m.Perm (WB c l)):Ya w rs m s=Ya w rs l s:=by
 unfold Ya;rw [Z3q hm,Q2a h]
end
def Jb(c:Int)(l:List Line):List Line:=l.flatMap fun x=>[Yu c x,YF c x]
theorem CZ(c:Int):∀ l:List Line,(Jb c l).Perm (WB c l)
 | []=>.refl _
 | x::l=>by
  have e:Jb c (x::l)=Yu c x::YF c x::Jb c l:=rfl;rw [yL,e]
  exact (List.Perm.swap _ _ _).trans (((CZ c l).cons _).cons _)
theorem Q6T{p m:List Line}{t:Nat}(hl:m.length=p.length)(h:∀ i,i<p.length->gl m i=gl p ((i+t) % p.length)):m.Perm p:=by
 rcases Nat.eq_zero_or_pos p.length with a|a
 .rw [List.length_eq_zero_iff.1 a,List.length_eq_zero_iff.1 (hl.trans a)]
 have k:t % p.length<p.length:=Nat.mod_lt _ a;have e:m=p.drop (t % p.length)++p.take (t % p.length):=by
  refine List.ext_getElem (by simp;omega) fun i f j=>?_
  have g:i<p.length:=by omega
  have c:=h i g;rw [JJ m i f,JJ p _ (Nat.mod_lt _ a)] at c
  rw [c,List.getElem_append];have d:(i+t) % p.length=(i+t % p.length) % p.length:=by rw [Nat.add_mod_mod]
  split
  .rename_i b
   rw [List.length_drop] at b;rw [List.getElem_drop]
   congr 1
   rw [d,Nat.mod_eq_of_lt (by omega)];omega
  .rename_i b
   rw [List.length_drop] at b;rw [List.getElem_take]
   congr 1
   rw [d,Nat.mod_eq_sub_mod (by omega),Nat.mod_eq_of_lt (by omega),List.length_drop];omega
 rw [e];exact List.perm_append_comm.trans (by rw [List.take_append_drop])
end
end
end Go.Ab
