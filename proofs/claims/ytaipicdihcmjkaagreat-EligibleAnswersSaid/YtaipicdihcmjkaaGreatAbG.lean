/- Abstract states over the model. -/
import Derived.Test.YtaipicdihcmjkaaGreatAbF
import Derived.Test.YtaipicdihcmjkaaGreatLwE
import Derived.Test.YtaipicdihcmjkaaGreatLwA
import Derived.Test.YtaipicdihcmjkaaGreatLwB
set_option linter.unusedVariables false
set_option linter.unusedSimpArgs false
set_option maxRecDepth 20000
namespace Go.Ab
noncomputable section
section
theorem Z2M{α:Type}[Emb α](p:α->Bool)(l:List α):((List.range l.length).any fun k=>p (gl l k))=l.any p:=by
 rw [Bool.eq_iff_iff,List.any_eq_true,List.any_eq_true];constructor
 .rintro ⟨k,c,h⟩
  exact ⟨_,V4 (List.mem_range.1 c),h⟩
 .rintro ⟨x,b,h⟩
  obtain ⟨i,a,rfl⟩:=List.mem_iff_getElem.1 b;exact ⟨i,List.mem_range.2 a,by rw [Pp l i a];exact h⟩
def PK(l:List Line)(i:Nat):Bool:=(l.take i).any fun y=>QV (gl l i).g_ y.g_
def Ko(l:List Line):Int:=if (List.range l.length).any (PK l)=true then 11 else 0
theorem Q2u{F:Nat}(hF:Q8<=F){l:List Line}(hl:l.length<=1000):HW F l=some (Ko l):=by
 have d:=hF;unfold Q8 at d
 unfold HW Ko;refine (Xq (c:=some 11) (y:=some 0) l.length (PK l) (fun a i e b=>?_) (fun a i z e b f=>?_) (fun a=>?_) (by omega)).trans ?_
 .unfold Fs
  refine Z9 (decide_eq_true (by omega)) (Q7 (by omega) (Q7 (by omega) ?_));rw [Int.toNat_natCast]
  refine Q4 (gV hF (fun y=>QV (gl l i).g_ y.g_) (by simp;omega) fun y _=>by
   unfold Ft;exact Q4 (qO hF _ _) rfl) (Z9 b rfl)
 .unfold Fs
  refine Z9 (decide_eq_true (by omega)) (Q7 (by omega) (Q7 (by omega) ?_));rw [Int.toNat_natCast]
  refine Q4 (gV hF (fun y=>QV (gl l i).g_ y.g_) (by simp;omega) fun y _=>by
   unfold Ft;exact Q4 (qO hF _ _) rfl) (Z3 b (Q7 (W2 (by omega) (by omega)) f))
 .unfold Fs
  exact Z3 (decide_eq_false (by omega)) rfl
 .split <;> rfl
theorem cc{F:Nat}(hF:Q8<=F){l:List Line}(hl:l.length<=1000):BV F l=some (Ko l):=by
 have j:=hF;unfold Q8 at j
 have b:∀ (m:Int->Option Int) (i:Nat),i<l.length->Z7 (fun a (z:Int)=>BU F l (i:Int) m a z) F 0=if PK l i=true then some 11 else m ((i:Int)+1):=fun m i g=>by
  have p:(l.take i).length=i:=by rw [List.length_take];omega
  have e:PK l i=(List.range (l.take i).length).any fun k=>QV (gl l i).g_ (gl l k).g_:=by
   unfold PK;rw [<-Z2M]
   rw [Bool.eq_iff_iff,List.any_eq_true,List.any_eq_true];constructor
   .rintro ⟨k,f,h⟩
    have:=List.mem_range.1 f
    exact ⟨k,f,by rw [Q1B l (by omega)] at h;exact h⟩
   .rintro ⟨k,f,h⟩
    have:=List.mem_range.1 f
    exact ⟨k,f,by rw [Q1B l (by omega)];exact h⟩
  rw [e];refine Xq (l.take i).length (fun k=>QV (gl l i).g_ (gl l k).g_) (fun a k f d=>?_) (fun a k y f d n=>?_) (fun a=>?_) (by omega)
  .unfold BU
   rw [Int.toNat_natCast];refine Z9 (decide_eq_true (by omega)) (Q7 (by omega) (Q7 (by omega) ?_))
   rw [Int.toNat_natCast];exact Q4 (zS hF _ _) (Z9 d rfl)
  .unfold BU
   rw [Int.toNat_natCast];refine Z9 (decide_eq_true (by omega)) (Q7 (by omega) (Q7 (by omega) ?_))
   rw [Int.toNat_natCast];exact Q4 (zS hF _ _) (Z3 d (Q7 (W2 (by omega) (by omega)) n))
  .unfold BU
   rw [Int.toNat_natCast];refine Z3 (decide_eq_false (by omega)) ?_
   unfold qY;exact Q7 (W2 (by omega) (by omega)) rfl
 unfold BV Ko;refine (Xq (c:=some 11) (y:=some 0) l.length (PK l) (fun a i g d=>?_) (fun a i z g d o=>?_) (fun a=>?_) (by omega)).trans ?_
 .unfold Sx
  refine Z9 (decide_eq_true (by omega)) (Q7 (by omega) ?_);rw [b _ i g,if_pos d]
 .unfold Sx
  refine Z9 (decide_eq_true (by omega)) (Q7 (by omega) ?_);rw [b _ i g,if_neg (by rw [d];simp)]
  exact o
 .unfold Sx
  exact Z3 (decide_eq_false (by omega)) rfl
 .split <;> rfl
def WQ(l:List Line)(ps:List Re_)(L:List Scheme):Int:=if l.length≠ps.length then 3 else if 20<l.length then 1 else (Uz 3 L).2
theorem Q2p{F:Nat}(hF:Q8+3<=F)(l:List Line)(ps:List Re_){L:List Scheme}(hL:∀ s ∈ L,SD 3 s):HU F l ps L=some (WQ l ps L):=by
 unfold HU WQ;refine Q6 (fun h=>?_) (fun h=>Q6 (fun a=>?_) (fun a=>?_))
 .rw [if_pos (by simp at h;omega)]
 .rw [if_neg (by simp at h;omega),if_pos (by have:=of_decide_eq_true a;omega)]
 .rw [if_neg (by simp at h;omega),if_neg (by have:=of_decide_eq_false a;omega)]
  exact Q4 (Q6E (by omega) hF hL) rfl
theorem cg{F:Nat}(hF:Q8+3<=F)(l:List Line)(ps:List Re_){L:List Scheme}(hL:∀ s ∈ L,SD 3 s):BW F l ps L=some (WQ l ps L):=by
 unfold BW WQ;refine Q6 (fun h=>?_) (fun h=>Q6 (fun a=>?_) (fun a=>?_))
 .rw [if_pos (by simp at h;omega)]
 .rw [if_neg (by simp at h;omega),if_pos (by have:=of_decide_eq_true a;omega)]
 .rw [if_neg (by simp at h;omega),if_neg (by have:=of_decide_eq_false a;omega)]
  exact Q4 (ct (by omega) hF hL) rfl
def Us(F:Nat)(l:List Line)(ps:List Re_)(L:List Scheme)(n:Int)(w:World):Truth×Int:=
 if WQ l ps L≠0 then (Yv,WQ l ps L) else if y9 (Zu n) L<0 then (Yv,17)
 else if (Zq F w l ps (gl L (y9 (Zu n) L).toNat)).2≠0 then (Yv,(Zq F w l ps (gl L (y9 (Zu n) L).toNat)).2)
 else if Ko l≠0 then (Yv,Ko l)
 else Jg (cn (Q2 (Zq F w l ps (gl L (y9 (Zu n) L).toNat)).1.e0_)) (cn (Q2 (Zq F w l ps (gl L (y9 (Zu n) L).toNat)).1.e1_)) (cn (Q2 (Zq F w l ps (gl L (y9 (Zu n) L).toNat)).1.e2_))
theorem FK{l:List Line}{ps:List Re_}{L:List Scheme}(h:WQ l ps L=0):ps.length=l.length:=by
 unfold WQ at h;split at h
 .cases h
 .omega
section
variable {F:Nat} {l:List Line} {L:List Scheme} {w:World} {ps:List Re_} {s:Scheme}
theorem Q1K(h:UZ F w l ps s=none):∀ j,j<l.length->WL F w l ps s j=false:=fun j a=>by
 have:=List.find?_eq_none.1 h j (List.mem_range.2 a)
 simpa using this
theorem Q2b(h:GA l L w)(h0:(Zq F w l ps s).2=0):UZ F w l ps s=none:=by
 unfold Zq at h0;split at h0
 .rename_i i a
  have:=List.find?_some a
  unfold WL at this;rw [h0] at this
  simp at this
 .assumption
theorem Z1J(hF:Q8+3<=F)(h:GA l L w)(n:Int):Fu F l ps L n w=some (Us F l ps L n w):=by
 have c:Q8<=F:=by omega
 have g:=h.llen;have o:=h.len
 unfold Fu Us;refine Q4 (Q2p hF l ps h.sd) (Q6 (fun q=>?_) (fun q=>?_))
 .rw [if_pos (by simpa using q)];rfl
 have q:WQ l ps L=0:=by simpa using q
 rw [if_neg (by rw [q];simp)];have e:=FK q
 refine Q4 (qv c (by omega) n) (Q6 (fun q=>?_) (fun q=>?_))
 .rw [if_pos (of_decide_eq_true q)];rfl
 have q:=of_decide_eq_false q;rw [if_neg q]
 have m:=(Pl (Zu n) L).1;have f:(y9 (Zu n) L).toNat<L.length:=by omega
 have b:=h.sd _ (V4 f);refine Q7 (by omega) (Q4 (Q2n hF h b e) (Q6 (fun q=>?_) (fun q=>?_)))
 .rw [if_pos (by simpa using q)];rfl
 have q:(Zq F w l ps (gl L (y9 (Zu n) L).toNat)).2=0:=by simpa using q
 rw [if_neg (by rw [q];simp)];have hE:=Q2b h q
 have d:=Q1K hE;refine Q4 (Q2u c (by omega)) (Q6 (fun q=>?_) (fun q=>?_))
 .rw [if_pos (by simpa using q)];rfl
 rw [if_neg (by simpa using q)];have i:=h.fr 0 l.length (Nat.le_refl _) d
 have j:=h.fr 1 l.length (Nat.le_refl _) d;have k:=h.fr 2 l.length (Nat.le_refl _) d
 unfold Zq;rw [hE]
 exact Q4 (Q4v c (by omega) (by omega) (by omega) (fun r a=>(i.2.1 r a).2) (fun r a=>(j.2.1 r a).2) (fun r a=>(k.2.1 r a).2)) rfl
end
end
section
section
variable {F:Nat} {l:List Line} {L:List Scheme} {w:World} {ps:List Re_} {s:Scheme}
theorem GA.comb(hF:Q8<=F)(h:GA l L w){i:Nat}(hi:i<l.length)(hn:∀ j,j<i+1->WL F w l ps s j=false)(k:Nat)(hb:QM (gl l i).s_ s.N_=true):
  G5 F (cn (Q2 (Qj F w l ps s k i))) (VT k (y5 F w (gl l i) (gl ps i) s).1) 1=some (cn (Q2 (Qj F w l ps s k (i+1)))):=by
 have a:=Z0i (h.fr k i (by omega) fun j c=>hn j (by omega)).2.2;have b:=(h.sel (V4 hi) (yA (hn i (by omega))) k).1.1
 rw [YC hF (by omega) (J2 (V8 _)) rfl 1,HG,if_pos hb];congr 2
 funext u v
 rw [YN];rfl
theorem Q7A(hF:Q8+3<=F)(h:GA l L w)(n:Int):Sy F l ps L n w=some (Us F l ps L n w):=by
 have o:Q8<=F:=by omega
 have u:=o;unfold Q8 at u
 have C:=h.llen;have M:=h.len
 unfold Sy Us;refine Q4 (cg hF l ps h.sd) (Q6 (fun q=>?_) (fun q=>?_))
 .rw [if_pos (by simpa using q)];rfl
 have q:WQ l ps L=0:=by simpa using q
 rw [if_neg (by rw [q];simp)];have K:=FK q
 refine Q4 (zk o (by omega) n) (Q6 (fun q=>?_) (fun q=>?_))
 .rw [if_pos (of_decide_eq_true q)];rfl
 have q:=of_decide_eq_false q;rw [if_neg q]
 have r:=Pl (Zu n) L;have y:(y9 (Zu n) L).toNat<L.length:=by omega
 have g:=h.sd _ (V4 y);have k:(gl L (y9 (Zu n) L).toNat).N_=n:=by
  have:=(r.2.2 (by omega)).1
  unfold Zu at this;exact eq_of_beq this
 have t:=r.1;generalize hk2:y9 (Zu n) L=kk at y g k t q ⊢
 clear r
 generalize hs2:gl L kk.toNat=s at g k ⊢;refine J4 (fun z:Int×(List Rect)×(List Rect)×(List Rect)=>∃ i:Nat,i<=l.length/\z=((i:Int),cn (Q2 (Qj F w l ps s 0 i)),cn (Q2 (Qj F w l ps s 1 i)),cn (Q2 (Qj F w l ps s 2 i)))/\∀ j,j<i->WL F w l ps s j=false) (fun z=>l.length-z.1.toNat) (fun d z x J=>?_) ⟨0,Nat.zero_le _,?_,fun j m=>absurd m (Nat.not_lt_zero j)⟩ (by simp;omega)
 rotate_left
 .show ((0:Int),([]:List Rect),([]:List Rect),([]:List Rect))=((0:Int),cn (Q2 []),cn (Q2 []),cn (Q2 []))
  rw [show cn (Q2 [])=[] from WA]
 obtain ⟨i,r,rfl,v⟩:=x;show zc F l ps L n w kk d (i:Int) _ _ _=_
 unfold zc;refine Q6 (fun q=>?_) (fun q=>?_)
 .have q:i<l.length:=by have:=of_decide_eq_true q;omega
  have B:=V4 (l:=l) (i:=i) q;refine Q7 (by omega) (Q7 (by omega) (Q7 (by omega) ?_))
  rw [Int.toNat_natCast,hs2];obtain ⟨_,I,H⟩:=h.both hF B (gl ps i) g
  refine Q4 I (Q6 (fun b=>?_) (fun b=>?_))
  .have hE:UZ F w l ps s=some i:=List.find?_range_eq_some.2 ⟨b,List.mem_range.2 q,fun j m=>by simp [v j m]⟩
   have e:Zq F w l ps s=(⟨[],[],[]⟩,(y5 F w (gl l i) (gl ps i) s).2):=by
    unfold Zq;rw [hE]
   rw [e,if_pos (by simpa using b)];rfl
  .have x:(y5 F w (gl l i) (gl ps i) s).2=0:=by simpa using b
   have f:∀ j,j<i+1->WL F w l ps s j=false:=fun j m=>by
    by_cases hji:j=i
    .subst hji;exact b
    .exact v j (by omega)
   have A:=RK (h.zero B x).1;refine Q7 (by omega) (Q7 (by omega) (Q7 (by omega) (Q4 H (Q7 (by omega) (Q7 (by omega) ?_)))))
   rw [<-k];show br (QM (gl l i).s_ s.N_) _ _=_
   have p:∀ a b c,a=cn (Q2 (Qj F w l ps s 0 (i+1)))->b=cn (Q2 (Qj F w l ps s 1 (i+1)))->c=cn (Q2 (Qj F w l ps s 2 (i+1)))->BX F (i:Int) d a b c=_:=fun a b c G D E=>by
    unfold BX;refine Q7 (W2 (by omega) (by omega)) (J _ ⟨i+1,q,?_,f⟩ (by simp only;omega))
    rw [G,D,E];rfl
   refine Q6 (fun b=>?_) (fun b=>?_)
   .exact Q4 (h.comb o q f 0 b) (Q4 (h.comb o q f 1 b) (Q4 (h.comb o q f 2 b) (p _ _ _ rfl rfl rfl)))
   .refine p _ _ _ ?_ ?_ ?_ <;> (rw [HG,if_neg (by rw [b];simp),List.append_nil])
 .have q:i=l.length:=by have:=of_decide_eq_false q;omega
  have hE:UZ F w l ps s=none:=List.find?_eq_none.2 fun j m=>by
   have:=List.mem_range.1 m
   simp [v j (by omega)]
  have e:Zq F w l ps s=(⟨Qj F w l ps s 0 l.length,Qj F w l ps s 1 l.length,Qj F w l ps s 2 l.length⟩,0):=by
   unfold Zq;rw [hE]
  rw [e,if_neg (by simp),q];unfold zb
  refine Q4 (cc o (by omega)) (Q6 (fun q=>?_) (fun q=>?_))
  .rw [if_pos (by simpa using q)];rfl
  .rw [if_neg (by simpa using q)]
   exact Q4 (Q7x F _ _ _) rfl
theorem GA.part(h:GA l L w){i:Nat}(hi:i<l.length)(hz:WL F w l ps s i=false):area (VT 0 (y5 F w (gl l i) (gl ps i) s).1)=area (if QM (gl l i).s_ s.N_=true then VT 0 (y5 F w (gl l i) (gl ps i) s).1 else []):=by
 by_cases hb:QM (gl l i).s_ s.N_=true
 .rw [if_pos hb]
 .rw [if_neg hb]
  have:=(h.zero (V4 hi) (yA hz)).2.2.2 (by simpa using hb)
  show area (y5 F w (gl l i) (gl ps i) s).1.true_.t_=_;rw [this]
def Kl(F:Nat)(w:World)(l:List Line)(ps:List Re_)(L:List Scheme)(k:Nat):Bool:=(Zq F w l ps (gl L k)).2 != 0
def VO(F:Nat)(w:World)(l:List Line)(ps:List Re_)(s:Scheme):Int:=if area (Qj F w l ps s 0 l.length)<s.least_ then 0 else area (Qj F w l ps s 0 l.length)
def GT(F:Nat)(l:List Line)(ps:List Re_)(L:List Scheme)(w:World):List Int×Int:=
 if WQ l ps L≠0 then ([],WQ l ps L) else match (List.range L.length).find? (Kl F w l ps L) with
  | some k=>([],(Zq F w l ps (gl L k)).2)
  | none=>if Ko l≠0 then ([],Ko l) else (L.map (VO F w l ps),0)
theorem Z1L(hF:Q8+3<=F)(h:GA l L w):Fv F l ps L w=some (GT F l ps L w):=by
 have k:Q8<=F:=by omega
 have f:=k;unfold Q8 at f
 have o:=h.llen;have y:=h.len
 unfold Fv GT;refine Q4 (Q2p hF l ps h.sd) (Q6 (fun q=>?_) (fun q=>?_))
 .rw [if_pos (by simpa using q)]
 have q:WQ l ps L=0:=by simpa using q
 rw [if_neg (by rw [q];simp)];have t:=FK q
 refine J4 (fun z:Int×(List Int)=>∃ i:Nat,i<=L.length/\z=((i:Int),(L.take i).map (VO F w l ps))/\∀ j,j<i->Kl F w l ps L j=false) (fun z=>L.length-z.1.toNat) (fun a z v u=>?_) ⟨0,Nat.zero_le _,rfl,fun j c=>absurd c (Nat.not_lt_zero j)⟩ (by simp;omega);obtain ⟨i,x,rfl,d⟩:=v
 show vR F l ps L w a (i:Int) _=_;unfold vR
 refine Q6 (fun q=>?_) (fun q=>?_)
 .have q:i<L.length:=by have:=of_decide_eq_true q;omega
  refine Q7 (by omega) ?_;rw [Int.toNat_natCast]
  refine Q4 (Q2n hF h (h.sd _ (V4 q)) t) (Q6 (fun b=>?_) (fun b=>?_))
  .rw [List.find?_range_eq_some.2 ⟨b,List.mem_range.2 q,fun j c=>by simp [d j c]⟩]
  .have hE:=Q2b h (by simpa using b:(Zq F w l ps (gl L i)).2=0)
   have g:=h.fr 0 l.length (Nat.le_refl _) (Q1K hE);have e:Zq F w l ps (gl L i)=(⟨Qj F w l ps (gl L i) 0 l.length,Qj F w l ps (gl L i) 1 l.length,Qj F w l ps (gl L i) 2 l.length⟩,0):=by
    unfold Zq;rw [hE]
   rw [e];have m:∀ j,j<i+1->Kl F w l ps L j=false:=fun j c=>by
    by_cases hji:j=i
    .subst hji;exact b
    .exact d j (by omega)
   have k1:∀ n,n=VO F w l ps (gl L i)->HX F (i:Int) ((L.take i).map (VO F w l ps)) a n=_:=fun n d=>by
    unfold HX;refine Q7 (by simp only [List.length_map,List.length_take,List.length_cons,List.length_nil];unfold Y5;omega) (Q7 (W2 (by omega) (by omega)) (u _ ⟨i+1,q,?_,m⟩ (by simp only;omega)))
    rw [QD q,List.map_append,d];rfl
   refine Q4 (qI k (by simp only;omega) fun r p=>(g.2.1 r p).1) (Q6 (fun b=>?_) fun b=>?_)
   .exact k1 _ (by unfold VO;rw [if_pos (of_decide_eq_true b)])
   .exact k1 _ (by unfold VO;rw [if_neg (of_decide_eq_false b)])
 .have q:i=L.length:=by have:=of_decide_eq_false q;omega
  rw [List.find?_eq_none.2 fun j c=>by
   have:=List.mem_range.1 c
   simp [d j (by omega)]]
  rw [q,List.take_length];unfold vQ
  refine Q4 (Q2u k (by omega)) (Q6 (fun q=>?_) (fun q=>?_))
  .rw [if_pos (by simpa using q)]
  .rw [if_neg (by simpa using q)]
theorem Q7C(hF:Q8+3<=F)(h:GA l L w):Sz F l ps L w=some (GT F l ps L w):=by
 have y:Q8<=F:=by omega
 have u:=y;unfold Q8 at u
 have E:=h.llen;have U:=h.len
 unfold Sz GT;refine Q4 (cg hF l ps h.sd) (Q6 (fun q=>?_) (fun q=>?_))
 .rw [if_pos (by simpa using q)]
 have q:WQ l ps L=0:=by simpa using q
 rw [if_neg (by rw [q];simp)];have T:=FK q
 refine J4 (fun z:Int×(List Int)=>∃ i:Nat,i<=L.length/\z=((i:Int),(L.take i).map (VO F w l ps))/\∀ j,j<i->Kl F w l ps L j=false) (fun z=>L.length-z.1.toNat) (fun a z o P=>?_) ⟨0,Nat.zero_le _,rfl,fun j c=>absurd c (Nat.not_lt_zero j)⟩ (by simp;omega);obtain ⟨k,R,rfl,p⟩:=o
 show zi F l ps L w a (k:Int) _=_;unfold zi
 refine Q6 (fun q=>?_) (fun q=>?_)
 .have q:k<L.length:=by have:=of_decide_eq_true q;omega
  have v:=h.sd _ (V4 q);refine Q7 (by omega) ?_
  refine J4 (fun z:Int×Int=>∃ i:Nat,i<=l.length/\z=(area (Qj F w l ps (gl L k) 0 i),(i:Int))/\(0<=z.1/\z.1<=40000000000*i)/\∀ j,j<i->WL F w l ps (gl L k) j=false) (fun z=>l.length-z.2.toNat) (fun f z o x=>?_) ⟨0,Nat.zero_le _,rfl,by simp,fun j c=>absurd c (Nat.not_lt_zero j)⟩ (by simp;omega);obtain ⟨i,S,rfl,⟨N,G⟩,g⟩:=o
  simp only at N G;show zh F l ps L w (k:Int) _ a f _ (i:Int)=_
  unfold zh;refine Q6 (fun d=>?_) (fun d=>?_)
  .have d:i<l.length:=by have:=of_decide_eq_true d;omega
   have D:=V4 (l:=l) (i:=i) d;refine Q7 (by omega) (Q7 (by omega) ?_)
   simp only [Int.toNat_natCast];obtain ⟨_,K,O⟩:=h.both hF D (gl ps i) v
   refine Q4 K (Q6 (fun b=>?_) (fun b=>?_))
   .have hE:UZ F w l ps (gl L k)=some i:=List.find?_range_eq_some.2 ⟨b,List.mem_range.2 d,fun j c=>by simp [g j c]⟩
    have e:Zq F w l ps (gl L k)=(⟨[],[],[]⟩,(y5 F w (gl l i) (gl ps i) (gl L k)).2):=by
     unfold Zq;rw [hE]
    have H:Kl F w l ps L k=true:=by
     unfold Kl;rw [e];exact b
    rw [List.find?_range_eq_some.2 ⟨H,List.mem_range.2 q,fun j c=>by simp [p j c]⟩];show some (([]:List Int),(y5 F w (gl l i) (gl ps i) (gl L k)).2)=some ([],(Zq F w l ps (gl L k)).2)
    rw [e]
   .have o:(y5 F w (gl l i) (gl ps i) (gl L k)).2=0:=by simpa using b
    have m:∀ j,j<i+1->WL F w l ps (gl L k) j=false:=fun j c=>by
     by_cases hji:j=i
     .subst hji;exact b
     .exact g j (by omega)
    have t:=(h.zero D o).2.1.1;have Q:=Z2I t
    have B:=h.part d b;have I:area (Qj F w l ps (gl L k) 0 (i+1))=area (Qj F w l ps (gl L k) 0 i)+area (y5 F w (gl l i) (gl ps i) (gl L k)).1.true_.t_:=by
     rw [HG,Z2J, <-B];rfl
    have J:=t.1;have A:XQ F (Hh (y5 F w (gl l i) (gl ps i) (gl L k)).1).due_=some (area (y5 F w (gl l i) (gl ps i) (gl L k)).1.true_.t_):=bL y (by show (y5 F w (gl l i) (gl ps i) (gl L k)).1.true_.t_.length<=_;omega) fun r M=>t.2.1 r M
    refine Q7 (by omega) (Q7 (by omega) (Q4 O (Q4 A (Q7 (W2 (by omega) (by omega)) (Q7 (W2 (by omega) (by omega)) (x _ ⟨i+1,d,?_,?_,m⟩ (by simp only;omega)))))))
    .rw [I];rfl
    .simp only;omega
  .have d:i=l.length:=by have:=of_decide_eq_false d;omega
   subst d;have hE:UZ F w l ps (gl L k)=none:=List.find?_eq_none.2 fun j c=>by
    have:=List.mem_range.1 c
    simp [g j (by omega)]
   have e:Zq F w l ps (gl L k)=(⟨Qj F w l ps (gl L k) 0 l.length,Qj F w l ps (gl L k) 1 l.length,Qj F w l ps (gl L k) 2 l.length⟩,0):=by
    unfold Zq;rw [hE]
   have m:∀ j,j<k+1->Kl F w l ps L j=false:=fun j c=>by
    by_cases hji:j=k
    .subst hji
     unfold Kl;rw [e];rfl
    .exact p j (by omega)
   have C:∀ n,n=VO F w l ps (gl L k)->BY F (k:Int) ((L.take k).map (VO F w l ps)) a n=_:=fun n p=>by
    unfold BY;refine Q7 (by simp only [List.length_map,List.length_take,List.length_cons,List.length_nil];unfold Y5;omega) ?_
    unfold zf;refine Q7 (W2 (by omega) (by omega)) (P _ ⟨k+1,q,?_,m⟩ (by simp only;omega))
    rw [QD q,List.map_append,p];rfl
   unfold zg;simp only [Int.toNat_natCast]
   refine Q6 (fun b=>?_) fun b=>?_
   .exact C _ (by unfold VO;rw [if_pos (of_decide_eq_true b)])
   .exact C _ (by unfold VO;rw [if_neg (of_decide_eq_false b)])
 .have q:k=L.length:=by have:=of_decide_eq_false q;omega
  rw [List.find?_eq_none.2 fun j c=>by
   have:=List.mem_range.1 c
   simp [p j (by omega)]]
  rw [q,List.take_length];unfold ze
  refine Q4 (cc y (by omega)) (Q6 (fun q=>?_) (fun q=>?_))
  .rw [if_pos (by simpa using q)]
  .rw [if_neg (by simpa using q)]
end
end
section
section
variable {A:List Rect} {hs:List Rg_} {cs:List Crop} {zs:List A2_} {y c d:Int}
end
theorem kp{F:Nat}(hF:Q8<=F){t:Truth}(h1:t.true_.t_.length<=120)(h2:t.false_.t_.length<=120)(h3:t.unknown_.t_.length<=120):Df F t t=some true:=by
 unfold Df;exact Q4 (qx hF h1) (Z9 rfl (Q4 (qx hF h2) (Z9 rfl (Q4 (qx hF h3) rfl))))
end
def Kq(n:Int)(l:List Rect):Prop:=∀ q ∈ l,q.L_<=n+1/\q.R_<=n+1/\q.w_<=n+1/\q.H_<=n+1
theorem Kq.set{n:Int}{l:List Rect}(h:Kq n l){i:Nat}{q:Rect}(hq:q.L_<=n+1/\q.R_<=n+1/\q.w_<=n+1/\q.H_<=n+1):Kq n (l.set i q):=fun r b=>by
 rcases List.mem_or_eq_of_mem_set b with a|a
 .exact h r a
 .rw [a];exact hq
theorem Q1j{F:Nat}(hF:Q8<=F){t:Tape}(ht:TOk t){n:Nat}{most:Int}(h1:1<=n)(h2:n<=1000)(m1:0<=most)(m2:most<=100):∃ t' r,Hx F t n most=some (t',r)/\TOk t' /\ r.t_.length<=n*((n+1) / 2)+1/\Kq n r.t_:=by
 obtain ⟨x,a,O,u,i⟩:=yI hF ht (n:=n) (most:=most) (by omega) (by omega) m1 m2;have v:a.t_.length<=n*((n+1) / 2):=i.val.2.2.half i.box
 have B:=i.val.1;have e:Kq n a.t_:=fun q f=>by have:=i.box q f;omega
 unfold Hx;simp only [O,Option.bind_some]
 by_cases hz:a.t_.length=0
 .refine ⟨x,a,?_,u,by omega,e⟩
  refine Z9 (by rw [hz];rfl) ?_;rfl
 .obtain ⟨p,b,H,C⟩:=Cm (F:=F) u (n:=6) (by omega) (by omega)
  have D:((a.t_.length:Int)==0)=false:=by rw [beq_eq_false_iff_ne];omega
  rw [D];simp only [br,H,Option.bind_some]
  cases b with
  | false=>exact ⟨p,a,rfl,C,by omega,e⟩
  | true=>
   obtain ⟨P,k,J,M,k1,k2⟩:=QL (F:=F) C (n:=(a.t_.length:Int)) (by omega) (by omega);obtain ⟨S,c,G,j,T,Q⟩:=QL (F:=F) M (n:=5) (by omega) (by omega)
   have g:k.toNat<a.t_.length:=by omega
   have U:=(ZW _).1 (i.val.2.1 _ (V4 g));have R:=i.box _ (V4 g)
   have o:=e _ (V4 (show 0<a.t_.length by omega));have m:Ok (Hw F (x,a) (!true) p.l_ p.at_) fun z=>TOk z.1/\z.2.t_.length<=n*((n+1) / 2)+1/\Kq n z.2.t_:=by
    unfold Hw;refine QK (fun h=>by cases h) (fun _=>?_)
    simp only [List.nil_append,Q4Z];refine J9 (by simp only [Y5];omega) ?_
    refine Zh J ?_;refine Zh G ?_
    dsimp only
    refine QK (fun _=>?_) (fun _=>QK (fun _=>?_) (fun _=>QK (fun _=>?_) (fun _=>QK (fun _=>?_) (fun _=>?_))))
    .refine J9 (by omega) (J9 (W2 (by omega) (by omega)) (J9 (by omega) ?_))
     exact VY ⟨j,by simp only [List.length_set];omega,e.set (by simp only;omega)⟩
    .refine J9 (by omega) ?_
     exact VY ⟨j,by simp only [List.length_set];omega,e.set (by simp only;omega)⟩
    .refine J9 (by omega) (J9 (by simp only [Y5,List.length_cons,List.length_nil];omega) ?_)
     refine VY ⟨j,by simp only [List.length_append,List.length_cons,List.length_nil];omega,fun q f=>?_⟩;rcases List.mem_append.1 f with f|f
     .exact e q f
     .rw [List.mem_singleton] at f;subst f;omega
    .refine J9 (by omega) (J9 (by omega) (J9 (by omega) (J9 (by simp only [List.length_set];omega) ?_)))
     refine VY ⟨j,by simp only [List.length_set];omega,?_⟩;exact (e.set (e _ (V4 g))).set o
    .refine J9 (by omega) (J9 (by omega) ?_)
     exact VY ⟨j,by simp only [List.length_set];omega,e.set (by simp only;omega)⟩
   obtain ⟨⟨t',r⟩,K,N,I,E⟩:=m;exact ⟨t',r,K,N,I,E⟩
theorem Kq.box{n:Int}{l:List Rect}(h:Kq n l)(hv:W6 l):Qw (n+1) l:=fun r a=>by
 have e:=h r a;have b:=(ZW r).1 (hv.2.1 r a)
 omega
section
theorem Q9o{e:Nat}{l:Line}{parcel:Re_}{s:Scheme}{w:World}{v:Re_×Int}(h:(Zz e l parcel s w v).2≠0):(Zz e l parcel s w v).1=Yv:=by
 unfold Zz at h ⊢
 repeat' split
 all_goals first|rfl | (exfalso;simp_all)
section
variable {F:Nat} {l:List Line} {L:List Scheme} {w:World} {ps:List Re_} {s:Scheme}
theorem GA.len3(h:GA l L w){x:Line}(hx:x ∈ l)(a:Re_)(s:Scheme):(y5 F w x a s).1.true_.t_.length<=120/\(y5 F w x a s).1.false_.t_.length<=120/\(y5 F w x a s).1.unknown_.t_.length<=120:=by
 by_cases hz:(y5 F w x a s).2=0
 .obtain ⟨_,⟨b,f,e⟩,_⟩:=h.zero hx hz
  exact ⟨b.1,f.1,e.1⟩
 .have:(y5 F w x a s).1=Yv:=Q9o hz
  rw [this];simp [Yv]
theorem Z2N(a b c:List Rect):(Jg a b c).1.true_.t_.length<=120/\(Jg a b c).1.false_.t_.length<=120/\(Jg a b c).1.unknown_.t_.length<=120:=by
 unfold Jg;split
 .simp [Yv]
 .simp only;omega
theorem Z1o(F:Nat)(l:List Line)(ps:List Re_)(L:List Scheme)(n:Int)(w:World):(Us F l ps L n w).1.true_.t_.length<=120/\(Us F l ps L n w).1.false_.t_.length<=120/\(Us F l ps L n w).1.unknown_.t_.length<=120:=by
 unfold Us
 repeat' split
 all_goals first|exact Z2N _ _ _|simp [Yv]
theorem Ud(hF:Q8+3<=F)(N:Int)(t:Tape){W:World}{y d m:Int}(h:GA l L ⟨y,W.crops_,W.history_,W.zones_,d,m⟩)(hps:ps.length<=1000):Yx F N (t,W) l ps L y d m=some true:=by
 have E:Q8<=F:=by omega
 have x:=E;unfold Q8 at x
 have z:=h.llen;have Q:=h.len
 unfold Yx;refine Q4 (Z1L (ps:=ps) hF h) (Q4 (Q7C (ps:=ps) hF h) ?_)
 have B:(GT F l ps L ⟨y,W.crops_,W.history_,W.zones_,d,m⟩).1.length<=10:=by
  unfold GT
  repeat' split
  all_goals first | (simp only [List.length_map];exact z) | simp
 generalize GT F l ps L ⟨y,W.crops_,W.history_,W.zones_,d,m⟩=r at B ⊢;have J:((r.1.length:Int) != (r.1.length:Int))=false:=by simp
 have I:(r.2 != r.2)=false:=by simp
 refine Z3 J ?_;rw [I]
 unfold Ce;refine Z3 rfl ?_
 refine CS r.1.length (fun a i v b=>?_) (fun a=>?_) (by omega)
 .show Hr F N (t,W) l ps L y d m r r a (i:Int)=_
  unfold Hr;exact Z9 (decide_eq_true (by omega)) (Q7 (by omega) (Q7 (by omega) (Z3 (by simp) (Q7 (W2 (by omega) (by omega)) b))))
 .show Hr F N (t,W) l ps L y d m r r a (r.1.length:Int)=_
  unfold Hr;refine Z3 (decide_eq_false (by omega)) ?_
  unfold yF;obtain ⟨k,K,_⟩:=Q1k (F:=F) N (n:=4) (by omega) (by omega)
  refine Q4 K ?_;have f:([N,k]:List Int).length=2:=rfl
  refine CS 2 (fun a i v b=>?_) (fun a=>?_) (by omega)
  .show Hq F N (t,W) l ps L y d m k a (i:Int)=_
   unfold Hq;generalize gl ([N,k]:List Int) (i:Int).toNat=n
   obtain ⟨D,G,C⟩:=Z1o F l ps L n ⟨y,W.crops_,W.history_,W.zones_,d,m⟩;refine Z9 (decide_eq_true (by rw [f];omega)) (Q7 (by rw [f];omega) (Q4 (Z1J (ps:=ps) hF h n) (Q4 (Q7A (ps:=ps) hF h n) (Q4 (kp E D G C) (Z3 rfl ?_)))))
   rw [show ((Us F l ps L n ⟨y,W.crops_,W.history_,W.zones_,d,m⟩).2 != (Us F l ps L n ⟨y,W.crops_,W.history_,W.zones_,d,m⟩).2)=false by simp];unfold Cc
   exact Z3 rfl (Q7 (W2 (by omega) (by omega)) b)
  .show Hq F N (t,W) l ps L y d m k a ((2:Nat):Int)=_
   unfold Hq;refine Z3 (decide_eq_false (by rw [f];omega)) ?_
   unfold yE;refine CS l.length (fun a i v b=>?_) (fun a=>?_) (by omega)
   .show Hp F (t,W) l ps L y d m a (i:Int)=_
    unfold Hp;refine Z9 (decide_eq_true (by omega)) ?_
    have p:Cd F (i:Int) a=some true:=by
     unfold Cd;exact Q7 (W2 (by omega) (by omega)) b
    refine CS L.length (fun e j M o=>?_) (fun e=>?_) (by omega)
    .show Ho F (t,W) l ps L y d m (i:Int) a e (j:Int)=_
     unfold Ho;have g:Hn F (j:Int) e=some true:=by
      unfold Hn;exact Q7 (W2 (by omega) (by omega)) o
     refine Z9 (decide_eq_true (by omega)) (Q7 (by omega) (Q6 (fun _=>g) (fun q=>?_)));have q:=of_decide_eq_false q
     simp only [Int.toNat_natCast];have H:=V4 (l:=l) (i:=i) v
     obtain ⟨O,P,_⟩:=h.both hF H (gl ps i) (h.sd _ (V4 M));obtain ⟨D,G,C⟩:=h.len3 (F:=F) H (gl ps i) (gl L j)
     refine Q7 (by omega) (Q7 (by omega) (Q4 O (Q7 (by omega) (Q7 (by omega) (Q4 P (Q4 (kp E D G C) (Z3 rfl ?_)))))));generalize y5 F _ (gl l i) (gl ps i) (gl L j)=u
     rw [show (u.2 != u.2)=false by simp];unfold Cb
     exact Z3 rfl g
    .show Ho F (t,W) l ps L y d m (i:Int) a e (L.length:Int)=_
     unfold Ho;exact Z3 (decide_eq_false (by omega)) p
   .show Hp F (t,W) l ps L y d m a (l.length:Int)=_
    unfold Hp;refine Z3 (decide_eq_false (by omega)) ?_
    unfold yG;exact Q4 (Q9v hF) rfl
end
theorem Q9W{F:Nat}(hF:Q8<=F){K:Int}{rs:List Re_}(hp:ParT rs){l:List Line}(hl:LinT K rs l)(h3:l.length<=100):∃ ps,CA F l rs=some (l,ps)/\ps.length=l.length:=by
 unfold Q8 at hF;have o:=hp.len
 unfold CA
 suffices h:Ok (Z7 (fun e (z:Int×(List Re_))=>Cz F l rs e z.1 z.2) F ((0:Int),([]:List Re_))) fun z=>z.1=l/\z.2.length=l.length by
  obtain ⟨z,g,j,h3⟩:=h;obtain ⟨a,b⟩:=z
  simp only at j h3;subst j
  exact ⟨b,g,h3⟩
 refine UR (fun z:Int×List Re_=>∃ i:Nat,z.1=i/\i<=l.length/\z.2.length=i) (fun z=>l.length-z.1.toNat) (fun e z m k=>?_) ⟨0,rfl,Nat.zero_le _,rfl⟩ (by simp;omega);obtain ⟨a,ps⟩:=z
 obtain ⟨i,g,n,f⟩:=m;simp only at g f
 subst g;show Ok (Cz F l rs e (i:Int) ps) _
 unfold Cz;refine QK (fun h=>?_) (fun h=>?_)
 .have h:i<l.length:=by have:=of_decide_eq_true h;omega
  have p:=(hl.one _ (V4 h)).par;rw [Int.toNat_natCast]
  exact J9 (by omega) (J9 (W2 (by omega) (by omega)) (Zh (Q9Z (by omega) (by omega)) (J9 (by omega) (J9 (by simp only [List.length_cons,List.length_nil];unfold Y5;omega) (J9 (W2 (by omega) (by omega)) (k _ ⟨i+1,by simp,h,by simp [f]⟩ (by simp only;omega)))))))
 .have h:i=l.length:=by have:=of_decide_eq_false h;omega
  unfold yU;exact VY ⟨rfl,by simp only;omega⟩
theorem GA.upd{l l2:List Line}{L L2:List Scheme}{w:World}{y d m:Int}(h:GA l L w)(hl:l2.length<=6)(hr:∀ x ∈ l2,W6 x.g_.t_->TR x.g_.t_/\∀ u v,Q2 x.g_.t_ u v=true->0<=u/\u<29/\0<=v/\v<10)(hs:∀ s ∈ L2,SD 3 s)(h10:L2.length<=10):GA l2 L2 ⟨y,w.crops_,w.history_,w.zones_,d,m⟩:=⟨hl,hr,hs,h10,h.crops,h.his,h.hlen,h.zon,h.zlen⟩
theorem TO{α:Type}{l:List α}{i:Nat}{x:α}{p:α->Prop}(h:∀ y ∈ l,p y)(hx:p x):∀ y ∈ l.set i x,p y:=fun y b=>by
 rcases List.mem_or_eq_of_mem_set b with a|a
 .exact h y a
 .rw [a];exact hx
theorem Q9x{F:Nat}(hF:Q8+3<=F)(N by_:Int)(tape:List Int):Cf F N by_ tape=some true:=by
 have k:Q8<=F:=by omega
 obtain ⟨t0,J,X⟩:=Q9Y F tape;obtain ⟨t1,cs,Y,Q,t⟩:=Q9U k X
 have a1:=t.len;obtain ⟨t2,l,ns,rs,O,o2,E,C,h3⟩:=Q9E k Q (cs:=cs) (by omega) (most:=3) (by omega) (by omega)
 have K:l.length<=3:=by omega
 obtain ⟨ps,V,a4⟩:=Q9W k E C (by omega);obtain ⟨t4,L,P,M,I,_⟩:=Q9J hF o2 (most:=2) (by omega) (by omega)
 obtain ⟨g,w,U,Z,p,a3,_⟩:=Q9A k M t;obtain ⟨t6,c,S,H,c1,c2⟩:=QL (F:=F) Z (n:=16) (by omega) (by omega)
 have R:=I.len;have a:∀ x ∈ l,W6 x.g_.t_->TR x.g_.t_/\∀ u v,Q2 x.g_.t_ u v=true->0<=u/\u<29/\0<=v/\v<10:=fun x B z=>by
  have h1:=(C.one x B).par;have h2:=E.len
  have o:=(C.one x B).pl E;exact ⟨Z3i z (d:=10*(x.p_-1)) (by omega) o,fun u v h=>by have:=o u v h;omega⟩
 have b:∀ s ∈ L,SD 3 s:=fun s hs=>(I.st s hs).sd
 have e:GA l L w:=⟨by omega,a,b,by omega,p.crops,p.his,p.hlen,p.zon,p.zlen⟩;have f:=Ud (ps:=ps) hF N g (W:=w) (y:=w.y_) (d:=w.day_) (m:=w.most_) (e.upd e.len a b e.llen) (by omega)
 unfold Cf;refine Q4 J (Q4 Y (Q4 O (Q4 V (Q4 P (Q4 U (Q4 S ?_))))))
 refine Q6 (fun _=>?_) (fun _=>Q6 (fun _=>?_) (fun _=>Q6 (fun _=>?_) (fun _=>Q6 (fun _=>?_) (fun _=>Q6 (fun _=>?_) (fun _=>Q6 (fun _=>?_) (fun _=>Q6 (fun _=>?_) (fun _=>Q6 (fun _=>?_) (fun _=>Q6 (fun _=>?_) (fun _=>Q6 (fun _=>?_) (fun _=>f))))))))))
 .exact Q7 (by simp only [List.length_cons,List.length_nil];unfold Y5;omega) (Ud hF N g (e.upd e.len a b e.llen) (by simp;omega))
 .refine Q6 (fun q=>?_) (fun _=>f)
  have q:=of_decide_eq_true q;obtain ⟨T,r,D,_,_,r2⟩:=Q1j k H (n:=9) (most:=2) (by omega) (by omega) (by omega) (by omega)
  refine Q4 D (Q7 (by simp only at q ⊢;omega) (Ud hF N g (e.upd (by first|omega | (simp only;omega) | (simp only [List.length_set];omega) | (simp only [List.length_append];omega)) (TO a fun z=>?_) b e.llen) (by first|omega | (simp only;omega) | (simp only [List.length_set];omega) | (simp only [List.length_append];omega))));have G:=r2.box z
  exact ⟨Q3x (n:=10) z (by omega) G,fun u v h=>by have:=G.in h;omega⟩
 .refine Q6 (fun q=>?_) (fun _=>f)
  have q:=of_decide_eq_true q;have j:=b _ (V4 (l:=L) (i:=0) (by simp only at q;omega))
  exact Q7 (by simp only at q ⊢;omega) (Ud hF N g (e.upd e.len a (TO b ⟨j.cond,j.name,j.brl⟩) (by first|omega | (simp only;omega) | (simp only [List.length_set];omega) | (simp only [List.length_append];omega))) (by simp only;omega))
 .exact Ud hF N g (e.upd e.len a b e.llen) (by first|omega | (simp only;omega) | (simp only [List.length_set];omega) | (simp only [List.length_append];omega))
 .exact Ud hF N g (e.upd e.len a b e.llen) (by first|omega | (simp only;omega) | (simp only [List.length_set];omega) | (simp only [List.length_append];omega))
 .exact Ud hF N g (e.upd e.len a b e.llen) (by first|omega | (simp only;omega) | (simp only [List.length_set];omega) | (simp only [List.length_append];omega))
 .refine Q6 (fun q=>?_) (fun _=>f)
  have q:=of_decide_eq_true q;obtain ⟨T,r,D,_⟩:=Q1j k H (n:=9) (most:=2) (by omega) (by omega) (by omega) (by omega)
  exact Q4 D (Q7 (by simp only at q ⊢;omega) (Ud hF N g (e.upd e.len a b e.llen) (by first|omega | (simp only;omega) | (simp only [List.length_set];omega) | (simp only [List.length_append];omega))))
 .refine Q7 (by simp only;unfold Y5;omega) (Q7 (by simp only;unfold Y5;omega) (Ud hF N g (e.upd (by first|omega | (simp only;omega) | (simp only [List.length_set];omega) | (simp only [List.length_append];omega)) (fun x B=>?_) b e.llen) (by first|omega | (simp only;omega) | (simp only [List.length_set];omega) | (simp only [List.length_append];omega))))
  exact a x ((List.mem_append.1 B).elim id id)
 .refine Q6 (fun q=>?_) (fun _=>f)
  have q:=of_decide_eq_true q;have j:=a _ (V4 (l:=l) (i:=0) (by simp only at q;omega))
  exact Q7 (by simp only at q ⊢;omega) (Ud hF N g (e.upd (by first|omega | (simp only;omega) | (simp only [List.length_set];omega) | (simp only [List.length_append];omega)) (TO a j) b e.llen) (by first|omega | (simp only;omega) | (simp only [List.length_set];omega) | (simp only [List.length_append];omega)))
 .refine Q6 (fun q=>?_) (fun _=>f)
  have q:=of_decide_eq_true q;have j:=b _ (V4 (l:=L) (i:=0) (by simp only at q;omega))
  exact Q7 (by simp only at q ⊢;omega) (Ud hF N g (e.upd e.len a (TO b ⟨j.cond,j.name,j.brl⟩) (by first|omega | (simp only;omega) | (simp only [List.length_set];omega) | (simp only [List.length_append];omega))) (by simp only;omega))
end
end
end Go.Ab
