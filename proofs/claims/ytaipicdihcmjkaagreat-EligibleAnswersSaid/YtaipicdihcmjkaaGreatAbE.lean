/- Abstract states over the model. -/
import Derived.Test.YtaipicdihcmjkaaGreatAbD
import Derived.Test.YtaipicdihcmjkaaGreatLwA
import Derived.Test.YtaipicdihcmjkaaGreatLwC
import Derived.Test.YtaipicdihcmjkaaGreatLwB
set_option linter.unusedVariables false
set_option linter.unusedSimpArgs false
section
namespace Go.Ab
set_option maxRecDepth 20000
noncomputable section
theorem Z1M{L:List A2_}{d m:Int}{a:List Rect}{x y:Int}(h:Vh L d m a x y=true):Q2 a x y=true:=by
 unfold Vh at h;rw [Bool.and_eq_true] at h
 exact h.1
theorem Q2w{L:List A2_}{a:List Rect}(ha:TR a)(d m:Int):W6 (cn (Vh L d m a)):=ha.sub (vD L d m a) fun _ _ h=>Z1M h
theorem Q4h{F n:Nat}{L:List A2_}{d:Int}(hF:Q8<=F)(hL:LB n L)(d1:0<=d)(d2:d<=36864){a:Re_}(ht:TR a.t_){m:Int}(m1:0<=m)(m2:m<=268435456):VN F a L d m=some (⟨cn (Vh L d m a.t_)⟩,0):=by
 have b:=ht.val;have g:=hL.rval d (zp 0)
 have f:=ga hL d m a.t_;have j:=g.1.1
 have l:=f.1.1;have i:=b.1
 unfold VN;refine Q4 (Kw hF hL.vl d1 d2 b m1 m2) ?_
 refine Z3 rfl ?_;refine Q4 (Q4g hF hL d1 d2) ?_
 refine Z3 rfl ?_;refine Q4 (Q4c hF hL d1 d2 b m1 m2) ?_
 refine Z3 rfl ?_;refine Q4 (qh hF (by simp only;omega) (by simp only;omega)) ?_
 refine Q4 (Xw hF (by simp only [List.length_append];omega) (fun r c=>(b.2.2.pos c).1) (fun r c=>?_) (k:=fun u v=>u && !v) rfl (fun u v=>by cases u <;> cases v <;> rfl)) ?_
 .rcases List.mem_append.1 c with h|h
  .exact (g.1.2.2.pos h).1
  .exact (f.1.2.2.pos h).1
 have e:(cn fun x y=>Q2 a.t_ x y && !Q2 (cn (Q2 (W8 L d (zp 0)))++cn (Q2 (Wp L d m a.t_))) x y)=cn (Vh L d m a.t_):=by
  congr 1
  funext x y
  unfold Vh;rw [YN,y8 (V8 _),y8 (V8 _)]
 show (KX F (cn fun x y=>Q2 a.t_ x y && !Q2 (cn (Q2 (W8 L d (zp 0)))++cn (Q2 (Wp L d m a.t_))) x y)).bind _=_;rw [e]
 have:=(Q2w (L:=L) ht d m).1
 refine Q4 (qS F _) ?_;rw [if_neg (by omega)]
theorem Q4w{A:List Rect}(hA:TR A){P:TS}(h:TIn A P)(hd:∀ x y,P.Y x y=true->P.N x y=true->False):area (cn P.Y)+area (cn P.N)+area (cn (P.O A))=area A:=by
 rw [(h.vY hA).area,(h.vN hA).area,(h.vO hA).area,hA.val.area,J2 h.fY,J2 h.fN,J2 h.fO];have e:Q2 A=fun x y=>(P.Y x y||P.N x y)||P.O A x y:=by
  funext x y
  have:=h.sY x y
  have:=h.sN x y
  unfold TS.O
  cases hA:Q2 A x y <;> cases hY:P.Y x y <;> cases hN:P.N x y <;> simp_all
 have c:sq (Q2 A)=sq (fun x y=>P.Y x y||P.N x y)+sq (P.O A):=by
  conv=>lhs;rw [e]
  rw [Jw,Jw,Jw];refine xd fun x y b a=>?_
  unfold TS.O at a
  cases hY:P.Y x y <;> cases hN:P.N x y <;> simp_all
 have d:sq (fun x y=>P.Y x y||P.N x y)=sq P.Y+sq P.N:=by
  rw [Jw,Jw,Jw];exact xd fun x y b a=>hd x y b a
 rw [c,d]
end
end Go.Ab
end
section
namespace Go.Ab
set_option maxRecDepth 20000
noncomputable section
theorem Xr{R:Type}{body:(Int->Option R)->Int->Option R}{c:Nat->Option R}{y:Option R}(N:Nat)(p:Nat->Bool)(bad:∀ again (i:Nat),i<N->(∀ j,j<i->p j=false)->p i=true->body again (i:Int)=c i)(good:∀ again (i:Nat) z,i<N->(∀ j,j<i->p j=false)->p i=false->again ((i:Int)+1)=z->body again (i:Int)=z)(stop:(∀ j,j<N->p j=false)->∀ again,body again (N:Int)=y){F:Nat}(hF:N<F):Z7 body F 0=match (List.range N).find? p with|some i=>c i|none=>y:=by
 refine J4 (fun z:Int=>∃ i:Nat,z=i/\i<=N/\∀ j,j<i->p j=false) (fun z=>N-z.toNat) (fun again z f e=>?_) ⟨0,rfl,Nat.zero_le _,fun j h=>absurd h (Nat.not_lt_zero j)⟩ (by simp;omega);obtain ⟨i,rfl,g,a⟩:=f
 rcases Nat.lt_or_ge i N with h|h
 .cases hpi:p i with
  | true=>
   rw [List.find?_range_eq_some.2 ⟨hpi,List.mem_range.2 h,fun j b=>by simp [a j b]⟩];exact bad again i h a hpi
  | false=>
   refine good again i _ h a hpi (e _ ⟨i+1,by omega,h,fun j b=>?_⟩ (by omega))
   by_cases hji:j=i
   .rw [hji];exact hpi
   .exact a j (by omega)
 .have:i=N:=by omega
  subst this;rw [List.find?_eq_none.2 fun x d=>by rw [a x (List.mem_range.1 d)];simp]
  exact stop a again
theorem Pl{α:Type}[Emb α](p:α->Bool)(l:List α):y9 p l<(l.length:Int) /\ -1<=y9 p l/\(0<=y9 p l->p (gl l (y9 p l).toNat)=true/\l.any p=true):=by
 unfold y9;split
 .rename_i h
  have a:l.findIdx p<l.length:=List.findIdx_lt_length_of_exists (by simpa using h);refine ⟨by omega,by omega,fun _=>⟨?_,h⟩⟩
  rw [Int.toNat_natCast,K5 a];exact List.findIdx_getElem (w:=a)
 .exact ⟨by omega,by omega,fun h=>by omega⟩
def Zu(n:Int)(x:Scheme):Bool:=x.N_==n
theorem qv{F:Nat}(hF:Q8<=F){l:List Scheme}(hl:l.length<=1000000)(n:Int):BE F l n=some (y9 (Zu n) l):=by
 unfold BE;exact Q4 (gv hF (Zu n) (by omega) fun r _=>rfl) rfl
theorem zk{F:Nat}(hF:Q8<=F){l:List Scheme}(hl:l.length<=1000000)(n:Int):Db F l n=some (y9 (Zu n) l):=by
 have o:=hF;unfold Q8 at o
 unfold Db;refine (Xr (c:=fun i=>some (i:Int)) (y:=some (-1)) l.length (fun i=>Zu n (gl l i)) (fun a i g _ d=>?_) (fun a i z g _ d p=>?_) (fun _ a=>?_) (by omega)).trans ?_
 .show Gf F l n a (i:Int)=_
  unfold Gf;exact Z9 (decide_eq_true (by omega)) (Q7 (by omega) (Z9 d rfl))
 .show Gf F l n a (i:Int)=_
  unfold Gf;exact Z9 (decide_eq_true (by omega)) (Q7 (by omega) (Z3 d (Q7 (W2 (by omega) (by omega)) p)))
 .show Gf F l n a (l.length:Int)=_
  unfold Gf;exact Z3 (decide_eq_false (by omega)) rfl
 .unfold y9
  cases hf:(List.range l.length).find? fun i=>Zu n (gl l i) with
  | none=>
   have h:=List.find?_eq_none.1 hf;rw [if_neg]
   rw [Bool.not_eq_true];exact GU fun j e=>by have:=h j (List.mem_range.2 e);simpa using this
  | some i=>
   obtain ⟨f,b,m⟩:=List.find?_range_eq_some.1 hf;have b:=List.mem_range.1 b
   have k:l.any (Zu n)=true:=List.any_eq_true.2 ⟨_,V4 b,f⟩;rw [if_pos k,Ps b (fun j e=>by have:=m j e;simpa using this) f]
def WU(l:List Scheme)(i:Nat):Bool:=(decide (0<i)&&decide ((gl l i).N_<=(gl l (i-1)).N_))||(l.take i).any fun x=>Zm x.n_ (gl l i).n_
def UT(l:List Scheme)(s:Scheme)(n:Nat):Bool:=QM s.excludes_ n&&(decide (y9 (Zu n) l<0) || !QM (gl l (y9 (Zu n) l).toNat).excludes_ s.N_)
def Vw(l:List Scheme)(s:Scheme):Bool:= !(List.range 16).any (UT l s)
def Je(l:List Scheme):Int×Int:=match (List.range l.length).find? fun i=> !Vw l (gl l i) with
 | some i=>(i,17)
 | none=>(-1,0)
def Wc(d:Nat)(l:List Scheme)(i:Nat):Bool:=decide (Za d (gl l i)≠0)||WU l i
def Uz(d:Nat)(l:List Scheme):Int×Int:=if 16<l.length then (0,1) else match (List.range l.length).find? (Wc d l) with
 | some i=>(i,if Za d (gl l i)≠0 then Za d (gl l i) else 6)
 | none=>Je l
theorem Q0B{d:Nat}{s:Scheme}(h:Za d s=0):0<=s.N_/\s.N_<=15/\0<=s.least_/\s.least_<=268435456/\Qz s.n_=true/\Yq d s.cond_=0/\UB s.brackets_=true/\0<=s.excludes_/\s.excludes_<65536/\QM s.excludes_ s.N_=false:=by
 unfold Za at h;split at h
 .omega
 split at h
 .omega
 split at h
 .rename_i b;exact absurd h b
 split at h
 .omega
 rename_i b f c a
 refine ⟨by omega,by omega,by omega,by omega,by simpa using f,by simpa using c,?_,by omega,by omega,?_⟩
 .cases e:UB s.brackets_ with
  | true=>rfl
  | false=>exact absurd (.inl e) a
 .cases e:QM s.excludes_ s.N_ with
  | false=>rfl
  | true=>exact absurd (.inr (.inr (.inr e))) a
theorem jq{F:Nat}(hF:Q8<=F){l:List Scheme}(hl:l.length<=1000000){s:Scheme}(hs:0<=s.N_):RN F l s=some (Vw l s):=by
 have g:=hF;unfold Q8 at g
 unfold RN;refine (Xq (c:=some false) (y:=some true) 16 (UT l s) (fun a i e b=>?_) (fun a i z e b h=>?_) (fun a=>?_) (by omega)).trans ?_
 .show KP F l s a (i:Int)=_
  unfold KP;unfold UT at b
  rw [Bool.and_eq_true] at b;obtain ⟨j,f⟩:=Pl (Zu (i:Nat)) l
  refine Z9 (decide_eq_true (by omega)) (Q7 (by omega) (Z3 (by rw [WR,b.1];rfl) (Q4 (qv hF hl _) ?_)));refine Q6 (fun _=>rfl) (fun d=>Q7 (by have:=of_decide_eq_false d;omega) (Q7 hs ?_))
  rw [WR];have:=b.2
  rw [d,Bool.false_or] at this;rw [this];rfl
 .show KP F l s a (i:Int)=_
  unfold KP;unfold UT at b
  obtain ⟨j,f⟩:=Pl (Zu (i:Nat)) l;have k2:RL F (i:Int) a=z:=Q7 (W2 (by omega) (by omega)) h
  refine Z9 (decide_eq_true (by omega)) (Q7 (by omega) ?_);rw [WR]
  cases hb:QM s.excludes_ i with
  | false=>exact Z9 rfl k2
  | true=>
   rw [hb,Bool.true_and,Bool.or_eq_false_iff] at b;refine Z3 rfl (Q4 (qv hF hl _) (Z3 b.1 (Q7 (by have:=of_decide_eq_false b.1;omega) (Q7 hs ?_))))
   rw [WR,b.2];unfold RM;exact Z3 rfl k2
 .show KP F l s a (16:Int)=_
  unfold KP;exact Z3 (by decide) rfl
 .unfold Vw
  cases (List.range 16).any (UT l s) <;> rfl
theorem Q6E{d F:Nat}(hd:d<=2000000)(hF:Q8+d<=F){l:List Scheme}(hl:∀ s ∈ l,SD d s):RS F l=some (Uz d l):=by
 have k:Q8<=F:=by omega
 have n:=k;unfold Q8 at n
 unfold RS Uz
 by_cases h16:16<l.length
 .rw [if_pos h16];exact Z9 (decide_eq_true (by omega)) rfl
 rw [if_neg h16];refine Z3 (decide_eq_false (by omega)) ?_
 refine (Xr (c:=fun i=>some ((i:Int),if Za d (gl l i)≠0 then Za d (gl l i) else 6)) (y:=some (Je l)) l.length (Wc d l) (fun a i f _ b=>?_) (fun a i z f _ b m=>?_) (fun b a=>?_) (by omega)).trans ?_
 .show KU F l a (i:Int)=_
  unfold KU;refine Z9 (decide_eq_true (by omega)) (Q7 (by omega) (Q4 (qu hd hF (hl _ (V4 f))) ?_))
  by_cases e:Za d (gl l i)=0
  .rw [if_neg (by simpa using e)]
   refine Z3 (by simp [e]) ?_;unfold Wc WU at b
   have k1:Xp F (i:Int) a true=some ((i:Int),6):=rfl;rw [decide_eq_false (by simpa using e),Bool.false_or,Bool.or_eq_true] at b
   have h:KJ F (l.take ((i:Nat):Int).toNat) (fun t=>BF F t (gl l ((i:Nat):Int).toNat))=some ((l.take i).any fun x=>Zm x.n_ (gl l i).n_):=gU k _ (by simp;omega) fun r _=>rfl
   refine Q6 (fun g=>?_) (fun g=>?_)
   .have g:=of_decide_eq_true g
    rw [show ((i:Int)-1).toNat=i-1 by omega];refine Q7 (W2 (by omega) (by omega)) (Q7 (by omega) (Q6 (fun _=>k1) (fun o=>Q7 (by omega) (Q4 h ?_))))
    rcases b with b|b
    .rw [Bool.and_eq_true] at b;rw [show decide ((gl l i).N_<=(gl l (i-1)).N_)=false from o] at b;simp at b
    .rw [b];exact k1
   .refine Q7 (by omega) (Q4 h ?_)
    rcases b with b|b
    .rw [Bool.and_eq_true] at b;have:=of_decide_eq_false g;have:=of_decide_eq_true b.1;omega
    .rw [b];exact k1
  .rw [if_pos e];exact Z9 (by simpa using e) rfl
 .show KU F l a (i:Int)=_
  unfold KU;unfold Wc WU at b
  rw [Bool.or_eq_false_iff,Bool.or_eq_false_iff] at b;obtain ⟨e,g,o⟩:=b
  have e:Za d (gl l i)=0:=by simpa using e
  have k1:Xp F (i:Int) a false=z:=Z3 rfl (Q7 (W2 (by omega) (by omega)) m);have h:KJ F (l.take ((i:Nat):Int).toNat) (fun t=>BF F t (gl l ((i:Nat):Int).toNat))=some false:=(gU k (fun x=>Zm x.n_ (gl l i).n_) (by simp;omega) fun r _=>rfl).trans (congrArg some o)
  refine Z9 (decide_eq_true (by omega)) (Q7 (by omega) (Q4 (qu hd hF (hl _ (V4 f))) (Z3 (by simp [e]) ?_)));refine Q6 (fun p=>?_) (fun p=>Q7 (by omega) (Q4 h k1))
  have p:=of_decide_eq_true p;rw [show ((i:Int)-1).toNat=i-1 by omega]
  refine Q7 (W2 (by omega) (by omega)) (Q7 (by omega) (Z3 ?_ (Q7 (by omega) (Q4 h k1))));rw [decide_eq_true (by omega:0<i),Bool.true_and] at g
  exact g
 .show KU F l a (l.length:Int)=_
  unfold KU qw Je;refine Z3 (decide_eq_false (by omega)) ?_
  have m:∀ j,j<l.length->0<=(gl l j).N_:=fun j u=>by
   have:=b j u
   unfold Wc at this;rw [Bool.or_eq_false_iff] at this
   exact (Q0B (by simpa using this.1)).1
  refine (Xr (c:=fun i=>some ((i:Int),17)) (y:=some (-1,0)) l.length (fun i=> !Vw l (gl l i)) (fun a i f _ b=>?_) (fun a i z f _ b q=>?_) (fun b a=>?_) (by omega)).trans ?_
  .show KT F l a (i:Int)=_
   unfold KT;exact Z9 (decide_eq_true (by omega)) (Q7 (by omega) (Q4 (jq k (by omega) (m i f)) (Z9 b rfl)))
  .show KT F l a (i:Int)=_
   unfold KT;exact Z9 (decide_eq_true (by omega)) (Q7 (by omega) (Q4 (jq k (by omega) (m i f)) (Z3 b (Q7 (W2 (by omega) (by omega)) q))))
  .show KT F l a (l.length:Int)=_
   unfold KT;exact Z3 (decide_eq_false (by omega)) rfl
  .cases (List.range l.length).find? fun i=> !Vw l (gl l i) <;> rfl
 .cases (List.range l.length).find? (Wc d l) <;> rfl
theorem ct{d F:Nat}(hd:d<=2000000)(hF:Q8+d<=F){l:List Scheme}(hl:∀ s ∈ l,SD d s):Dc F l=some (Uz d l):=by
 have H:Q8<=F:=by omega
 have E:=H;unfold Q8 at E
 unfold Dc Uz
 by_cases h16:16<l.length
 .rw [if_pos h16];exact Z9 (decide_eq_true (by omega)) rfl
 rw [if_neg h16];refine Z3 (decide_eq_false (by omega)) ?_
 have N:∀ a b:ByteArray,Zm a b=Zm a b:=fun _ _=>rfl
 have t:∀ (f:Int->Option (Int×Int)) (i:Nat),i<l.length->∀ {y:Option (Int×Int)},(WU l i=false->f ((i:Int)+1)=y)->Z7 (fun m (z:Int)=>JH F l (i:Int) f m z) F (0:Int)=if WU l i=true then some ((i:Int),6) else y:=by
  intro f i q y G;have e:WU l i=(List.range i).any fun k=>Zm (gl l k).n_ (gl l i).n_||(decide (k=i-1)&&decide ((gl l i).N_<=(gl l k).N_)):=by
   unfold WU;rw [Bool.eq_iff_iff,Bool.or_eq_true,Bool.and_eq_true,List.any_eq_true,List.any_eq_true]
   constructor
   .rintro (⟨o,D⟩|⟨x,hx,h⟩)
    .refine ⟨i-1,List.mem_range.2 (by have:=of_decide_eq_true o;omega),?_⟩
     rw [D];simp
    .obtain ⟨k,p,rfl⟩:=List.getElem_of_mem hx
     rw [List.length_take] at p;refine ⟨k,List.mem_range.2 (by omega),?_⟩
     rw [List.getElem_take, <-K5 (by omega)] at h;rw [h];rfl
   .rintro ⟨k,p,h⟩
    have p:=List.mem_range.1 p;rw [Bool.or_eq_true,Bool.and_eq_true] at h
    rcases h with h|⟨o,D⟩
    .exact .inr ⟨gl l k,List.mem_take_iff_getElem.2 ⟨k,by omega,(K5 (by omega)).symm⟩,h⟩
    .have o:=of_decide_eq_true o
     subst o;exact .inl ⟨decide_eq_true (by omega),D⟩
  have A:∀ k,k<i->gl (l.take i) k=gl l k:=fun k p=>by rw [K5 (by simp;omega),K5 (by omega),List.getElem_take]
  have K:((i:Nat):Int).toNat=i:=Int.toNat_natCast i;have r:(l.take ((i:Nat):Int).toNat).length=i:=by simp;omega
  refine (Xr (c:=fun _=>some ((i:Int),(6:Int))) (y:=y) i (fun k=>Zm (gl l k).n_ (gl l i).n_||(decide (k=i-1)&&decide ((gl l i).N_<=(gl l k).N_))) (fun m k p _ g=>?_) (fun m k z p _ g w=>?_) (fun g m=>?_) (by omega)).trans ?_
  .show JH F l (i:Int) f m (k:Int)=_
   unfold JH;have k2:XB F (i:Int) (k:Int) m true=some ((i:Int),6):=rfl
   refine Z9 (decide_eq_true (by rw [r];omega)) (Q7 (by rw [r];omega) ?_);simp only [Int.toNat_natCast,A k p]
   refine Q6 (fun _=>k2) (fun o=>Q7 (W2 (by omega) (by omega)) ?_);rw [o,Bool.false_or,Bool.and_eq_true] at g
   refine Z9 (by have:=of_decide_eq_true g.1;simp;omega) ?_;rw [g.2];exact k2
  .show JH F l (i:Int) f m (k:Int)=_
   unfold JH;have k2:XB F (i:Int) (k:Int) m false=z:=Z3 rfl (Q7 (W2 (by omega) (by omega)) w)
   refine Z9 (decide_eq_true (by rw [r];omega)) (Q7 (by rw [r];omega) ?_);simp only [Int.toNat_natCast,A k p]
   rw [Bool.or_eq_false_iff] at g;refine Z3 g.1 (Q7 (W2 (by omega) (by omega)) (Q6 (fun o=>?_) (fun _=>k2)))
   have o:k=i-1:=by simp at o;omega
   have:=g.2
   rw [decide_eq_true o,Bool.true_and] at this;rw [this];exact k2
  .show JH F l (i:Int) f m (i:Int)=_
   unfold JH;refine Z3 (decide_eq_false (by rw [r];omega)) ?_
   have C:WU l i=false:=by rw [e,List.any_eq_false];intro k p;rw [g k (List.mem_range.1 p)];simp
   exact Q7 (W2 (by omega) (by omega)) (G C)
  .cases hf:(List.range i).find? fun k=>Zm (gl l k).n_ (gl l i).n_||(decide (k=i-1)&&decide ((gl l i).N_<=(gl l k).N_)) with
   | some k=>
    have C:WU l i=true:=by rw [e,List.any_eq_true];have h:=List.find?_range_eq_some.1 hf;exact ⟨k,h.2.1,h.1⟩
    rw [if_pos C]
   | none=>
    have C:WU l i=false:=by rw [e,List.any_eq_false];intro k p;exact List.find?_eq_none.1 hf k p
    rw [if_neg (by simp [C])]
 refine (Xr (c:=fun i=>some ((i:Int),if Za d (gl l i)≠0 then Za d (gl l i) else 6)) (y:=some (Je l)) l.length (Wc d l) (fun f i q _ g=>?_) (fun f i z q _ g w=>?_) (fun g f=>?_) (by omega)).trans ?_
 .show Gh F l f (i:Int)=_
  unfold Gh;refine Z9 (decide_eq_true (by omega)) (Q7 (by omega) (Q4 (zj hd hF (hl _ (V4 q))) ?_))
  by_cases v:Za d (gl l i)=0
  .rw [if_neg (by simpa using v)]
   unfold Wc at g;rw [decide_eq_false (by simpa using v),Bool.false_or] at g
   refine Z3 (by simp [v]) (Q7 (by omega) ((t f i q (y:=none) fun h=>by rw [g] at h;cases h).trans ?_));rw [if_pos g]
  .rw [if_pos v];exact Z9 (by simpa using v) rfl
 .show Gh F l f (i:Int)=_
  unfold Gh;unfold Wc at g
  rw [Bool.or_eq_false_iff] at g;have v:Za d (gl l i)=0:=by simpa using g.1
  refine Z9 (decide_eq_true (by omega)) (Q7 (by omega) (Q4 (zj hd hF (hl _ (V4 q))) (Z3 (by simp [v]) (Q7 (by omega) ((t f i q fun _=>w).trans ?_)))));rw [if_neg (by simp [g.2])]
 .show Gh F l f (l.length:Int)=_
  unfold Gh zl Je;refine Z3 (decide_eq_false (by omega)) ?_
  have w:∀ j,j<l.length->0<=(gl l j).N_:=fun j L=>by
   have:=g j L
   unfold Wc at this;rw [Bool.or_eq_false_iff] at this
   exact (Q0B (by simpa using this.1)).1
  have B:∀ (f:Int->Option (Int×Int)) (i:Nat),i<l.length->∀ {y:Option (Int×Int)},f ((i:Int)+1)=y->Z7 (fun m (z:Int)=>JG F l (i:Int) f m z) F (0:Int)=if (List.range 16).any (UT l (gl l i))=true then some ((i:Int),17) else y:=by
   intro f i q y G;refine Xq (c:=some ((i:Int),17)) (y:=y) 16 (UT l (gl l i)) (fun m n M g=>?_) (fun m n z M g u=>?_) (fun m=>?_) (by omega)
   .show JG F l (i:Int) f m (n:Int)=_
    unfold JG;unfold UT at g
    rw [Bool.and_eq_true] at g;obtain ⟨o,D⟩:=Pl (Zu (n:Nat)) l
    simp only [Int.toNat_natCast (n:=i)];refine Z9 (decide_eq_true (by omega)) (Q7 (by omega) (Z3 (by rw [WR,g.1];rfl) (Q4 (zk H (by omega) _) ?_)))
    refine Q6 (fun _=>rfl) (fun I=>Q7 (by have:=of_decide_eq_false I;omega) (Q7 (w i q) ?_));rw [WR]
    have:=g.2
    rw [I,Bool.false_or] at this;rw [this];rfl
   .show JG F l (i:Int) f m (n:Int)=_
    unfold JG;unfold UT at g
    obtain ⟨o,D⟩:=Pl (Zu (n:Nat)) l;simp only [Int.toNat_natCast (n:=i)]
    have J:SC F (n:Int) m=z:=Q7 (W2 (by omega) (by omega)) u;refine Z9 (decide_eq_true (by omega)) (Q7 (by omega) ?_)
    rw [WR]
    cases hb:QM (gl l i).excludes_ n with
    | false=>exact Z9 rfl J
    | true=>
     rw [hb,Bool.true_and,Bool.or_eq_false_iff] at g;refine Z3 rfl (Q4 (zk H (by omega) _) (Z3 g.1 (Q7 (by have:=of_decide_eq_false g.1;omega) (Q7 (w i q) ?_))))
     rw [WR,g.2];unfold SE;exact Z3 rfl J
   .show JG F l (i:Int) f m (16:Int)=_
    unfold JG;exact Z3 (by decide) (Q7 (W2 (by omega) (by omega)) G)
  refine (Xr (c:=fun i=>some ((i:Int),17)) (y:=some (-1,0)) l.length (fun i=> !Vw l (gl l i)) (fun f i q _ g=>?_) (fun f i z q _ g u=>?_) (fun g f=>?_) (by omega)).trans ?_
  .show Gg F l f (i:Int)=_
   unfold Gg;unfold Vw at g
   rw [Bool.not_not] at g;refine Z9 (decide_eq_true (by omega)) (Q7 (by omega) ((B f i q rfl).trans ?_))
   rw [if_pos g]
  .show Gg F l f (i:Int)=_
   unfold Gg;unfold Vw at g
   rw [Bool.not_not] at g;refine Z9 (decide_eq_true (by omega)) (Q7 (by omega) ((B f i q u).trans ?_))
   rw [if_neg (by simp [g])]
  .show Gg F l f (l.length:Int)=_
   unfold Gg;exact Z3 (decide_eq_false (by omega)) rfl
  .cases (List.range l.length).find? fun i=> !Vw l (gl l i) <;> rfl
 .cases (List.range l.length).find? (Wc d l) <;> rfl
end
end Go.Ab
end
section
end
section
namespace Go.Ab
set_option maxRecDepth 20000
noncomputable section
structure GoodL (d:Nat) (l:List Scheme):Prop where
 len:l.length<=16
 one:∀ i,i<l.length->Za d (gl l i)=0
 asc:∀ i,0<i->i<l.length->(gl l (i-1)).N_<(gl l i).N_
 nam:∀ i,i<l.length->((l.take i).any fun x=>Zm x.n_ (gl l i).n_)=false
 mtl:∀ i,i<l.length->Vw l (gl l i)=true
theorem Z2t{d:Nat}{l:List Scheme}(h:GoodL d l):Uz d l=(-1,0):=by
 obtain ⟨g,b,e,f,c⟩:=h;unfold Uz
 rw [if_neg (by omega)];rw [List.find?_eq_none.2 fun i a=>by
  have a:=List.mem_range.1 a;unfold Wc WU
  rw [b i a,f i a]
  by_cases h0:0<i
  .have:=e i h0 a
   rw [decide_eq_false (p:=(gl l i).N_<=(gl l (i-1)).N_) (by omega)];simp
  .rw [decide_eq_false h0];simp]
 show Je l=_;unfold Je
 rw [List.find?_eq_none.2 fun i a=>by rw [c i (List.mem_range.1 a)];simp]
theorem Z2s{d:Nat}{l:List Scheme}:(Uz d l).2=0↔GoodL d l:=by
 unfold Uz;constructor
 .intro h
  by_cases h16:16<l.length
  .rw [if_pos h16] at h;cases h
  rw [if_neg h16] at h
  cases hf:(List.range l.length).find? (Wc d l) with
  | some i=>
   rw [hf] at h
   exfalso
   revert h
   show ¬ (if Za d (gl l i)≠0 then Za d (gl l i) else 6)=0;split
   .assumption
   .omega
  | none=>
   rw [hf] at h;have b:∀ i,i<l.length->Wc d l i=false:=fun i a=>by have:=List.find?_eq_none.1 hf i (List.mem_range.2 a);simpa using this
   have h:(Je l).2=0:=h;unfold Je at h
   cases hg:(List.range l.length).find? fun i=> !Vw l (gl l i) with
   | some i=>rw [hg] at h;exact absurd h (by show ¬ (17:Int)=0;omega)
   | none=>
    have c:∀ i,i<l.length->Vw l (gl l i)=true:=fun i a=>by have:=List.find?_eq_none.1 hg i (List.mem_range.2 a);simpa using this
    refine ⟨by omega,fun i a=>?_,fun i e a=>?_,fun i a=>?_,c⟩
    .have:=b i a
     unfold Wc at this;rw [Bool.or_eq_false_iff] at this
     simpa using this.1
    .have:=b i a
     unfold Wc WU at this;rw [Bool.or_eq_false_iff,Bool.or_eq_false_iff] at this
     have:=this.2.1
     rw [decide_eq_true e,Bool.true_and,decide_eq_false_iff_not] at this;omega
    .have:=b i a
     unfold Wc WU at this;rw [Bool.or_eq_false_iff,Bool.or_eq_false_iff] at this
     exact this.2.2
 .intro h
  have:=Z2t h
  unfold Uz at this;rw [this]
end
end Go.Ab
end
section
namespace Go.Ab
set_option maxRecDepth 20000
noncomputable section
end
end Go.Ab
end
section
namespace Go.Ab
set_option maxRecDepth 20000
noncomputable section
theorem Z2I{l:List Rect}(h:W6 l):0<=area l/\area l<=40000000000:=by
 unfold area;have:=LJ (l:=l.map Yk) (M:=268435456) (fun x a=>by
  obtain ⟨r,b,rfl⟩:=List.mem_map.1 a;exact Ml (h.2.1 r b))
 rw [List.length_map] at this;have:=h.1
 omega
end
end Go.Ab
end
section
end
section
namespace Go.Ab
set_option maxRecDepth 20000
noncomputable section
theorem Q8r{F:Nat}(hF:1<=F){n:Int}(h0:0<=n)(h1:n<=9):∃ s,XU F n=some s/\s.size<=10:=by
 cases F with
 | zero=>omega
 | succ F=>
  refine ⟨Yb (IntKind.wrap .u8 (48+n)),?_,by unfold Yb;simp⟩;show Ty F (XU F) n=_
  unfold Ty;exact Z3 (decide_eq_false (by omega)) (Z9 (decide_eq_true (by omega)) (Q7 (W2 (by omega) (by omega)) rfl))
theorem TG{k:Int}(h0:0<=k)(h1:k<=10):1<=(1:Int)*2 ^ (min k.toNat (IntKind.bits .i64))/\(1:Int)*2 ^ (min k.toNat (IntKind.bits .i64))<=1024:=by
 have a:k=0\/k=1\/k=2\/k=3\/k=4\/k=5\/k=6\/k=7\/k=8\/k=9\/k=10:=by omega
 rcases a with rfl|rfl|rfl|rfl|rfl|rfl|rfl|rfl|rfl|rfl|rfl <;> decide
theorem kK{d:Nat}{a b c:Int}(h1:Q9 a)(h2:Q9 b):TD (d+1) ⟨a,b,c,[]⟩:=⟨h1,h2,by simp,fun k e=>(List.not_mem_nil e).elim⟩
theorem Ch:∀ (n:Nat) {F:Nat} (_:n+1<=F) {t:Tape} (_:TOk t) (_:n<=5),∃ t' x,VA F t (n:Int)=some (t',x)/\TOk t' /\ TD (n+1) x
 | n,0,hF,_,_,_=>by omega
 | n,F+1,hF,t,ht,hn=>by
  show ∃ t' x,Ci F (VA F) t (n:Int)=some (t',x)/\_;unfold Ci
  have k2:∀ (u:Tape×Int) (a b:Int) (v:Tape),TOk v->Q9 u.2->Q9 a->Ok (Uq F (VA F) u a b v.l_ v.at_) fun z=>TOk z.1/\TD (n+1) z.2:=fun u a b v B C E=>by
   unfold Uq;exact VY ⟨B,kK C E⟩
  have g:∀ (v:Tape),TOk v->Ok ((YW F v (1:Int) (8:Int)).bind fun z=>br (z.2==(2:Int)) (GB F (VA F) z (z.2==(2:Int))) (GB F (VA F) z (z.2==(3:Int)))) fun z=>TOk z.1/\TD (n+1) z.2:=fun v B=>by
   obtain ⟨w,o,G,f,Q,N⟩:=Vc (F:=F) B (lo:=1) (hi:=8) (by omega) (by omega) (by omega);have i:Q9 o:=W2 (by omega) (by omega)
   have k1:∀ b,Ok (GB F (VA F) (w,o) b) fun z=>TOk z.1/\TD (n+1) z.2:=fun b=>by
    unfold GB;refine QK (fun _=>?_) (fun _=>QK (fun _=>?_) (fun _=>QK (fun _=>?_) (fun _=>QK (fun _=>?_) (fun _=>QK (fun _=>?_) (fun _=>QK (fun _=>?_) (fun _=>?_))))))
    .obtain ⟨e,k,d,c,j,l⟩:=QL (F:=F) f (n:=4) (by omega) (by omega)
     exact Zh d (k2 _ _ _ e c i (W2 (by omega) (by omega)))
    .obtain ⟨e,k,d,c,j,l⟩:=QL (F:=F) f (n:=5) (by omega) (by omega)
     have:=TG j (by omega)
     exact Zh d (J9 ⟨W2 (by simp only;omega) (by simp only;omega),j⟩ (k2 _ _ _ e c i (W2 (by simp only;omega) (by simp only;omega))))
    .obtain ⟨e,k,d,c,j,l⟩:=QL (F:=F) f (n:=16) (by omega) (by omega)
     exact Zh d (k2 _ _ _ e c i (W2 (by omega) (by omega)))
    .obtain ⟨e,k,d,c,j,l⟩:=Vc (F:=F) f (lo:=2) (hi:=3) (by omega) (by omega) (by omega)
     exact Zh d (k2 _ _ _ e c i (W2 (by omega) (by omega)))
    .obtain ⟨e,k,d,c,j,l⟩:=Vc (F:=F) f (lo:=1) (hi:=2) (by omega) (by omega) (by omega)
     obtain ⟨A,m,p,q,J,O⟩:=QL (F:=F) c (n:=5) (by omega) (by omega);have:=TG J (by omega)
     exact Zh d (Zh p (J9 ⟨W2 (by simp only;omega) (by simp only;omega),J⟩ (k2 _ _ _ A q i (W2 (by simp only;omega) (by simp only;omega)))))
    .obtain ⟨e,k,d,c,j,l⟩:=Vc (F:=F) f (lo:=1) (hi:=3) (by omega) (by omega) (by omega)
     exact Zh d (k2 _ _ _ e c i (W2 (by omega) (by omega)))
    .exact k2 _ _ _ w f i (W2 (by omega) (by omega))
   exact Zh G (QK (fun _=>k1 _) (fun _=>k1 _))
  have s:Ok (br (decide ((0:Int)<(n:Int))) ((JX F t (2:Int)).bind fun z=>GC F (VA F) (n:Int) z.2 z.1.l_ z.1.at_) (GC F (VA F) (n:Int) false t.l_ t.at_)) fun z=>TOk z.1/\TD (n+1) z.2:=by
   refine QK (fun h=>?_) (fun _=>?_)
   .have h:=of_decide_eq_true h
    obtain ⟨m,rfl⟩:∃ m,n=m+1:=⟨n-1,by omega⟩;obtain ⟨w,b,G,f⟩:=Cm (F:=F) ht (n:=2) (by omega) (by omega)
    refine Zh G ?_;unfold GC
    refine QK (fun _=>?_) (fun _=>g w f);obtain ⟨e,k,d,c,_,_⟩:=QL (F:=F) f (n:=3) (by omega) (by omega)
    refine Zh d ?_;have H:((m+1:Nat):Int)-1=(m:Int):=by omega
    refine QK (fun _=>J9 (W2 (by omega) (by omega)) ?_) (fun _=>QK (fun _=>J9 (W2 (by omega) (by omega)) ?_) (fun _=>J9 (W2 (by omega) (by omega)) ?_))
    .rw [H]
     obtain ⟨A,x,p,q,d3⟩:=Ch m (by omega:m+1<=F) c (by omega);exact Zh p (J9 d3.op (VY ⟨q,W2 (by simp only;omega) (by simp only;omega),W2 (by simp only;omega) (by simp only;omega),by simp,fun k D=>by rw [List.mem_singleton.1 D];exact d3⟩))
    all_goals
     rw [H];obtain ⟨A,x,p,q,d3⟩:=Ch m (by omega:m+1<=F) c (by omega)
     obtain ⟨P,y,L,K,I⟩:=Ch m (by omega:m+1<=F) q (by omega);refine Zh p (J9 (W2 (by omega) (by omega)) (Zh L (J9 d3.op (J9 I.op (VY ⟨K,W2 (by simp only;omega) (by simp only;omega),W2 (by simp only;omega) (by simp only;omega),by simp,fun k D=>?_⟩)))))
     rcases List.mem_cons.1 D with h|h
     .rw [h];exact d3
     .rw [List.mem_singleton.1 h];exact I
   .unfold GC
    exact QK (fun h=>by cases h) (fun _=>g t ht)
  obtain ⟨r,M,C,E⟩:=s;exact ⟨r.1,r.2,M,C,E⟩
structure ST (s:Scheme):Prop where
 sd:SD 3 s
 num:0<=s.N_/\s.N_<=3
theorem ST.excl{s:Scheme}(h:ST s)(e:Int):ST { s with excludes_:=e }:=⟨⟨h.sd.cond,h.sd.name,h.sd.brl⟩,h.num⟩
theorem kU{l:List Scheme}(h:∀ s ∈ l,ST s){i:Nat}{x:Scheme}(hx:ST x):∀ s ∈ l.set i x,ST s:=fun s b=>by
 rcases List.mem_or_eq_of_mem_set b with a|a
 .exact h s a
 .rw [a];exact hx
structure LT (L:List Scheme):Prop where
 st:∀ s ∈ L,ST s
 len:L.length<=3
theorem Q9J{F:Nat}(hF:Q8+3<=F){t:Tape}(ht:TOk t){most:Int}(m0:0<=most)(m1:most<=3):∃ t' L,Cu F t most=some (t',L)/\TOk t' /\ LT L/\(L=[]\/GoodL 3 L):=by
 have hB:Q8<=F:=by omega
 have U:=hB;unfold Q8 at U
 unfold Cu;obtain ⟨t1,n,e1,o1,J,n1⟩:=QL (F:=F) ht (n:=2) (by omega) (by omega)
 obtain ⟨t2,k,e2,o2,V,k1⟩:=QL (F:=F) o1 (n:=most+1) (by omega) (by omega)
 suffices h:Ok (Z7 (fun e (z:Int×Int×(List Int)×Int×(List Scheme))=>Ct F e z.1 z.2.1 z.2.2.1 z.2.2.2.1 z.2.2.2.2) F (n,k,t2.l_,t2.at_,([]:List Scheme))) fun z=>TOk z.1/\LT z.2/\(z.2=[]\/GoodL 3 z.2) by
  obtain ⟨r,hr,h1,Q,O⟩:=h;exact ⟨r.1,r.2,Q4 e1 (Q7 (W2 (by omega) (by omega)) (Q4 e2 hr)),h1,Q,O⟩
 have T:∀ (L:List Scheme) (v:Tape),TOk v->LT L->Ok (Cs F L v.l_ v.at_) fun z=>TOk z.1/\LT z.2/\(z.2=[]\/GoodL 3 z.2):=fun L v f C=>by
  unfold Cs;refine Zh (ct (d:=3) (by omega) hF fun s I=>(C.st s I).sd) (QK (fun _=>?_) (fun h=>?_))
  .exact VY ⟨f,⟨fun s I=>(List.not_mem_nil I).elim,by simp⟩,.inl rfl⟩
  .exact VY ⟨f,C,.inr (Z2s.1 (by simpa using h))⟩
 have k5:∀ (L:List Scheme) (v:Tape),TOk v->LT L->Ok (Cr F v.l_ v.at_ L) fun z=>TOk z.1/\LT z.2/\(z.2=[]\/GoodL 3 z.2):=fun L v f C=>by
  have a8:=C.len;unfold Cr
  refine UR (fun z:Int×(List Int)×Int×(List Scheme)=>0<=z.1/\z.1<=L.length/\TOk ⟨z.2.1,z.2.2.1⟩/\LT z.2.2.2/\z.2.2.2.length=L.length) (fun z=>L.length-z.1.toNat) (fun e z E Z=>?_) ⟨by simp,by simp,f,C,rfl⟩ (by simp;omega);obtain ⟨i,a,b,M⟩:=z
  obtain ⟨i0,i1,f,p,o⟩:=E;simp only at i0 i1 f p o
  show Ok (yP F L e i a b M) _;unfold yP
  refine QK (fun h=>?_) (fun _=>T M ⟨a,b⟩ f p);have h:=of_decide_eq_true h
  refine J9 (by omega) ?_;refine UR (fun z:Int×(List Int)×Int×(List Scheme)=>0<=z.1/\z.1<=i/\TOk ⟨z.2.1,z.2.2.1⟩/\LT z.2.2.2/\z.2.2.2.length=L.length) (fun z=>i.toNat-z.1.toNat) (fun P z E D=>?_) ⟨by simp,by simpa using i0,f,p,o⟩ (by simp;omega)
  obtain ⟨j,a,b,M⟩:=z;obtain ⟨j0,j1,f,p,o⟩:=E
  simp only at j0 j1 f p o;show Ok (yO F i e P j a b M) _
  unfold yO;refine QK (fun Q=>?_) (fun _=>?_)
  .have Q:=of_decide_eq_true Q
   obtain ⟨S,c,e3,R⟩:=Cm (F:=F) f (n:=3) (by omega) (by omega);have k8:∀ (N:List Scheme) (v:Tape),TOk v->LT N->N.length=L.length->Ok (Hv F j P v.l_ v.at_ N) fun z=>TOk z.1/\LT z.2/\(z.2=[]\/GoodL 3 z.2):=fun N v f X o=>by
    unfold Hv;exact J9 (W2 (by omega) (by omega)) (D _ ⟨by simp only;omega,by simp only;omega,f,X,o⟩ (by simp only;omega))
   refine Zh e3 (QK (fun _=>?_) (fun _=>k8 M S R p o));have hj:=p.st _ (V4 (l:=M) (i:=j.toNat) (by omega))
   have hi:=p.st _ (V4 (l:=M) (i:=i.toNat) (by omega));have p1:=TG hj.num.1 (by have:=hj.num.2;omega)
   refine J9 (by omega) (J9 (by omega) (J9 ⟨W2 (by omega) (by omega),hj.num.1⟩ (J9 (by omega) ?_)));have A:∀ s ∈ M.set i.toNat ⟨(gl M i.toNat).N_,(gl M i.toNat).n_,(gl M i.toNat).cond_,(gl M i.toNat).brackets_,(gl M i.toNat).least_,J8 .i64 (gl M i.toNat).excludes_ ((1:Int)*2 ^ (min (gl M j.toNat).N_.toNat (IntKind.bits .i64))),(gl M i.toNat).needs_⟩,ST s:=kU p.st (hi.excl _)
   generalize X:M.set i.toNat _=N at A ⊢;have b4:N.length=M.length:=by rw [<-X];simp
   have G:=A _ (V4 (l:=N) (i:=i.toNat) (by omega));have W:=A _ (V4 (l:=N) (i:=j.toNat) (by omega))
   have p2:=TG G.num.1 (by have:=G.num.2;omega);refine J9 (by omega) (J9 (by omega) (J9 ⟨W2 (by omega) (by omega),G.num.1⟩ (J9 (by omega) ?_)))
   exact k8 _ S R ⟨kU A (W.excl _),by simp;omega⟩ (by simp;omega)
  .unfold yL
   exact J9 (W2 (by omega) (by omega)) (Z _ ⟨by simp only;omega,by simp only;omega,f,p,o⟩ (by simp only;omega))
 refine UR (fun z:Int×Int×(List Int)×Int×(List Scheme)=>0<=z.1/\z.1<=5/\0<=z.2.1/\TOk ⟨z.2.2.1,z.2.2.2.1⟩/\(∀ s ∈ z.2.2.2.2,ST s)/\(z.2.2.2.2.length:Int)+z.2.1<=3) (fun z=>z.2.1.toNat) (fun e z E Z=>?_) ⟨by simpa using J,by simp only;omega,by simpa using V,o2,fun s I=>(List.not_mem_nil I).elim,by simp;omega⟩ (by simp only;omega);obtain ⟨n,k,a,b,L⟩:=z
 obtain ⟨J,n1,V,f,C,o⟩:=E;simp only at J n1 V f C o
 show Ok (Ct F e n k a b L) _;unfold Ct
 have a4:LT L:=⟨C,by omega⟩;have kf:Ok (Pe F n k a b L e false) fun z=>TOk z.1/\LT z.2/\(z.2=[]\/GoodL 3 z.2):=by
  unfold Pe;exact QK (fun h=>by cases h) (fun _=>k5 L ⟨a,b⟩ f a4)
 refine QK (fun h=>?_) (fun _=>kf);have h:=of_decide_eq_true h
 by_cases O:n<=3
 rotate_left
 .rw [decide_eq_false O];exact kf
 rw [decide_eq_true O];unfold Pe
 refine QK (fun _=>?_) (fun h=>by cases h);obtain ⟨s,es,I⟩:=Q8r (F:=F) (by omega) J (by omega)
 obtain ⟨S,x,e3,R,hx⟩:=Ch 2 (by omega:3<=F) f (by omega);obtain ⟨t4,y,e4,o4,y0,y1⟩:=QL (F:=F) R (n:=4) (by omega) (by omega)
 obtain ⟨t5,c,e5,o5⟩:=Cm (F:=F) o4 (n:=2) (by omega) (by omega);obtain ⟨t6,m,e6,o6,m0,m1⟩:=Vc (F:=F) o5 (lo:=1) (hi:=3) (by omega) (by omega) (by omega)
 have K:ByteArray.size (ByteArray.mk #[115])=1:=rfl;refine Zh es (J9 (by rw [K];unfold Y5;omega) (Zh e3 (Zh e4 (Zh e5 (Zh e6 ?_)))))
 refine UR (fun z:Int×Int×(List Int)×Int×(List Bracket)=>0<=z.1/\z.1+40*z.2.1<=120/\0<=z.2.1/\TOk ⟨z.2.2.1,z.2.2.2.1⟩/\(z.2.2.2.2.length:Int)+z.2.1<=3) (fun z=>z.2.1.toNat) (fun P z E D=>?_) ⟨by simp,by simp only;omega,by simp only;omega,o6,by simp;omega⟩ (by simp only;omega);obtain ⟨u,q,a2,b2,B⟩:=z
 obtain ⟨u0,u1,q0,H,a5⟩:=E;simp only at u0 u1 q0 H a5
 show Ok (yQ F n k L s (S,x) (t4,y) (t5,c) e P u q a2 b2 B) _;unfold yQ
 refine QK (fun h4=>?_) (fun _=>?_)
 .have h4:=of_decide_eq_true h4
  obtain ⟨t7,w,e7,o7,w0,w1⟩:=Vc (F:=F) H (lo:=1) (hi:=40) (by omega) (by omega) (by omega);obtain ⟨t8,g,e8,o8,g0,g1⟩:=QL (F:=F) o7 (n:=3000) (by omega) (by omega)
  exact Zh e7 (J9 (W2 (by simp only;omega) (by simp only;omega)) (Zh e8 (J9 (by simp only [List.length_cons,List.length_nil];unfold Y5;omega) (J9 (W2 (by omega) (by omega)) (D _ ⟨by simp only;omega,by simp only;omega,by simp only;omega,o8,by simp;omega⟩ (by simp only;omega))))))
 .unfold yN
  obtain ⟨t9,w,e9,o9,w0,w1⟩:=Vc (F:=F) H (lo:=1) (hi:=2) (by omega) (by omega) (by omega);refine J9 (by simp only [List.length_cons,List.length_nil];unfold Y5;omega) (Zh e9 (J9 (W2 (by simp only;omega) (by simp only;omega)) ?_))
  unfold yM;refine J9 (W2 (by omega) (by omega)) (Z _ ⟨by simp only;omega,by simp only;omega,by simp only;omega,o9,fun s' Y=>?_,by simp;omega⟩ (by simp only;omega))
  rcases List.mem_append.1 Y with h5|h5
  .exact C s' h5
  .rw [List.mem_singleton.1 h5]
   refine ⟨⟨hx,?_,by simp only;omega⟩,J,O⟩;show ((ByteArray.mk #[115])++s).size<=_
   rw [ByteArray.size_append,K];omega
end
end Go.Ab
end
section
namespace Go.Ab
set_option maxRecDepth 20000
noncomputable section
structure WT (w:World):Prop where
 yr:0<=w.y_/\w.y_<=4
 crops:CropT w.crops_
 his:HisT (w.crops_.length:Nat) w.history_
 hlen:w.history_.length<=5
 zon:LayT w.zones_
 zlen:w.zones_.length<=3
 day:0<=w.day_/\w.day_<=24
 most:0<=w.most_/\w.most_<=300
theorem HisT.few5{K:Int}{H:List Rg_}(h:HisT K H)(hl:H.length<=5):FewR H:=⟨h.hl,fun y p i a=>by
 have:=Q4m h y p i (by omega)
 omega⟩
theorem Qw.up{n m:Int}{l:List Rect}(h:Qw n l)(hm:n<=m):Qw m l:=fun r a=>by
 have:=h r a
 omega
def Wx(w:World)(x:Line)(parcel:Re_)(s:Scheme):TS:=
 if QM x.s_ s.N_=false then WF x.g_.t_ false
 else ZO x.g_.t_ (U8 w.y_ w.crops_ w.history_ w.zones_ w.day_ x.c_ x.g_.t_ 3 s.cond_) (Vh w.zones_ w.day_ w.most_ parcel.t_)
theorem Q9l(w:World)(x:Line)(parcel:Re_)(s:Scheme):TIn x.g_.t_ (Wx w x parcel s):=by
 unfold Wx;split
 .exact PM _ _
 .exact Hm (WP _ _) (vD _ _ _ _)
theorem Q9m{w:World}{x:Line}{parcel:Re_}{s:Scheme}(u v:Int)(h1:(Wx w x parcel s).Y u v=true)(h2:(Wx w x parcel s).N u v=true):False:=by
 unfold Wx at h1 h2;split at h1
 .cases h1
 .rename_i q
  rw [if_neg q] at h2;simp only [ZO] at h1 h2
  rw [h1] at h2;simp at h2
theorem Z2Q{A:List Rect}(h:W6 A):(WF A false).t3 A=⟨⟨[]⟩,⟨A⟩,⟨[]⟩⟩:=by
 unfold TS.t3;rw [FU,WA]
 show Truth.mk ⟨cn fun _ _=>false⟩ ⟨cn (Q2 A)⟩ ⟨[]⟩=_;rw [WA,Uy h]
theorem Q9n{F n:Nat}(hF:Q8+3<=F){w:World}{x:Line}(hE:EV w.y_ w.crops_ w.history_ w.zones_ x.c_ x.g_.t_){s:Scheme}(hk:QT 3 s.cond_ w.crops_ x.c_ w.history_ w.y_ w.zones_ w.day_ x.g_.t_=0)(hl:w.history_.length<=1000000)(hn:PR w.crops_)(hL:LB n w.zones_)(d1:0<=w.day_)(d2:w.day_<=36864)(m1:0<=w.most_)(m2:w.most_<=268435456)(hs:SD 3 s)(h1:Za 3 s=0){parcel:Re_}(hp:TR parcel.t_)(hsub:∀ u v,Q2 x.g_.t_ u v=true->Q2 parcel.t_ u v=true):
  Ki F x parcel s w=some ((Wx w x parcel s).t3 x.g_.t_,0):=by
 have c:Q8<=F:=by omega
 have b:=hE.tr;have d:=Q4h c hL d1 d2 hp m1 m2
 rw [Q2v (e:=3) (by omega) hF hs hl hn (fun _=>hE) d fun _=>Q2w hp _ _];have hE:(Yi 3 s.cond_ x w.y_ w.crops_ w.history_ w.zones_ w.day_).2=0:=by
  unfold Yi;rw [if_neg (by rw [hk];simp)]
 have a:Jq x.g_ parcel=true:=(Q4q b.val hp.val).2 hsub;unfold Zz
 rw [if_neg (by rw [(Yc _).2 hp.val];simp),if_neg (by rw [hE];simp),if_neg (by rw [h1];simp),if_neg (by simp),if_neg (by rw [a];simp)];unfold Wx
 by_cases q:QM x.s_ s.N_=false
 .rw [if_pos q,if_pos q,Z2Q b.val]
 .rw [if_neg q,if_neg q]
  show some ((ZO _ _ (Q2 (cn (Vh w.zones_ w.day_ w.most_ parcel.t_)))).t3 _,(0:Int))=_;rw [J2 (vD _ _ _ _)]
end
end Go.Ab
end
section
namespace Go.Ab
set_option maxRecDepth 20000
noncomputable section
theorem Q9Z{F:Nat}{a n:Int}(h0:0<=a)(h1:a<n):JY F a n=some a:=by
 unfold JY;rw [Int.tmod_eq_of_lt h0 h1]
 exact Z3 (decide_eq_false (by omega)) (Q7 (by omega) (Z3 (decide_eq_false (by omega)) rfl))
theorem Q9A{F:Nat}(hF:Q8<=F){t:Tape}(ht:TOk t){cs:List Crop}(hcs:CropT cs):∃ t' w,Cg F t cs=some (t',w)/\TOk t' /\ WT w/\w.crops_=cs/\w.most_<=4:=by
 obtain ⟨s,y,h,g,C,x⟩:=QL (F:=F) ht (n:=5) (by omega) (by omega);obtain ⟨u,H,e,q,j,B⟩:=Q9Q hF g hcs (most:=5) (by omega) (by omega)
 obtain ⟨r,Z,o,a,k,l⟩:=Q9H hF q (most:=3) (by omega) (by omega);obtain ⟨z,d,c,b,d1,D⟩:=QL (F:=F) a (n:=25) (by omega) (by omega)
 obtain ⟨f,m,p,i,A,v⟩:=QL (F:=F) b (n:=5) (by omega) (by omega);refine ⟨f,⟨y,cs,H,Z,d,m⟩,?_,i,⟨by simp only;omega,hcs,j,by simp only;omega,k,by simp only;omega,by simp only;omega,by simp only;omega⟩,rfl,by simp only;omega⟩
 unfold Cg;exact Q4 h (Q4 e (Q4 o (Q4 c (Q4 p rfl))))
def Xm:Term:=⟨1,0,0,[]⟩
theorem Q4X(d:Nat):TD (d+1) Xm:=kK (W2 (by omega) (by omega)) (W2 (by omega) (by omega))
def QB:List Rect:=[⟨0,0,10,1⟩]
def Vg:List Rect:=[⟨3,0,5,1⟩]
def YP:Line:=⟨1,⟨QB⟩,0,1⟩
def WO:Scheme:=⟨0,ByteArray.mk #[115],Xm,[⟨10,1⟩],0,0,false⟩
def Kg:A2_:=⟨1,0,0,9,⟨Vg⟩⟩
def z6:World:=⟨0,[⟨ByteArray.mk #[114,121,101],0,0⟩],[],[Kg],0,0⟩
theorem Q2d:QM 1 0=true/\QM 0 0=false:=by decide +kernel
theorem Z1t:Jd z6.crops_=0:=by decide +kernel
theorem Z1v:Za 3 WO=0:=by
 have a:Qz (ByteArray.mk #[115])=true:=by decide +kernel
 have b:UB [⟨10,1⟩]=true:=by decide +kernel
 show Za 3 ⟨0,ByteArray.mk #[115],Xm,[⟨10,1⟩],0,0,false⟩=0;unfold Za
 rw [show Yq 3 Xm=0 from kJ 2,if_neg (by simp),if_neg (by rw [a];simp),if_neg (by simp),if_neg (by rw [b];simp [Q2d.2])]
theorem Q2e:W6 QB:=Lo (r:=⟨0,0,10,1⟩) (by decide)
theorem Q2c:W6 Vg:=Lo (r:=⟨3,0,5,1⟩) (by decide)
theorem Z1w(u v:Int):Q2 QB u v=true↔0<=u/\u<10/\0<=v/\v<1:=by
 unfold QB;rw [QA]
 constructor
 .rintro ⟨r,a,h⟩
  rw [List.mem_singleton] at a;subst a
  rw [Qh] at h;simp only at h
  omega
 .intro h
  exact ⟨_,List.mem_singleton.2 rfl,(Qh _ _ _).2 (by simp only;omega)⟩
theorem Z1x:Qw (10:Nat) QB:=fun r a=>by
 unfold QB at a;rw [List.mem_singleton] at a
 subst a;decide
theorem Q3x{A:List Rect}(hv:W6 A){n:Nat}(hn:n<=15)(hb:Qw n A):TR A:=⟨hv,fun a b=>(Be a hn fun x y h=>hb.in (b x y h)).1⟩
theorem HR:TR QB:=Q3x Q2e (by omega) Z1x
theorem Fh:LB 10 z6.zones_:=by
 refine ⟨⟨by simp [z6],fun f a=>?_,by simp [z6]⟩,fun f a=>?_,by omega⟩
 .have a:f=Kg:=List.mem_singleton.1 a
  subst a;rw [XW]
  exact ⟨by decide,by decide,by decide,by decide,by decide,by decide,by decide,by decide,Q2c⟩
 .have a:f=Kg:=List.mem_singleton.1 a
  subst a;intro r b
  have b:r=⟨3,0,5,1⟩:=List.mem_singleton.1 b;subst b;decide
theorem Z1s:EV z6.y_ z6.crops_ z6.history_ z6.zones_ YP.c_ YP.g_.t_:=
 ⟨HR,by decide,by decide,by decide,⟨HL.nil,fun y p i b=>absurd b (Nat.not_lt_zero i)⟩,fun f a=>(List.not_mem_nil a).elim,fun f a=>(List.not_mem_nil a).elim,by decide,⟨Fh.vl,fun f a=>(Fh.box f a).up (by omega),by omega⟩⟩
theorem Z1u:QT 3 WO.cond_ z6.crops_ YP.c_ z6.history_ z6.y_ z6.zones_ z6.day_ YP.g_.t_=0:=by
 have d:¬ (z6.y_<0\/100<z6.y_):=by decide
 have c:¬ (z6.day_<0\/36864<z6.day_):=by decide
 have b:(ZB z6.crops_ YP.c_||z6.history_.any fun r=>ZB z6.crops_ r.c_)=false:=by decide
 have a:Yq 3 WO.cond_=0:=kJ 2;unfold QT
 rw [if_neg (by rw [a];simp),if_neg (by rw [Z1t];simp),if_neg (by rw [b];simp),if_neg (by rw [show Zc z6.history_=0 from (FJ _).2 HL.nil];simp),if_neg d,if_neg (by rw [(PE _).2 Fh.vl];simp),if_neg c,if_pos ((Yc YP.g_.t_).2 Q2e)]
theorem Q9v{F:Nat}(hF:Q8+3<=F):Ca F=some true:=by
 have q:Q8<=F:=by omega
 have E:=Q9n (n:=10) hF (w:=z6) (x:=YP) Z1s (s:=WO) Z1u (by decide) (fun x o=>by
  have o:x=⟨ByteArray.mk #[114,121,101],0,0⟩:=List.mem_singleton.1 o;subst o;decide) Fh (by decide) (by decide) (by decide) (by decide) ⟨Q4X 2,by show (1:Nat)<=_;omega,by simp [WO]⟩ Z1v (parcel:=⟨QB⟩) HR fun u v h=>h
 have b:TIn QB (Wx z6 YP ⟨QB⟩ WO):=Q9l z6 YP ⟨QB⟩ WO;have a:Wx z6 YP ⟨QB⟩ WO=ZO QB (U8 z6.y_ z6.crops_ z6.history_ z6.zones_ z6.day_ YP.c_ QB 3 Xm) (Vh z6.zones_ z6.day_ z6.most_ QB):=by
  unfold Wx;rw [if_neg (by rw [show QM YP.s_ WO.N_=QM 1 0 from rfl,Q2d.1];simp)];rfl
 have e:U8 z6.y_ z6.crops_ z6.history_ z6.zones_ z6.day_ YP.c_ QB 3 Xm=WF QB true:=by
  rfl
 have k:W8 [Kg] 0 (zp 0)=Vg:=by decide +kernel
 have m:W8 [Kg] 0 (zp 1)=[]:=by decide +kernel
 have l:QQ [Kg] 0 QB=[]:=by
  unfold QQ;rw [m]
  exact WA
 have j:Ym ([]:List Rect)=[]:=by decide +kernel
 have g:Wp [Kg] 0 0 QB=[]:=by
  unfold Wp;rw [l,j];rfl
 have c:∀ u v,Vh z6.zones_ z6.day_ z6.most_ QB u v=(Q2 QB u v && !Q2 Vg u v):=fun u v=>by
  show Vh [Kg] 0 0 QB u v=_;unfold Vh
  rw [k,g];show (_ && !(_||false))=_
  rw [Bool.or_false]
 have d:∀ u v,Q2 Vg u v=true->Q2 QB u v=true:=fun u v h=>by
  rw [Z1w];obtain ⟨r,i,h⟩:=(QA _ _ _).1 h
  have i:r=⟨3,0,5,1⟩:=List.mem_singleton.1 i;subst i
  rw [Qh] at h;simp only at h
  omega
 have D:(Wx z6 YP ⟨QB⟩ WO).Y=fun u v=>Q2 QB u v && !Q2 Vg u v:=by
  rw [a,e];funext u v
  simp only [ZO,WF,if_true];rw [c]
  cases Q2 QB u v <;> cases Q2 Vg u v <;> rfl
 have t:(Wx z6 YP ⟨QB⟩ WO).N=Q2 Vg:=by
  rw [a,e];funext u v
  simp only [ZO,FU,WF,if_true];rw [c]
  have:=d u v
  cases hA:Q2 QB u v <;> cases hZ:Q2 Vg u v <;> simp_all
 have f:area QB=10:=by decide +kernel
 have C:area Vg=2:=by decide +kernel
 have p:area (cn (Wx z6 YP ⟨QB⟩ WO).N)=2:=by rw [t,Uy Q2c,C]
 have H:area (cn (Wx z6 YP ⟨QB⟩ WO).Y)=8:=by
  have A:=Q4w HR b fun x y B G=>Q9m x y B G
  have z:(Wx z6 YP ⟨QB⟩ WO).O QB=fun _ _=>false:=by
   funext u v
   unfold TS.O;rw [D,t]
   show ((Q2 QB u v && !(Q2 QB u v && !Q2 Vg u v)) && !Q2 Vg u v)=false
   cases Q2 QB u v <;> cases Q2 Vg u v <;> rfl
  rw [z,WA,p,f] at A;have:area []=0:=rfl
  omega
 unfold Ca;refine Q4 E ?_
 refine Z9 rfl (Q4 (zZ q (b.vY HR)) (Z9 (by simp only [TS.t3];rw [H];rfl) (Q4 (zZ q (b.vN HR)) ?_)));simp only [TS.t3]
 rw [p];rfl
end
end Go.Ab
end
