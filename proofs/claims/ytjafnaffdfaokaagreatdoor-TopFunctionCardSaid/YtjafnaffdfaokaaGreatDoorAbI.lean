/- Abstract states over the model. -/
import Derived.Test.YtjafnaffdfaokaaGreatDoorLwG
import Derived.Test.YtjafnaffdfaokaaGreatDoorLwA
import Derived.Test.YtjafnaffdfaokaaGreatDoorAbH
import Derived.Test.YtjafnaffdfaokaaGreatDoorLwE
set_option linter.unusedVariables false
set_option linter.unusedSimpArgs false
set_option maxRecDepth 20000
namespace Go.Ab
noncomputable section
def Xw(n:Int):Bool:=decide (0<=n)&&decide (n<=1099511627776)
theorem bj{n:Int}(h:0<=n/\n<=1000000):Xw n=true:=by
 unfold Xw;rw [decide_eq_true h.1,decide_eq_true (by omega)];rfl
theorem Q0J(F:Nat)(n:Int):DJ F n=some (Xw n):=by
 unfold DJ TO Xw;generalize decide ((0:Int)<=n)=b
 cases b <;> rfl
theorem Z1T(F:Nat){x y z:Int}(hx:0<=x/\x<=1000000)(hy:0<=y/\y<=1000000)(hz:1<=z/\z<=1000000):TQ F x y z=some (x*y / z,x*y % z):=by
 have b:0<=x*y:=Int.mul_nonneg hx.1 hy.1;have e:x*y<=1000000*1000000:=Int.mul_le_mul hx.2 hy.2 hy.1 (by omega)
 have c:0<=x*y / z:=Int.ediv_nonneg b (by omega);have f:x*y / z<=x*y:=Int.ediv_le_self _ b
 have h:0<=x*y % z:=Int.emod_nonneg _ (by omega);have g:x*y % z<z:=Int.emod_lt_of_pos _ (by omega)
 unfold TQ yw;rw [UZ hx.1 (by omega),UZ hy.1 (by omega),UZ (n:=z) (by omega) (by omega)]
 refine Q3 (Q3 (Q9N F ⟨hx.1,by omega⟩ ⟨hy.1,by omega⟩) rfl) ?_;refine Z5 (decide_eq_false (by simp only;omega)) ?_
 refine Q3 (a:=(x*y / z,x*y % z)) ?_ ?_
 .unfold zj
  refine Z5 (by simp;omega) (Z5 (decide_eq_false (by simp only;omega)) (Y7 (by simp) (Q8 (by omega) (Q8 (by omega) ?_))));simp only
  rw [Int.tdiv_eq_ediv_of_nonneg b,Int.tmod_eq_emod_of_nonneg b,UZ c (by omega)]
 .have d:Ql (x*y / z) 1125899906842625=x*y / z:=by unfold Ql;rw [if_neg (by omega)]
  simp only [d];exact Q8 (V9 (by omega) (by omega)) (Q8 (V9 (by omega) (by omega)) rfl)
theorem PO{w:List Int}(hw:∀ x ∈ w,0<=x):0<=w.sum:=by
 induction w with
 | nil=>simp
 | cons a w ih=>
  rw [List.sum_cons];have:=hw a (by simp)
  have:=ih fun x b=>hw x (List.mem_cons_of_mem _ b)
  omega
theorem FC{w:List Int}(hw:∀ x ∈ w,0<=x){x:Int}(hx:x ∈ w):x<=w.sum:=by
 induction w with
 | nil=>cases hx
 | cons a w ih=>
  rw [List.sum_cons];have b:=hw a (by simp)
  have c:=PO fun x hx=>hw x (List.mem_cons_of_mem a hx)
  rcases List.mem_cons.1 hx with rfl|hx
  .omega
  .have:=ih (fun x hx=>hw x (List.mem_cons_of_mem _ hx)) hx
   omega
theorem FB(w:List Int)(x:Int):(w++[x]).sum=w.sum+x:=by
 rw [List.sum_append,List.sum_cons,List.sum_nil,Int.add_zero]
theorem xC{w:List Int}(hw:∀ x ∈ w,0<=x)(i:Nat):0<=(w.take i).sum/\(w.take i).sum<=w.sum:=by
 refine ⟨PO fun x a=>hw x (List.mem_of_mem_take a),?_⟩;have h:=PO fun x (a:x ∈ w.drop i)=>hw x (List.mem_of_mem_drop a)
 have:(w.take i++w.drop i).sum=w.sum:=by rw [List.take_append_drop]
 rw [List.sum_append] at this;omega
theorem Q9e{t s:Int}(hs:0<s):∀ w:List Int,t*w.sum=s*(w.map fun x=>t*x / s).sum+(w.map fun x=>t*x % s).sum/\0<=(w.map fun x=>t*x % s).sum/\(w.map fun x=>t*x % s).sum<=w.length*s:=by
 intro w
 induction w with
 | nil=>simp
 | cons a w ih=>
  obtain ⟨b,g,e⟩:=ih;simp only [List.map_cons,List.sum_cons,List.length_cons]
  have h:s*(t*a / s)+t*a % s=t*a:=Int.mul_ediv_add_emod _ _;have f:0<=t*a % s:=Int.emod_nonneg _ (by omega)
  have d:t*a % s<s:=Int.emod_lt_of_pos _ hs;have c:((w.length+1:Nat):Int)*s=w.length*s+s:=by rw [Int.natCast_add,Int.add_mul];simp
  refine ⟨?_,by omega,by rw [c];omega⟩;rw [Int.mul_add,Int.mul_add,b]
  omega
def WO(t:Int)(w:List Int):Int:=t-(w.map fun x=>t*x / w.sum).sum
theorem Z0c{t:Int}{w:List Int}(hs:0<w.sum):0<=WO t w/\WO t w<=w.length/\WO t w*w.sum=(w.map fun x=>t*x % w.sum).sum:=by
 obtain ⟨b,c,a⟩:=Q9e (t:=t) hs w;have e:WO t w*w.sum=(w.map fun x=>t*x % w.sum).sum:=by
  unfold WO;rw [Int.sub_mul,b,Int.mul_comm (List.sum _) w.sum]
  omega
 refine ⟨?_,?_,e⟩
 .rcases Int.lt_or_le (WO t w) 0 with h|h
  .have:=Int.mul_neg_of_neg_of_pos h hs
   omega
  .exact h
 .rw [<-e] at a
  exact Int.le_of_mul_le_mul_right a hs
theorem qL{t s x:Int}(ht:0<=t)(hs:0<s)(hx:0<=x/\x<=s):0<=t*x / s/\t*x / s<=t:=by
 refine ⟨Int.ediv_nonneg (Int.mul_nonneg ht hx.1) (by omega),?_⟩;have:t*x<=t*s:=Int.mul_le_mul_of_nonneg_left hx.2 ht
 exact Int.ediv_le_of_le_mul hs this
theorem Q8Q{t s:Int}(ht:0<=t/\t<=1000000)(hs:0<s):∀ w:List Int,(∀ x ∈ w,0<=x/\x<=s)->0<=(w.map fun x=>t*x / s).sum/\(w.map fun x=>t*x / s).sum<=w.length*1000000:=by
 intro w
 induction w with
 | nil=>simp
 | cons a w ih=>
  intro h;obtain ⟨c,d⟩:=ih fun x b=>h x (List.mem_cons_of_mem _ b)
  have:=qL ht.1 hs (h a (by simp))
  simp only [List.map_cons,List.sum_cons,List.length_cons];omega
def Wq(n:Nat):List Int:=(List.range n).map fun (j:Nat)=>(j:Int)
def Bd(t s:Int)(w:List Int)(j:Int):Int×Int:=(-(t*gl w j.toNat % s),j)
structure Ordd (t:Int) (w:List Int) (o:List Int):Prop where
 perm:o.Perm (Wq w.length)
 asc:o.Pairwise fun a b=>YB (Bd t w.sum w a) (Bd t w.sum w b)
def GT(t:Int)(w:List Int)(o:List Int):List Int:=
 if w.sum=0 then List.replicate w.length 0 else (List.range w.length).map fun j=>t*gl w j / w.sum+if (j:Int) ∈ o.take (WO t w).toNat then 1 else 0
theorem zN{n:Nat}{x:Int}:x ∈ Wq n↔0<=x/\x<n:=by
 unfold Wq;simp only [List.mem_map,List.mem_range]
 constructor
 .rintro ⟨j,c,rfl⟩;omega
 .rintro ⟨a,b⟩;exact ⟨x.toNat,by omega,by omega⟩
theorem bR(n:Nat):(Wq n).Nodup:=by
 unfold Wq;exact List.Pairwise.map _ (fun a b h=>by omega) (List.nodup_range)
theorem Ordd.mem{t:Int}{w o:List Int}(h:Ordd t w o){x:Int}:x ∈ o↔0<=x/\x<w.length:=by rw [h.perm.mem_iff,zN]
theorem Ordd.nodup{t:Int}{w o:List Int}(h:Ordd t w o):o.Nodup:=h.perm.nodup_iff.2 (bR _)
theorem Ordd.len{t:Int}{w o:List Int}(h:Ordd t w o):o.length=w.length:=by rw [h.perm.length_eq];unfold Wq;simp
theorem Tw{l m:List Int}(h:l.length=m.length)(hg:∀ i,i<l.length->gl l i=gl m i):l=m:=by
 apply List.ext_getElem h;intro i a b
 have:=hg i a
 rw [G8 a,G8 b] at this;exact this
theorem Dy{l:List Int}{i:Nat}{x:Int}(hi:i<l.length)(j:Nat):gl (l.set i x) j=if j=i then x else gl l j:=by
 simp only [gl,List.getD_eq_getElem?_getD,List.getElem?_set]
 by_cases h:i=j
 .subst h;simp [hi]
 .rw [if_neg h,if_neg (Ne.symm h)]
theorem Q0e(n:Nat)(f:Nat->Int){i:Nat}(h:i<n):gl ((List.range n).map f) i=f i:=by simp [gl,List.getD_eq_getElem?_getD,h]
theorem Z1q{α:Type}[Emb α](l:List α){i k:Nat}(h:k<i):gl (l.take i) k=gl l k:=by simp [gl,List.getD_eq_getElem?_getD,h]
theorem Tv(f:Int->Int)(w:List Int){i:Nat}(h:i<w.length):gl (w.map f) i=f (gl w i):=by
 rw [G8 (by simpa using h),G8 h,List.getElem_map]
theorem Z2V(u v a b:Int):(if (if u<v then (-1:Int) else if v<u then 1 else 0)≠0 then (if u<v then (-1:Int) else if v<u then 1 else 0) else (if a<b then (-1:Int) else if b<a then 1 else 0))=Gp (-v,a) (-u,b):=by
 unfold Gp;simp only
 repeat' split
 all_goals omega
theorem cU{o:List Int}{i:Nat}(hi:i<o.length){x:Int}:x ∈ o.take (i+1)↔x ∈ o.take i\/x=gl o i:=by
 rw [Qx hi,List.mem_append,List.mem_singleton]
theorem Q9v{o:List Int}(h:o.Nodup){i:Nat}(hi:i<o.length):gl o i ∉ o.take i:=by
 intro b;obtain ⟨k,a,e⟩:=List.getElem_of_mem b
 rw [List.length_take] at a;rw [List.getElem_take,G8 hi] at e
 have:=(List.getElem_inj h).1 e
 omega
theorem Z1Z{F:Nat}(hF:Q7<=F){t s:Int}{w R:List Int}(hR:R=w.map fun x=>t*x % s){a b:Int}(ha:0<=a/\a<w.length)(hb:0<=b/\b<w.length):JQ F a b R=some (Gp (Bd t s w a) (Bd t s w b)):=by
 subst hR;unfold JQ
 have e:∀ x:Int,0<=x/\x<w.length->gl (w.map fun x=>t*x % s) x.toNat=t*gl w x.toNat % s:=fun x c=>Tv _ _ (by omega)
 refine Q8 (by rw [List.length_map];exact hb) (Q8 (by rw [List.length_map];exact ha) ?_);rw [e a ha,e b hb]
 refine Q3 (DV _ _ _) (Q3 (DV _ _ _) (Q3 (Q1A F hF _ _) ?_));congr 1
 exact Z2V _ _ _ _
theorem Ordd.ex{F:Nat}(hF:Q7<=F){t:Int}{w:List Int}(hl:w.length<=64):∃ o,Ordd t w o/\Vz (Wq w.length) (fun y0 y1=>JQ F y0 y1 (w.map fun x=>t*x % w.sum))=some o:=by
 obtain ⟨o,c,f,d⟩:=Q4W (x:=Wq w.length) (q:=fun y0 y1=>JQ F y0 y1 (w.map fun x=>t*x % w.sum)) (Bd t w.sum w) (by unfold Wq Y5;simp;omega)
  (fun a g b i=>Z1Z hF rfl (zN.1 g) (zN.1 i)) ((bR _).imp fun h e=>h (congrArg (·.2) e))
 exact ⟨o,⟨f,d⟩,c⟩
theorem Z1W{F:Nat}(hF:Q7<=F){t:Int}{w o:List Int}(hw:∀ x ∈ w,0<=x)(hl:w.length<=64)(hs:w.sum<=1000000)(hs0:0<w.sum)(ht:0<=t/\t<=1000000)(ho:Ordd t w o)(hsort:Vz (Wq w.length) (fun y0 y1=>JQ F y0 y1 (w.map fun x=>t*x % w.sum))=some o):TU F (WO t w) (w.map fun x=>t*x / w.sum) (Wq w.length) (w.map fun x=>t*x % w.sum)=some (GT t w o,0):=by
 have G:=hF;unfold Q7 at hF
 obtain ⟨H,K,_⟩:=Z0c (t:=t) hs0;have g:=ho.len
 unfold TU;refine Q3 hsort (Q8 ⟨H,by rw [g];omega⟩ ?_)
 obtain ⟨m,hm⟩:∃ m:Nat,WO t w=m:=⟨(WO t w).toNat,by omega⟩;have C:m<=w.length:=by omega
 have r:∀ x ∈ w,0<=x/\x<=w.sum:=fun x u=>⟨hw x u,FC hw u⟩
 have d:((o.take (WO t w).toNat).length:Nat)=m:=by rw [List.length_take,g];omega
 refine K9 (fun z:Int×List Int=>∃ i:Nat,z.1=i/\i<=m/\z.2.length=w.length/\∀ j,j<w.length->gl z.2 j=t*gl w j / w.sum+if (j:Int) ∈ o.take i then 1 else 0) (fun z=>m-z.1.toNat) (fun s z B y=>?_) ⟨0,rfl,by omega,by simp,fun j l=>?_⟩ (by simp only;omega)
 .obtain ⟨I,v⟩:=z
  obtain ⟨i,rfl,N,b,n⟩:=B;simp only at b n y ⊢
  unfold Q0K;rw [hm] at d ⊢
  have A:((m:Int)).toNat=m:=by omega
  rw [A] at d ⊢;simp only [Int.toNat_natCast]
  refine Z6 (fun c=>?_) (fun c=>?_)
  .have c:i<m:=by simpa using c
   have a:i<o.length:=by omega
   have E:gl (o.take m) i=gl o i:=Z1q _ c;have f:gl o i ∈ o:=J7 a
   obtain ⟨J,M⟩:=ho.mem.1 f;obtain ⟨p,hp⟩:∃ p:Nat,gl o i=p:=⟨(gl o i).toNat,by omega⟩
   have k:p<w.length:=by omega
   have L:=qL ht.1 hs0 (r _ (J7 k));have e:=n p k
   have D:gl v p<=1000001/\0<=gl v p:=by rw [e];split <;> omega
   simp only [E,hp,Int.toNat_natCast];refine Q8 (by rw [d];omega) (Q8 (by omega) (Q8 (V9 (by omega) (by omega)) (Q8 (by omega) (Q8 (V9 (by omega) (by omega)) ?_))))
   refine y _ ⟨i+1,by simp,by omega,by simp [b],fun j l=>?_⟩ (by simp only;omega);simp only
   rw [Dy (by omega)];have q:(p:Int) ∉ o.take i:=by rw [<-hp];exact Q9v ho.nodup a
   by_cases hjp:j=p
   .subst hjp
    rw [if_pos rfl,e,if_neg q,if_pos ((cU a).2 (.inr hp.symm))];omega
   .rw [if_neg hjp,n j l]
    congr 1
    have:((j:Int) ∈ o.take (i+1))↔((j:Int) ∈ o.take i):=by
     rw [cU a,hp];exact ⟨fun h=>h.elim id fun h=>absurd h (by omega),.inl⟩
    simp only [this]
  .have c:i=m:=by
    have:¬ i<m:=by simpa using c
    omega
   subst c;unfold yy GT
   rw [if_neg (by omega)];congr 2
   refine Tw (by simp [b]) fun j l=>?_
   rw [n j (by omega),Q0e _ _ (by omega),hm,A]
 .simp only
  rw [Tv _ _ l];simp
theorem Z1X{F:Nat}(hF:Q7<=F){t:Int}{w o:List Int}(hw:∀ x ∈ w,0<=x)(hl:w.length<=64)(hs:w.sum<=1000000)(ht:0<=t/\t<=1000000)(ho:Ordd t w o)(hsort:Vz (Wq w.length) (fun y0 y1=>JQ F y0 y1 (w.map fun x=>t*x % w.sum))=some o):TW F t w w.sum=some (GT t w o,0):=by
 have h:=hF;unfold Q7 at hF
 have B:=PO hw;have e:∀ x ∈ w,0<=x/\x<=w.sum:=fun x b=>⟨hw x b,FC hw b⟩
 unfold TW;simp only [Int.toNat_natCast]
 refine Q8 (by unfold Y5;omega) (Z6 (fun a=>?_) (fun a=>?_))
 .have a:w.sum=0:=by simpa using a
  unfold GT;rw [if_pos a]
 .have a:w.sum≠0:=by simpa using a
  have c:0<w.sum:=by omega
  refine Q8 (by unfold Y5;omega) (Q8 (by unfold Y5;omega) ?_);refine K9 (fun z:Int×Int×List Int×List Int×List Int=>∃ i:Nat,z.2.1=i/\i<=w.length/\z.1=t-((w.take i).map fun x=>t*x / w.sum).sum/\z.2.2.1.length=w.length/\z.2.2.2.1.length=w.length/\z.2.2.2.2.length=w.length /\
   ∀ j,j<i->gl z.2.2.1 j=t*gl w j / w.sum/\gl z.2.2.2.1 j=j/\gl z.2.2.2.2 j=t*gl w j % w.sum) (fun z=>w.length-z.2.1.toNat) (fun l z y q=>?_) ⟨0,rfl,by omega,by simp,by simp,by simp,by simp,fun j f=>by omega⟩ (by simp only;omega)
  obtain ⟨G,H,u,v,r⟩:=z;obtain ⟨i,s,J,g,m,n,k,d⟩:=y
  simp only at g s m n k d q ⊢;subst s
  unfold Q0L;simp only [Int.toNat_natCast]
  refine Z6 (fun a=>?_) (fun a=>?_)
  .have a:i<w.length:=by simpa using a
   have b:=e _ (J7 a);have I:=qL ht.1 c b
   have p:=Q8Q ht c (w.take i) fun x b=>e x (List.mem_of_mem_take b)
   rw [List.length_take] at p;refine Q8 (by omega) (Q3 (Z1T F ht ⟨b.1,by omega⟩ ⟨by omega,hs⟩) ?_)
   have A:gl (u.set i (t*gl w i / w.sum)) i=t*gl w i / w.sum:=by rw [Dy (by omega),if_pos rfl]
   simp only [A];refine Q8 (by omega) (Q8 (by omega) (Q8 (by omega) (Q8 (by rw [List.length_set];omega) (Q8 (V9 (by omega) (by omega)) (Q8 (V9 (by omega) (by omega)) ?_)))))
   refine q _ ⟨i+1,by simp,by omega,?_,by simp [m],by simp [n],by simp [k],fun j f=>?_⟩ (by simp only;omega)
   .simp only
    rw [Qx a,List.map_append,List.map_cons,List.map_nil,FB,g];omega
   .simp only
    rw [Dy (by omega),Dy (by omega),Dy (by omega)]
    by_cases hji:j=i
    .subst hji;simp
    .simp only [if_neg hji]
     exact d j (by omega)
  .have a:i=w.length:=by
    have:¬ i<w.length:=by simpa using a
    omega
   subst a;have E:u=w.map fun x=>t*x / w.sum:=Tw (by simp [m]) fun j f=>by rw [(d j (by omega)).1,Tv _ _ (by omega)]
   have ev:v=Wq w.length:=Tw (by unfold Wq;simp [n]) fun j f=>by
    rw [(d j (by omega)).2.1];unfold Wq
    rw [Q0e _ _ (by omega)]
   have D:r=w.map fun x=>t*x % w.sum:=Tw (by simp [k]) fun j f=>by rw [(d j (by omega)).2.2,Tv _ _ (by omega)]
   have C:G=WO t w:=by rw [g,List.take_length];rfl
   rw [E,ev,D,C];exact Z1W h hw hl hs c ht ho hsort
theorem Z1V{F:Nat}(hF:Q7<=F){t:Int}{w:List Int}(hw:∀ x ∈ w,0<=x)(hl:w.length<=64)(hs:w.sum<=1000000)(ht:0<=t/\t<=1000000):∃ o,Ordd t w o/\DK F t w=some (GT t w o,0):=by
 have b:=hF;unfold Q7 at hF
 obtain ⟨o,g,c⟩:=Ordd.ex b (t:=t) hl;refine ⟨o,g,?_⟩
 have k:=PO hw;unfold DK
 refine Z5 (decide_eq_false (by omega)) (Q3 (Q0J _ _) (Z5 (by rw [bj ht];rfl) ?_));refine Q3 (Q5Y b (fun x=> !Xw x) (by omega) (fun x _=>by unfold yz;exact Q3 (Q0J _ _) rfl)) ?_
 have:(w.any fun x=> !Xw x)=false:=by
  rw [List.any_eq_false];intro x e
  have:=FC hw e
  rw [bj ⟨hw x e,by omega⟩];simp
 rw [this];unfold TX
 refine Z5 rfl ?_;refine K9 (fun z:Int×Int=>∃ i:Nat,z=((w.take i).sum,(i:Int))/\i<=w.length) (fun z=>w.length-z.2.toNat) (fun d z h f=>?_) ⟨0,rfl,by omega⟩ (by simp only;omega)
 obtain ⟨i,rfl,m⟩:=h;simp only at f ⊢
 unfold Q0M;simp only [Int.toNat_natCast]
 refine Z6 (fun a=>?_) (fun a=>?_)
 .have a:i<w.length:=by simpa using a
  have j:=xC hw (i+1);have l:=xC hw i
  rw [Qx a,FB] at j;refine Q8 (by omega) (Q8 (V9 (by omega) (by omega)) (Q8 (V9 (by omega) (by omega)) ?_))
  exact f _ ⟨i+1,by rw [Qx a,FB];simp,by omega⟩ (by simp only;omega)
 .have a:i=w.length:=by
   have:¬ i<w.length:=by simpa using a
   omega
  subst a;rw [List.take_length]
  exact Z1X b hw hl hs ht g c
theorem Q7V{F:Nat}(hF:Q7<=F){a b:Re_}(ha:J2 a.t_)(hb:J2 b.t_):Bv F a b=some (JG (cn fun x y=>z6 (Q4 a.t_ x y) (Q4 b.t_ x y) 2)):=by
 have h:=ha.1;have g:=hb.1
 unfold Bv Bj;have d:Zn F a.t_ b.t_ (fun f e=>qg F f e)=some (cn fun x y=>z6 (Q4 a.t_ x y) (Q4 b.t_ x y) 2):=by
  refine KB hF (by omega) (fun r c=>((ZT r).1 (ha.2.1 r c)).2.1) (fun r c=>((ZT r).1 (hb.2.1 r c)).2.1) (k:=fun u v=>z6 u v 2) rfl fun u v=>?_
  cases u <;> cases v <;> rfl
 refine Q3 (a:=JG (cn fun x y=>z6 (Q4 a.t_ x y) (Q4 b.t_ x y) 2)) (Q3 (Wn hF a) ?_) rfl;rw [YX ha]
 refine Z5 rfl (Q3 (Wn hF b) ?_);rw [YX hb]
 unfold Bi;refine Z5 rfl (Q3 d (Q3 (Br F _) ?_))
 unfold JG;split <;> rfl
abbrev VT(K:Int)(v:List Version):Prop:=∀ x ∈ v,LinT K P3 x.lines_/\x.lines_.length<=2
theorem Q3o{F:Nat}(hF:Q7<=F){t:Tape}(ht:TOk t):∃ t' cs v,Px F t=some (t',cs,v,P3)/\TOk t' /\ CropT cs/\1<=v.length/\v.length<=3/\VT (cs.length:Nat) v:=by
 have hB:=hF;unfold Q7 at hB
 obtain ⟨m,cs,s,K,f⟩:=Z0B hF ht;have u:=f.len
 suffices h:Ok (Px F t) fun z=>∃ t' v,z=(t',cs,v,P3)/\TOk t' /\ 1<=v.length/\v.length<=3/\VT (cs.length:Nat) v by
  obtain ⟨_,B,t',v,rfl,I,q,G,y⟩:=h;exact ⟨t',cs,v,B,I,f,q,G,y⟩
 unfold Px;refine QW s ?_
 refine JD (fun z:Int×List Re_=>∃ i:Nat,i<=3/\z=((i:Int),P3.take i)) (fun z=>3-z.1.toNat) (fun c z g j=>?_) ⟨0,Nat.zero_le _,rfl⟩ (by simp;omega);obtain ⟨i,hi,rfl⟩:=g
 show Ok (Fc F (m,cs) c (i:Int) (P3.take i)) _;unfold Fc
 refine Zg (fun h=>?_) (fun h=>?_)
 .have h:i<3:=by have:=of_decide_eq_true h;omega
  have e:(P3.take i).length=i:=by rw [List.length_take];show min i 3=i;omega
  refine Qd (V9 (by omega) (by omega)) (Qd (V9 (by omega) (by omega)) (Qd (V9 (by omega) (by omega)) (Qd ?_ (Qd (V9 (by omega) (by omega)) (j _ ⟨i+1,h,?_⟩ (by simp only;omega))))))
  .rw [e];simp only [List.length_cons,List.length_nil];unfold Y5;omega
  .rw [Qx (show i<P3.length from h),Q2q h];rfl
 .have h:i=3:=by have:=of_decide_eq_false h;omega
  subst h;show Ok (Hx F (m,cs) P3) _
  unfold Hx;obtain ⟨L,n,C,E,M,n2⟩:=Wy (F:=F) K (lo:=1) (hi:=3) (by omega) (by omega) (by omega)
  refine QW C ?_;refine JD (fun z:Int×(List Int)×Int×(List Version)=>0<=z.1/\TOk ⟨z.2.1,z.2.2.1⟩/\z.1+z.2.2.2.length=n/\VT (cs.length:Nat) z.2.2.2) (fun z=>z.1.toNat) (fun c z g j=>?_) ⟨by simp only;omega,E,by simp,fun x d=>by simp at d⟩ (by simp only;omega)
  obtain ⟨k,a,b,v⟩:=z;obtain ⟨D,p,A,o⟩:=g
  simp only at D p A o;show Ok (Fb F (m,cs) P3 c k a b v) _
  unfold Fb;refine Zg (fun h=>?_) (fun h=>?_)
  .have h:=of_decide_eq_true h
   obtain ⟨O,l,N,P,r,J,H,w,q⟩:=Z0m hF p (cs:=cs) (by omega) (most:=2) (by omega) (by omega);refine QW r (Qd ?_ (Qd (V9 (by omega) (by omega)) (j _ ⟨by simp only;omega,J,?_,fun x d=>?_⟩ (by simp only;omega))))
   .simp only [List.length_cons,List.length_nil];unfold Y5;omega
   .simp only [List.length_append,List.length_cons,List.length_nil];omega
   .rcases List.mem_append.1 d with d|d
    .exact o x d
    .rw [List.mem_singleton.1 d]
     exact ⟨w.p3 H,by simp only;omega⟩
  .have h:=of_decide_eq_false h
   unfold Fa;exact JC ⟨_,_,rfl,p,by omega,by omega,o⟩
theorem Z2c(F:Nat){v:Int}(h0:0<=v)(h1:v<=4503599627370496):∃ d,TY F v 100=some d:=by
 have c:∃ b,TP F v 100=some b:=by
  unfold TP XQ br
  repeat' split
  all_goals exact ⟨_,rfl⟩
 obtain ⟨b,a⟩:=c;have f:0<=v.tdiv 100:=Int.tdiv_nonneg h0 (by omega)
 have e:v.tdiv 100<=v:=Int.tdiv_le_self _ h0;have g:0<=v.tmod 100:=Int.tmod_nonneg _ h0
 unfold TY
 cases b with
 | false=>exact ⟨0,Q3 a (Y7 rfl rfl)⟩
 | true=>exact ⟨_,Q3 a (Z5 rfl (Q8 ⟨V9 (by omega) (by omega),by omega⟩ (Q8 (by omega) (Z5 (decide_eq_false (by omega)) rfl))))⟩
theorem Z3e{l:List Bracket}(h:Vr l=true):l.length<=6/\∀ i,i<l.length->0<=(gl l i).up_/\(gl l i).up_<=268435456/\0<=(gl l i).rate_/\(gl l i).rate_<=1048576:=by
 unfold Vr at h;simp only [Bool.and_eq_true,decide_eq_true_eq,Bool.not_eq_true',List.any_eq_false,List.mem_range] at h
 obtain ⟨_,d,c⟩:=h;have b:∀ i,i<l.length->Yc l i<(gl l i).up_/\(gl l i).up_<=268435456/\0<=(gl l i).rate_/\(gl l i).rate_<=1048576:=fun i a=>by
  have:=c i a
  simp only [WW,Bool.not_eq_true',Bool.not_eq_false,Bool.and_eq_true,decide_eq_true_eq] at this;exact this
 refine ⟨d,fun i=>?_⟩
 induction i with
 | zero=>intro a;have:=b 0 a;have e:Yc l 0=0:=rfl;omega
 | succ i ih=>
  intro a;have g:=b (i+1) a
  have f:=ih (by omega);have e:Yc l (i+1)=(gl l i).up_:=rfl
  omega
theorem Q6D{F:Nat}(hF:Q7+3<=F){s:Scheme}(hs:SD 3 s)(h1:QV 3 s=0){n:Int}(n0:0<=n)(n1:n<=268435456):∃ p,Uz F s n=some (p,0):=by
 have hB:Q7<=F:=by omega
 unfold Q7 at hB;obtain ⟨K,r⟩:=Z3e (Sw h1).2.2.2.2.2.2.1
 suffices h:Ok (Uz F s n) fun z=>z.2=0 by
  obtain ⟨⟨p,q⟩,D,l⟩:=h;simp only at l
  exact ⟨p,by rw [D,l]⟩
 unfold Uz;refine QW (Bb (by omega) hF hs) ?_
 rw [h1];refine Zg (fun h=>by simp at h) fun _=>Zg (fun h=>by have:=of_decide_eq_true h;omega) fun _=>?_
 rw [decide_eq_false (show ¬ (268435456:Int)<n by omega)];unfold MR
 refine Zg (fun h=>by simp at h) fun _=>?_
 refine JD (fun z:Int×Int×Int=>∃ i:Nat,i<=s.brackets_.length/\z.2.2=i/\0<=z.1/\z.1<=i*281474976710656/\0<=z.2.1/\z.2.1<=268435456) (fun z=>s.brackets_.length-z.2.2.toNat) (fun e z o t=>?_) ⟨0,Nat.zero_le _,rfl,by simp,by simp,by simp,by simp⟩ (by simp;omega);obtain ⟨a,b,c⟩:=z
 obtain ⟨i,J,j,m,I,C,u⟩:=o;simp only at j m I C u
 subst j;show Ok (Lp F s n e a b (i:Int)) _
 unfold Lp;refine Zg (fun h=>?_) (fun h=>?_)
 .have h:i<s.brackets_.length:=by have:=of_decide_eq_true h;omega
  obtain ⟨G,w,k,E⟩:=r i h;rw [Int.toNat_natCast]
  have g : -268435456<=Ql n (gl s.brackets_ i).up_-b/\Ql n (gl s.brackets_ i).up_-b<=268435456:=by unfold Ql;split <;> omega
  generalize Ql n (gl s.brackets_ i).up_-b=mn at g ⊢;have f:0<=G7 0 mn/\G7 0 mn<=268435456:=by unfold G7;split <;> omega
  generalize G7 0 mn=x at f ⊢;have A:0<=x*(gl s.brackets_ i).rate_:=Int.mul_nonneg f.1 k
  have B:x*(gl s.brackets_ i).rate_<=268435456*1048576:=Int.mul_le_mul f.2 E k (by omega);generalize x*(gl s.brackets_ i).rate_=y at A B ⊢
  refine Qd (by omega) (Qd (V9 (by omega) (by omega)) (Qd (V9 (by omega) (by omega)) (Qd (V9 (by omega) (by omega)) (Qd (V9 (by omega) (by omega)) (t _ ⟨i+1,h,by simp,?_,?_,G,w⟩ (by simp only;omega))))))
  .simp only;omega
  .simp only;omega
 .unfold Lo
  obtain ⟨d,H⟩:=Z2c F (v:=a) m (by omega);exact QW H (JC rfl)
theorem Q4q:J2 [(⟨0,0,10,10⟩:Rect)]:=Pw (by decide)
theorem Q3q{F:Nat}(hF:Q7+3<=F):Hy F=some true:=by
 have hB:Q7<=F:=by omega
 have c:=hB;unfold Q7 at c
 have j:Bp F [(⟨0,0,10,10⟩:Rect)]=some (⟨[⟨0,0,10,10⟩]⟩,0):=by
  rw [Q7P hB (by simp) (fun r i=>by rw [List.mem_singleton.1 i];decide),Q1x (by decide)];rfl
 have e:Dh F ⟨[⟨0,0,10,10⟩]⟩=some ([[⟨0,0⟩,⟨10,0⟩,⟨10,10⟩,⟨0,10⟩]],0):=by
  unfold Dh;exact if_pos rfl
 have g:Bw F ⟨[⟨0,0,10,10⟩]⟩=some 100:=by
  rw [Q7Y hB Q4q];rfl
 have h:Pr F ⟨#[97,32,98,10]⟩=some ([[⟨#[97]⟩,⟨#[98]⟩]],0):=by
  unfold Pr;exact if_pos rfl
 have f:Uz F ⟨0,⟨#[115]⟩,⟨1,0,0,[]⟩,[⟨1000,200⟩],0,0,false⟩ 100=some (200,0):=by
  have a:SD 3 ⟨0,⟨#[115]⟩,⟨1,0,0,[]⟩,[⟨1000,200⟩],0,0,false⟩:=⟨Q3V 2,by show (1:Nat)<=_;omega,by simp⟩;have d:QV 3 ⟨0,⟨#[115]⟩,⟨1,0,0,[]⟩,[⟨1000,200⟩],0,0,false⟩=0:=by
   have m:QX (ByteArray.mk #[115])=true:=by decide +kernel
   have l:Vr [⟨1000,200⟩]=true:=by decide +kernel
   unfold QV;rw [show YI 3 ⟨1,0,0,[]⟩=0 from Q3U 2,if_neg (by simp),if_neg (by rw [m];simp),if_neg (by simp),if_neg (by rw [l];simp [Z2d.2])]
  unfold Uz;refine Q3 (Bb (by omega) hF a) ?_
  rw [d];obtain ⟨G,rfl⟩:∃ G,F=G+3:=⟨F-3,by omega⟩
  rfl
 have b:∃ s,DK F 3 [1,2]=some (s,0)/\s=[1,2]:=by
  obtain ⟨o,_,k⟩:=Z1V hB (t:=3) (w:=[1,2]) (by decide) (by decide) (by decide) (by decide);refine ⟨_,k,?_⟩
  unfold GT;rw [show (WO 3 [1,2]).toNat=0 from rfl,List.take_zero]
  decide
 obtain ⟨s,b,rfl⟩:=b;unfold Hy
 exact Q3 j (Q3 e (Q3 g (Q3 f (Q3 h (Q3 b rfl)))))
theorem Z3p{l:List Rect}(h:∀ r ∈ l,r.L_<=r.R_/\r.R_<=r.L_+9/\r.w_<=r.H_/\r.H_<=r.w_+9):0<=area l/\area l<=81*l.length:=by
 induction l with
 | nil=>exact ⟨by decide,by decide⟩
 | cons r l ih=>
  have b:=h r List.mem_cons_self;have d:=ih fun q a=>h q (List.mem_cons_of_mem _ a)
  have e:area (r::l)=Wg r+area l:=by unfold area;simp
  have c:0<=Wg r:=Int.mul_nonneg (by omega) (by omega);have f:Wg r<=9*9:=Int.mul_le_mul (by omega) (by omega) (by omega) (by omega)
  rw [e,List.length_cons];omega
theorem Z1P{w:World}{rs:List Re_}(hp:ParT rs){K:Int}{s:Scheme}{l:List Line}(h:LinT K rs l)(h6:l.length<=6):0<=area (Qu w rs s Wl l)/\area (Qu w rs s Wl l)<=58320:=by
 have j:=hp.len;have k:∀ x ∈ l,TR x.g_.t_:=fun x e=>by
  have b:=h.one x e;have g:=b.par
  exact vu b.val (d:=10*(x.p_-1)) (by omega) (b.pl hp)
 have o:=Ty (w:=w) (rs:=rs) (s:=s) MH k;have:=Z3p (l:=Qu w rs s Wl l) fun r c=>by
  obtain ⟨x,e,c⟩:=List.mem_flatMap.1 c;split at c
  .have b:=h.one x e
   have g:=b.par;have a:=KU w x (ZJ rs x) s
   have i:=qT (S:=(Yn w x (ZJ rs x) s).Y) (d:=10*(x.p_-1)) a.fY (by omega) fun u v f=>b.pl hp u v (a.sY u v f)
   have n:=i.2 r c;have m:=(UT a.fY).pos c
   omega
  .simp at c
 omega
theorem Q3g{w:World}{rs:List Re_}(hp:ParT rs){K:Int}{s:Scheme}{l:List Line}(h:LinT K rs l)(h6:l.length<=6):0<=Ya w rs l s/\Ya w rs l s<=58320:=by
 have:=Z1P (w:=w) hp (s:=s) h h6
 unfold Ya;split <;> omega
theorem Z1j{c:Int}(h:1<=c/\c<=28):J2 (hB c):=Pw ((ZT _).2 (by simp only;omega))
theorem Q3s{F:Nat}(hF:Q7+3<=F)(tape:List Int){x y:Int}(hx:0<=x/\x<=255)(hy:0<=y/\y<=255):Hz F tape x y=some true:=by
 have f:Q7<=F:=by omega
 have R:=f;unfold Q7 at R
 obtain ⟨t0,e0,o0⟩:=Z0D F tape;obtain ⟨t1,cs,v,e1,o1,V,v1,v3,hv⟩:=Q3o f o0
 obtain ⟨I,L,e2,o2,U,hg⟩:=Z0q hF o1 (most:=2) (by omega) (by omega);obtain ⟨t3,w,e3,o3,hw,J,b3⟩:=Z0h f o2 V
 obtain ⟨C,h2⟩:=hv (gl v 0) (J7 v1);have a6:=U.len
 have E:GoodL 3 L:=by
  rcases hg with W|W
  .rw [W]
   exact ⟨by simp,fun i o=>absurd o (Nat.not_lt_zero i),fun i _ o=>absurd o (Nat.not_lt_zero i),fun i o=>absurd o (Nat.not_lt_zero i),fun i o=>absurd o (Nat.not_lt_zero i)⟩
  .exact W
 obtain ⟨c1,c2⟩:=Q3v hx.1 (n:=28) (by omega);unfold Hz
 refine Q3 e0 (Q3 e1 (Q3 e2 (Q3 e3 (Q8 (by simp only;omega) (Q8 (V9 (by omega) (by omega)) (Q8 (by omega) (Q8 (V9 (by omega) (by omega)) ?_)))))));obtain ⟨l,hl0⟩:∃ l,(gl v 0).lines_=l:=⟨_,rfl⟩
 rw [hl0] at C h2;obtain ⟨c,hc0⟩:∃ c,1+x.tmod 28=c:=⟨_,rfl⟩
 have hH:=Z1j (c:=c) (by omega);obtain ⟨ps,p1,p2⟩:=bH f (rs:=P3) (by decide) (l:=l) (fun x hx=>(C.one x hx).par) (by omega)
 have G:GB P3 l ps L w:=Z4y Q2p (by rw [J];exact C) p2 U E hw (by omega);have hA:=G.Areas hF
 refine K9 (fun z:Int×List Line=>∃ i:Nat,i<=l.length/\z=((i:Int),Jb c (l.take i))) (fun z=>l.length-z.1.toNat) (fun d z P K=>?_) ⟨0,Nat.zero_le _,rfl⟩ (by simp;omega);obtain ⟨i,o,rfl⟩:=P
 show Fh F x y (t1,cs,v,P3) (I,L) (t3,w) d (i:Int) (Jb c (l.take i))=_;unfold Fh
 simp only [Int.toNat_zero,hl0,hc0];have r:∀ m:List Line,(Jb c m).length=2*m.length:=fun m=>by rw [(CZ c m).length_eq,yK]
 refine Z6 (fun h=>?_) (fun h=>?_)
 .have h:i<l.length:=by have:=of_decide_eq_true h;omega
  rw [Int.toNat_natCast];have hx:=G.trm _ (J7 h)
  have r1:Bv F (gl l i).g_ ⟨hB c⟩=some ((YF c (gl l i)).g_,0):=by
   rw [Q7V (b:=⟨hB c⟩) f hx.val hH];exact congrArg some (bh (hx.part (yo _ _) fun u v q=>(Bool.and_eq_true _ _ ▸ q).1).val)
  have r2:Bk F (gl l i).g_ ⟨hB c⟩=some ((Yu c (gl l i)).g_,0):=by
   rw [Q7H (b:=⟨hB c⟩) f hx.val hH];exact congrArg some (bh (hx.part (yl _ _) fun u v q=>(Bool.and_eq_true _ _ ▸ q).1).val)
  refine Q8 (by omega) (Q3 r1 (Q3 r2 (Z5 rfl ?_)));show Pz F _ _ _ _ _ d false=_
  unfold Pz;simp only [Int.toNat_zero,hl0,Int.toNat_natCast]
  have B:(l.take i).length=i:=by rw [List.length_take];omega
  refine Z5 rfl (Q8 ?_ (Q8 (V9 (by omega) (by omega)) (K _ ⟨i+1,h,?_⟩ (by simp only;omega))))
  .rw [r,B];simp only [List.length_cons,List.length_nil];unfold Y5;omega
  .rw [Qx h]
   unfold Jb;rw [List.flatMap_append];rfl
 .have h:i=l.length:=by have:=of_decide_eq_false h;omega
  rw [h,List.take_length];have X:=r l
  obtain ⟨p,hp⟩:∃ p,Jb c l=p:=⟨_,rfl⟩;have pp:=CZ c l
  rw [hp] at X pp ⊢;have X:p.length=2*l.length:=X
  unfold Ff;refine K9 (fun z:Int×List Line=>∃ (i:Nat) (m:List Line),i<=p.length/\z=((i:Int),m)/\m.length=i/\∀ j,j<i->gl m j=gl p ((j+y.toNat) % p.length)) (fun z=>p.length-z.1.toNat) (fun d z P K=>?_) ⟨0,[],Nat.zero_le _,rfl,rfl,fun j N=>absurd N (Nat.not_lt_zero j)⟩ (by simp;omega)
  obtain ⟨i,m,o,rfl,hm,H⟩:=P;show Fg F y (t1,cs,v,P3) (I,L) (t3,w) p d (i:Int) m=_
  unfold Fg;refine Z6 (fun h=>?_) (fun h=>?_)
  .have h:i<p.length:=by have:=of_decide_eq_true h;omega
   have e:((i:Int)+y).tmod ((p.length:Nat):Int)=(((i+y.toNat) % p.length:Nat):Int):=by
    have:(i:Int)+y=((i+y.toNat:Nat):Int):=by omega
    rw [this];rfl
   have B:(i+y.toNat) % p.length<p.length:=Nat.mod_lt _ (by omega);rw [e,Int.toNat_natCast]
   refine Q8 (V9 (by omega) (by omega)) (Q8 (V9 (by omega) (by omega)) (Q8 (by omega) (Q8 (by omega) (Q8 ?_ (Q8 (V9 (by omega) (by omega)) (K _ ⟨i+1,_,h,rfl,by simp [hm],fun j N=>?_⟩ (by simp only;omega)))))))
   .simp only [List.length_cons,List.length_nil];unfold Y5;omega
   .rcases Nat.lt_or_ge j i with Z|Z
    .rw [zX _ _ (by omega)];exact H j Z
    .have:j=m.length:=by omega
     subst this;rw [zW,hm]
  .have h:i=p.length:=by have:=of_decide_eq_false h;omega
   have M:m.Perm p:=Q6T (t:=y.toNat) (by omega) fun j N=>H j (by omega)
   have g:m.Perm (WB c l):=M.trans pp;have O:=g.length_eq
   rw [yK] at O;obtain ⟨qs,q1,q2⟩:=bH f (rs:=P3) (by decide) (l:=m) (fun y hy=>by
    obtain ⟨x,hx,e⟩:=Q1j (g.mem_iff.1 hy);have:=(C.one x hx).par
    rcases e with rfl|rfl <;> exact this) (by omega)
   have G2:=G.of_cut (by omega) g q2;have D:=G2.Areas hF
   have A:L.map (Ya w P3 m)=L.map (Ya w P3 l):=List.map_congr_left fun s _=>Q3h G.trm g
   rw [A] at D;unfold Fe
   simp only [Int.toNat_zero,hl0];refine Q3 p1 (Q3 hA (Q3 q1 (Q3 D (Z5 rfl (Z5 rfl (Z5 (by simp) (Q3 (Z0K f (by rw [List.length_map];omega)) ?_)))))))
   unfold GH;refine Z5 rfl (Tz L.length (fun Q k T S=>?_) (fun Q=>?_) (by omega))
   .show PA F (I,L) (L.map (Ya w P3 l),0) (L.map (Ya w P3 l),0) Q (k:Int)=_
    unfold PA;have b6:=Q3g (w:=w) Q2p (s:=gl L k) C (by omega)
    obtain ⟨a,Y⟩:=Q6D hF (U.st _ (J7 T)).sd (E.one k T) (n:=Ya w P3 l (gl L k)) (by omega) (by omega);refine Y7 (decide_eq_true (by simp only;omega)) (Q8 (by simp only;omega) (Q8 (by simp only [List.length_map];omega) ?_))
    simp only [Int.toNat_natCast];rw [Q0f _ _ _ T]
    refine Q3 Y (Q8 (by simp only [List.length_map];omega) (Q3 Y (Z5 rfl (Z5 rfl ?_))));simp only [bne_self_eq_false]
    unfold Py;exact Z5 rfl (Q8 (V9 (by omega) (by omega)) S)
   .show PA F (I,L) (L.map (Ya w P3 l),0) (L.map (Ya w P3 l),0) Q (L.length:Int)=_
    unfold PA;refine Z5 (decide_eq_false (by simp only;omega)) ?_
    unfold Fd;exact Q3 (Q3q hF) rfl
theorem Q4k:J2 [(⟨0,0,10,10⟩:Rect)]:=Pw (by decide)
theorem Q4j{F:Nat}(hF:Q7<=F):Yx F ⟨[⟨0,0,10,10⟩]⟩=some true:=by
 rw [Wn hF,YX Q4k]
theorem Q4p:Vp [[(⟨0,0,10,10⟩:Rect)]]=[0,10]:=by
 have h:(Vk [[(⟨0,0,10,10⟩:Rect)]]).mergeSort (fun x y=>decide (x<=y))=[0,10]:=List.mergeSort_of_pairwise (by decide);unfold Vp
 rw [h];rfl
theorem Q4m{F:Nat}(hF:Q7<=F)(y:Int):VG F [(⟨0,0,10,10⟩:Rect)] y=some (if 0<=y/\y<10 then [⟨0,10⟩] else []):=by
 rw [Ru hF (by simp) (fun r e=>by rw [List.mem_singleton.1 e];decide)];congr 1
 split
 .rename_i h
  refine Kg ⟨fun s a=>by rw [List.mem_singleton.1 a];decide,by simp⟩ fun x=>?_
  have b:=decide_eq_true h.1;have c:=decide_eq_true h.2
  simp [J9,Q4,Rect.has,Span.has,b,c]
 .rename_i h
  refine Ma fun x=>?_
  rw [Bool.eq_false_iff];intro d
  simp [Q4,Rect.has] at d
  exact h ⟨by omega,by omega⟩
theorem xM{F:Nat}(hF:Q7<=F):Zn F [(⟨0,0,10,1⟩:Rect)] [] (fun y0 y1=>Df F y0 y1)=some [⟨0,0,10,1⟩]:=by
 rw [KB hF (by simp) (fun r a=>by rw [List.mem_singleton.1 a];decide) (fun r a=>by simp at a) (k:=fun u v=>u && !v) rfl (fun u v=>by cases u <;> cases v <;> rfl)];rw [show (fun x y=>Q4 [(⟨0,0,10,1⟩:Rect)] x y && !Q4 [] x y)=Q4 [(⟨0,0,10,1⟩:Rect)] from funext fun x=>funext fun y=>by simp [Q4]]
 rw [Q1x (by decide)]
theorem xL{F:Nat}(hF:Q7<=F):Zn F [] [(⟨0,0,10,1⟩:Rect)] (fun y0 y1=>Df F y0 y1)=some []:=by
 rw [KB hF (by simp) (fun r c=>by simp at c) (fun r c=>by rw [List.mem_singleton.1 c];decide) (k:=fun u v=>u && !v) rfl (fun u v=>by cases u <;> cases v <;> rfl)];rw [XY (l:=[]) ⟨⟨fun b a=>by simp at a,by simp⟩,fun b a=>by simp at a,fun b a=>by simp at a⟩ fun x y=>by simp [Q4,J9,K8]]
 rfl
theorem Q4l{F:Nat}(hF:Q7<=F):Xs F [] [⟨0,10⟩] 0=some [⟨⟨0,0⟩,⟨10,0⟩⟩]:=by
 have d:=xM hF;have e:=xL hF
 obtain ⟨G,hG⟩:∃ G,F=G+3:=⟨F-3,by unfold Q7 at hF;omega⟩;unfold Xs
 have a:UE F [⟨0,10⟩]=some [⟨0,0,10,1⟩]:=by rw [hG];kernel_rfl
 have c:UE F []=some []:=by rw [hG];kernel_rfl
 refine Q3 a (Q3 c (Q3 d ?_));unfold qV
 generalize hk:Xr F [] [⟨0,10⟩] 0=k;refine Eq.trans (b:=k [⟨⟨0,0⟩,⟨10,0⟩⟩]) (by rw [hG];kernel_rfl) ?_
 subst hk;unfold Xr
 refine Q3 c (Q3 a (Q3 e ?_));rw [hG];kernel_rfl
theorem Q4o{F:Nat}(hF:Q7<=F):Xs F [⟨0,10⟩] [] 10=some [⟨⟨10,10⟩,⟨0,10⟩⟩]:=by
 have d:=xM hF;have e:=xL hF
 obtain ⟨G,hG⟩:∃ G,F=G+3:=⟨F-3,by unfold Q7 at hF;omega⟩;unfold Xs
 have a:UE F [⟨0,10⟩]=some [⟨0,0,10,1⟩]:=by rw [hG];kernel_rfl
 have c:UE F []=some []:=by rw [hG];kernel_rfl
 refine Q3 c (Q3 a (Q3 e ?_));unfold qV
 generalize hk:Xr F [⟨0,10⟩] [] 10=k;refine Eq.trans (b:=k []) (by rw [hG];kernel_rfl) ?_
 subst hk;unfold Xr
 refine Q3 a (Q3 c (Q3 d ?_));rw [hG];kernel_rfl
theorem be{σ R:Type}(f:(σ->Option R)->σ->Option R)(n:Nat)(z:σ):Z9 f (n+1) z=f (Z9 f n) z:=rfl
theorem Q4n{F:Nat}(hF:Q7<=F):Dg F ⟨[⟨0,0,10,10⟩]⟩=some [⟨⟨0,0⟩,⟨10,0⟩⟩,⟨⟨0,10⟩,⟨0,0⟩⟩,⟨⟨10,0⟩,⟨10,10⟩⟩,⟨⟨10,10⟩,⟨0,10⟩⟩]:=by
 have a:KA F [[(⟨0,0,10,10⟩:Rect)]]=some [0,10]:=by rw [LZ hF (by decide) (by decide),Q4p]
 have r:∀ y z l,y=z->(if 0<=z/\z<10 then [(⟨0,10⟩:Span)] else [])=l->VG F (⟨[⟨0,0,10,10⟩]⟩:Re_).t_ y=some l:=fun y z l h e=>by rw [h, <-e];exact Q4m hF z
 have u:=Q4l hF;have d:=Q4o hF
 obtain ⟨G,hG⟩:∃ G,F=G+3:=⟨F-3,by unfold Q7 at hF;omega⟩;unfold Dg
 refine Q3 a ?_;rw [hG,be _ (G+2), <-hG]
 generalize hA:Z9 (fun again (z:Int×List Edge)=>Xt F ⟨[⟨0,0,10,10⟩]⟩ [0,10] again z.1 z.2) (G+2)=ag;show Xt F _ [0,10] ag 0 []=_
 unfold Xt;refine Y7 rfl (Q8 (by decide) (Q8 (by decide) (Q3 (r _ (-1) [] (by kernel_rfl) (by decide)) (Q3 (r _ 0 [⟨0,10⟩] (by kernel_rfl) (by decide)) (Q3 u (Q8 (by decide) (Q8 (by decide) (Z5 (by decide) (Q3 (r _ 0 [⟨0,10⟩] (by kernel_rfl) (by decide)) ?_)))))))))
 refine Eq.trans (b:=ag (1,[⟨⟨0,0⟩,⟨10,0⟩⟩,⟨⟨0,10⟩,⟨0,0⟩⟩,⟨⟨10,0⟩,⟨10,10⟩⟩])) (by rw [hG];kernel_rfl) ?_;subst hA
 rw [be _ (G+1)];show Xt F _ [0,10] _ 1 [⟨⟨0,0⟩,⟨10,0⟩⟩,⟨⟨0,10⟩,⟨0,0⟩⟩,⟨⟨10,0⟩,⟨10,10⟩⟩]=_
 unfold Xt;exact Y7 rfl (Q8 (by decide) (Q8 (by decide) (Q3 (r _ 9 [⟨0,10⟩] (by kernel_rfl) (by decide)) (Q3 (r _ 10 [] (by kernel_rfl) (by decide)) (Q3 d (Q8 (by decide) (Q8 (by decide) (Y7 (by decide) rfl))))))))
end
end Go.Ab
