/- What the plain programs compute, up to the law itself. -/
import Derived.Test.YtgfmopdbhjcpfaaGreatLwA
set_option linter.unusedVariables false
set_option linter.unusedSimpArgs false
set_option maxRecDepth 20000
namespace Go.Ab
noncomputable section
theorem Y3Z{a b:Re_}(h:∀ x y,inR a.t_ x y=true->inR b.t_ x y=true->False):Q3z a b=false:=by
 by_cases ha:Val a.t_
 .by_cases hb:Val b.t_
  .exact Y9R ha hb h
  .unfold Q3z
   have:Q3m b.t_=false:=by rw [<-Bool.not_eq_true,Q0Q];exact hb
   rw [this];simp
 .unfold Q3z
  have:Q3m a.t_=false:=by rw [<-Bool.not_eq_true,Q0Q];exact ha
  rw [this];rfl
theorem Z6h{a b:Re_}(ha:Val a.t_)(hb:Val b.t_)(h:Q3z a b=false):∀ x y,inR a.t_ x y=true->inR b.t_ x y=true->False:=by
 intro x y d c;unfold Q3z at h
 rw [Q3l ha,Q3l hb,Bool.true_and,Bool.true_and] at h;have:=(Y1B ha.2.1 hb.2.1).2 ⟨x,y,d,c⟩
 rw [this] at h;cases h
theorem Y7P(a b:List Rect)(x y:Int):inR (a++b) x y=(inR a x y||inR b x y):=by
 rw [Bool.eq_iff_iff,Bool.or_eq_true,Q3j,Q3j,Q3j];constructor
 .rintro ⟨r,c,h⟩
  rcases List.mem_append.1 c with c|c
  .exact .inl ⟨r,c,h⟩
  .exact .inr ⟨r,c,h⟩
 .rintro (⟨r,c,h⟩|⟨r,c,h⟩)
  .exact ⟨r,List.mem_append_left _ c,h⟩
  .exact ⟨r,List.mem_append_right _ c,h⟩
theorem Y2X(f:Rg_)(y:Int)(a:List Rect){u v:Int}(h:inR (Z6w y a f).g_.t_ u v=true):inR f.g_.t_ u v=true/\(f.y_=y->inR a u v=false):=by
 unfold Z6w at h;split at h
 .rename_i b
  simp only at h;rw [Q2k (Z9B _ _),Bool.and_eq_true,Bool.not_eq_true'] at h
  exact ⟨h.1,fun _=>h.2⟩
 .rename_i b
  exact ⟨h,fun c=>absurd c b⟩
theorem W2m{l:List Rg_}{y c:Int}{a:List Rect}{u v:Int}:inR (vA l y c a) u v=true↔inR a u v=true\/∃ f,l.find? (Q3K y c)=some f/\inR f.g_.t_ u v=true:=by
 unfold vA;split
 .rename_i f b
  have:=Q6z f.g_.t_ a 1
  simp only [z8,if_true] at this;rw [Q2k this,Bool.or_eq_true]
  constructor
  .rintro (h|h)
   .exact .inr ⟨f,b,h⟩
   .exact .inl h
  .rintro (h|⟨g,hg,h⟩)
   .exact .inr h
   .rw [b] at hg;cases hg;exact .inl h
 .rename_i b
  constructor
  .exact fun h=>.inl h
  .rintro (h|⟨g,hg,h⟩)
   .exact h
   .rw [b] at hg;cases hg
theorem Y3h{l:List Rg_}{y c:Int}{a:List Rect}{f:Rg_}:f ∈ Z6D l y c a↔(f ∈ Q1X l y c a\/f=⟨y,c,⟨vA l y c a⟩⟩)/\f.g_.t_.length≠0:=by
 rw [<-(Y0M l y c a).mem_iff,List.mem_filter,List.mem_append,List.mem_singleton];unfold neR
 simp
theorem Y3V(y c:Int)(f:Rg_):Q3K y c f=true↔f.y_=y/\f.c_=c:=by unfold Q3K;simp
theorem Z8U{l:List Rg_}{y c:Int}{a:List Rect}{f:Rg_}:f ∈ Q1X l y c a↔∃ g ∈ l,Q3K y c g=false/\f=Z6w y a g:=by
 unfold Q1X;rw [List.mem_map]
 constructor
 .rintro ⟨g,b,rfl⟩
  have:=List.mem_filter.1 b
  exact ⟨g,this.1,by simpa using this.2,rfl⟩
 .rintro ⟨g,b,d,rfl⟩
  exact ⟨g,List.mem_filter.2 ⟨b,by simpa using d⟩,rfl⟩
theorem Y6A{l:List Rg_}(h:Z9R l=false):l.length<=200/\∀ f ∈ l,f.g_.t_.length<=120:=by
 unfold Z9R at h;rw [Bool.or_eq_false_iff] at h
 refine ⟨by have:=of_decide_eq_false h.1;omega,fun f a=>?_⟩;have:=List.any_eq_false.1 h.2 f a
 simp at this;exact this
theorem HL.apart{l:List Rg_}(h:HL l){f g:Rg_}(hf:f ∈ l)(hg:g ∈ l)(hy:f.y_=g.y_)(hc:f.c_≠g.c_):∀ x y,inR f.g_.t_ x y=true->inR g.g_.t_ x y=true->False:=by
 obtain ⟨i,d,rfl⟩:=List.getElem_of_mem hf;obtain ⟨j,c,rfl⟩:=List.getElem_of_mem hg
 have b:=List.pairwise_iff_getElem.1 h.nx;rcases Nat.lt_trichotomy i j with a|a|a
 .exact Z6h (h.val hf) (h.val hg) (b i j d c a hy)
 .subst a;exact absurd rfl hc
 .exact fun x y k e=>Z6h (h.val hg) (h.val hf) (b j i c d a hy.symm) x y e k
theorem HL.add{l:List Rg_}(h:HL l){y c:Int}(hy:0<=y/\y<=100)(hc:0<=c/\c<40){a:List Rect}(ha:Val a)(ht:Z9R (Z6D l y c a)=false):HL (Z6D l y c a):=by
 obtain ⟨W,Q⟩:=Y6A ht;have M:∀ g ∈ l,∀ x B,inR (Z6w y a g).g_.t_ x B=true->inR g.g_.t_ x B=true:=fun g _ x B o=>(Y2X g y a o).1
 refine ⟨W,fun f p=>?_,W0Q h.asc y c a,?_⟩
 .have b:=Q f p
  obtain ⟨p,m⟩:=Y3h.1 p;rcases p with p|rfl
  .obtain ⟨g,q,D,rfl⟩:=Z8U.1 p
   obtain ⟨R,U,O,T,X,N⟩:=(Q4w g).1 (h.one g q);unfold Z6w at m b ⊢
   split at m <;> rename_i w
   .rw [if_pos w] at b ⊢
    rw [Q4w];simp only at b m ⊢
    exact ⟨R,U,O,T,m,Y5V (Q1O.cn (Z9B _ _)) b N.2.1 fun u v o=>by rw [Q2k (Z9B _ _),Bool.and_eq_true] at o;exact o.1⟩
   .rw [if_neg w];exact h.one g q
  .rw [Q4w]
   simp only at b m ⊢;refine ⟨hy.1,hy.2,hc.1,hc.2,m,?_⟩
   unfold vA at b m ⊢;split at m <;> rename_i K
   .rename_i g
    rw [K] at b;simp only at b
    have n:=Q6z g.g_.t_ a 1;simp only [z8,if_true] at n
    refine Y5V (Q1O.cn n) b (a:=g.g_.t_++a) (fun r z=>?_) fun u v o=>?_
    .rcases List.mem_append.1 z with z|z
     .exact (h.val (List.mem_of_find?_eq_some K)).2.1 r z
     .exact ha.2.1 r z
    .rw [Q2k n] at o
     rw [Y7P];exact o
   .exact ha
 .unfold NX
  have t:∀ {f g:Rg_},(f.y_=g.y_->Q3z f.g_ g.g_=false)->(g.y_=f.y_->Q3z g.g_ f.g_=false):=fun {f g} o d=>by rw [Y7b];exact o d.symm
  refine ((Y0M l y c a).pairwise_iff t).1 (List.Pairwise.filter _ ?_);rw [List.pairwise_append]
  refine ⟨?_,List.pairwise_singleton _ _,fun f p g q d=>?_⟩
  .unfold Q1X
   rw [List.pairwise_map,List.pairwise_filter];have P:=List.pairwise_iff_getElem.1 h.nx
   rw [List.pairwise_iff_getElem];intro i j L I F _ _ d
   have e:∀ f:Rg_,(Z6w y a f).y_=f.y_:=fun f=>congrArg Prod.fst (Z3M y a f)
   rw [e,e] at d;have:=Z6h (h.val (List.getElem_mem L)) (h.val (List.getElem_mem I)) (P i j L I F d)
   exact Y3Z fun u v G E=>this u v (Y2X _ y a G).1 (Y2X _ y a E).1
  .rw [List.mem_singleton] at q
   subst q;obtain ⟨g,q,D,rfl⟩:=Z8U.1 p
   have e:(Z6w y a g).y_=g.y_:=congrArg Prod.fst (Z3M y a g);rw [e] at d
   simp only at d;refine Y3Z fun u v G E=>?_
   obtain ⟨V,S⟩:=Y2X _ y a G;rcases W2m.1 E with A|⟨k,J,A⟩
   .rw [S d] at A;cases A
   .have H:=List.mem_of_find?_eq_some J
    have s:=(Y3V y c k).1 (List.find?_some J);refine h.apart q H (by rw [d,s.1]) (fun C=>?_) u v V A
    rw [<-Bool.not_eq_true,Y3V] at D;exact D ⟨d,by rw [C,s.2]⟩
theorem HL.nil:HL []:=⟨by simp,fun f a=>by simp at a,.nil,.nil⟩
def Z5e(n:Int):Bool:=decide (97<=n)&&decide (n<=122)
def Y3F(n:Int):Bool:=decide (48<=n)&&decide (n<=57)
def Q1a(s:ByteArray):Bool:=decide (1<=s.size)&&decide (s.size<=12)&&decide (∀ i,i<s.size->(Z5e (sAt s (i:Nat))||(!decide (i=0)&&Y3F (sAt s (i:Nat))))=true)
theorem Z2K{F:Nat}{s:ByteArray}(hs:s.size<F)(hs2:s.size<=4294967296):Z1r F s=some (Q1a s):=by
 unfold Z1r;refine W4 (fun z:Int=>∃ i:Nat,z=i/\i<=s.size/\∀ j,j<i->(Z5e (sAt s (j:Nat))||(!decide (j=0)&&Y3F (sAt s (j:Nat))))=true) (fun z=>s.size-z.toNat) (fun c z r t=>?_) ⟨0,rfl,by omega,fun j p=>absurd p (Nat.not_lt_zero j)⟩ (by simp;omega)
 obtain ⟨i,rfl,u,q⟩:=r;unfold Z7u
 refine Q4 (fun h=>?_) (fun h=>?_)
 .have h:i<s.size:=by simpa using h
  refine Z3 (k:=?_);have o:∀ b:Bool,b=!(Z5e (sAt s (i:Nat))||(!decide (i=0)&&Y3F (sAt s (i:Nat))))->Q4m F i c b=some (Q1a s):=by
   intro b l;unfold Q4m
   refine Q4 (fun a=>?_) (fun a=>?_)
   .rw [a,eq_comm,Bool.not_eq_true'] at l
    congr 1
    symm
    unfold Q1a;rw [Bool.and_eq_false_iff]
    right
    rw [decide_eq_false_iff_not];intro m
    rw [m i h] at l;cases l
   .rw [a,eq_comm,Bool.not_eq_false'] at l
    refine Z3 (k:=?_);refine t _ ⟨i+1,by omega,h,fun j p=>?_⟩ (by omega)
    rcases Nat.lt_or_ge j i with e|e
    .exact q j e
    .have:j=i:=by omega
     subst this;exact l
  have k2:∀ g n:Bool,g=Z5e (sAt s (i:Nat))->n=Y3F (sAt s (i:Nat))->Q6g F i g c n=some (Q1a s):=by
   intro g n a e;unfold Q6g
   rw [a,e];refine Q4 (fun d=>?_) (fun d=>?_)
   .have d:Z5e (sAt s (i:Nat))=false:=by simpa using d
    refine Q4 (fun f=>?_) (fun f=>?_)
    .have f:i=0:=by simpa using f
     refine o _ ?_;rw [d,f];rfl
    .have f:i≠0:=by simpa using f
     refine o _ ?_;rw [d,decide_eq_false f];simp
   .have d:Z5e (sAt s (i:Nat))=true:=by simpa using d
    refine o _ ?_;rw [d];rfl
  have k1:∀ g:Bool,g=Z5e (sAt s (i:Nat))->Q6h F s i c g=some (Q1a s):=by
   intro g a;unfold Q6h
   refine Z3 (k:=?_);refine Q4 (fun e=>?_) (fun e=>?_)
   .refine Z3 (k:=?_)
    refine k2 _ _ a ?_;unfold Y3F;rw [e,Bool.true_and]
   .refine k2 _ _ a ?_
    unfold Y3F;rw [e,Bool.false_and]
  refine Q4 (fun a=>?_) (fun a=>?_)
  .refine Z3 (k:=?_)
   refine k1 _ ?_;unfold Z5e;rw [a,Bool.true_and]
  .refine k1 _ ?_
   unfold Z5e;rw [a,Bool.false_and]
 .have h:i=s.size:=by
   have:¬ i<s.size:=by simpa using h
   omega
  subst h;unfold Z2L
  refine Q4 (fun a=>?_) (fun a=>?_)
  .unfold Q6f
   congr 1
   unfold Q1a;have a:1<=s.size:=by have:=of_decide_eq_true a;omega
   rw [decide_eq_true a,decide_eq_true q,Bool.true_and,Bool.and_true,Bool.eq_iff_iff,decide_eq_true_eq,decide_eq_true_eq];omega
  .unfold Q6f
   congr 1
   unfold Q1a;have a:¬ 1<=s.size:=by have:=of_decide_eq_false a;omega
   rw [decide_eq_false a];rfl
def Q8p:List ByteArray:=[(ByteArray.mk #[98,97,114,108,101,121]),(ByteArray.mk #[99,108,111,118,101,114]),(ByteArray.mk #[103,114,97,115,115]),(ByteArray.mk #[109,97,105,122,101]),(ByteArray.mk #[111,97,116,115]),(ByteArray.mk #[114,121,101]),(ByteArray.mk #[118,101,116,99,104]),(ByteArray.mk #[119,104,101,97,116])]
theorem Y2Y:∀ i,i<8->Q1a (gl Q8p i)=true/\(gl Q8p i).size<=12:=by decide +kernel
theorem Y8Y:∀ i,i<8->0<i->(sLt (gl Q8p i) (gl Q8p (i-1))||sEq (gl Q8p i) (gl Q8p (i-1)))=false:=by decide +kernel
structure CropT (l:List Crop):Prop where
 len:3<=l.length/\l.length<=8
 one:∀ i,i<l.length->(gl l i).n_=gl Q8p i/\0<=(gl l i).f_/\(gl l i).f_<=2/\0<=(gl l i).m_/\(gl l i).m_<=31
theorem Y3G{F:Nat}(hF:BIG<=F){l:List Crop}(h:CropT l):Q9l F l=some 0:=by
 have f:=hF;unfold BIG at hF
 obtain ⟨s,r⟩:=h.len;unfold Q9l
 refine Q7 (decide_eq_false (by omega)) ?_;refine W0o l.length (fun a i e g=>?_) (fun a=>?_) (by omega)
 .obtain ⟨c,q,n,o,t⟩:=h.one i e
  unfold Q4y;simp only [Int.toNat_natCast]
  refine Z6 (by simpa using e) ?_;refine Z3 (k:=?_)
  obtain ⟨j,p⟩:=Y2Y i (by omega);refine Q2 (Z2K (by rw [c];omega) (by rw [c];omega)) ?_
  rw [c,j];refine Q7 rfl (Q7 (decide_eq_false (by omega)) ?_)
  unfold Q3b;simp only [Int.toNat_natCast]
  refine Q7 (decide_eq_false (by omega)) (Q7 (decide_eq_false (by omega)) ?_);unfold Q3a
  simp only [Int.toNat_natCast];have d:Q2Z F i a false=some 0:=by
   unfold Q2Z;refine Q7 rfl ?_
   refine Z3 (k:=?_);exact g
  refine Q7 (decide_eq_false (by omega)) (Q4 (fun b=>?_) (fun b=>d));have b:0<i:=by simpa using b
  refine Z3 (k:=?_);refine Z3 (k:=?_)
  have m:((i:Int)-1).toNat=i-1:=by omega
  rw [m,c,(h.one (i-1) (by omega)).1,Y8Y i (by omega) b];exact d
 .unfold Q4y
  exact Q7 (by simp) rfl
theorem Z8s{F:Nat}(hF:BIG<=F){t:Tape}(ht:TOk t):∃ t' l,Q4l F t=some (t',l)/\TOk t' /\ CropT l:=by
 unfold BIG at hF;obtain ⟨h,n,E,B,L,Q⟩:=U3 (F:=F) ht (lo:=3) (hi:=8) (by omega) (by omega) (by omega)
 have g:(Q8p.take n.toNat).length=n.toNat:=by rw [List.length_take];simp [Q8p];omega
 have s:∀ (k f i:Nat) (t:Tape) (c:List Crop),i+k=n.toNat->k<f->TOk t->c.length=i->(∀ j,j<i->(gl c j).n_=gl Q8p j/\0<=(gl c j).f_/\(gl c j).f_<=2/\0<=(gl c j).m_/\(gl c j).m_<=31) ->
   ∃ t' l,Q9 (fun again (z:Int×(List Int)×Int×(List Crop))=>Q0Z F (h,n) again z.1 z.2.1 z.2.2.1 z.2.2.2) f ((i:Int),t.l_,t.at_,c)=some (t',l)/\TOk t' /\ CropT l:=by
  intro k
  induction k with
  | zero=>
   intro f i t c r A ht p d
   cases f with
   | zero=>omega
   | succ f=>
    refine ⟨⟨t.l_,t.at_⟩,c,?_,ht,⟨by omega,fun j q=>d j (by omega)⟩⟩;show Q0Z F (h,n) _ (i:Int) t.l_ t.at_ c=_
    unfold Q0Z;refine Q7 ?_ rfl
    show decide ((i:Int)<(((Q8p.take n.toNat).length:Nat):Int))=false;rw [g];exact decide_eq_false (by omega)
  | succ k ih=>
   intro f i t c r A ht p d
   cases f with
   | zero=>omega
   | succ f=>
    obtain ⟨M,a,H,K,I,P⟩:=Z5 (F:=F) ht (n:=3) (by omega) (by omega);obtain ⟨D,b,x,G,O,N⟩:=Z5 (F:=F) K (n:=8) (by omega) (by omega)
    have J:∀ j,j<8->0<=gl ([0,0,0,2,20,8,1,31]:List Int) j/\gl ([0,0,0,2,20,8,1,31]:List Int) j<=31:=by decide
    have u:gl (Q8p.take n.toNat) i=gl Q8p i:=by simp [gl,List.getD_eq_getElem?_getD,show i<n.toNat from by omega]
    obtain ⟨t',l,m,v,o⟩:=ih f (i+1) D (c++[⟨gl (Q8p.take n.toNat) i,a,gl ([0,0,0,2,20,8,1,31]:List Int) b.toNat⟩]) (by omega) (by omega) G (by simp [p]) (fun j q=>by
     rcases Nat.lt_or_ge j i with w|w
     .have e:gl (c++[(⟨gl (Q8p.take n.toNat) i,a,gl ([0,0,0,2,20,8,1,31]:List Int) b.toNat⟩:Crop)]) j=gl c j:=by simp [gl,List.getD_eq_getElem?_getD,List.getElem?_append_left (show j<c.length by omega)]
      rw [e];exact d j w
     .have:j=c.length:=by omega
      subst this;have e:gl (c++[(⟨gl (Q8p.take n.toNat) i,a,gl ([0,0,0,2,20,8,1,31]:List Int) b.toNat⟩:Crop)]) c.length=⟨gl (Q8p.take n.toNat) i,a,gl ([0,0,0,2,20,8,1,31]:List Int) b.toNat⟩:=by simp [gl,List.getD_eq_getElem?_getD]
      rw [e];obtain ⟨y,C⟩:=J b.toNat (by omega)
      refine ⟨by simp only;rw [u,p],I,by simp only;omega,y,C⟩)
    refine ⟨t',l,?_,v,o⟩;show Q0Z F (h,n) _ (i:Int) t.l_ t.at_ c=_
    unfold Q0Z;refine Z6 ?_ (Q6 ?_ (Q2 H (Q2 x (Q6 ?_ (Q6 ?_ (Q6 (Z7 (by omega) (by omega)) ?_))))))
    .show decide ((i:Int)<(((Q8p.take n.toNat).length:Nat):Int))=true
     rw [g];exact decide_eq_true (by omega)
    .show 0<=(i:Int)/\(i:Int)<(((Q8p.take n.toNat).length:Nat):Int)
     rw [g];omega
    .simp only [List.length_cons,List.length_nil];omega
    .simp only [LIM,List.length_cons,List.length_nil];omega
    .exact m
 obtain ⟨t',l,m,v,o⟩:=s n.toNat F 0 h [] (by omega) (by omega) B rfl (fun j q=>absurd q (Nat.not_lt_zero j));refine ⟨t',l,?_,v,o⟩
 unfold Q4l;refine Q2 E (Q6 ?_ m)
 simp only [List.length_cons,List.length_nil];omega
structure HisT (K:Int) (l:List Rg_):Prop where
 hl:HL l
 box:∀ f ∈ l,Box 9 f.g_.t_
 crop:∀ f ∈ l,f.c_<K
theorem HisT.nil(K:Int):HisT K []:=⟨HL.nil,fun f a=>by simp at a,fun f a=>by simp at a⟩
theorem Y3c{n:Int}{l:List Rect}(hb:Box n l){u v:Int}(h:inR l u v=true):0<=u/\u<n/\0<=v/\v<n:=by
 obtain ⟨r,a,b⟩:=(Q3j _ _ _).1 h;have:=hb r a
 rw [y6] at b;omega
theorem HisT.add{K:Int}{l:List Rg_}(h:HisT K l){y c:Int}(hy:0<=y/\y<=100)(hc:0<=c/\c<40)(hk:c<K){a:List Rect}(ha:Val a)(hb:Box 9 a)(ht:Z9R (Z6D l y c a)=false):HisT K (Z6D l y c a):=by
 have k:=h.hl.add hy hc ha ht;refine ⟨k,fun f b=>?_,fun f b=>?_⟩
 .refine (k.val b).2.2.box fun u v i=>?_
  obtain ⟨b,_⟩:=Y3h.1 b;rcases b with b|rfl
  .obtain ⟨g,d,_,rfl⟩:=Z8U.1 b
   exact Y3c (h.box g d) (Y2X g y a i).1
  .rcases W2m.1 i with j|⟨g,d,j⟩
   .exact Y3c hb j
   .exact Y3c (h.box g (List.mem_of_find?_eq_some d)) j
 .obtain ⟨b,_⟩:=Y3h.1 b
  rcases b with b|rfl
  .obtain ⟨g,d,_,rfl⟩:=Z8U.1 b
   have:=congrArg Prod.snd (Z3M y a g)
   have e:(Z6w y a g).c_=g.c_:=this;rw [e];exact h.crop g d
  .exact hk
theorem Y8r{l:List Rg_}(h:HL l){y c:Int}(hy:0<=y/\y<=100)(hc:0<=c/\c<40){a:Re_}(ha:Val a.t_):addH l y c a=if Z9R (Z6D l y c a.t_)=true then ([],1) else (Z6D l y c a.t_,0):=by
 unfold addH;rw [if_neg (by rw [(Z3O _).2 h];simp),if_neg (by omega),if_neg (by omega),if_neg (by rw [Q3l ha];simp)]
theorem HisT.addH{K:Int}{l:List Rg_}(h:HisT K l){y c:Int}(hy:0<=y/\y<=100)(hc:0<=c/\c<40)(hk:c<K){a:Re_}(ha:RegT 9 a):HisT K (addH l y c a).1:=by
 rw [Y8r h.hl hy hc ha.val];split
 .exact HisT.nil K
 .rename_i b
  exact h.add hy hc hk ha.val ha.box (by simpa using b)
def yrs(l:List Rg_)(y:Int)(p:Int->Bool):List Rect:=(l.filter fun f=>decide (f.y_=y)&&p f.c_).flatMap fun f=>f.g_.t_
theorem Y4v{l:List Rg_}{y:Int}{p:Int->Bool}{u v:Int}:inR (yrs l y p) u v=true↔∃ f ∈ l,f.y_=y/\p f.c_=true/\inR f.g_.t_ u v=true:=by
 rw [Q3j];unfold yrs
 constructor
 .rintro ⟨r,a,h⟩
  obtain ⟨f,b,a⟩:=List.mem_flatMap.1 a;obtain ⟨e,c⟩:=List.mem_filter.1 b
  rw [Bool.and_eq_true,decide_eq_true_eq] at c;exact ⟨f,e,c.1,c.2,Z9x a h⟩
 .rintro ⟨f,b,g,d,h⟩
  obtain ⟨r,a,h⟩:=(Q3j _ _ _).1 h;exact ⟨r,List.mem_flatMap.2 ⟨f,List.mem_filter.2 ⟨b,by rw [Bool.and_eq_true,decide_eq_true_eq];exact ⟨g,d⟩⟩,a⟩,h⟩
theorem Z8K(l:List Rg_)(x:Rg_)(y:Int)(p:Int->Bool):yrs (l++[x]) y p=yrs l y p++(if (decide (x.y_=y)&&p x.c_)=true then x.g_.t_ else []):=by
 unfold yrs;rw [List.filter_append,List.flatMap_append]
 congr 1
 cases h:(decide (x.y_=y)&&p x.c_) with
 | true=>simp [h]
 | false=>simp [h]
theorem W1d{l:List Rg_}(h:HL l)(y:Int)(p:Int->Bool):∀ i,i<=l.length->(yrs (l.take i) y p).length<=120*i:=by
 intro i
 induction i with
 | zero=>intro _;rw [List.take_zero];exact Nat.le_refl _
 | succ i ih=>
  intro a;rw [J6 (show i<l.length by omega),Z8K,List.length_append]
  have:=ih (by omega)
  have b:=(h.val (V4 (show i<l.length by omega))).1;split
  .omega
  .simp only [List.length_nil];omega
theorem Y0t{F:Nat}(hF:BIG<=F){l:List Rg_}(h:HL l)(y:Int){q:Int->Option Bool}(p:Int->Bool)(hq:∀ f ∈ l,q f.c_=some (p f.c_)):Q9z F l y q=some (yrs l y p):=by
 have s:=hF;unfold BIG at hF
 have o:=h.len;unfold Q9z
 refine W4 (fun z:Int×List Rect=>∃ i:Nat,z=((i:Int),yrs (l.take i) y p)/\i<=l.length) (fun z=>l.length-z.1.toNat) (fun c z r n=>?_) ⟨0,rfl,by omega⟩ (by simp only;omega);obtain ⟨i,rfl,u⟩:=r
 simp only at n ⊢;unfold Z3D
 simp only [Int.toNat_natCast];refine Q4 (fun d=>?_) (fun d=>?_)
 .have d:i<l.length:=by simpa using d
  refine Z3 (k:=?_);have v:=(h.val (V4 d)).1
  have t:=W1d h y p i (by omega);have e:=Z8K (l.take i) (gl l i) y p
  rw [<-J6 d] at e;have g:∀ j,j=yrs (l.take (i+1)) y p->Q3B F i c j=some (yrs l y p):=by
   rintro j rfl;unfold Q3B
   refine Z3 (k:=?_);exact n _ ⟨i+1,rfl,d⟩ (by simp only;omega)
  have k1:∀ b:Bool,b=(decide ((gl l i).y_=y)&&p (gl l i).c_)->Q3C F l i (yrs (l.take i) y p) c b=some (yrs l y p):=by
   intro b m;unfold Q3C
   simp only [Int.toNat_natCast];refine Q4 (fun a=>?_) (fun a=>?_)
   .refine Q6 (by simp only [LIM];omega) (g _ ?_)
    rw [e,if_pos (by rw [<-m,a])]
   .refine g _ ?_
    rw [e,if_neg (by rw [<-m,a];simp),List.append_nil]
  refine Q4 (fun a=>?_) (fun a=>?_)
  .have a:(gl l i).y_=y:=by simpa using a
   refine Q2 (hq _ (V4 d)) (k1 _ ?_);rw [decide_eq_true a,Bool.true_and]
  .have a:¬ (gl l i).y_=y:=by simpa using a
   refine k1 _ ?_;rw [decide_eq_false a,Bool.false_and]
 .have d:i=l.length:=by
   have:¬ i<l.length:=by simpa using d
   omega
  subst d;unfold Q9h
  rw [List.take_length]
theorem W0P(l:List Rg_)(y c:Int)(a:List Rect):(Z6D l y c a).length<=l.length+1:=by
 rw [<-(Y0M l y c a).length_eq];have b:=List.length_filter_le neR (Q1X l y c a++[(⟨y,c,⟨vA l y c a⟩⟩:Rg_)])
 have d:=Y3W l y c a;simp only [List.length_append,List.length_cons,List.length_nil] at b
 omega
theorem HisT.addH_len{K:Int}{l:List Rg_}(h:HisT K l){y c:Int}(hy:0<=y/\y<=100)(hc:0<=c/\c<40){a:Re_}(ha:RegT 9 a):(Go.Ab.addH l y c a).1.length<=l.length+1:=by
 rw [Y8r h.hl hy hc ha.val];split
 .simp
 .exact W0P l y c a.t_
theorem Z5i{F:Nat}(hF:BIG<=F){t:Tape}(ht:TOk t){cs:List Crop}(hcs:CropT cs){most:Int}(m1:0<=most)(m2:most<=50):∃ t' l,Q4W F t cs 4 most=some (t',l)/\TOk t' /\ HisT (cs.length:Nat) l/\(l.length:Int)<=most:=by
 have b:=hF;unfold BIG at hF
 obtain ⟨O,o⟩:=hcs.len;obtain ⟨I,c,x,v,s,q⟩:=Z5 (F:=F) ht (n:=most+1) (by omega) (by omega)
 have i:∀ (k f:Nat) (t:Tape) (l:List Rg_),k<f->k<=60->(l.length:Int)+k<=most->TOk t->HisT (cs.length:Nat) l->∃ t' l',Q9 (fun again (z:List Rg_×Int×List Int×Int)=>Q2M F cs 4 again z.1 z.2.1 z.2.2.1 z.2.2.2) f (l,(k:Int),t.l_,t.at_)=some (t',l')/\TOk t' /\ HisT (cs.length:Nat) l' /\ (l'.length:Int)<=most:=by
  intro k
  induction k with
  | zero=>
   intro f t l u _ h ht e
   cases f with
   | zero=>omega
   | succ f=>exact ⟨⟨t.l_,t.at_⟩,l,rfl,ht,e,by omega⟩
  | succ k ih=>
   intro f t l u m h ht e
   cases f with
   | zero=>omega
   | succ f=>
    obtain ⟨L,y,D,H,N,K⟩:=Z5 (F:=F) ht (n:=5) (by omega) (by omega);obtain ⟨M,c,r,C,s,q⟩:=Z5 (F:=F) H (n:=(cs.length:Nat)) (by omega) (by omega)
    obtain ⟨G,a,J,E,p⟩:=Z0L b C (n:=9) (most:=2) (by omega) (by omega) (by omega) (by omega);have B:=e.addH_len (y:=y) (c:=c) (by omega) (by omega) p
    obtain ⟨w,o,d,j,g⟩:=ih f G (addH l y c a).1 (by omega) (by omega) (by omega) E (e.addH (by omega) (by omega) q p);refine ⟨w,o,?_,j,g⟩
    show Q2M F cs 4 _ l ((k+1:Nat):Int) t.l_ t.at_=_;unfold Q2M
    refine Z6 (by simp) ?_;refine Z3 (k:=?_)
    refine Q2 D (Q2 r (Q2 J (Q2 (Y4D b _ _ _ _) ?_)));refine Z3 (k:=?_)
    have A:((k+1:Nat):Int)-1=(k:Int):=by omega
    rw [A];exact d
 obtain ⟨t',l,d,j,g⟩:=i c.toNat F I [] (by omega) (by omega) (by simp;omega) v (HisT.nil _);refine ⟨t',l,?_,j,g⟩
 unfold Q4W;refine Z3 (k:=?_)
 refine Q2 x ?_;have:(c.toNat:Int)=c:=by omega
 rw [this] at d;exact d
def Q9j(cs:List Crop)(c m:Int):Bool:=decide (0<=c)&&(decide (c<(cs.length:Nat))&&((m != 0)&&(Q2s .i64 (gl cs c.toNat).m_ m==m)))
theorem Z6x(F:Nat)(cs:List Crop)(c m:Int):Z3N F cs c m=some (Q9j cs c m):=by
 unfold Z3N Q9j;refine Q4 (fun a=>?_) (fun a=>?_)
 .rw [a,Bool.true_and]
  refine Q4 (fun b=>?_) (fun b=>?_)
  .rw [b,Bool.true_and]
   have a:=of_decide_eq_true a;have b:=of_decide_eq_true b
   refine Q4 (fun d=>?_) (fun d=>?_)
   .rw [d,Bool.true_and];exact Q6 ⟨a,b⟩ rfl
   .rw [d];rfl
  .rw [b];rfl
 .rw [a];rfl
theorem W1e{K:Int}{l:List Rg_}(h:HisT K l)(y:Int)(p:Int->Bool):∀ i,i<=l.length->(yrs (l.take i) y p).length<=45*i:=by
 intro i
 induction i with
 | zero=>intro _;rw [List.take_zero];exact Nat.le_refl _
 | succ i ih=>
  intro c;have a:=V4 (show i<l.length by omega)
  rw [J6 (show i<l.length by omega),Z8K,List.length_append];have:=ih (by omega)
  have b:=Q1O.half (h.hl.val a).2.2 (n:=9) (h.box _ a);split
  .omega
  .simp only [List.length_nil];omega
structure FewR (l:List Rg_):Prop where
 hl:HL l
 few:∀ y p i,i<l.length->(yrs (l.take i) y p).length<=300
theorem Y6k{l:List Rect}(h:l.length<=300):(cn (inR l)).length<=180000:=by
 have a:=Y5a l;have b:2*l.length*l.length<=2*300*300:=Nat.mul_le_mul (Nat.mul_le_mul_left 2 h) h
 omega
theorem W2d{l:List Rect}(hp:∀ r ∈ l,Q1y r=true):∀ r ∈ cn (inR l),Q1y r=true:=Y8U (Q1O.cn (W6 l)) hp fun u v a=>by rw [Q2k (W6 l)] at a;exact a
def Q5X(cs:List Crop)(k m c:Int):Bool:=(decide (k<0)||decide ((gl cs c.toNat).f_=k))&&(decide (m=0)||(Q2s .i64 (gl cs c.toNat).m_ m==m))
theorem Q3s{F:Nat}(hF:BIG<=F){l:List Rg_}(h:FewR l)(cs:List Crop)(y k m:Int)(hc:(k<0/\m=0)\/∀ f ∈ l,f.c_<(cs.length:Nat)):Q1H F l cs y k m=some (cn (inR (yrs l y (Q5X cs k m)))):=by
 have B:=hF;unfold BIG at hF
 have H:=h.hl.len;unfold Q1H
 refine W4 (fun z:List Rect×Int=>∃ i:Nat,z=(cn (inR (yrs (l.take i) y (Q5X cs k m))),(i:Int))/\i<=l.length) (fun z=>l.length-z.2.toNat) (fun g z I E=>?_) ⟨0,?_,by omega⟩ (by simp only;omega)
 .obtain ⟨i,rfl,M⟩:=I
  simp only at E ⊢;unfold Z3q
  simp only [Int.toNat_natCast];refine Q4 (fun d=>?_) (fun d=>?_)
  .have d:i<l.length:=by simpa using d
   have G:=h.hl.val (V4 d);have J:=(Q4w _).1 (h.hl.one _ (V4 d))
   have C:=h.few y (Q5X cs k m) i d;have A:∀ r ∈ yrs (l.take i) y (Q5X cs k m),Q1y r=true:=fun r q=>by
    unfold yrs at q;obtain ⟨f,K,x⟩:=List.mem_flatMap.1 q
    exact (h.hl.val (List.mem_of_mem_take (List.mem_filter.1 K).1)).2.1 r x
   have e:=Z8K (l.take i) (gl l i) y (Q5X cs k m);rw [<-J6 d] at e
   have o:∀ p,p=cn (inR (yrs (l.take (i+1)) y (Q5X cs k m)))->Q3t F i g p=some (cn (inR (yrs l y (Q5X cs k m)))):=by
    rintro p rfl;unfold Q3t
    refine Z3 (k:=?_);exact E _ ⟨i+1,rfl,d⟩ (by simp only;omega)
   have k1:∀ b:Bool,b=(decide ((gl l i).y_=y)&&Q5X cs k m (gl l i).c_)->Q0b F l (cn (inR (yrs (l.take i) y (Q5X cs k m)))) i g b=some (cn (inR (yrs l y (Q5X cs k m)))):=by
    intro b D;unfold Q0b
    simp only [Int.toNat_natCast];refine Q4 (fun c=>?_) (fun c=>?_)
    .refine Q2 (Q2e B (by have:=Y6k C;omega) (by have:=G.1;omega) (W2d A) G.2.1) (o _ ?_)
     rw [e,if_pos (by rw [<-D,c])];congr 1
     funext u v
     rw [Q2k (W6 _),Y7P];simp [z8]
    .refine o _ ?_
     rw [e,if_neg (by rw [<-D,c];simp),List.append_nil]
   refine Z3 (k:=?_);refine Q4 (fun c=>?_) (fun c=>?_)
   .have c:(gl l i).y_=y:=by simpa using c
    have s:¬ (k<0/\m=0)->0<=(gl l i).c_/\(gl l i).c_<((cs.length:Nat):Int):=fun L=>by
     rcases hc with hc|hc
     .exact absurd hc L
     .exact ⟨J.2.2.1,hc _ (V4 d)⟩
    refine Q4 (fun j=>?_) (fun j=>?_)
    .have j:=of_decide_eq_true j
     refine Q4 (fun a=>?_) (fun a=>?_)
     .have a:m=0:=by simpa using a
      refine k1 _ ?_;unfold Q5X
      rw [decide_eq_true c,decide_eq_true j,decide_eq_true a];rfl
     .have a:m≠0:=by simpa using a
      obtain ⟨w,t⟩:=s (by omega);refine Q6 ⟨w,t⟩ (k1 _ ?_)
      unfold Q5X;rw [decide_eq_true c,decide_eq_true j,decide_eq_false a];rfl
    .have j:=of_decide_eq_false j
     obtain ⟨w,t⟩:=s (by omega);refine Q6 ⟨w,t⟩ (Q4 (fun n=>?_) (fun n=>?_))
     .have n:(gl cs (gl l i).c_.toNat).f_=k:=by simpa using n
      refine Q4 (fun a=>?_) (fun a=>?_)
      .have a:m=0:=by simpa using a
       refine k1 _ ?_;unfold Q5X
       rw [decide_eq_true c,decide_eq_true n,decide_eq_true a];simp
      .have a:m≠0:=by simpa using a
       refine Q6 ⟨w,t⟩ (k1 _ ?_);unfold Q5X
       rw [decide_eq_true c,decide_eq_true n,decide_eq_false a];simp
     .have n:¬ (gl cs (gl l i).c_.toNat).f_=k:=by simpa using n
      refine k1 _ ?_;unfold Q5X
      rw [decide_eq_false j,decide_eq_false n];simp
   .have c:¬ (gl l i).y_=y:=by simpa using c
    refine k1 _ ?_;rw [decide_eq_false c,Bool.false_and]
  .have d:i=l.length:=by
    have:¬ i<l.length:=by simpa using d
    omega
   subst d;unfold Q8R
   rw [List.take_length]
 .have:cn (inR (yrs (l.take 0) y (Q5X cs k m)))=[]:=(Z4A (W6 _)).2 fun u v=>by rw [List.take_zero];rfl
  rw [this];rfl
end
end Go.Ab
