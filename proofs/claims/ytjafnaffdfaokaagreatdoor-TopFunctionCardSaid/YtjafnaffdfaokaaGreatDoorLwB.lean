/- What the plain programs compute, up to the law itself. -/
import Derived.Test.YtjafnaffdfaokaaGreatDoorLwA
set_option linter.unusedVariables false
set_option linter.unusedSimpArgs false
set_option maxRecDepth 20000
namespace Go.Ab
noncomputable section
def YC(n:Int):Bool:=decide (97<=n)&&decide (n<=122)
def Uk(n:Int):Bool:=decide (48<=n)&&decide (n<=57)
def QX(s:ByteArray):Bool:=decide (1<=s.size)&&decide (s.size<=12)&&decide (∀ i,i<s.size->(YC (K2 s (i:Nat))||(!decide (i=0)&&Uk (K2 s (i:Nat))))=true)
theorem CT{F:Nat}{s:ByteArray}(hs:s.size<F)(hs2:s.size<=4294967296):Pv F s=some (QX s):=by
 unfold Pv;refine K9 (fun z:Int=>∃ i:Nat,z=i/\i<=s.size/\∀ j,j<i->(YC (K2 s (j:Nat))||(!decide (j=0)&&Uk (K2 s (j:Nat))))=true) (fun z=>s.size-z.toNat) (fun c z r t=>?_) ⟨0,rfl,by omega,fun j p=>absurd p (Nat.not_lt_zero j)⟩ (by simp;omega)
 obtain ⟨i,rfl,u,q⟩:=r;unfold xc
 refine Z6 (fun h=>?_) (fun h=>?_)
 .have h:i<s.size:=by simpa using h
  refine Q9 (k:=?_);have n:∀ b:Bool,b=!(YC (K2 s (i:Nat))||(!decide (i=0)&&Uk (K2 s (i:Nat))))->GE F i c b=some (QX s):=by
   intro b m;unfold GE
   refine Z6 (fun a=>?_) (fun a=>?_)
   .rw [a,eq_comm,Bool.not_eq_true'] at m
    congr 1
    symm
    unfold QX;rw [Bool.and_eq_false_iff]
    right
    rw [decide_eq_false_iff_not];intro l
    rw [l i h] at m;cases m
   .rw [a,eq_comm,Bool.not_eq_false'] at m
    refine Q9 (k:=?_);refine t _ ⟨i+1,by omega,h,fun j p=>?_⟩ (by omega)
    rcases Nat.lt_or_ge j i with e|e
    .exact q j e
    .have:j=i:=by omega
     subst this;exact m
  have k2:∀ f o:Bool,f=YC (K2 s (i:Nat))->o=Uk (K2 s (i:Nat))->Pt F i f c o=some (QX s):=by
   intro f o a e;unfold Pt
   rw [a,e];refine Z6 (fun d=>?_) (fun d=>?_)
   .have d:YC (K2 s (i:Nat))=false:=by simpa using d
    refine Z6 (fun g=>?_) (fun g=>?_)
    .have g:i=0:=by simpa using g
     refine n _ ?_;rw [d,g];rfl
    .have g:i≠0:=by simpa using g
     refine n _ ?_;rw [d,decide_eq_false g];simp
   .have d:YC (K2 s (i:Nat))=true:=by simpa using d
    refine n _ ?_;rw [d];rfl
  have k1:∀ f:Bool,f=YC (K2 s (i:Nat))->Pu F s i c f=some (QX s):=by
   intro f a;unfold Pu
   refine Q9 (k:=?_);refine Z6 (fun e=>?_) (fun e=>?_)
   .refine Q9 (k:=?_)
    refine k2 _ _ a ?_;unfold Uk;rw [e,Bool.true_and]
   .refine k2 _ _ a ?_
    unfold Uk;rw [e,Bool.false_and]
  refine Z6 (fun a=>?_) (fun a=>?_)
  .refine Q9 (k:=?_)
   refine k1 _ ?_;unfold YC;rw [a,Bool.true_and]
  .refine k1 _ ?_
   unfold YC;rw [a,Bool.false_and]
 .have h:i=s.size:=by
   have:¬ i<s.size:=by simpa using h
   omega
  subst h;unfold CU
  refine Z6 (fun a=>?_) (fun a=>?_)
  .unfold Ps
   congr 1
   unfold QX;have a:1<=s.size:=by have:=of_decide_eq_true a;omega
   rw [decide_eq_true a,decide_eq_true q,Bool.true_and,Bool.and_true,Bool.eq_iff_iff,decide_eq_true_eq,decide_eq_true_eq];omega
  .unfold Ps
   congr 1
   unfold QX;have a:¬ 1<=s.size:=by have:=of_decide_eq_false a;omega
   rw [decide_eq_false a];rfl
def Yr:List ByteArray:=[(ByteArray.mk #[98,97,114,108,101,121]),(ByteArray.mk #[99,108,111,118,101,114]),(ByteArray.mk #[103,114,97,115,115]),(ByteArray.mk #[109,97,105,122,101]),(ByteArray.mk #[111,97,116,115]),(ByteArray.mk #[114,121,101]),(ByteArray.mk #[118,101,116,99,104]),(ByteArray.mk #[119,104,101,97,116])]
theorem Q1n:∀ i,i<8->QX (gl Yr i)=true/\(gl Yr i).size<=12:=by decide +kernel
theorem Z2E:∀ i,i<8->0<i->(VE (gl Yr i) (gl Yr (i-1))||Zm (gl Yr i) (gl Yr (i-1)))=false:=by decide +kernel
structure CropT (l:List Crop):Prop where
 len:3<=l.length/\l.length<=8
 one:∀ i,i<l.length->(gl l i).n_=gl Yr i/\0<=(gl l i).f_/\(gl l i).f_<=2/\0<=(gl l i).m_/\(gl l i).m_<=31
theorem Z2D{F:Nat}(hF:Q7<=F){l:List Crop}(h:CropT l):XW F l=some 0:=by
 have g:=hF;unfold Q7 at hF
 obtain ⟨q,r⟩:=h.len;unfold XW
 refine Z5 (decide_eq_false (by omega)) ?_;refine Tz l.length (fun a i d f=>?_) (fun a=>?_) (by omega)
 .obtain ⟨c,n2,n3,p,n⟩:=h.one i d
  unfold XV;simp only [Int.toNat_natCast]
  refine Y7 (by simpa using d) ?_;refine Q9 (k:=?_)
  obtain ⟨j,o⟩:=Q1n i (by omega);refine Q3 (CT (by rw [c];omega) (by rw [c];omega)) ?_
  rw [c,j];refine Z5 rfl (Z5 (decide_eq_false (by omega)) ?_)
  unfold Gm;simp only [Int.toNat_natCast]
  refine Z5 (decide_eq_false (by omega)) (Z5 (decide_eq_false (by omega)) ?_);unfold Gl
  simp only [Int.toNat_natCast];have e:Gk F i a false=some 0:=by
   unfold Gk;refine Z5 rfl ?_
   refine Q9 (k:=?_);exact f
  refine Z5 (decide_eq_false (by omega)) (Z6 (fun b=>?_) (fun b=>e));have b:0<i:=by simpa using b
  refine Q9 (k:=?_);refine Q9 (k:=?_)
  have m:((i:Int)-1).toNat=i-1:=by omega
  rw [m,c,(h.one (i-1) (by omega)).1,Z2E i (by omega) b];exact e
 .unfold XV
  exact Z5 (by simp) rfl
theorem Z0B{F:Nat}(hF:Q7<=F){t:Tape}(ht:TOk t):∃ t' l,Tb F t=some (t',l)/\TOk t' /\ CropT l:=by
 unfold Q7 at hF;obtain ⟨h,n,y,J,O,n2⟩:=Wy (F:=F) ht (lo:=3) (hi:=8) (by omega) (by omega) (by omega)
 have g:(Yr.take n.toNat).length=n.toNat:=by rw [List.length_take];simp [Yr];omega
 have r:∀ (k f i:Nat) (t:Tape) (c:List Crop),i+k=n.toNat->k<f->TOk t->c.length=i->(∀ j,j<i->(gl c j).n_=gl Yr j/\0<=(gl c j).f_/\(gl c j).f_<=2/\0<=(gl c j).m_/\(gl c j).m_<=31) ->
   ∃ t' l,Z9 (fun again (z:Int×(List Int)×Int×(List Crop))=>XF F (h,n) again z.1 z.2.1 z.2.2.1 z.2.2.2) f ((i:Int),t.l_,t.at_,c)=some (t',l)/\TOk t' /\ CropT l:=by
  intro k
  induction k with
  | zero=>
   intro f i t c m A ht o d
   cases f with
   | zero=>omega
   | succ f=>
    refine ⟨⟨t.l_,t.at_⟩,c,?_,ht,⟨by omega,fun j s=>d j (by omega)⟩⟩;show XF F (h,n) _ (i:Int) t.l_ t.at_ c=_
    unfold XF;refine Z5 ?_ rfl
    show decide ((i:Int)<(((Yr.take n.toNat).length:Nat):Int))=false;rw [g];exact decide_eq_false (by omega)
  | succ k ih=>
   intro f i t c m A ht o d
   cases f with
   | zero=>omega
   | succ f=>
    obtain ⟨P,a,G,C,I,M⟩:=QQ (F:=F) ht (n:=3) (by omega) (by omega);obtain ⟨x,b,H,E,L,N⟩:=QQ (F:=F) C (n:=8) (by omega) (by omega)
    have D:∀ j,j<8->0<=gl ([0,0,0,2,20,8,1,31]:List Int) j/\gl ([0,0,0,2,20,8,1,31]:List Int) j<=31:=by decide
    have p:gl (Yr.take n.toNat) i=gl Yr i:=by simp [gl,List.getD_eq_getElem?_getD,show i<n.toNat from by omega]
    obtain ⟨t',l,u,v,q⟩:=ih f (i+1) x (c++[⟨gl (Yr.take n.toNat) i,a,gl ([0,0,0,2,20,8,1,31]:List Int) b.toNat⟩]) (by omega) (by omega) E (by simp [o]) (fun j s=>by
     rcases Nat.lt_or_ge j i with w|w
     .have e:gl (c++[(⟨gl (Yr.take n.toNat) i,a,gl ([0,0,0,2,20,8,1,31]:List Int) b.toNat⟩:Crop)]) j=gl c j:=by simp [gl,List.getD_eq_getElem?_getD,List.getElem?_append_left (show j<c.length by omega)]
      rw [e];exact d j w
     .have:j=c.length:=by omega
      subst this;have e:gl (c++[(⟨gl (Yr.take n.toNat) i,a,gl ([0,0,0,2,20,8,1,31]:List Int) b.toNat⟩:Crop)]) c.length=⟨gl (Yr.take n.toNat) i,a,gl ([0,0,0,2,20,8,1,31]:List Int) b.toNat⟩:=by simp [gl,List.getD_eq_getElem?_getD]
      rw [e];obtain ⟨B,K⟩:=D b.toNat (by omega)
      refine ⟨by simp only;rw [p,o],I,by simp only;omega,B,K⟩)
    refine ⟨t',l,?_,v,q⟩;show XF F (h,n) _ (i:Int) t.l_ t.at_ c=_
    unfold XF;refine Y7 ?_ (Q8 ?_ (Q3 G (Q3 H (Q8 ?_ (Q8 ?_ (Q8 (V9 (by omega) (by omega)) ?_))))))
    .show decide ((i:Int)<(((Yr.take n.toNat).length:Nat):Int))=true
     rw [g];exact decide_eq_true (by omega)
    .show 0<=(i:Int)/\(i:Int)<(((Yr.take n.toNat).length:Nat):Int)
     rw [g];omega
    .simp only [List.length_cons,List.length_nil];omega
    .simp only [Y5,List.length_cons,List.length_nil];omega
    .exact u
 obtain ⟨t',l,u,v,q⟩:=r n.toNat F 0 h [] (by omega) (by omega) J rfl (fun j s=>absurd s (Nat.not_lt_zero j));refine ⟨t',l,?_,v,q⟩
 unfold Tb;refine Q3 y (Q8 ?_ u)
 simp only [List.length_cons,List.length_nil];omega
structure HisT (K:Int) (l:List Rg_):Prop where
 hl:HL l
 box:∀ f ∈ l,QN 9 f.g_.t_
 crop:∀ f ∈ l,f.c_<K
theorem HisT.nil(K:Int):HisT K []:=⟨HL.nil,fun f a=>by simp at a,fun f a=>by simp at a⟩
theorem yW{n:Int}{l:List Rect}(hb:QN n l){u v:Int}(h:Q4 l u v=true):0<=u/\u<n/\0<=v/\v<n:=by
 obtain ⟨r,b,a⟩:=(WQ _ _ _).1 h;have:=hb r b
 rw [Zp] at a;omega
theorem HisT.add{K:Int}{l:List Rg_}(h:HisT K l){y c:Int}(hy:0<=y/\y<=100)(hc:0<=c/\c<40)(hk:c<K){a:List Rect}(ha:J2 a)(hb:QN 9 a)(ht:WI (YU l y c a)=false):HisT K (YU l y c a):=by
 have k:=h.hl.add hy hc ha ht;refine ⟨k,fun f b=>?_,fun f b=>?_⟩
 .refine (k.val b).2.2.box fun u v i=>?_
  obtain ⟨b,_⟩:=vt.1 b;rcases b with b|rfl
  .obtain ⟨g,d,_,rfl⟩:=Rf.1 b
   exact yW (h.box g d) (DT g y a i).1
  .rcases xe.1 i with j|⟨g,d,j⟩
   .exact yW hb j
   .exact yW (h.box g (List.mem_of_find?_eq_some d)) j
 .obtain ⟨b,_⟩:=vt.1 b
  rcases b with b|rfl
  .obtain ⟨g,d,_,rfl⟩:=Rf.1 b
   have:=congrArg Prod.snd (XT y a g)
   have e:(YQ y a g).c_=g.c_:=this;rw [e];exact h.crop g d
  .exact hk
theorem Q2i{l:List Rg_}(h:HL l){y c:Int}(hy:0<=y/\y<=100)(hc:0<=c/\c<40){a:Re_}(ha:J2 a.t_):addH l y c a=if WI (YU l y c a.t_)=true then ([],1) else (YU l y c a.t_,0):=by
 unfold addH;rw [if_neg (by rw [(Cq _).2 h];simp),if_neg (by omega),if_neg (by omega),if_neg (by rw [YX ha];simp)]
theorem HisT.addH{K:Int}{l:List Rg_}(h:HisT K l){y c:Int}(hy:0<=y/\y<=100)(hc:0<=c/\c<40)(hk:c<K){a:Re_}(ha:RegT 9 a):HisT K (addH l y c a).1:=by
 rw [Q2i h.hl hy hc ha.val];split
 .exact HisT.nil K
 .rename_i b
  exact h.add hy hc hk ha.val ha.box (by simpa using b)
def Zd(l:List Rg_)(y:Int)(p:Int->Bool):List Rect:=(l.filter fun f=>decide (f.year_=y)&&p f.c_).flatMap fun f=>f.g_.t_
theorem CS(l:List Rg_)(x:Rg_)(y:Int)(p:Int->Bool):Zd (l++[x]) y p=Zd l y p++(if (decide (x.year_=y)&&p x.c_)=true then x.g_.t_ else []):=by
 unfold Zd;rw [List.filter_append,List.flatMap_append]
 congr 1
 cases h:(decide (x.year_=y)&&p x.c_) with
 | true=>simp [h]
 | false=>simp [h]
theorem Q2Z{l:List Rg_}(h:HL l)(y:Int)(p:Int->Bool):∀ i,i<=l.length->(Zd (l.take i) y p).length<=120*i:=by
 intro i
 induction i with
 | zero=>intro _;rw [List.take_zero];exact Nat.le_refl _
 | succ i ih=>
  intro a;rw [Qx (show i<l.length by omega),CS,List.length_append]
  have:=ih (by omega)
  have b:=(h.val (J7 (show i<l.length by omega))).1;split
  .omega
  .simp only [List.length_nil];omega
theorem Z1a{F:Nat}(hF:Q7<=F){l:List Rg_}(h:HL l)(y:Int){q:Int->Option Bool}(p:Int->Bool)(hq:∀ f ∈ l,q f.c_=some (p f.c_)):To F l y q=some (Zd l y p):=by
 have t:=hF;unfold Q7 at hF
 have m:=h.len;unfold To
 refine K9 (fun z:Int×List Rect=>∃ i:Nat,z=((i:Int),Zd (l.take i) y p)/\i<=l.length) (fun z=>l.length-z.1.toNat) (fun a z r n=>?_) ⟨0,rfl,by omega⟩ (by simp only;omega);obtain ⟨i,rfl,v⟩:=r
 simp only at n ⊢;unfold bX
 simp only [Int.toNat_natCast];refine Z6 (fun d=>?_) (fun d=>?_)
 .have d:i<l.length:=by simpa using d
  refine Q9 (k:=?_);have u:=(h.val (J7 d)).1
  have s:=Q2Z h y p i (by omega);have e:=CS (l.take i) (gl l i) y p
  rw [<-Qx d] at e;have g:∀ j,j=Zd (l.take (i+1)) y p->Dt F i a j=some (Zd l y p):=by
   rintro j rfl;unfold Dt
   refine Q9 (k:=?_);exact n _ ⟨i+1,rfl,d⟩ (by simp only;omega)
  have k1:∀ b:Bool,b=(decide ((gl l i).year_=y)&&p (gl l i).c_)->Du F l i (Zd (l.take i) y p) a b=some (Zd l y p):=by
   intro b o;unfold Du
   simp only [Int.toNat_natCast];refine Z6 (fun c=>?_) (fun c=>?_)
   .refine Q8 (by simp only [Y5];omega) (g _ ?_)
    rw [e,if_pos (by rw [<-o,c])]
   .refine g _ ?_
    rw [e,if_neg (by rw [<-o,c];simp),List.append_nil]
  refine Z6 (fun c=>?_) (fun c=>?_)
  .have c:(gl l i).year_=y:=by simpa using c
   refine Q3 (hq _ (J7 d)) (k1 _ ?_);rw [decide_eq_true c,Bool.true_and]
  .have c:¬ (gl l i).year_=y:=by simpa using c
   refine k1 _ ?_;rw [decide_eq_false c,Bool.false_and]
 .have d:i=l.length:=by
   have:¬ i<l.length:=by simpa using d
   omega
  subst d;unfold zP
  rw [List.take_length]
theorem Z3y(l:List Rg_)(y c:Int)(a:List Rect):(YU l y c a).length<=l.length+1:=by
 rw [<-(vr l y c a).length_eq];have b:=List.length_filter_le Zi (QO l y c a++[(⟨y,c,⟨vA l y c a⟩⟩:Rg_)])
 have d:=gM l y c a;simp only [List.length_append,List.length_cons,List.length_nil] at b
 omega
theorem HisT.addH_len{K:Int}{l:List Rg_}(h:HisT K l){y c:Int}(hy:0<=y/\y<=100)(hc:0<=c/\c<40){a:Re_}(ha:RegT 9 a):(Go.Ab.addH l y c a).1.length<=l.length+1:=by
 rw [Q2i h.hl hy hc ha.val];split
 .simp
 .exact Z3y l y c a.t_
theorem Z0x{F:Nat}(hF:Q7<=F){t:Tape}(ht:TOk t){cs:List Crop}(hcs:CropT cs){most:Int}(m1:0<=most)(m2:most<=50):∃ t' l,SZ F t cs 4 most=some (t',l)/\TOk t' /\ HisT (cs.length:Nat) l/\(l.length:Int)<=most:=by
 have b:=hF;unfold Q7 at hF
 obtain ⟨N,p⟩:=hcs.len;obtain ⟨C,c,v,J,s,q⟩:=QQ (F:=F) ht (n:=most+1) (by omega) (by omega)
 have h:∀ (k f:Nat) (t:Tape) (l:List Rg_),k<f->k<=60->(l.length:Int)+k<=most->TOk t->HisT (cs.length:Nat) l->∃ t' l',Z9 (fun again (z:List Rg_×Int×List Int×Int)=>SY F cs 4 again z.1 z.2.1 z.2.2.1 z.2.2.2) f (l,(k:Int),t.l_,t.at_)=some (t',l')/\TOk t' /\ HisT (cs.length:Nat) l' /\ (l'.length:Int)<=most:=by
  intro k
  induction k with
  | zero=>
   intro f t l w _ i ht d
   cases f with
   | zero=>omega
   | succ f=>exact ⟨⟨t.l_,t.at_⟩,l,rfl,ht,d,by omega⟩
  | succ k ih=>
   intro f t l w m i ht d
   cases f with
   | zero=>omega
   | succ f=>
    obtain ⟨O,y,G,B,M,L⟩:=QQ (F:=F) ht (n:=5) (by omega) (by omega);obtain ⟨K,c,H,E,s,q⟩:=QQ (F:=F) B (n:=(cs.length:Nat)) (by omega) (by omega)
    obtain ⟨A,a,D,I,o⟩:=bu b E (n:=9) (most:=2) (by omega) (by omega) (by omega) (by omega);have x:=d.addH_len (y:=y) (c:=c) (by omega) (by omega) o
    obtain ⟨u,p,e,j,g⟩:=ih f A (addH l y c a).1 (by omega) (by omega) (by omega) I (d.addH (by omega) (by omega) q o);refine ⟨u,p,?_,j,g⟩
    show SY F cs 4 _ l ((k+1:Nat):Int) t.l_ t.at_=_;unfold SY
    refine Y7 (by simp) ?_;refine Q9 (k:=?_)
    refine Q3 G (Q3 H (Q3 D (Q3 (Q8n b _ _ _ _) ?_)));refine Q9 (k:=?_)
    have r:((k+1:Nat):Int)-1=(k:Int):=by omega
    rw [r];exact e
 obtain ⟨t',l,e,j,g⟩:=h c.toNat F C [] (by omega) (by omega) (by simp;omega) J (HisT.nil _);refine ⟨t',l,?_,j,g⟩
 unfold SZ;refine Q9 (k:=?_)
 refine Q3 v ?_;have:(c.toNat:Int)=c:=by omega
 rw [this] at e;exact e
def VM(cs:List Crop)(c m:Int):Bool:=decide (0<=c)&&(decide (c<(cs.length:Nat))&&((m != 0)&&(QE .i64 (gl cs c.toNat).m_ m==m)))
theorem yN(F:Nat)(cs:List Crop)(c m:Int):XU F cs c m=some (VM cs c m):=by
 unfold XU VM;refine Z6 (fun a=>?_) (fun a=>?_)
 .rw [a,Bool.true_and]
  refine Z6 (fun b=>?_) (fun b=>?_)
  .rw [b,Bool.true_and]
   have a:=of_decide_eq_true a;have b:=of_decide_eq_true b
   refine Z6 (fun d=>?_) (fun d=>?_)
   .rw [d,Bool.true_and];exact Q8 ⟨a,b⟩ rfl
   .rw [d];rfl
  .rw [b];rfl
 .rw [a];rfl
theorem Q3a{K:Int}{l:List Rg_}(h:HisT K l)(y:Int)(p:Int->Bool):∀ i,i<=l.length->(Zd (l.take i) y p).length<=45*i:=by
 intro i
 induction i with
 | zero=>intro _;rw [List.take_zero];exact Nat.le_refl _
 | succ i ih=>
  intro b;have a:=J7 (show i<l.length by omega)
  rw [Qx (show i<l.length by omega),CS,List.length_append];have:=ih (by omega)
  have c:=Yg.half (h.hl.val a).2.2 (n:=9) (h.box _ a);split
  .omega
  .simp only [List.length_nil];omega
structure FewR (l:List Rg_):Prop where
 hl:HL l
 few:∀ y p i,i<l.length->(Zd (l.take i) y p).length<=300
end
end Go.Ab
