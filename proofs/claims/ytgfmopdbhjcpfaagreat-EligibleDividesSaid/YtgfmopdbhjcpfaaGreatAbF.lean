/- Abstract states over the model. -/
import Derived.Test.YtgfmopdbhjcpfaaGreatAbE
import Derived.Test.YtgfmopdbhjcpfaaGreatLwD
set_option linter.unusedVariables false
set_option linter.unusedSimpArgs false
set_option maxRecDepth 20000
namespace Go.Ab
noncomputable section
section
structure TB (rs:List Re_) (l:List Line) (ps:List Re_) (L:List Scheme) (w:World):Prop where
 par:ParT rs
 lin:LinT (w.crops_.length:Nat) rs l
 prc:PrT rs l ps
 lt:LT L
 good:L=[]\/GoodL 3 L
 w:WT w
theorem WT.lf6{w:World}(h:WT w):LF6 w.zones_:=W3a h.zon.vl (k:=45) (fun f b=>by
 have a:=(h.zon.fea f b).1.reg;exact a.val.2.2.half a.box) (by have:=h.zlen;omega)
section
variable {F:Nat} {rs:List Re_} {l:List Line} {ps:List Re_} {L:List Scheme} {w:World}
theorem TB.tr(h:TB rs l ps L w){i:Nat}(hi:i<l.length):TR (gl l i).g_.t_:=by
 have a:=h.lin.one _ (V7 hi);have b:=a.par
 have c:=h.par.len;exact TR.of_pl a.val (d:=10*((gl l i).p_-1)) (by omega) (a.pl h.par)
theorem TB.ptr(h:TB rs l ps L w){i:Nat}(hi:i<l.length):TR (gl ps i).t_:=by
 have c:=(h.lin.one _ (V7 hi)).par;have b:=h.par.len
 rw [h.prc.at_ i hi];have a:((gl l i).p_-1).toNat<rs.length:=by omega
 exact TR.of_pl (h.par.val a) (d:=10*(((gl l i).p_-1).toNat:Nat)) (by omega) (h.par.pl a)
theorem TB.sub(h:TB rs l ps L w){i:Nat}(hi:i<l.length):∀ u v,inR (gl l i).g_.t_ u v=true->inR (gl ps i).t_ u v=true:=by
 rw [h.prc.at_ i hi];exact (h.lin.one _ (V7 hi)).sub
theorem TB.one(h:TB rs l ps L w){k:Nat}(hk:k<L.length):Z0c 3 (gl L k)=0:=by
 rcases h.good with a|a
 .rw [a] at hk;exact absurd hk (Nat.not_lt_zero k)
 .exact a.one k hk
theorem TB.line(hF:BIG+3<=F)(h:TB rs l ps L w){i:Nat}(hi:i<l.length){k:Nat}(hk:k<L.length):Q1U F (gl l i) (gl ps i) (gl L k) w=some ((lnT w (gl l i) (gl ps i) (gl L k)).t3 (gl l i).g_.t_,0):=
 Y8X hF h.w (h.tr hi) (h.lin.one _ (V7 hi)).crop (h.lt.st _ (V7 hk)).sd (h.one hk) (h.ptr hi) (h.sub hi)
theorem TB.fine(hF:BIG<=F)(h:TB rs l ps L w){i:Nat}(hi:i<l.length):Q1u F (gl ps i) w.zones_ w.day_ w.most_=some (⟨cn (elS w.zones_ w.day_ w.most_ (gl ps i).t_)⟩,0):=by
 have d:=h.w.day;have c:=h.w.most
 obtain ⟨v,a,b,_⟩:=Y6p hF (fun _=>h.w.lf6) w.day_ w.most_ (gl ps i);rw [Z3v hF h.w.lb d.1 (by omega) (h.ptr hi) c.1 (by omega)] at a
 rw [b,a]
theorem W3y{x:Line}{parcel:Re_}{s:Scheme}(u v:Int)(hq:Z0K x.s_ s.N_≠false):((lnT w x parcel s).Y u v=true->elS w.zones_ w.day_ w.most_ parcel.t_ u v=true)/\((lnT w x parcel s).O x.g_.t_ u v=true->elS w.zones_ w.day_ w.most_ parcel.t_ u v=true):=by
 unfold lnT;rw [if_neg hq]
 rw [W2H (Y1i _ _)];simp only [Z8y,Bool.and_eq_true]
 exact ⟨fun h=>h.2,fun h=>h.2⟩
theorem W2Z{x:Line}{parcel:Re_}{s:Scheme}(hq:Z0K x.s_ s.N_=false):(lnT w x parcel s).Y=(fun _ _=>false)/\(lnT w x parcel s).O x.g_.t_=fun _ _=>false:=by
 unfold lnT;rw [if_pos hq]
 exact ⟨rfl,Y8z _ _⟩
end
theorem W1z{F:Nat}(hF:BIG+3<=F)(tape:List Int){most:Int}(m0:0<=most)(m1:most<=3):∃ t0 t1 t2 t4 t5 cs l ns rs ps L w,Z6y F tape=some t0/\Q4s F t0=some (t1,cs)/\Q4r F t1 cs most=some (t2,l,ns,rs)/\Q8q F l rs=some ps/\Q6B F t2 2=some (t4,L)/\Q4q F t4 cs=some (t5,w)/\TB rs l ps L w/\w.most_<=4/\(l.length:Int)<=most:=by
 have b:BIG<=F:=by omega
 obtain ⟨t0,m,h⟩:=Y6c F tape;obtain ⟨t1,cs,r,i,a⟩:=Z8F b h
 have t:=a.len;obtain ⟨t2,l,ns,rs,p,x,g,f,o⟩:=Z8B b i (cs:=cs) (by omega) m0 (by omega)
 obtain ⟨ps,s,d⟩:=Y1F b g f (by omega);obtain ⟨t4,L,u,n,k,v⟩:=Y0A hF x (most:=2) (by omega) (by omega)
 obtain ⟨t5,w,q,y,j,e,c⟩:=Z8A b n a;exact ⟨t0,t1,t2,t4,t5,cs,l,ns,rs,ps,L,w,m,r,p,s,u,q,⟨g,by rw [e];exact f,d,k,v,j⟩,c,o⟩
theorem Z3p{F:Nat}(hF:BIG+3<=F)(tape:List Int):Q2z F tape=some true:=by
 have g:BIG<=F:=by omega
 have J:=g;unfold BIG at J
 obtain ⟨t0,t1,H,A,B,cs,l,D,rs,ps,L,w,e0,e1,X,Z,e4,e5,p,_,h3⟩:=W1z hF tape (most:=3) (by omega) (by omega);have V:=p.lt.len
 have b0:=p.prc.len;unfold Q2z
 refine Q2 e0 (Q2 e1 (Q2 X (Q2 Z (Q2 e4 (Q2 e5 ?_)))));refine Y7q l.length (fun t i G K=>?_) (fun t=>?_) (by omega)
 .show Q0w F (H,l,D,rs) ps (A,L) (B,w) t (i:Int)=_
  unfold Q0w;refine Z4 (decide_eq_true (by simp only;omega)) (Q7 (by simp only;omega) (Q7 (by omega) ?_))
  simp only [Int.toNat_natCast];refine Q2 (p.fine g G) ?_
  refine Y7q L.length (fun m k S z=>?_) (fun m=>?_) (by omega)
  .show Q0v F (H,l,D,rs) ps (A,L) (B,w) (i:Int) (⟨cn (elS w.zones_ w.day_ w.most_ (gl ps i).t_)⟩,0) t m (k:Int)=_
   unfold Q0v;refine Z4 (decide_eq_true (by simp only;omega)) (Q7 (by simp only;omega) (Q7 (by omega) ?_))
   simp only [Int.toNat_natCast];refine Q2 (p.line hF G S) (Q5 rfl ?_)
   have n:=p.tr G;have c:=W2G w (gl l i) (gl ps i) (gl L k)
   have j:∀ x y,(lnT w (gl l i) (gl ps i) (gl L k)).Y x y=true->(lnT w (gl l i) (gl ps i) (gl L k)).N x y=true->False:=fun x y f e=>W0c x y f e
   have o:Z0K (gl l i).s_ (gl L k).N_≠false->∀ u v,_:=fun I u v=>W3y (w:=w) (parcel:=gl ps i) u v I
   have d:Z0K (gl l i).s_ (gl L k).N_=false->_:=fun I=>W2Z (w:=w) (parcel:=gl ps i) (s:=gl L k) I
   generalize lnT w (gl l i) (gl ps i) (gl L k)=P at c j o d ⊢;have r:=c.vY n
   have C:=c.vN n;have E:=c.vO n
   have Q:=W0A (L:=w.zones_) (p.ptr G) w.day_ w.most_;have M:=Y5y n c j
   have a1:=Y1X r;have a2:=Y1X C
   have a3:=Y1X E;have a4:=Y1X n.val
   unfold Q1q;refine Q5 rfl ?_
   simp only [Int.toNat_natCast];refine Q2 (Q3e g r) (Q2 (Q3e g C) (Q7 (Z7 (by simp only [TS.t3];omega) (by simp only [TS.t3];omega)) (Q2 (Q3e g E) (Q7 (Z7 (by simp only [TS.t3];omega) (by simp only [TS.t3];omega)) (Q2 (Q3e g n.val) ?_)))))
   refine Q5 (by rw [bne_eq_false_iff_eq];exact M) ?_;have U:Q3F (P.t3 (gl l i).g_.t_).true_ (P.t3 (gl l i).g_.t_).unknown_=false:=Y2V r E fun x y f e=>by
    have f:inR (cn P.Y) x y=true:=f;have e:inR (cn (P.O (gl l i).g_.t_)) x y=true:=e
    rw [J5 c.fY] at f;rw [J5 c.fO] at e
    unfold TS.O at e;rw [f] at e
    simp at e
   have m2:Q3F (P.t3 (gl l i).g_.t_).true_ (P.t3 (gl l i).g_.t_).false_=false:=Y2V r C fun x y f e=>by
    have f:inR (cn P.Y) x y=true:=f;have e:inR (cn P.N) x y=true:=e
    rw [J5 c.fY] at f;rw [J5 c.fN] at e
    exact j x y f e
   have W:Z5y (P.t3 (gl l i).g_.t_).true_ ⟨cn (elS w.zones_ w.day_ w.most_ (gl ps i).t_)⟩=true:=(Z6S (a:=(P.t3 (gl l i).g_.t_).true_) (b:=⟨cn (elS w.zones_ w.day_ w.most_ (gl ps i).t_)⟩) r Q).2 fun x y h=>by
    have h:inR (cn P.Y) x y=true:=h;rw [J5 c.fY] at h
    show inR (cn (elS w.zones_ w.day_ w.most_ (gl ps i).t_)) x y=true;rw [J5 (Y3f _ _ _ _)]
    by_cases q:Z0K (gl l i).s_ (gl L k).N_=false
    .rw [(d q).1] at h;cases h
    .exact (o q x y).1 h
   have T:Z5y (P.t3 (gl l i).g_.t_).unknown_ ⟨cn (elS w.zones_ w.day_ w.most_ (gl ps i).t_)⟩=true:=(Z6S (a:=(P.t3 (gl l i).g_.t_).unknown_) (b:=⟨cn (elS w.zones_ w.day_ w.most_ (gl ps i).t_)⟩) E Q).2 fun x y h=>by
    have h:inR (cn (P.O (gl l i).g_.t_)) x y=true:=h;rw [J5 c.fO] at h
    show inR (cn (elS w.zones_ w.day_ w.most_ (gl ps i).t_)) x y=true;rw [J5 (Y3f _ _ _ _)]
    by_cases q:Z0K (gl l i).s_ (gl L k).N_=false
    .rw [(d q).2] at h;cases h
    .exact (o q x y).2 h
   have w3:Z5y (P.t3 (gl l i).g_.t_).false_ (gl l i).g_=true:=(Z6S (a:=(P.t3 (gl l i).g_.t_).false_) C n.val).2 fun x y h=>by
    have h:inR (cn P.N) x y=true:=h;rw [J5 c.fN] at h
    exact c.sN x y h
   refine Q2 (Z2h g _ _) (Q5 U (Q2 (Z2h g _ _) (Q5 m2 (Q2 (Z0D g _ _) (Q5 (congrArg (!·) W) (Q2 (Z0D g _ _) (Q5 (congrArg (!·) T) (Q2 (Z0D g _ _) ?_))))))));rw [w3]
   unfold U9;simp only [Int.toNat_natCast]
   have R:Q0u F (k:Int) m false=some true:=by
    unfold Q0u;exact Q5 rfl (Q7 (Z7 (by omega) (by omega)) z)
   refine Q5 rfl (Q7 (Y2u (p.one S)) (Q6 (fun q=>?_) fun q=>R));rw [Z2A] at q
   obtain ⟨y1,y2⟩:=d (by simpa using q);have l1:(P.t3 (gl l i).g_.t_).true_.t_=[]:=by
    show cn P.Y=[];rw [y1,Y1I]
   have l2:(P.t3 (gl l i).g_.t_).unknown_.t_=[]:=by
    show cn (P.O (gl l i).g_.t_)=[];rw [y2,Y1I]
   rw [l1,l2];exact Q7 (Z7 (by simp) (by simp)) R
  .show Q0v F (H,l,D,rs) ps (A,L) (B,w) (i:Int) (⟨cn (elS w.zones_ w.day_ w.most_ (gl ps i).t_)⟩,0) t m (L.length:Int)=_
   unfold Q0v;refine Q5 (decide_eq_false (by simp only;omega)) ?_
   unfold Q3j;exact Q7 (Z7 (by omega) (by omega)) K
 .show Q0w F (H,l,D,rs) ps (A,L) (B,w) t (l.length:Int)=_
  unfold Q0w;refine Q5 (decide_eq_false (by simp only;omega)) ?_
  unfold Q3i;exact Q2 (Y2W hF) rfl
end
end
end Go.Ab
