/- Abstract states over the model. -/
import Derived.Test.YtgfmopdbhjcpfaaGreatAbF
import Derived.Test.YtgfmopdbhjcpfaaGreatLwE
import Derived.Test.YtgfmopdbhjcpfaaGreatAbD
import Derived.Test.YtgfmopdbhjcpfaaGreatAbE
set_option linter.unusedVariables false
set_option linter.unusedSimpArgs false
set_option maxRecDepth 20000
namespace Go.Ab
noncomputable section
section
section
variable {A:List Rect} {hs:List Rg_} {cs:List Crop} {zs:List A2_} {y c d:Int}
theorem Y9Y(h:HL hs){k:Int}{p q:Int->Bool}(hpq:∀ f ∈ hs,q f.c_=!p f.c_){u v:Int}(h1:knS A hs k p u v=true)(h2:knS A hs k q u v=true):False:=by
 unfold knS at h1 h2;rw [Z9Q h k p q hpq] at h2
 rw [Bool.and_eq_true] at h1;rw [h1.2] at h2
 simp at h2
theorem Z6B(b:Bool){u v:Int}(h1:(Z6C A b).Y u v=true)(h2:(Z6C A b).N u v=true):False:=by
 cases b
 .cases h1
 .cases h2
theorem Y9z(h:HL hs)(f:Int){u v:Int}:∀ k,(smS A hs cs y f k).Y u v=true->(smS A hs cs y f k).N u v=true->False
 | 0,_,a=>by cases a
 | k+1,h1,a=>by
  unfold smS at h1 a;simp only [Bool.and_eq_true,Bool.or_eq_true] at h1 a
  rcases a with a|a
  .exact Y9z h f k h1.1 a
  .exact Y9Y h (fun _ _=>rfl) h1.2 a
theorem Y8e{S:Sq}{u v:Int}(h1:(Z8A A S).Y u v=true)(h2:(Z8A A S).N u v=true):False:=by
 simp only [Z8A,Bool.and_eq_true] at h1 h2;rw [h1.2] at h2
 simp at h2
theorem W3e(h:HL hs)(t:Term){u v:Int}:(atS y cs hs zs d c A t).Y u v=true->(atS y cs hs zs d c A t).N u v=true->False:=by
 unfold atS
 repeat' split
 .exact Z6B _
 .exact Z6B _
 .exact Z6B _
 .exact Y8e
 .exact Y9z h _ _
 .exact fun a b=>Y9Y h (fun _ _=>rfl) a b
 .exact Y8e
 .exact Z6B _
theorem Y4V(h:HL hs){u v:Int}:∀ (e:Nat) (t:Term),(evS y cs hs zs d c A e t).Y u v=true->(evS y cs hs zs d c A e t).N u v=true->False
 | 0,_=>Z6B _
 | e+1,t=>by
  unfold evS;split
  .intro a b
   simp only [Bool.and_eq_true,List.all_eq_true,List.any_eq_true] at a b;obtain ⟨k,f,b⟩:=b
   exact Y4V h e k (a.2 k f) b
  split
  .intro a b
   simp only [Bool.and_eq_true,List.all_eq_true,List.any_eq_true] at a b;obtain ⟨k,f,a⟩:=a
   exact Y4V h e k a (b.2 k f)
  split
  .exact fun a b=>Y4V h e _ b a
  .exact W3e h t
end
theorem W1A{A:List Rect}{s:TS}(h:TIn A s)(hd:∀ u v,s.Y u v=true->s.N u v=true->False){G:Sq}(hG:∀ u v,inR A u v=true->G u v=true):Z7l A s G=s:=by
 obtain ⟨Y,N⟩:=s;have g:(fun u v=>Y u v&&G u v)=Y:=by
  funext u v
  cases hy:Y u v with
  | false=>rfl
  | true=>rw [hG u v (h.sY u v hy)];rfl
 have f:(fun u v=>inR A u v && !((Y u v&&G u v)||(TS.O A ⟨Y,N⟩ u v&&G u v)))=N:=by
  funext u v
  unfold TS.O;have e:=h.sY u v
  have a:=h.sN u v;have b:=hd u v
  have i:=hG u v;simp only at e a b ⊢
  cases hA:inR A u v <;> cases hY:Y u v <;> cases hN:N u v <;> simp_all
 unfold Z7l;simp only
 rw [g,f]
def k12(f:A2_):Bool:=decide (12<=f.k_)
theorem W2l{k:Int}(h:12<=k):zp 0 k=false/\zp 1 k=false:=by
 unfold zp zs;rw [if_neg (by omega),if_neg (by omega)]
 exact ⟨rfl,rfl⟩
theorem Y3Y{L:List A2_}{d:Int}{p:Int->Bool}(h:∀ f ∈ L,p f.k_=false):V8 L d p=[]:=by
 unfold V8;rw [List.filter_eq_nil_iff.2 fun f a=>by rw [h f a];simp]
 rfl
theorem W3t{L:List A2_}(h:∀ f ∈ L,12<=f.k_)(d m:Int)(a:List Rect):elS L d m a=inR a:=by
 have j:V8 L d (zp 0)=[]:=Y3Y fun f e=>(W2l (h f e)).1
 have g:V8 L d (zp 1)=[]:=Y3Y fun f e=>(W2l (h f e)).2
 have b:Z7P ([]:List Rect)=[]:=by decide +kernel
 have i:Z1u L d m a=[]:=by
  unfold Z1u Z3i;rw [g]
  show List.flatten (List.filter _ (Z7P (cn fun _ _=>false)))=[];rw [Z8B,b];rfl
 funext u v
 unfold elS;rw [j,i]
 show (_ && !(false||false))=_;simp
def World.zn(w:World)(Z:List A2_):World:=⟨w.y_,w.crops_,w.history_,Z,w.day_,w.most_⟩
theorem WT.hi{w:World}(h:WT w):WT (w.zn (w.zones_.filter k12)):=
 ⟨h.yr,h.crops,h.his,h.hlen,⟨⟨Nat.le_trans (List.length_filter_le _ _) h.zon.vl.len,fun f a=>h.zon.vl.one f (List.mem_filter.1 a).1,h.zon.vl.asc.filter _⟩,fun f a=>h.zon.fea f (List.mem_filter.1 a).1⟩,Nat.le_trans (List.length_filter_le _ _) h.zlen,h.day,h.most⟩
theorem TB.hi{rs:List Re_}{l:List Line}{ps:List Re_}{L:List Scheme}{w:World}(h:TB rs l ps L w):TB rs l ps L (w.zn (w.zones_.filter k12)):=⟨h.par,h.lin,h.prc,h.lt,h.good,h.w.hi⟩
theorem TB.eval{F:Nat}(hF:BIG+3<=F){rs:List Re_}{l:List Line}{ps:List Re_}{L:List Scheme}{w:World}(h:TB rs l ps L w){i:Nat}(hi:i<l.length){k:Nat}(hk:k<L.length):
  Z1J F (gl L k).cond_ (gl l i) w.y_ w.crops_ w.history_ w.zones_ w.day_=some ((evS w.y_ w.crops_ w.history_ w.zones_ w.day_ (gl l i).c_ (gl l i).g_.t_ 3 (gl L k).cond_).t3 (gl l i).g_.t_,0):=by
 have f:=h.tr hi;have b:=(h.lin.one _ (V4 hi)).crop
 have g:=h.w.hlen;have a:=h.w.chk f b (Y0j (h.one hk)).2.2.2.2.2.1
 rw [Y3s (e:=3) (by omega) hF (h.lt.st _ (V4 hk)).sd.cond (by omega) fun _=>h.w.ev f b];unfold Q6C
 rw [if_neg (by rw [a];simp)]
theorem Y5n{F:Nat}(hF:BIG<=F){t:Truth}(h1:t.true_.t_.length<=120)(h2:t.false_.t_.length<=120)(h3:t.unknown_.t_.length<=120):Z1e F t t=some true:=by
 unfold Z1e;exact Q2 (Z9Y hF h1) (Z6 rfl (Q2 (Z9Y hF h2) (Z6 rfl (Q2 (Z9Y hF h3) rfl))))
theorem Z4p{F:Nat}(hF:BIG+3<=F)(tape:List Int):Q3h F tape=some true:=by
 have S:BIG<=F:=by omega
 have M:=S;unfold BIG at M
 obtain ⟨t0,t1,D,t,G,cs,l,C,H,p,L,w,e0,Y,T,e3,e4,e5,E,_,h3⟩:=W1j hF tape (most:=3) (by omega) (by omega);have X:=E.w.zlen
 have m:=E.hi;have W:=m.lt.len
 have U:=m.prc.len;have j:∀ f ∈ w.zones_.filter k12,12<=f.k_:=fun f V=>by
  have:=(List.mem_filter.1 V).2
  unfold k12 at this;exact of_decide_eq_true this
 have B:Q1C F (D,l,C,H) p (t,L) (G,w) (w.zones_.filter k12)=some true:=by
  unfold Q1C;generalize hZ:w.zones_.filter k12=Z at m j
  refine W4 (fun z:Int×List A2_=>∃ i:Nat,z.1=i/\i<=l.length/\z.2=Z) (fun z=>l.length-z.1.toNat) (fun g z J N=>?_) ⟨0,rfl,Nat.zero_le _,rfl⟩ (by simp;omega);obtain ⟨a,s⟩:=z
  obtain ⟨i,I,hi,r⟩:=J;simp only at I r
  subst I r;show Q3X F (D,l,C,H) p (t,L) (G,w) g (i:Int) s=_
  unfold Q3X;refine Q4 (fun h=>?_) (fun h=>?_)
  .have h:i<l.length:=by have:=of_decide_eq_true h;simp only at this;omega
   refine Q6 (by simp only;omega) ?_;refine W0o L.length (fun o k K x=>?_) (fun o=>?_) (by omega)
   .show Q0E F (D,l,C,H) p (t,L) (G,w) (i:Int) s g o (k:Int)=_
    unfold Q0E;refine Z6 (decide_eq_true (by simp only;omega)) (Q6 (by simp only;omega) (Q6 (by omega) ?_))
    simp only [Int.toNat_natCast];have Q:K5 F (k:Int) o false=some true:=by
     unfold K5;exact Q7 rfl (Q6 (Z7 (by omega) (by omega)) x)
    refine Q2 (m.line hF h K) (Q2 (m.eval hF h K) (Q7 rfl (Q7 rfl (Q6 (Y2g (m.one K)) ?_))));show br (Z3R (gl l i).s_ (gl L k).N_) _ _=_
    refine Q4 (fun q=>?_) fun q=>Q
    have P:=m.tr h;have n:=W2w (w.zn s) (gl l i) (gl p i) (gl L k)
    have e:lnT (w.zn s) (gl l i) (gl p i) (gl L k)=evS w.y_ w.crops_ w.history_ s w.day_ (gl l i).c_ (gl l i).g_.t_ 3 (gl L k).cond_:=by
     unfold lnT;rw [if_neg (by rw [q];simp)]
     refine W1A (Z4Y _ _) (fun u v=>Y4V m.w.his.hl _ _) fun u v O=>?_
     show elS s w.day_ w.most_ (gl p i).t_ u v=true;rw [W3t j]
     exact m.sub h u v O
    rw [e] at n ⊢;refine Q2 (Y5n S (n.vY P).1 (n.vN P).1 (n.vO P).1) Q
   .show Q0E F (D,l,C,H) p (t,L) (G,w) (i:Int) s g o (L.length:Int)=_
    unfold Q0E;refine Q7 (decide_eq_false (by simp only;omega)) ?_
    unfold Q3W;exact Q6 (Z7 (by omega) (by omega)) (N _ ⟨i+1,by simp,h,rfl⟩ (by simp only;omega))
  .unfold Q3V
   exact Q2 (Y2G hF) rfl
 unfold Q3h;refine Q2 e0 (Q2 Y (Q2 T (Q2 e3 (Q2 e4 (Q2 e5 ?_)))))
 refine W4 (fun z:Int×List A2_=>∃ i:Nat,z.1=i/\i<=w.zones_.length/\z.2=(w.zones_.take i).filter k12) (fun z=>w.zones_.length-z.1.toNat) (fun g z J N=>?_) ⟨0,rfl,Nat.zero_le _,rfl⟩ (by simp;omega);obtain ⟨a,Z⟩:=z
 obtain ⟨i,I,hi,r⟩:=J;simp only at I r
 subst I;show Q3Y F (D,l,C,H) p (t,L) (G,w) g (i:Int) Z=_
 unfold Q3Y;refine Q4 (fun h=>?_) (fun h=>?_)
 .have h:i<w.zones_.length:=by have:=of_decide_eq_true h;simp only at this;omega
  have a6:Z.length<=3:=by
   rw [r];exact Nat.le_trans (List.length_filter_le _ _) (by rw [List.length_take];omega)
  have R:∀ b,k12 (gl w.zones_ i)=b->Q0D F (i:Int) g (Z++if b=true then [gl w.zones_ i] else [])=some true:=fun b hb=>by
   unfold Q0D;refine Q6 (Z7 (by omega) (by omega)) (N _ ⟨i+1,by simp,h,?_⟩ (by simp only;omega))
   simp only
   rw [J6 h,List.filter_append,r,List.filter_cons,hb];rfl
  refine Q6 (by simp only;omega) ?_;simp only [Int.toNat_natCast]
  refine Q4 (fun q=>?_) (fun q=>?_)
  .refine Q6 (by simp only [List.length_cons,List.length_nil];unfold LIM;omega) ?_
   exact R true q
  .have:=R false q
   simpa using this
 .have h:i=w.zones_.length:=by have:=of_decide_eq_false h;simp only at this;omega
  rw [r,h,List.take_length];exact B
end
section
section
variable {A B:List Rect} {h:Sq} (hB:∀ u v,inR B u v=(inR A u v&&h u v)) {hs:List Rg_} {cs:List Crop} {zs:List A2_} {y c d:Int}
include hB
end
end
section
variable {A:List Rect}
variable {w:World} (hw:WT w) (h9:∀ u v,inR A u v=true->9<=u)
include hw h9
end
section
section
variable (w:World) (rs:List Re_) (s:Scheme) (sel:Line->TS->Sq)
end
section
variable {w:World} {rs:List Re_} {s:Scheme} {sel:Line->TS->Sq}
end
section
variable {F:Nat} {rs:List Re_} {l:List Line} {ps:List Re_} {L:List Scheme} {w:World}
end
end
end
end Go.Ab
