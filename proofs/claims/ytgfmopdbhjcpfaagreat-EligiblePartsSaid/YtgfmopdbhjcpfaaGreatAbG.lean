/- Abstract states over the model. -/
import Derived.Test.YtgfmopdbhjcpfaaGreatAbF
import Derived.Test.YtgfmopdbhjcpfaaGreatLwE
import Derived.Test.YtgfmopdbhjcpfaaGreatAbD
import Derived.Test.YtgfmopdbhjcpfaaGreatAbE
set_option linter.unusedVariables false
set_option linter.unusedSimpArgs false
set_option maxRecDepth 20000
namespace Go.Ab
noncomputable section
section
section
variable {A:List Rect} {hs:List Rg_} {cs:List Crop} {zs:List A2_} {y c d:Int}
end
end
section
def TS.pt (s:TS) (h:Sq):TS:=⟨fun u v=>s.Y u v&&h u v,fun u v=>s.N u v&&h u v⟩
section
variable {A B:List Rect} {h:Sq} (hB:∀ u v,inR B u v=(inR A u v&&h u v)) {hs:List Rg_} {cs:List Crop} {zs:List A2_} {y c d:Int}
include hB
theorem Z5V (b:Bool):Z6m B b=(Z6m A b).pt h:=by
 have e:inR B=fun u v=>inR A u v&&h u v:=by funext u v;exact hB u v
 cases b
 ·show TS.mk (fun _ _=>false) (inR B)=TS.mk (fun u v=>false&&h u v) (fun u v=>inR A u v&&h u v)
  rw [e];rfl
 ·show TS.mk (inR B) (fun _ _=>false)=TS.mk (fun u v=>inR A u v&&h u v) (fun u v=>false&&h u v)
  rw [e];rfl
theorem Y6D (S:Sq):Z9p B S=(Z9p A S).pt h:=by
 simp only [Z9p,TS.pt];congr 1 <;> funext u v <;> rw [hB] <;> cases inR A u v <;> cases S u v <;> cases h u v <;> rfl
theorem W0K (k:Int) (p:Int->Bool) (u v:Int):knS B hs k p u v=(knS A hs k p u v&&h u v):=by
 unfold knS;rw [hB]
 cases inR A u v <;> cases h u v <;> cases inR (yrs hs k p) u v <;> rfl
theorem W0D (f:Int):∀ k,smS B hs cs y f k=(smS A hs cs y f k).pt h
 | 0=>by
  simp only [smS,TS.pt];congr 1 <;> funext u v
  ·exact hB u v
 | k+1=>by
  have a:=W0D f k;unfold smS
  rw [a];simp only [TS.pt]
  congr 1 <;> funext u v <;> rw [W0K hB]
  ·cases (smS A hs cs y f k).Y u v <;> cases h u v <;> cases knS A hs _ _ u v <;> rfl
  ·cases (smS A hs cs y f k).N u v <;> cases h u v <;> cases knS A hs _ _ u v <;> rfl
theorem W1J (t:Term):atS y cs hs zs d c B t=(atS y cs hs zs d c A t).pt h:=by
 unfold atS
 repeat' split
 ·exact Z5V hB _
 ·exact Z5V hB _
 ·exact Z5V hB _
 ·exact Y6D hB _
 ·exact W0D hB _ _
 ·simp only [TS.pt]
  congr 1 <;> funext u v <;> exact W0K hB _ _ u v
 ·exact Y6D hB _
 ·exact Z5V hB _
omit hB in
theorem Y5R {α:Type} (f g:α->Sq):∀ (l:List α),(∀ k ∈ l,∀ u v,g k u v=(f k u v&&h u v))->∀ (u v:Int) (b:Bool),((b&&h u v)&&l.all fun k=>g k u v)=((b&&l.all fun k=>f k u v)&&h u v)
 | [],_,u,v,b=>by simp
 | k::l,hk,u,v,b=>by
  have a:=Y5R f g l (fun j e=>hk j (by simp [e])) u v b;simp only [List.all_cons]
  rw [hk k (by simp)]
  cases hh:h u v with
  | false=>simp
  | true=>
   rw [hh] at a;simp only [Bool.and_true] at a ⊢
   cases f k u v with
   | false=>simp
   | true=>simpa using a
omit hB in
theorem Y5P {α:Type} (f g:α->Sq):∀ (l:List α),(∀ k ∈ l,∀ u v,g k u v=(f k u v&&h u v))->∀ (u v:Int),(l.any fun k=>g k u v)=((l.any fun k=>f k u v)&&h u v)
 | [],_,u,v=>by simp
 | k::l,hk,u,v=>by
  have a:=Y5P f g l (fun j b=>hk j (by simp [b])) u v;simp only [List.any_cons]
  rw [hk k (by simp),a]
  cases f k u v <;> cases h u v <;> simp
theorem Y8G:∀ (e:Nat) (t:Term),evS y cs hs zs d c B e t=(evS y cs hs zs d c A e t).pt h
 | 0,_=>Z5V hB _
 | e+1,t=>by
  have b:∀ k u v,(evS y cs hs zs d c B e k).Y u v=((evS y cs hs zs d c A e k).Y u v&&h u v):=fun k u v=>by rw [Y8G e k];rfl
  have a:∀ k u v,(evS y cs hs zs d c B e k).N u v=((evS y cs hs zs d c A e k).N u v&&h u v):=fun k u v=>by rw [Y8G e k];rfl
  unfold evS;split
  ·simp only [TS.pt]
   congr 1 <;> funext u v
   ·rw [hB];exact Y5R _ _ _ (fun k _ u v=>b k u v) u v _
   ·exact Y5P _ _ _ (fun k _ u v=>a k u v) u v
  split
  ·simp only [TS.pt]
   congr 1 <;> funext u v
   ·exact Y5P _ _ _ (fun k _ u v=>b k u v) u v
   ·rw [hB];exact Y5R _ _ _ (fun k _ u v=>a k u v) u v _
  split
  ·simp only [TS.pt]
   congr 1 <;> funext u v
   ·exact a _ u v
   ·exact b _ u v
  ·exact W1J hB t
theorem W1f {s:TS} (G:Sq):Z4j B (s.pt h) G=(Z4j A s G).pt h:=by
 simp only [Z4j,TS.pt,TS.O];congr 1 <;> funext u v
 ·cases s.Y u v <;> cases h u v <;> cases G u v <;> rfl
 ·rw [hB]
  cases inR A u v <;> cases s.Y u v <;> cases s.N u v <;> cases h u v <;> cases G u v <;> rfl
theorem W1L (s:TS) (u v:Int):(s.pt h).O B u v=(s.O A u v&&h u v):=by
 simp only [TS.pt,TS.O];rw [hB]
 cases inR A u v <;> cases s.Y u v <;> cases s.N u v <;> cases h u v <;> rfl
end
theorem W0J {w:World} {x:Line} {B:List Rect} {h:Sq} (hB:∀ u v,inR B u v=(inR x.g_.t_ u v&&h u v)) (parcel:Re_) (s:Scheme):lnT w ⟨x.p_,⟨B⟩,x.c_,x.s_⟩ parcel s=(lnT w x parcel s).pt h:=by
 unfold lnT
 by_cases q:Z3e x.s_ s.N_=false
 ·rw [if_pos q,if_pos q]
  exact Z5V hB false
 ·rw [if_neg q,if_neg q]
  show Z4j B (evS _ _ _ _ _ _ B 3 _) _=_;rw [Y8G hB,W1f hB]
theorem TR.part {A:List Rect} (hA:TR A) {S:Sq} (hf:Fin S) (hs:∀ u v,S u v=true->inR A u v=true):TR (cn S):=⟨hA.sub hf hs,fun b a=>hA.sub b fun u v h=>hs u v (by have:=a u v h;rwa [Q1b hf] at this)⟩
theorem Y1d {F:Nat} (hF:BIG<=F) {a b:Re_} (ha:Val a.t_) (hb:Val b.t_):Q8U F a b=some (lim (cn fun x y=>G3 (inR a.t_ x y) (inR b.t_ x y) 2)):=by
 unfold Q8U;exact Q4 (Q8Q hF ha hb 2) rfl
theorem Z3x {F:Nat} (hF:BIG+3<=F) (tape:List Int) {x:Int} (hx:0<=x/\x<=255):Q1D F tape x=some true:=by
 have hB:BIG<=F:=by omega
 have T:=hB;unfold BIG at T
 obtain ⟨t0,t1,R,N,Q,cs,l,M,K,r,L,w,e0,e1,e2,e3,e4,e5,m,_,h3⟩:=Y9E hF tape (most:=2) (by omega) (by omega);have a3:=m.lt.len
 have b3:=m.prc.len;obtain ⟨c1,c2⟩:=Y4O hx.1 (n:=28) (by omega)
 unfold Q1D;refine Q4 e0 (Q4 e1 (Q4 e2 (Q4 e3 (Q4 e4 (Q4 e5 (Z3 (Y3 (by omega) (by omega)) (Z3 (by omega) (Z3 (Y3 (by omega) (by omega)) ?_))))))))
 have j:Val [(⟨0,0,1+x.tmod 28,20⟩:Rect)]:=val_one ((Q0g _).2 (by simp only;omega));generalize hH:[(⟨0,0,1+x.tmod 28,20⟩:Rect)]=H at j
 refine Y5z l.length (fun z i s U=>?_) (fun z=>?_) (by omega)
 ·show Q0F F x (R,l,M,K) r (N,L) (Q,w) z (i:Int)=_
  unfold Q0F;rw [hH]
  have q:=m.tr s;refine Z8 (decide_eq_true (by simp only;omega)) (Z3 (by simp only;omega) ?_)
  simp only [Int.toNat_natCast];have X:Fin fun u v=>inR (gl l i).g_.t_ u v&&inR H u v:=Q4l _ _ 2
  have f2:Fin fun u v=>inR (gl l i).g_.t_ u v && !inR H u v:=Q4l _ _ 3
  have G:=q.part X fun u v h=>(Bool.and_eq_true _ _ ▸ h).1
  have E:=q.part f2 fun u v h=>(Bool.and_eq_true _ _ ▸ h).1
  have b1:Q8U F (gl l i).g_ ⟨H⟩=some (⟨cn fun u v=>inR (gl l i).g_.t_ u v&&inR H u v⟩,0):=by
   rw [Y1d hB q.val j];exact congrArg some (Y0l G.val)
  have b2:Q4w F (gl l i).g_ ⟨H⟩=some (⟨cn fun u v=>inR (gl l i).g_.t_ u v && !inR H u v⟩,0):=by
   rw [Z8Q hB q.val j];exact congrArg some (Y0l E.val)
  refine Q4 b1 (Q4 b2 ?_);have J:∀ u v,inR (cn fun u v=>inR (gl l i).g_.t_ u v&&inR H u v) u v=(inR (gl l i).g_.t_ u v&&inR H u v):=fun u v=>Q1b X u v
  have I:∀ u v,inR (cn fun u v=>inR (gl l i).g_.t_ u v && !inR H u v) u v=(inR (gl l i).g_.t_ u v && !inR H u v):=fun u v=>Q1b f2 u v
  generalize (cn fun u v=>inR (gl l i).g_.t_ u v&&inR H u v)=Y at G J ⊢;generalize (cn fun u v=>inR (gl l i).g_.t_ u v && !inR H u v)=Z at E I ⊢
  refine Y5z L.length (fun p k S C=>?_) (fun p=>?_) (by omega)
  ·show Q0E F (R,l,M,K) r (N,L) (Q,w) (i:Int) (⟨Y⟩,0) (⟨Z⟩,0) z p (k:Int)=_
   unfold Q0E;have t:=(m.lin.one _ (V6 s)).crop
   have D:=(m.lt.st _ (V6 S)).sd;have l1:=m.line hF s S
   have V:=Z8W hF m.w (x:=⟨(gl l i).p_,⟨Y⟩,(gl l i).c_,(gl l i).s_⟩) G t D (m.one S) (m.ptr s) fun u v h=>m.sub s u v (by
    have h:inR Y u v=true:=h;rw [J,Bool.and_eq_true] at h
    exact h.1)
   have W:=Z8W hF m.w (x:=⟨(gl l i).p_,⟨Z⟩,(gl l i).c_,(gl l i).s_⟩) E t D (m.one S) (m.ptr s) fun u v h=>m.sub s u v (by
    have h:inR Z u v=true:=h;rw [I,Bool.and_eq_true] at h
    exact h.1)
   have o:=Y6k w (gl l i) (gl r i) (gl L k);have f:TIn Y _:=Y6k w ⟨(gl l i).p_,⟨Y⟩,(gl l i).c_,(gl l i).s_⟩ (gl r i) (gl L k)
   have g:TIn Z _:=Y6k w ⟨(gl l i).p_,⟨Z⟩,(gl l i).c_,(gl l i).s_⟩ (gl r i) (gl L k);rw [W0J J] at V f
   rw [W0J I] at W g;generalize lnT w (gl l i) (gl r i) (gl L k)=P at l1 V W o f g
   have u1:Q3C F ⟨cn (P.pt (inR H)).Y⟩ ⟨cn (P.pt fun u v=> !inR H u v).Y⟩=some (⟨cn P.Y⟩,0):=by
    rw [Z4Z hB (a:=⟨cn (P.pt (inR H)).Y⟩) (b:=⟨cn (P.pt fun u v=> !inR H u v).Y⟩) (f.vY G) (g.vY E)];have e:(fun u v=>G3 (inR (cn (P.pt (inR H)).Y) u v) (inR (cn (P.pt fun u v=> !inR H u v).Y) u v) 1)=P.Y:=by
     funext u v
     rw [Q1b f.fY,Q1b g.fY];simp only [G3,TS.pt]
     cases P.Y u v <;> cases inR H u v <;> rfl
    simp only
    rw [e,Y0l (o.vY q)]
   have u2:Q3C F ⟨cn ((P.pt (inR H)).O Y)⟩ ⟨cn ((P.pt fun u v=> !inR H u v).O Z)⟩=some (⟨cn (P.O (gl l i).g_.t_)⟩,0):=by
    rw [Z4Z hB (a:=⟨cn ((P.pt (inR H)).O Y)⟩) (b:=⟨cn ((P.pt fun u v=> !inR H u v).O Z)⟩) (f.vO G) (g.vO E)];have e:(fun u v=>G3 (inR (cn ((P.pt (inR H)).O Y)) u v) (inR (cn ((P.pt fun u v=> !inR H u v).O Z)) u v) 1)=P.O (gl l i).g_.t_:=by
     funext u v
     rw [Q1b f.fO,Q1b g.fO,W1L J,W1L I];simp only [G3]
     cases P.O (gl l i).g_.t_ u v <;> cases inR H u v <;> rfl
    simp only
    rw [e,Y0l (o.vO q)]
   have k2:V5 F (k:Int) p false=some true:=by
    unfold V5;exact Q9 rfl (Z3 (Y3 (by omega) (by omega)) C)
   refine Z8 (decide_eq_true (by simp only;omega)) (Z3 (by simp only;omega) (Z3 (by omega) ?_));simp only [Int.toNat_natCast]
   refine Q4 l1 (Z3 (by omega) (Q4 V (Z3 (by omega) (Q4 W (Q4 u1 (Q4 u2 (Q9 rfl (Q9 rfl (Q9 rfl (Q9 rfl (Q9 rfl (Q4 (Y2w hB (v:=⟨cn P.Y⟩) (o.vY q).1) (Q9 rfl (Q4 (Y2w hB (v:=⟨cn (P.O (gl l i).g_.t_)⟩) (o.vO q).1) k2))))))))))))))
  ·show Q0E F (R,l,M,K) r (N,L) (Q,w) (i:Int) (⟨Y⟩,0) (⟨Z⟩,0) z p (L.length:Int)=_
   unfold Q0E;refine Q9 (decide_eq_false (by simp only;omega)) ?_
   unfold Q3R;exact Z3 (Y3 (by omega) (by omega)) U
 ·show Q0F F x (R,l,M,K) r (N,L) (Q,w) z (l.length:Int)=_
  unfold Q0F;refine Q9 (decide_eq_false (by simp only;omega)) ?_
  unfold Q3Q;exact Q4 (Y1m hF) rfl
end
section
variable {A:List Rect}
variable {w:World} (hw:WT w) (h9:∀ u v,inR A u v=true->9<=u)
include hw h9
end
section
section
variable (w:World) (rs:List Re_) (s:Scheme) (sel:Line->TS->Sq)
end
section
variable {w:World} {rs:List Re_} {s:Scheme} {sel:Line->TS->Sq}
end
section
variable {F:Nat} {rs:List Re_} {l:List Line} {ps:List Re_} {L:List Scheme} {w:World}
end
end
end
end Go.Ab
