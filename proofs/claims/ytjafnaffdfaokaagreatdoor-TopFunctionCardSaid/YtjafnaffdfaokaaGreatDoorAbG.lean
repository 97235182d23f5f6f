/- Abstract states over the model. -/
import Derived.Test.YtjafnaffdfaokaaGreatDoorAbF
import Derived.Test.YtjafnaffdfaokaaGreatDoorLwE
set_option linter.unusedVariables false
set_option linter.unusedSimpArgs false
set_option maxRecDepth 20000
namespace Go.Ab
noncomputable section
section
def TS.pt(s:TS)(h:Sq):TS:=⟨fun u v=>s.Y u v&&h u v,fun u v=>s.N u v&&h u v⟩
section
variable {A B:List Rect} {h:Sq} (hB:∀ u v,Q4 B u v=(Q4 A u v&&h u v)) {hs:List Rg_} {cs:List Crop} {zs:List A2_} {y c d:Int}
include hB
theorem Pf(b:Bool):WX B b=(WX A b).pt h:=by
 have e:Q4 B=fun u v=>Q4 A u v&&h u v:=by funext u v;exact hB u v
 cases b
 .show TS.mk (fun _ _=>false) (Q4 B)=TS.mk (fun u v=>false&&h u v) (fun u v=>Q4 A u v&&h u v)
  rw [e];rfl
 .show TS.mk (Q4 B) (fun _ _=>false)=TS.mk (fun u v=>Q4 A u v&&h u v) (fun u v=>false&&h u v)
  rw [e];rfl
theorem Q1e(S:Sq):WS B S=(WS A S).pt h:=by
 simp only [WS,TS.pt];congr 1 <;> funext u v <;> rw [hB] <;> cases Q4 A u v <;> cases S u v <;> cases h u v <;> rfl
theorem bm(k:Int)(p:Int->Bool)(u v:Int):Wd B hs k p u v=(Wd A hs k p u v&&h u v):=by
 unfold Wd;rw [hB]
 cases Q4 A u v <;> cases h u v <;> cases Q4 (Zd hs k p) u v <;> rfl
theorem kg(f:Int):∀ k,YJ B hs cs y f k=(YJ A hs cs y f k).pt h
 | 0=>by
  simp only [YJ,TS.pt];congr 1 <;> funext u v
  .exact hB u v
 | k+1=>by
  have a:=kg f k;unfold YJ
  rw [a];simp only [TS.pt]
  congr 1 <;> funext u v <;> rw [bm hB]
  .cases (YJ A hs cs y f k).Y u v <;> cases h u v <;> cases Wd A hs _ _ u v <;> rfl
  .cases (YJ A hs cs y f k).N u v <;> cases h u v <;> cases Wd A hs _ _ u v <;> rfl
theorem Z3j(t:Term):UQ y cs hs zs d c B t=(UQ y cs hs zs d c A t).pt h:=by
 unfold UQ
 repeat' split
 .exact Pf hB _
 .exact Pf hB _
 .exact Pf hB _
 .exact Q1e hB _
 .exact kg hB _ _
 .simp only [TS.pt]
  congr 1 <;> funext u v <;> exact bm hB _ _ u v
 .exact Q1e hB _
 .exact Pf hB _
omit hB in
theorem vq{α:Type}(f g:α->Sq):∀ (l:List α),(∀ k ∈ l,∀ u v,g k u v=(f k u v&&h u v))->∀ (u v:Int) (b:Bool),((b&&h u v)&&l.all fun k=>g k u v)=((b&&l.all fun k=>f k u v)&&h u v)
 | [],_,u,v,b=>by simp
 | k::l,hk,u,v,b=>by
  have a:=vq f g l (fun j e=>hk j (by simp [e])) u v b;simp only [List.all_cons]
  rw [hk k (by simp)]
  cases hh:h u v with
  | false=>simp
  | true=>
   rw [hh] at a;simp only [Bool.and_true] at a ⊢
   cases f k u v with
   | false=>simp
   | true=>simpa using a
omit hB in
theorem vn{α:Type}(f g:α->Sq):∀ (l:List α),(∀ k ∈ l,∀ u v,g k u v=(f k u v&&h u v))->∀ (u v:Int),(l.any fun k=>g k u v)=((l.any fun k=>f k u v)&&h u v)
 | [],_,u,v=>by simp
 | k::l,hk,u,v=>by
  have a:=vn f g l (fun j b=>hk j (by simp [b])) u v;simp only [List.any_cons]
  rw [hk k (by simp),a]
  cases f k u v <;> cases h u v <;> simp
theorem yB:∀ (e:Nat) (t:Term),Qe y cs hs zs d c B e t=(Qe y cs hs zs d c A e t).pt h
 | 0,_=>Pf hB _
 | e+1,t=>by
  have a:∀ k u v,(Qe y cs hs zs d c B e k).Y u v=((Qe y cs hs zs d c A e k).Y u v&&h u v):=fun k u v=>by rw [yB e k];rfl
  have b:∀ k u v,(Qe y cs hs zs d c B e k).N u v=((Qe y cs hs zs d c A e k).N u v&&h u v):=fun k u v=>by rw [yB e k];rfl
  unfold Qe;split
  .simp only [TS.pt]
   congr 1 <;> funext u v
   .rw [hB];exact vq _ _ _ (fun k _ u v=>a k u v) u v _
   .exact vn _ _ _ (fun k _ u v=>b k u v) u v
  split
  .simp only [TS.pt]
   congr 1 <;> funext u v
   .exact vn _ _ _ (fun k _ u v=>a k u v) u v
   .rw [hB];exact vq _ _ _ (fun k _ u v=>b k u v) u v _
  split
  .simp only [TS.pt]
   congr 1 <;> funext u v
   .exact b _ u v
   .exact a _ u v
  .exact Z3j hB t
theorem Q9Z{s:TS}(G:Sq):Ww B (s.pt h) G=(Ww A s G).pt h:=by
 simp only [Ww,TS.pt,TS.O];congr 1 <;> funext u v
 .cases s.Y u v <;> cases h u v <;> cases G u v <;> rfl
 .rw [hB]
  cases Q4 A u v <;> cases s.Y u v <;> cases s.N u v <;> cases h u v <;> cases G u v <;> rfl
end
theorem bf{w:World}{x:Line}{B:List Rect}{h:Sq}(hB:∀ u v,Q4 B u v=(Q4 x.g_.t_ u v&&h u v))(parcel:Re_)(s:Scheme):Yn w ⟨x.p_,⟨B⟩,x.c_,x.s_⟩ parcel s=(Yn w x parcel s).pt h:=by
 unfold Yn
 by_cases q:ZG x.s_ s.N_=false
 .rw [if_pos q,if_pos q]
  exact Pf hB false
 .rw [if_neg q,if_neg q]
  show Ww B (Qe _ _ _ _ _ _ B 3 _) _=_;rw [yB hB,Q9Z hB]
theorem TR.part{A:List Rect}(hA:TR A){S:Sq}(hf:Fin S)(hs:∀ u v,S u v=true->Q4 A u v=true):TR (cn S):=⟨hA.sub hf hs,fun a b=>hA.sub a fun u v h=>hs u v (by have:=b u v h;rwa [ZM hf] at this)⟩
end
end
end Go.Ab
