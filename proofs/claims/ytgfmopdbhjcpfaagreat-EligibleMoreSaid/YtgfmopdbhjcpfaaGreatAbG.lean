/- Abstract states over the model. -/
import Derived.Test.YtgfmopdbhjcpfaaGreatAbF
import Derived.Test.YtgfmopdbhjcpfaaGreatLwE
import Derived.Test.YtgfmopdbhjcpfaaGreatAbD
import Derived.Test.YtgfmopdbhjcpfaaGreatAbE
set_option linter.unusedVariables false
set_option linter.unusedSimpArgs false
set_option maxRecDepth 20000
namespace Go.Ab
noncomputable section
section
section
variable {A:List Rect} {hs:List Rg_} {cs:List Crop} {zs:List A2_} {y c d:Int}
end
end
def World.ms (w:World) (x:Int):World:=⟨w.y_,w.crops_,w.history_,w.zones_,w.day_,w.most_+x⟩
theorem WT.ms {w:World} (h:WT w) {x:Int} (h1:0<=w.most_+x/\w.most_+x<=300):WT (w.ms x):=⟨h.yr,h.crops,h.his,h.hlen,h.zon,h.zlen,h.day,h1⟩
theorem Y9Y {L:List A2_} {d m m' : Int} (h:m<=m') {a:List Rect} {x y:Int} (hx:elS L d m a x y=true):elS L d m' a x y=true:=by
 unfold elS at hx ⊢;rw [Bool.and_eq_true,Bool.not_eq_true',Bool.or_eq_false_iff] at hx ⊢
 refine ⟨hx.1,hx.2.1,?_⟩;rw [<-Bool.not_eq_true]
 intro b;rw [Y4H h b] at hx
 cases hx.2.2
theorem Z4e {F:Nat} (hF:BIG+3<=F) (tape:List Int) {x:Int} (hx:0<=x/\x<=255):Q2c F tape x=some true:=by
 have H:BIG<=F:=by omega
 have I:=H;unfold BIG at I
 obtain ⟨t0,t1,D,t,z,cs,l,C,s,g,L,w,Z,X,e2,e3,U,e5,m,hm,h3⟩:=Y9m hF tape (most:=3) (by omega) (by omega);have a4:=m.w.most
 have E:TB s l g L (w.ms x):=⟨m.par,m.lin,m.prc,m.lt,m.good,m.w.ms (by omega)⟩;have V:=m.lt.len
 have a5:=m.prc.len;unfold Q2c
 refine Q4 Z (Q4 X (Q4 e2 (Q4 e3 (Q4 U (Q4 e5 (Z3 (Y5 (by omega) (by omega)) (Z3 (Y5 (by simp only;omega) (by simp only;omega)) ?_)))))));refine Y5n l.length (fun p i J K=>?_) (fun p=>?_) (by omega)
 ·show Q0T F x (D,l,C,s) g (t,L) (z,w) p (i:Int)=_
  unfold Q0T;refine Y2 (decide_eq_true (by simp only;omega)) (Z3 (by simp only;omega) ?_)
  refine Y5n L.length (fun n k R r=>?_) (fun n=>?_) (by omega)
  ·show Q0S F x (D,l,C,s) g (t,L) (z,w) (i:Int) p n (k:Int)=_
   unfold Q0S;have o:=m.tr J
   have S:=m.line hF J R;have M:=E.line hF J R
   have j:=Y7X w (gl l i) (gl g i) (gl L k);have f:=Y7X (w.ms x) (gl l i) (gl g i) (gl L k)
   have e:(∀ u v,(lnT w (gl l i) (gl g i) (gl L k)).Y u v=true->(lnT (w.ms x) (gl l i) (gl g i) (gl L k)).Y u v=true)/\∀ u v,(lnT (w.ms x) (gl l i) (gl g i) (gl L k)).N u v=true->(lnT w (gl l i) (gl g i) (gl L k)).N u v=true:=by
    unfold lnT
    by_cases q:Z2Y (gl l i).s_ (gl L k).N_=false
    ·rw [if_pos q,if_pos q]
     exact ⟨fun u v h=>h,fun u v h=>h⟩
    ·rw [if_neg q,if_neg q]
     have B:∀ u v,elS w.zones_ w.day_ w.most_ (gl g i).t_ u v=true->elS w.zones_ w.day_ (w.most_+x) (gl g i).t_ u v=true:=fun u v h=>Y9Y (by omega) h
     generalize elS w.zones_ w.day_ w.most_ (gl g i).t_=G at B ⊢;show (∀ u v,_->(Z4d _ (evS w.y_ w.crops_ w.history_ w.zones_ w.day_ _ _ 3 _) (elS w.zones_ w.day_ (w.most_+x) _)).Y u v=true)/\∀ u v,(Z4d _ (evS w.y_ w.crops_ w.history_ w.zones_ w.day_ _ _ 3 _) (elS w.zones_ w.day_ (w.most_+x) _)).N u v=true->_
     generalize elS w.zones_ w.day_ (w.most_+x) (gl g i).t_=G2 at B ⊢;generalize evS w.y_ w.crops_ w.history_ w.zones_ w.day_ (gl l i).c_ (gl l i).g_.t_ 3 (gl L k).cond_=T
     refine ⟨fun u v h=>?_,fun u v h=>?_⟩
     ·simp only [Z4d,Bool.and_eq_true] at h ⊢
      exact ⟨h.1,B u v h.2⟩
     ·simp only [Z4d] at h ⊢
      have:=B u v
      cases o:inR (gl l i).g_.t_ u v <;> cases hY:T.Y u v <;> cases hO:T.O (gl l i).g_.t_ u v <;> cases h1:G u v <;> cases h2:G2 u v <;> simp_all
   generalize lnT w (gl l i) (gl g i) (gl L k)=P at j e S;generalize lnT (w.ms x) (gl l i) (gl g i) (gl L k)=Q at f e M
   have w1:Z6e (P.t3 (gl l i).g_.t_).true_ (Q.t3 (gl l i).g_.t_).true_=true:=(Z8r (a:=(P.t3 (gl l i).g_.t_).true_) (b:=(Q.t3 (gl l i).g_.t_).true_) (j.vY o) (f.vY o)).2 fun u v h=>by
    have h:inR (cn P.Y) u v=true:=h;show inR (cn Q.Y) u v=true
    rw [Q1I j.fY] at h;rw [Q1I f.fY]
    exact e.1 u v h
   have W:Z6e (Q.t3 (gl l i).g_.t_).false_ (P.t3 (gl l i).g_.t_).false_=true:=(Z8r (a:=(Q.t3 (gl l i).g_.t_).false_) (b:=(P.t3 (gl l i).g_.t_).false_) (f.vN o) (j.vN o)).2 fun u v h=>by
    have h:inR (cn Q.N) u v=true:=h;show inR (cn P.N) u v=true
    rw [Q1I f.fN] at h;rw [Q1I j.fN]
    exact e.2 u v h
   have k2:K9 F (k:Int) n false=some true:=by
    unfold K9;exact Q9 rfl (Z3 (Y5 (by omega) (by omega)) r)
   refine Y2 (decide_eq_true (by simp only;omega)) (Z3 (by simp only;omega) (Z3 (by omega) ?_));simp only [Int.toNat_natCast]
   refine Q4 S (Z3 (by omega) (Q4 M (Q9 rfl (Q9 rfl (Q4 (Z3U H _ _) (Q9 (congrArg (!·) w1) (Q4 (Z3U H _ _) ?_)))))));rw [W]
   exact k2
  ·show Q0S F x (D,l,C,s) g (t,L) (z,w) (i:Int) p n (L.length:Int)=_
   unfold Q0S;refine Q9 (decide_eq_false (by simp only;omega)) ?_
   unfold Q4H;exact Z3 (Y5 (by omega) (by omega)) K
 ·show Q0T F x (D,l,C,s) g (t,L) (z,w) p (l.length:Int)=_
  unfold Q0T;refine Q9 (decide_eq_false (by simp only;omega)) ?_
  unfold Q4G;exact Q4 (Y1c hF) rfl
section
section
variable {A B:List Rect} {h:Sq} (hB:∀ u v,inR B u v=(inR A u v&&h u v)) {hs:List Rg_} {cs:List Crop} {zs:List A2_} {y c d:Int}
include hB
end
end
section
variable {A:List Rect}
variable {w:World} (hw:WT w) (h9:∀ u v,inR A u v=true->9<=u)
include hw h9
end
section
section
variable (w:World) (rs:List Re_) (s:Scheme) (sel:Line->TS->Sq)
end
section
variable {w:World} {rs:List Re_} {s:Scheme} {sel:Line->TS->Sq}
end
section
variable {F:Nat} {rs:List Re_} {l:List Line} {ps:List Re_} {L:List Scheme} {w:World}
end
end
end
end Go.Ab
