/- Abstract states over the model: every lemma holds of any program of the form that it names. -/
import Derived.Test.YtdghfppocejhjaaGreatAbF
import Derived.Test.YtdghfppocejhjaaGreatLwD
import Derived.Test.YtdghfppocejhjaaGreatPuB
import Derived.Test.YtdghfppocejhjaaGreatAbE
set_option linter.unusedVariables false
set_option linter.unusedSimpArgs false
section
namespace Go.Ab
set_option maxRecDepth 20000
noncomputable section
section
variable {α β:Type} (g:α→β)
theorem br_map (b:Bool) (x y:Option α):(br b x y).map g=br b (x.map g) (y.map g):=by cases b <;> rfl
theorem gd_map (p:Prop) [Decidable p] (x:Option α):(gd p x).map g=gd p (x.map g):=by unfold gd; split <;> rfl
theorem bd_map {γ:Type} (x:Option γ) (f:γ→Option α):(x.bind f).map g=x.bind fun z=>(f z).map g:=by cases x <;> rfl
theorem some_map (x:α):(some x).map g=some (g x):=rfl
theorem loop_map {σ:Type} {bO:(σ→Option β)→σ→Option β} {b:(σ→Option α)→σ→Option α} (hb : ∀ aO a,(∀ z,aO z=(a z).map g)→∀ z,bO aO z=(b a z).map g) : ∀ f z,loopN bO f z=(loopN b f z).map g:=by
 intro f
 induction f with
 | zero=>intro z; rfl
 | succ f ih=>intro z; exact hb _ _ ih z
end
abbrev gR (l:List Record):List Record×Int→List Record×List Record×Int:=fun r=>(l,r)
section
variable {F:Nat} {l:List Record}
theorem RA5 {aO:(List Rect×Int×List Record)→_} {a:(List Rect×Int×List Record)→_} (h : ∀ z,aO z=(a z).map (gR l)) (v:Int) (p:List Rect) (q:List Record):ref15_Add_O_k5 F v aO p q=(ref15_Add_k5 F v a p q).map (gR l):=by
 unfold ref15_Add_O_k5 ref15_Add_k5
 simp only [gd_map,h]
theorem RA4 {aO:(List Rect×Int×List Record)→_} {a:(List Rect×Int×List Record)→_} (h : ∀ z,aO z=(a z).map (gR l)) (l0:List Record) (p:List Rect) (v:Int) (q:List Record) (s:List Rect):ref15_Add_O_k4 F l0 p v q aO s=(ref15_Add_k4 F l0 p v q a s).map (gR l):=by
 unfold ref15_Add_O_k4 ref15_Add_k4
 simp only [br_map,gd_map,RA5 h]
theorem RA3 {aO:(List Rect×Int×List Record)→_} {a:(List Rect×Int×List Record)→_} (h : ∀ z,aO z=(a z).map (gR l)) (l0:List Record) (y:Int) (x:Region) (p:List Rect) (v:Int) (q:List Record) (b:Bool):ref15_Add_O_k3 F l0 y x p v q aO b=(ref15_Add_k3 F l0 y x p v q a b).map (gR l):=by
 unfold ref15_Add_O_k3 ref15_Add_k3
 simp only [br_map,bd_map,RA5 h,RA4 h]
theorem RA11 {aO:Int→_} {a:Int→_} (h : ∀ z,aO z=(a z).map (gR l)) (V:List Record) (i:Int):ref15_Add_O_b11 F l V aO i=(ref15_Add_b11 F V a i).map (gR l):=by
 unfold ref15_Add_O_b11 ref15_Add_b11 ref15_Add_O_k12 ref15_Add_k12
 simp only [br_map,gd_map,some_map,h]
theorem RA10 (V:List Record):ref15_Add_O_k10 F l V=(ref15_Add_k10 F V).map (gR l):=by
 unfold ref15_Add_O_k10 ref15_Add_k10
 rw [br_map,loop_map (gR l) fun aO a h z=>RA11 h V z]
 rfl
theorem RA9 (y c:Int) (p:List Rect) (V:List Record) (i:Int):ref15_Add_O_k9 F l y c p V i=(ref15_Add_k9 F y c p V i).map (gR l):=by
 unfold ref15_Add_O_k9 ref15_Add_k9
 simp only [gd_map,RA10]
theorem RA8 {aO:Int→_} {a:Int→_} (h : ∀ z,aO z=(a z).map (gR l)) (y c:Int) (p:List Rect) (V:List Record) (i:Int) (b:Bool):ref15_Add_O_k8 F l y c p V i aO b=(ref15_Add_k8 F y c p V i a b).map (gR l):=by
 unfold ref15_Add_O_k8 ref15_Add_k8
 simp only [br_map,gd_map,RA9,h]
theorem RA7 {aO:Int→_} {a:Int→_} (h : ∀ z,aO z=(a z).map (gR l)) (y c:Int) (p:List Rect) (V:List Record) (i:Int):ref15_Add_O_b7 F l y c p V aO i=(ref15_Add_b7 F y c p V a i).map (gR l):=by
 unfold ref15_Add_O_b7 ref15_Add_b7
 simp only [br_map,gd_map,RA8 h]
theorem RA6 (y c:Int) (p:List Rect) (V:List Record):ref15_Add_O_k6 F l y c p V=(ref15_Add_k6 F y c p V).map (gR l):=by
 unfold ref15_Add_O_k6 ref15_Add_k6
 rw [br_map,loop_map (gR l) fun aO a h z=>RA7 h y c p V z,RA10]
theorem RA2 {aO:(List Rect×Int×List Record)→_} {a:(List Rect×Int×List Record)→_} (h : ∀ z,aO z=(a z).map (gR l)) (y c:Int) (x:Region) (p:List Rect) (v:Int) (q:List Record):ref15_Add_O_b2 F l y c x aO p v q=(ref15_Add_b2 F l y c x a p v q).map (gR l):=by
 unfold ref15_Add_O_b2 ref15_Add_b2
 simp only [br_map,gd_map,RA3 h,RA6]
theorem RA1 (y c:Int) (x:Region) (b:Bool):ref15_Add_O_k1 F l y c x b=(ref15_Add_k1 F l y c x b).map (gR l):=by
 unfold ref15_Add_O_k1 ref15_Add_k1
 simp only [br_map,bd_map,some_map]
 rw [loop_map (gR l) fun aO a h z=>RA2 h y c x z.1 z.2.1 z.2.2]
theorem RA0 (y c:Int) (x:Region) (b:Bool):ref15_Add_O_k0 F l y c x b=(ref15_Add_k0 F l y c x b).map (gR l):=by
 unfold ref15_Add_O_k0 ref15_Add_k0
 simp only [br_map,some_map,RA1]
theorem ref15_Add_O_map (y c:Int) (x:Region):ref15_Add_O F l y c x=(ref15_Add F l y c x).map (gR l):=by
 unfold ref15_Add_O ref15_Add
 simp only [br_map,bd_map,some_map,RA0]
end
theorem ref15_Add_O_ok {F:Nat} (hF:BIG≤F) (l:List Record) (y c:Int) (a:Region):ref15_Add_O F l y c a=some (l,addH l y c a):=by
 rw [ref15_Add_O_map,ref15_Add_ok hF]; rfl
section
variable {F:Nat} {cs:List Crop}
end
end
end Go.Ab
end

section
namespace Go.Ab
set_option maxRecDepth 20000
noncomputable section
theorem keep_Tape_Grassy_O_ok {F:Nat} (hF:BIG≤F) {t:Tape} (ht:TOk t) : ∃ t' l,keep_Tape_Grassy_O F t=some (t',GC,l)∧TOk t' ∧ HisT 3 l∧l.length≤24:=by
 have hF' := hF
 unfold BIG at hF
 have a0:RegT 9 (⟨[⟨0,0,8,8⟩]⟩ : Region):=⟨fun r hr=>by rw [List.mem_singleton] at hr; subst hr; decide,val_one (by decide)⟩
 have key : ∀ (n f:Nat) (l:List Record) (y:Int) (t:Tape),8-y=n→n<f→0≤y→TOk t→HisT 3 l→(l.length:Int)≤3*y →
   ∃ t' l',loopN (fun again (z:Int×(List Int)×Int×(List Record))=>keep_Tape_Grassy_O_b0 F again z.1 z.2.1 z.2.2.1 z.2.2.2) f (y,t.l_,t.at_,l)=some (t',GC,l')∧TOk t' ∧ HisT 3 l' ∧ l'.length≤24:=by
  intro n
  induction n with
  | zero=>
   intro f l y t hy hf h0 ht hl hln
   have hy:y=8:=by omega
   subst hy
   cases f with
   | zero=>omega
   | succ f=>exact ⟨⟨t.l_,t.at_⟩,l,rfl,ht,hl,by omega⟩
  | succ n ih=>
   intro f l y t hy hf h0 ht hl hln
   cases f with
   | zero=>omega
   | succ f=>
    obtain ⟨ta,m,ea,oa,m1,m2⟩:=keep_Tape_Next_ok (F:=F) ht (n:=3) (by omega) (by omega)
    have h1:=hl.addH (y:=y) (c:=0) (by omega) (by omega) (by omega) a0
    have h1l:=hl.addH_len (y:=y) (c:=0) (by omega) (by omega) a0
    have inner : ∀ (q g:Nat) (l1:List Record) (t:Tape),q<g→q≤5→TOk t→HisT 3 l1→(l1.length:Int)+q≤3*(y+1) →
      ∃ t' l',loopN (fun again (z:Int×(List Int)×Int×(List Record))=>keep_Tape_Grassy_O_b1 F y (loopN (fun again (z:Int×(List Int)×Int×(List Record))=>keep_Tape_Grassy_O_b0 F again z.1 z.2.1 z.2.2.1 z.2.2.2) f) again z.1 z.2.1 z.2.2.1 z.2.2.2) g ((q:Int),t.l_,t.at_,l1)=some (t',GC,l')∧TOk t' ∧ HisT 3 l' ∧ l'.length≤24:=by
     intro q
     induction q with
     | zero=>
      intro g l1 t hg _ ht hl1 hln1
      cases g with
      | zero=>omega
      | succ g=>
       obtain ⟨t',l',r1,r2⟩:=ih f l1 (y+1) t (by omega) (by omega) (by omega) ht hl1 (by omega)
       refine ⟨t',l', ?_,r2⟩
       show keep_Tape_Grassy_O_b1 F y _ _ 0 t.l_ t.at_ l1=_
       unfold keep_Tape_Grassy_O_b1
       refine br_ff rfl ?_
       unfold keep_Tape_Grassy_O_k2
       exact gd_ok (i64_of (by omega) (by omega)) r1
     | succ q ihq=>
      intro g l1 t hg hq5 ht hl1 hln1
      cases g with
      | zero=>omega
      | succ g=>
       obtain ⟨tb,c,eb,ob,c1,c2⟩:=keep_Tape_Next_ok (F:=F) ht (n:=3) (by omega) (by omega)
       obtain ⟨tc,a,ec,oc,ha⟩:=keep_Tape_Region_ok hF' ob (n:=9) (most:=1) (by omega) (by omega) (by omega) (by omega)
       have h2:=hl1.addH (y:=y) (c:=c) (by omega) (by omega) c2 ha
       have h2l:=hl1.addH_len (y:=y) (c:=c) (by omega) (by omega) ha
       obtain ⟨t',l',r1,r2⟩:=ihq g (addH l1 y c a).1 tc (by omega) (by omega) oc h2 (by omega)
       refine ⟨t',l', ?_,r2⟩
       show keep_Tape_Grassy_O_b1 F y _ _ ((q+1:Nat):Int) t.l_ t.at_ l1=_
       unfold keep_Tape_Grassy_O_b1
       refine br_tt (by simp) (bd_ok eb (bd_ok ec (bd_ok (ref15_Add_O_ok hF' _ _ _ _) ?_)))
       refine gd_ok (i64_of (by omega) (by omega)) ?_
       have e3:((q+1:Nat):Int)-1=(q:Int):=by omega
       rw [e3]; exact r1
    obtain ⟨t',l',r1,r2⟩:=inner m.toNat F (addH l y 0 ⟨[⟨0,0,8,8⟩]⟩).1 ta (by omega) (by omega) oa h1 (by omega)
    refine ⟨t',l', ?_,r2⟩
    show keep_Tape_Grassy_O_b0 F _ y t.l_ t.at_ l=_
    unfold keep_Tape_Grassy_O_b0
    refine br_tt (decide_eq_true (by omega)) (bd_ok (ref15_Add_O_ok hF' _ _ _ _) (bd_ok ea ?_))
    have:(m.toNat:Int)=m:=by omega
    rw [this] at r1
    exact r1
 exact key 8 F [] 0 t (by omega) (by omega) (by omega) ht (HisT.nil _) (by simp)
theorem keep_Tape_History_P_gc {F:Nat} (hF:BIG≤F) {t:Tape} (ht:TOk t) : ∃ t' l,keep_Tape_History_P F t GC 4 5=some (t',GC,l)∧TOk t' ∧ HisT 3 l∧(l.length:Int)≤5:=by
 have hF' := hF
 unfold BIG at hF
 obtain ⟨t1,c,e1,o1,c1,c2⟩:=keep_Tape_Next_ok (F:=F) ht (n:=5+1) (by omega) (by omega)
 have key : ∀ (k f:Nat) (t:Tape) (l:List Record),k<f→k≤60→(l.length:Int)+k≤5→TOk t→HisT 3 l→∃ t' l',loopN (fun again (z:Int×List Int×Int×List Record)=>keep_Tape_History_P_b0 F GC 4 again z.1 z.2.1 z.2.2.1 z.2.2.2) f ((k:Int),t.l_,t.at_,l)=some (t',GC,l')∧TOk t' ∧ HisT 3 l' ∧ (l'.length:Int)≤5:=by
  intro k
  induction k with
  | zero=>
   intro f t l hf _ hlm ht hl
   cases f with
   | zero=>omega
   | succ f=>exact ⟨⟨t.l_,t.at_⟩,l,rfl,ht,hl,by omega⟩
  | succ k ih=>
   intro f t l hf hk60 hlm ht hl
   cases f with
   | zero=>omega
   | succ f=>
    obtain ⟨ta,y,ea,oa,y1,y2⟩:=keep_Tape_Next_ok (F:=F) ht (n:=4+1) (by omega) (by omega)
    obtain ⟨tb,c,eb,ob,c1,c2⟩:=keep_Tape_Next_ok (F:=F) oa (n:=3) (by omega) (by omega)
    obtain ⟨tc,a,ec,oc,ha⟩:=keep_Tape_Region_ok hF' ob (n:=9) (most:=2) (by omega) (by omega) (by omega) (by omega)
    have hal:=hl.addH_len (y:=y) (c:=c) (by omega) (by omega) ha
    obtain ⟨t2,l2,q1,q2,q3⟩:=ih f tc (addH l y c a).1 (by omega) (by omega) (by omega) oc (hl.addH (by omega) (by omega) c2 ha)
    refine ⟨t2,l2, ?_,q2,q3⟩
    show keep_Tape_History_P_b0 F GC 4 _ ((k+1:Nat):Int) t.l_ t.at_ l=_
    unfold keep_Tape_History_P_b0
    refine br_tt (by simp) (gd_ok (i64_of (by omega) (by omega)) ?_)
    refine bd_ok ea (bd_ok eb (bd_ok ec (bd_ok (ref15_Add_O_ok hF' _ _ _ _) (gd_ok (i64_of (by omega) (by omega)) ?_))))
    have e3:((k+1:Nat):Int)-1=(k:Int):=by omega
    rw [e3]; exact q1
 obtain ⟨t',l,q1,q2,q3⟩:=key c.toNat F t1 [] (by omega) (by omega) (by simp; omega) o1 (HisT.nil _)
 refine ⟨t',l, ?_,q2,q3⟩
 unfold keep_Tape_History_P
 refine gd_ok (i64_of (by omega) (by omega)) (bd_ok e1 ?_)
 have:(c.toNat:Int)=c:=by omega
 rw [this] at q1
 exact q1
section
variable {F:Nat} {kc:Int} {cs:List Crop} {l:List Record} {a:Region} {x y m:Int} {z1 z2 z3:Tape×Region} {u v i w j:Int}
theorem ga_b7 (hF:BIG≤F) (hc:Crk F cs kc) (hb : ∀ f ∈ l,Box 9 f.region_.rects_) (hl:l.length≤50) (hj:0≤j∧j≤10) {d:Int} (hd:0≤d∧d<4) {ag3:Int→Option Bool} (h3:ag3 (j+1)=some true) :
  loopN (fun again (z:Int)=>law20_GrasslandAnswers_b7 F a x y m z1 z2 z3 u v cs l i w j d ag3 again z) F 0=some true:=by
 have hF' := hF
 unfold BIG at hF
 refine for_ok 4 (fun again q hq ha=>?_) (fun again=>?_) (by omega)
 ·unfold law20_GrasslandAnswers_b7
  simp only [Int.toNat_natCast]
  refine br_tt (decide_eq_true (by show (q:Int)<((4:Nat):Int); omega)) (gd_ok ⟨by omega,by show (q:Int)<((4:Nat):Int); omega⟩ ?_)
  have hlen:(gl ([([z2.2,z1.2,z3.2]:List Region),([z1.2]:List Region),([a,z1.2]:List Region),(List.replicate (((7:Int)+d)).toNat (Emb.d:Region))]:List (List Region)) q).length≤20:=by
   rcases (by omega:q=0∨q=1∨q=2∨q=3) with rfl | rfl | rfl | rfl
   ·show 3≤20; omega
   ·show 1≤20; omega
   ·show 2≤20; omega
   ·show (List.replicate _ _).length≤20
    rw [List.length_replicate]; omega
  generalize (gl ([([z2.2,z1.2,z3.2]:List Region),([z1.2]:List Region),([a,z1.2]:List Region),(List.replicate (((7:Int)+d)).toNat (Emb.d:Region))]:List (List Region)) q)=rs at hlen ⊢
  obtain ⟨r,e1,e2,e3⟩:=restore_eq hF' hc hb hl ((gl ([(⟨x,y⟩ : Arr2Int),(⟨((4:Int)+u),((4:Int)+v)⟩ : Arr2Int)]:List Arr2Int) i.toNat).e1_) hlen (gl ([m,(w-(1:Int))]:List Int) j.toNat)
  refine bd_ok e1 (bd_ok e2 (br_ff (by simp) ?_))
  rw [show (r.2 != r.2)=false by simp]
  unfold law20_GrasslandAnswers_k8
  refine br_ff rfl ?_
  refine for_ok r.1.length (fun again2 p hp hag2=>?_) (fun again2=>?_) (by omega)
  ·unfold law20_GrasslandAnswers_b9
   simp only [Int.toNat_natCast]
   refine br_tt (by simpa using hp) (gd_ok (by omega) (gd_ok (by omega) (br_ff (by simp) (gd_ok (i64_of (by omega) (by omega)) hag2))))
  ·unfold law20_GrasslandAnswers_b9
   refine br_ff (by simp) ?_
   unfold law20_GrasslandAnswers_k10
   exact gd_ok (i64_of (by omega) (by omega)) ha
 ·unfold law20_GrasslandAnswers_b7
  refine br_ff (decide_eq_false (by show ¬ ((4:Nat):Int)<((4:Nat):Int); omega)) ?_
  unfold law20_GrasslandAnswers_k11
  exact gd_ok (i64_of (by omega) (by omega)) h3
theorem ga_b4 (hF:BIG≤F) (hc:Crk F cs kc) (hb : ∀ f ∈ l,Box 9 f.region_.rects_) (hl:l.length≤50) (hj:0≤j∧j≤10) (n:Int) {ag3:Int→Option Bool} (h3:ag3 (j+1)=some true) :
  loopN (fun again (z:Int)=>law20_GrasslandAnswers_b4 F a x y m n z1 z2 z3 u v cs l i w j ag3 again z) F 0=some true:=by
 have hF' := hF
 unfold BIG at hF
 refine for_ok 2 (fun again q hq ha=>?_) (fun again=>?_) (by omega)
 ·unfold law20_GrasslandAnswers_b4
  simp only [Int.toNat_natCast]
  refine br_tt (decide_eq_true (by show (q:Int)<((2:Nat):Int); omega)) (gd_ok ⟨by omega,by show (q:Int)<((2:Nat):Int); omega⟩ ?_)
  generalize gl ([a,z1.2]:List Region) q=c
  obtain ⟨r,e1,e2⟩:=ratio_eq hF' hc hb hl ((gl ([(⟨x,y⟩ : Arr2Int),(⟨((4:Int)+u),((4:Int)+v)⟩ : Arr2Int)]:List Arr2Int) i.toNat).e1_) c
  obtain ⟨s,f1,f2⟩:=fallen_eq hF' hc hb hl ((gl ([(⟨x,y⟩ : Arr2Int),(⟨((4:Int)+u),((4:Int)+v)⟩ : Arr2Int)]:List Arr2Int) i.toNat).e0_) ((gl ([(⟨x,y⟩ : Arr2Int),(⟨((4:Int)+u),((4:Int)+v)⟩ : Arr2Int)]:List Arr2Int) i.toNat).e1_) c (gl ([m,(w-(1:Int))]:List Int) j.toNat)
  refine bd_ok e1 (bd_ok e2 (bd_ok f1 (bd_ok f2 ?_)))
  refine br_ff (by simp) (br_ff (by simp) (br_ff (by simp) (br_ff (by simp) ?_)))
  rw [show (s.2 != s.2)=false by simp]
  unfold law20_GrasslandAnswers_k5
  exact br_ff rfl (gd_ok (i64_of (by omega) (by omega)) ha)
 ·unfold law20_GrasslandAnswers_b4
  refine br_ff (decide_eq_false (by show ¬ ((2:Nat):Int)<((2:Nat):Int); omega)) ?_
  unfold law20_GrasslandAnswers_k6
  obtain ⟨d,e,d1,d2⟩:=keep_Mod_ok (F:=F) n (n:=4) (by omega) (by omega)
  exact bd_ok e (gd_ok (i64_of (by omega) (by omega)) (gd_ok (by unfold LIM; omega) (ga_b7 hF' hc hb hl hj ⟨d1,d2⟩ h3)))
theorem ga_k2 (hF:BIG≤F) (hc:Crk F cs kc) (hb : ∀ f ∈ l,Box 9 f.region_.rects_) (hl:l.length≤50) (hi:0≤i∧i≤10) (n:Int) {ag1:(List Crop)×(List Record)×Int→Option Bool} (h1:ag1 (cs,l,i+1)=some true) :
  law20_GrasslandAnswers_k2 F a x y m n z1 z2 z3 u v cs l i ag1 false=some true:=by
 have hF' := hF
 unfold BIG at hF
 unfold law20_GrasslandAnswers_k2
 obtain ⟨w,e,w1,w2⟩:=keep_Mod_ok (F:=F) m (n:=1000003) (by omega) (by omega)
 refine br_ff rfl (bd_ok e (gd_ok (i64_of (by omega) (by omega)) ?_))
 refine for_ok 2 (fun again q hq ha=>?_) (fun again=>?_) (by omega)
 ·unfold law20_GrasslandAnswers_b3
  refine br_tt (decide_eq_true (by show (q:Int)<((2:Nat):Int); omega)) (gd_ok ⟨by omega,by show (q:Int)<((2:Nat):Int); omega⟩ ?_)
  exact ga_b4 hF' hc hb hl ⟨by omega,by omega⟩ n ha
 ·unfold law20_GrasslandAnswers_b3
  refine br_ff (decide_eq_false (by show ¬ ((2:Nat):Int)<((2:Nat):Int); omega)) ?_
  unfold law20_GrasslandAnswers_k12
  exact gd_ok (i64_of (by omega) (by omega)) h1
theorem ga_k0 (hF:BIG≤F) (hc:Crk F cs kc) (hb : ∀ f ∈ l,Box 9 f.region_.rects_) (hl:l.length≤50) {t:Tape} (ht:TOk t) (n:Int):law20_GrasslandAnswers_k0 F a x y m n t.l_ t.at_ cs l=some true:=by
 have hF' := hF
 unfold BIG at hF
 obtain ⟨t1,r1,e1,o1,_⟩:=keep_Tape_Broken_ok hF' ht (n:=9) (most:=2) (by omega) (by omega) (by omega) (by omega)
 obtain ⟨t2,r2,e2,o2,_⟩:=keep_Tape_Region_ok hF' o1 (n:=4) (most:=1) (by omega) (by omega) (by omega) (by omega)
 obtain ⟨t3,r3,e3,o3,_⟩:=keep_Tape_Region_ok hF' o2 (n:=9) (most:=1) (by omega) (by omega) (by omega) (by omega)
 obtain ⟨u,e4,u1,u2⟩:=keep_Mod_ok (F:=F) x (n:=4) (by omega) (by omega)
 obtain ⟨v,e5,v1,v2⟩:=keep_Mod_ok (F:=F) y (n:=4) (by omega) (by omega)
 unfold law20_GrasslandAnswers_k0
 refine bd_ok e1 (bd_ok e2 (bd_ok e3 (bd_ok e4 (gd_ok (i64_of (by omega) (by omega)) (bd_ok e5 (gd_ok (i64_of (by omega) (by omega)) ?_))))))
 refine loopN_ok (fun z:(List Crop)×(List Record)×Int=>∃ q:Nat,z=(cs,l,(q:Int))∧q≤2) (fun z=>2-z.2.2.toNat) (fun again z hz ih=>?_) ⟨0,rfl,by omega⟩ (by simp only; omega)
 obtain ⟨q,rfl,hq⟩:=hz
 simp only at ih ⊢
 unfold law20_GrasslandAnswers_b1
 simp only [Int.toNat_natCast]
 by_cases h2:q<2
 ·refine br_tt (decide_eq_true (by show (q:Int)<((2:Nat):Int); omega)) (gd_ok ⟨by omega,by show (q:Int)<((2:Nat):Int); omega⟩ ?_)
  obtain ⟨r,p1,p2,p3⟩:=permanent_eq hF' hc hb hl ((gl ([(⟨x,y⟩ : Arr2Int),(⟨((4:Int)+u),((4:Int)+v)⟩ : Arr2Int)]:List Arr2Int) q).e1_)
  obtain ⟨s,s1,s2,s3⟩:=ploughed_eq hF' hc hb hl ((gl ([(⟨x,y⟩ : Arr2Int),(⟨((4:Int)+u),((4:Int)+v)⟩ : Arr2Int)]:List Arr2Int) q).e1_)
  refine bd_ok p1 (bd_ok p2 (bd_ok s1 (bd_ok s2 (bd_ok (ref04_Same_ok hF' (by unfold LIM; omega)) ?_))))
  refine br_ff (by simp) (br_ff (by simp) (bd_ok (ref04_Same_ok hF' (by unfold LIM; omega)) (br_ff (by simp) ?_)))
  rw [show (s.2 != s.2)=false by simp]
  exact ga_k2 hF' hc hb hl ⟨by omega,by omega⟩ n (ih _ ⟨q+1,by simp,by omega⟩ (by simp only; omega))
 ·have:q=2:=by omega
  subst this
  refine br_ff (decide_eq_false (by show ¬ ((2:Nat):Int)<((2:Nat):Int); omega)) ?_
  unfold law20_GrasslandAnswers_k13
  exact bd_ok (law20_awake_ok hF') rfl
end
theorem crk_of {F:Nat} (hF:BIG≤F) {cs:List Crop} (hn:NmS cs) (hl:cs.length≤40):Crk F cs (crC cs):=⟨crop_Check_gen hF hn,ref12_Check_gen hF cs,hl⟩
theorem NmS.set {cs:List Crop} (h:NmS cs) (i:Nat) {c:Crop} (hc:c.name_.size≤4294967296):NmS (cs.set i c):=fun x hx=>by
 rcases List.mem_or_eq_of_mem_set hx with h1 | h1
 ·exact h x h1
 ·rw [h1]; exact hc
theorem GC_nm:NmS GC:=by
 intro x hx
 unfold GC at hx
 simp only [List.mem_cons,List.not_mem_nil,or_false] at hx
 rcases hx with rfl | rfl | rfl <;> decide
theorem law20_GrasslandAnswers_ok {F:Nat} (hF:BIG≤F) (a:Region) (x y m n:Int) (tape:List Int):law20_GrasslandAnswers F a x y m n tape=some true:=by
 have hF' := hF
 unfold BIG at hF
 unfold law20_GrasslandAnswers
 refine br_ok (fun _=>bd_ok (law20_awake_ok hF') rfl) (fun _=>?_)
 obtain ⟨t,e0,o0⟩:=keep_New_ok F tape
 obtain ⟨t1,l,e1,o1,hh,hlen⟩:=keep_Tape_Grassy_O_ok hF' o0
 obtain ⟨t2,q,e2,o2,q1,q2⟩:=keep_Tape_Next_ok (F:=F) o1 (n:=9) (by omega) (by omega)
 have hgc:=crk_of hF' GC_nm (by decide)
 refine bd_ok e0 (bd_ok e1 (bd_ok e2 ?_))
 dsimp only
 refine br_ok (fun _=>?_) (fun _=>?_)
 ·obtain ⟨k,e3,k1,k2⟩:=keep_Mod_ok (F:=F) n (n:=34) (by omega) (by omega)
  refine bd_ok e3 (gd_ok (i64_of (by omega) (by omega)) (gd_ok (by show (0:Int)≤0∧(0:Int)<((3:Nat):Int); omega) ?_))
  have hs:NmS (GC.set 0 ⟨(gl GC 0).name_,(gl GC 0).family_,k-1⟩):=GC_nm.set 0 (GC_nm (gl GC 0) (gl_mem (show 0<GC.length by decide)))
  exact ga_k0 hF' (crk_of hF' hs (by rw [List.length_set]; decide)) hh.box (by omega) o2 n
 refine br_ok (fun _=>?_) (fun _=>?_)
 ·refine br_ok (fun h3=>?_) (fun _=>ga_k0 hF' hgc hh.box (by omega) o2 n)
  have h3:0<l.length:=by simpa using h3
  obtain ⟨k,e3,k1,k2⟩:=keep_Mod_ok (F:=F) n (n:=6) (by omega) (by omega)
  refine bd_ok e3 (gd_ok (i64_of (by omega) (by omega)) (gd_ok (by omega) ?_))
  refine ga_k0 hF' hgc (fun f hf=>?_) (by rw [List.length_set]; omega) o2 n
  rcases List.mem_or_eq_of_mem_set hf with h4 | h4
  ·exact hh.box f h4
  ·have h5:=hh.box (gl l 0) (gl_mem h3)
   rw [h4]; exact h5
 refine br_ok (fun _=>?_) (fun _=>ga_k0 hF' hgc hh.box (by omega) o2 n)
 obtain ⟨t3,l2,e3,o3,hh2,hlen2⟩:=keep_Tape_History_P_gc hF' o2
 exact bd_ok e3 (ga_k0 hF' hgc hh2.box (by omega) o3 n)
end
end Go.Ab
end
