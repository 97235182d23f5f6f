/- Abstract states over the model: every lemma holds of any program of the form that it names. -/
import Derived.Test.YtdghfppocejhjaaGreatAbE
import Derived.Test.YtdghfppocejhjaaGreatLwB
set_option linter.unusedVariables false
set_option linter.unusedSimpArgs false
section
namespace Go.Ab
set_option maxRecDepth 20000
noncomputable section
def kindC (L:List Feature) (k d:Int):Region×Int:=
 if chkC L≠0 then (⟨[]⟩,chkC L) else if d<0∨36864<d then (⟨[]⟩,9) else if k<0∨15<k then (⟨[]⟩,14)
 else if 120<(cn (inR (rectsP L d (fun x=>x==k)))).length then (⟨[]⟩,1) else (⟨cn (inR (rectsP L d (fun x=>x==k)))⟩,0)
theorem kindC_len (L:List Feature) (k d:Int):(kindC L k d).1.rects_.length≤120:=by
 unfold kindC
 split
 ·simp
 ·split
  ·simp
  ·split
   ·simp
   ·split
    ·simp
    ·simp only; omega
theorem feature_Kind_any {F:Nat} (hF:BIG≤F) (L:List Feature) (k d:Int):feature_Kind F L k d=some (kindC L k d):=by
 unfold kindC
 by_cases h:chkC L=0
 ·by_cases hd:d<0∨36864<d
  ·rw [if_neg (by simp [h]),if_pos hd]
   unfold feature_Kind
   refine bd_ok (feature_right_ok hF L d) ?_
   rw [if_neg (by simp [h]),if_pos hd]
   exact br_tt rfl rfl
  ·by_cases hk:k<0∨15<k
   ·rw [if_neg (by simp [h]),if_neg hd,if_pos hk]
    unfold feature_Kind
    refine bd_ok (feature_right_ok hF L d) ?_
    rw [if_neg (by simp [h]),if_neg hd]
    refine br_ff rfl ?_
    rw [or_br (feature_Kind_k0 F L k d)]
    unfold feature_Kind_k0
    exact br_tt (by simpa using hk) rfl
   ·rw [if_neg (by simp [h]),if_neg hd,if_neg hk]
    exact feature_Kind_ok hF ((chkC_zero L).1 h) (by omega) (by omega) (by omega) (by omega)
 ·rw [if_pos h]
  unfold feature_Kind
  refine bd_ok (feature_right_ok hF L d) ?_
  rw [if_pos h]
  exact br_tt (by simp [h]) rfl
theorem ref09_Kind_any {F:Nat} (hF:BIG≤F) {L:List Feature} (hL:chkC L=0→LF6 L) (k d:Int):ref09_Kind F L k d=some (kindC L k d):=by
 unfold kindC ref09_Kind
 refine bd_ok (ref09_Check_ok hF L) ?_
 by_cases h:chkC L=0
 ·rw [if_neg (by simp [h])]
  refine br_ff (by simp [h]) ?_
  rw [or_br (ref09_Kind_k0 F L k d)]
  unfold ref09_Kind_k0
  refine br_ok (fun hd=>?_) (fun hd=>?_)
  ·rw [if_pos (by simpa using hd)]
  ·rw [if_neg (by simp at hd; omega)]
   rw [or_br (ref09_Kind_k1 F L k d)]
   unfold ref09_Kind_k1
   refine br_ok (fun hk=>?_) (fun hk=>?_)
   ·rw [if_pos (by simpa using hk)]
   ·rw [if_neg (by simp at hk; omega)]
    refine bd_ok (ref09_Squares_few hF (hL h) k k d) ?_
    have e:btw k k=fun x=>x==k:=by
     funext x
     unfold btw
     rw [Bool.eq_iff_iff]; simp; omega
    rw [e]
    unfold ref04_Bound
    by_cases h2:120<(cn (inR (rectsP L d (fun x=>x==k)))).length
    ·rw [if_pos h2]; exact bd_ok (br_tt (by simp; omega) rfl) rfl
    ·rw [if_neg h2]; exact bd_ok (br_ff (by simp; omega) rfl) rfl
 ·rw [if_pos h]
  exact br_tt (by simp [h]) rfl
end
end Go.Ab
end

section
namespace Go.Ab
set_option maxRecDepth 20000
noncomputable section
def Few (l:List Feature):Prop:=l.length≤5∧∀ f ∈ l,f.region_.rects_.length≤46
theorem Few.set {l:List Feature} (h:Few l) {f:Feature} (hf:f.region_.rects_.length≤46) (i:Nat):Few (l.set i f):=
 ⟨by rw [List.length_set]; exact h.1,fun g hg=>by
  rcases List.mem_or_eq_of_mem_set hg with hg | rfl
  ·exact h.2 g hg
  ·exact hf⟩
theorem Few.lf {l:List Feature} (h:Few l) (hc:chkC l=0):LF6 l:=lf6_of ((chkC_zero l).1 hc) h.2 (by have:=Nat.mul_le_mul_right 46 h.1; omega)
theorem law09_spoilt_ok {F:Nat} (hF:BIG≤F) {t:Tape} (ht:TOk t) (by_:Int) : ∃ t' l,law09_spoilt F t by_=some (t',l)∧TOk t' ∧ Few l:=by
 have hF' := hF
 unfold BIG at hF
 obtain ⟨t1,l,e1,o1,hL,hl⟩:=keep_Tape_Layer_ok hF' ht (most:=4) (by omega) (by omega)
 have hr : ∀ f ∈ l,f.region_.rects_.length≤46:=fun f hf=>by
  have h:=((hL.fea f hf).1).reg
  have:=h.val.2.2.half (n:=9) h.box
  omega
 have hw:Few l:=⟨by omega,hr⟩
 have G : ∀ {p:Prop} [Decidable p] {x:Option (Tape×List Feature)},p→(∃ t' l,x=some (t',l)∧TOk t' ∧ Few l)→∃ t' l,gd p x=some (t',l)∧TOk t' ∧ Few l:=fun h q=>by rw [gd_ok h rfl]; exact q
 have B : ∀ {b:Bool} {x y:Option (Tape×List Feature)},(∃ t' l,x=some (t',l)∧TOk t' ∧ Few l)→(b=false→∃ t' l,y=some (t',l)∧TOk t' ∧ Few l)→∃ t' l,br b x y=some (t',l)∧TOk t' ∧ Few l:= @fun b x y hx hy=>by
  cases b
  ·exact hy rfl
  ·exact hx
 have K : ∀ {t' : Tape} {m:List Feature},TOk t' → Few m→∃ t'' l,law09_spoilt_k0 F m t'.l_ t'.at_=some (t'',l)∧TOk t'' ∧ Few l:=fun h1 h2=>⟨_,_,rfl,h1,h2⟩
 unfold law09_spoilt
 simp only [List.nil_append]
 rw [e1]
 simp only [Option.bind_some]
 refine G (by unfold LIM; omega) (B ⟨_,_,rfl,o1,hw⟩ fun h0=>?_)
 have h0:1≤l.length:=by simp at h0; exact Nat.pos_of_ne_zero (by simpa using h0)
 obtain ⟨t2,k,e2,o2,k1,k2⟩:=keep_Tape_Next_ok (F:=F) o1 (n:=(l.length:Int)) (by omega) (by omega)
 rw [e2]
 simp only [Option.bind_some]
 obtain ⟨t3,c,e3,o3,c1,c2⟩:=keep_Tape_Next_ok (F:=F) o2 (n:=10) (by omega) (by omega)
 rw [e3]
 simp only [Option.bind_some]
 have hg:(gl l k.toNat).region_.rects_.length≤46:=hr _ (gl_mem (by omega))
 refine B (G (by omega) (K o3 (hw.set (by exact hg) _))) fun _=>B ?_ fun _=>B (G (by omega) (K o3 (hw.set (by exact hg) _))) fun _=>B (G (by omega) (K o3 (hw.set (by exact hg) _))) fun _=>B ?_ fun _=>B ?_ fun _=>K o3 hw
 ·obtain ⟨m,e4,m1,m2⟩:=keep_Mod_ok (F:=F) by_ (n:=20) (by omega) (by omega)
  rw [e4]
  simp only [Option.bind_some]
  exact G (i64_of (by omega) (by omega)) (G (by omega) (K o3 (hw.set (by exact hg) _)))
 ·obtain ⟨t4,r,e4,o4,r1⟩:=keep_Tape_Broken_ok hF' o3 (n:=9) (most:=2) (by omega) (by omega) (by omega) (by omega)
  have e4:keep_Tape_Broken F t3 (9:Int) (2:Int)=some (t4,r):=e4
  rw [e4]
  simp only [Option.bind_some]
  exact G (by omega) (K o4 (hw.set (by simp only; omega) _))
 ·refine G (by omega) (G (by unfold LIM; simp only [List.length_cons,List.length_nil]; omega) (K o3 ⟨by simp; omega,fun f hf=>?_⟩))
  rcases List.mem_append.1 hf with hf | hf
  ·exact hr f hf
  ·rw [List.mem_singleton.1 hf]; exact hg
end
end Go.Ab
end

section
namespace Go.Ab
set_option maxRecDepth 20000
noncomputable section
theorem endC_sz (L:List Feature) (n d:Int):(endC L n d).1.length≤60∧∀ f ∈ (endC L n d).1,f.region_.rects_.length≤120:=by
 unfold endC
 by_cases h:chkC L=0
 ·have hv:=(chkC_zero L).1 h
  have hlen:=hv.len
  rw [if_neg (by simp [h])]
  by_cases h1:lessN L n<L.length∧(gl L (lessN L n)).number_=n
  ·rw [if_neg (by simp [h1])]
   split
   ·simp
   ·split
    ·exact ⟨Nat.le_trans (List.length_eraseIdx_le ..) hlen,fun f hf=>hv.rlen (List.mem_of_mem_eraseIdx hf)⟩
    ·refine ⟨by simp only [List.length_set]; exact hlen,fun f hf=>?_⟩
     rcases List.mem_or_eq_of_mem_set hf with hf | rfl
     ·exact hv.rlen hf
     ·have:=hv.rlen (gl_mem h1.1)
      exact this
  ·rw [if_pos h1]; simp
 ·rw [if_pos h]; simp
theorem fa_b6 {F:Nat} (hF:BIG≤F) {raw:List Feature} {a b m q:Int} {z:Tape×List Feature} {i j:Nat} {x:List Feature} (hx:gl ([raw,z.2]:List (List Feature)) i=x) (hf:chkC x=0→LF6 x) {ag:Int→Option Bool} :
  loopN (fun again (u:Int)=>law09_FeatureAnswers_b6 F raw a b z (i:Int) m (j:Int) q ag again u) F (0:Int)=law09_FeatureAnswers_k8 F (j:Int) ag:=by
 have hF' := hF
 unfold BIG at hF
 refine range_ok (l:=([b,q-1]:List Int)) (fun _=>law09_FeatureAnswers_k8 F (j:Int) ag) (fun again u hu ha=>?_) (fun again=>?_) (by simp only [List.length_cons,List.length_nil]; omega)
 ·unfold law09_FeatureAnswers_b6
  refine br_tt (lt_dec hu) (gd_ok (by omega) ?_)
  simp only [Int.toNat_natCast]
  rw [hx]
  generalize gl ([b,q-1]:List Int) u=k
  generalize gl ([a,m]:List Int) j=d
  have h1:=kindC_len x k d
  have h2:=endC_sz x k d
  refine bd_ok (feature_Kind_any hF' _ _ _) (bd_ok (ref09_Kind_any hF' hf _ _) (bd_ok (feature_End_ok hF' _ _ _) (bd_ok (ref09_End_ok hF' _ _ _) (bd_ok (ref04_Same_ok hF' (by unfold LIM; omega)) ?_))))
  refine br_ff (by simp) (br_ff (by simp) (bd_ok (ref09_Same_ok hF' (by unfold LIM; omega) (fun f hf=>by have:=h2.2 f hf; unfold LIM; omega)) (br_ff (by simp) ?_)))
  unfold law09_FeatureAnswers_k7
  have hu2:u<2:=hu
  exact br_ff (by simp) (gd_ok (i64_of (by omega) (by omega)) ha)
 ·unfold law09_FeatureAnswers_b6
  exact br_ff (not_lt_dec _) rfl
end
end Go.Ab
end

section
namespace Go.Ab
set_option maxRecDepth 20000
noncomputable section
theorem fa_b10 {F:Nat} (hF:BIG≤F) {raw:List Feature} {f:Feature} {z:Tape×List Feature} {zf:Tape×Feature} {i:Nat} {x:List Feature} (hx:gl ([raw,z.2]:List (List Feature)) i=x) {ag:Int→Option Bool}
  (hs : ∀ y:Feature,(addC x y).1.length≤LIM∧∀ g ∈ (addC x y).1,g.region_.rects_.length≤LIM) :
  law09_FeatureAnswers_k9 F raw f z zf (i:Int) ag=law09_FeatureAnswers_k12 F raw z (i:Int) ag:=by
 have hF' := hF
 unfold BIG at hF
 unfold law09_FeatureAnswers_k9
 refine range_ok (l:=([f,zf.2]:List Feature)) (fun _=>law09_FeatureAnswers_k12 F raw z (i:Int) ag) (fun again u hu ha=>?_) (fun again=>?_) (by simp only [List.length_cons,List.length_nil]; omega)
 ·unfold law09_FeatureAnswers_b10
  refine br_tt (lt_dec hu) (gd_ok (by omega) ?_)
  simp only [Int.toNat_natCast]
  rw [hx]
  generalize gl ([f,zf.2]:List Feature) u=y
  refine bd_ok (feature_Add_ok hF' _ _) (bd_ok (ref09_Add_ok hF' _ _) (bd_ok (ref09_Same_ok hF' (hs y).1 (hs y).2) (br_ff (by simp) ?_)))
  unfold law09_FeatureAnswers_k11
  have hu2:u<2:=hu
  exact br_ff (by simp) (gd_ok (i64_of (by omega) (by omega)) ha)
 ·unfold law09_FeatureAnswers_b10
  exact br_ff (not_lt_dec _) rfl
end
end Go.Ab
end

section
namespace Go.Ab
set_option maxRecDepth 20000
noncomputable section
theorem fa_b4 {F:Nat} (hF:BIG≤F) {raw:List Feature} {f:Feature} {a b m:Int} {z:Tape×List Feature} {zf:Tape×Feature} {i:Nat} {x:List Feature} (hx:gl ([raw,z.2]:List (List Feature)) i=x) (hf:chkC x=0→LF6 x) {ag:Int→Option Bool} :
  loopN (fun again (u:Int)=>law09_FeatureAnswers_b4 F raw f a b z zf (i:Int) m ag again u) F (0:Int)=law09_FeatureAnswers_k9 F raw f z zf (i:Int) ag:=by
 have hF' := hF
 unfold BIG at hF
 refine range_ok (l:=([a,m]:List Int)) (fun _=>law09_FeatureAnswers_k9 F raw f z zf (i:Int) ag) (fun again u hu ha=>?_) (fun again=>?_) (by simp only [List.length_cons,List.length_nil]; omega)
 ·unfold law09_FeatureAnswers_b4
  refine br_tt (lt_dec hu) (gd_ok (by omega) ?_)
  simp only [Int.toNat_natCast]
  rw [hx]
  generalize gl ([a,m]:List Int) u=d
  have hsz : ∀ (w:List Feature×Int),w=(if chkC x≠0 then ([],chkC x) else if d<0∨36864<d then ([],9) else (x.filter fun f=>thereB f d,0))→w.1.length≤LIM∧∀ g ∈ w.1,g.region_.rects_.length≤LIM:=fun w hw=>by
   subst hw
   by_cases h:chkC x=0
   ·have hv:=(chkC_zero x).1 h
    rw [if_neg (by simp [h])]
    split
    ·simp
    ·refine ⟨?_,fun g hg=>?_⟩
     ·have h1:=List.length_filter_le (fun f=>thereB f d) x
      have h2:=hv.len
      unfold LIM; simp only; omega
     ·have h3:=hv.rlen (List.mem_filter.1 hg).1
      unfold LIM; omega
   ·rw [if_pos h]; simp
  refine bd_ok (feature_On_ok hF' _ _) (bd_ok (ref09_On_ok hF' _ _) (bd_ok (ref09_Same_ok hF' (hsz _ rfl).1 (hsz _ rfl).2) (br_ff (by simp) ?_)))
  unfold law09_FeatureAnswers_k5
  refine br_ff (by simp) ?_
  obtain ⟨q,e,q1,q2⟩:=keep_Mod_ok (F:=F) b (n:=18) (by omega) (by omega)
  refine bd_ok e (gd_ok (i64_of (by omega) (by omega)) ?_)
  rw [fa_b6 hF' hx hf]
  unfold law09_FeatureAnswers_k8
  have hu2:u<2:=hu
  exact gd_ok (i64_of (by omega) (by omega)) ha
 ·unfold law09_FeatureAnswers_b4
  exact br_ff (not_lt_dec _) rfl
end
end Go.Ab
end

section
namespace Go.Ab
set_option maxRecDepth 20000
noncomputable section
theorem addC_sz (L:List Feature) (f:Feature):(addC L f).1.length≤LIM∧∀ g ∈ (addC L f).1,g.region_.rects_.length≤LIM:=by
 unfold addC
 by_cases h:chkC L=0
 ·rw [if_neg (by simp [h])]
  by_cases h1:oneC f=0
  ·rw [if_neg (by simp [h1])]
   by_cases h2:lessN L f.number_<L.length∧(gl L (lessN L f.number_)).number_=f.number_
   ·rw [if_pos h2]; simp
   ·rw [if_neg h2]
    by_cases h3:L.length=60
    ·rw [if_pos h3]; simp
    ·rw [if_neg h3]
     have hv:=insF_VL ((chkC_zero L).1 h) h1 h2 h3
     exact ⟨by have:=hv.len; unfold LIM; simp only; omega,fun g hg=>by have:=hv.rlen hg; unfold LIM; omega⟩
  ·rw [if_pos h1]; simp
 ·rw [if_pos h]; simp
theorem ref01_Ints_refl {F:Nat} (hF:BIG≤F) {l:List Int} (hl:l.length≤1000000):ref01_Ints F l l=some true:=by
 unfold BIG at hF
 unfold ref01_Ints
 refine br_ff (by simp) ?_
 refine range_ok (l:=l) (fun _=>some true) (fun again u hu ha=>?_) (fun again=>?_) (by omega)
 ·unfold ref01_Ints_b0
  refine br_tt (lt_dec hu) (gd_ok (by omega) (gd_ok (by omega) (br_ff (by simp) (gd_ok (i64_of (by omega) (by omega)) ha))))
 ·unfold ref01_Ints_b0
  exact br_ff (not_lt_dec _) rfl
end
end Go.Ab
end

section
namespace Go.Ab
set_option maxRecDepth 20000
noncomputable section
theorem apart_any {F:Nat} (hF:BIG≤F) (L:List Feature) : ∃ r,feature_Apart F L=some r∧ref09_Apart F L=some r:=by
 by_cases h:chkC L=0
 ·exact ⟨_,feature_Apart_ok hF ((chkC_zero L).1 h),ref09_Apart_ok hF ((chkC_zero L).1 h)⟩
 ·refine ⟨(0,0,false,chkC L), ?_, ?_⟩
  ·unfold feature_Apart
   exact bd_ok (feature_Check_ok hF L) (br_tt (by simp [h]) rfl)
  ·unfold ref09_Apart
   exact bd_ok (ref09_Check_ok hF L) (br_tt (by simp [h]) rfl)
theorem changes_any {F:Nat} (hF:BIG≤F) (L:List Feature) : ∃ r,feature_Changes F L=some r∧ref09_Changes F L=some r∧r.1.length≤120:=by
 by_cases h:chkC L=0
 ·have hv:=(chkC_zero L).1 h
  exact ⟨_,(changes_same hF hv).1,ref09_Changes_ok hF hv,(changes_same hF hv).2⟩
 ·refine ⟨([],chkC L), ?_, ?_,by simp⟩
  ·unfold feature_Changes
   exact bd_ok (feature_Check_ok hF L) (br_tt (by simp [h]) rfl)
  ·unfold ref09_Changes
   exact bd_ok (ref09_Check_ok hF L) (br_tt (by simp [h]) rfl)
theorem fa_k12 {F:Nat} (hF:BIG≤F) {raw:List Feature} {z:Tape×List Feature} {i:Nat} {ag:Int→Option Bool} :
  law09_FeatureAnswers_k12 F raw z (i:Int) ag=law09_FeatureAnswers_k14 F (i:Int) ag:=by
 unfold law09_FeatureAnswers_k12
 simp only [Int.toNat_natCast]
 generalize gl ([raw,z.2]:List (List Feature)) i=x
 obtain ⟨r,r1,r2⟩:=apart_any hF x
 obtain ⟨s,s1,s2,s3⟩:=changes_any hF x
 refine bd_ok r1 (bd_ok r2 (bd_ok s1 (bd_ok s2 ?_)))
 refine br_ff (by simp) (br_ff (by simp) (br_ff (by simp) (br_ff (by simp) (bd_ok (ref01_Ints_refl hF (by omega)) (br_ff (by simp) ?_)))))
 unfold law09_FeatureAnswers_k13
 exact br_ff (by simp) rfl
end
end Go.Ab
end

section
namespace Go.Ab
set_option maxRecDepth 20000
noncomputable section
theorem fa_b3 {F:Nat} (hF:BIG≤F) {raw:List Feature} {f:Feature} {a b:Int} {z:Tape×List Feature} {zf:Tape×Feature} (h1:chkC raw=0→LF6 raw) (h2:chkC z.2=0→LF6 z.2) :
  loopN (fun again (u:Int)=>law09_FeatureAnswers_b3 F raw f a b z zf again u) F (0:Int)=some true:=by
 have hF' := hF
 unfold BIG at hF
 refine range_ok (l:=([raw,z.2]:List (List Feature))) (fun _=>some true) (fun again u hu ha=>?_) (fun again=>?_) (by simp only [List.length_cons,List.length_nil]; omega)
 ·have hu2:u<2:=hu
  have hx:chkC (gl ([raw,z.2]:List (List Feature)) u)=0→LF6 (gl ([raw,z.2]:List (List Feature)) u):=by
   have:u=0∨u=1:=by omega
   rcases this with rfl | rfl
   ·exact h1
   ·exact h2
  unfold law09_FeatureAnswers_b3
  refine br_tt (lt_dec hu) (gd_ok (by omega) ?_)
  simp only [Int.toNat_natCast]
  refine bd_ok (feature_Check_ok hF' _) (bd_ok (ref09_Check_ok hF' _) (br_ff (by simp) ?_))
  obtain ⟨m,e,m1,m2⟩:=keep_Mod_ok (F:=F) a (n:=60) (by omega) (by omega)
  refine bd_ok e ?_
  rw [fa_b4 hF' rfl hx,fa_b10 hF' rfl (addC_sz _),fa_k12 hF']
  unfold law09_FeatureAnswers_k14
  exact gd_ok (i64_of (by omega) (by omega)) ha
 ·unfold law09_FeatureAnswers_b3
  refine br_ff (not_lt_dec _) ?_
  unfold law09_FeatureAnswers_k15
  exact bd_ok (law09_awake_ok hF') rfl
theorem law09_FeatureAnswers_ok {F:Nat} (hF:BIG≤F) (raw:List Feature) (f:Feature) (a b:Int) (l:List Int):law09_FeatureAnswers F raw f a b l=some true:=by
 have hF' := hF
 unfold BIG at hF
 unfold law09_FeatureAnswers
 rw [or_br (law09_FeatureAnswers_k0 F raw f a b l)]
 unfold law09_FeatureAnswers_k0
 refine br_ok (fun _=>bd_ok (law09_awake_ok hF') rfl) (fun h=>?_)
 have hlen:raw.length≤10:=by simp at h; omega
 refine loopN_ok (fun u:Int=>∃ i:Nat,u=i∧i≤raw.length∧∀ j,j<i→(gl raw j).region_.rects_.length≤5) (fun u=>raw.length-u.toNat) (fun again u hz ih=>?_) ⟨0,rfl,Nat.zero_le _,fun j hj=>absurd hj (by omega)⟩ (by simp; omega)
 obtain ⟨i,rfl,hi2,hr⟩:=hz
 unfold law09_FeatureAnswers_b1
 refine br_ok (fun h=>?_) (fun h=>?_)
 ·have h:i<raw.length:=by simpa using h
  refine gd_ok (by omega) ?_
  simp only [Int.toNat_natCast]
  refine br_ok (fun _=>bd_ok (law09_awake_ok hF') rfl) (fun h5=>?_)
  refine gd_ok (i64_of (by omega) (by omega)) ?_
  refine ih _ ⟨i+1,by omega,h,fun j hj=>?_⟩ (by omega)
  by_cases hji:j=i
  ·subst hji; simp at h5; omega
  ·exact hr j (by omega)
 ·have h : ¬ i<raw.length:=by simpa using h
  unfold law09_FeatureAnswers_k2
  obtain ⟨t,e,o⟩:=keep_New_ok F l
  refine bd_ok e ?_
  obtain ⟨t1,m,e1,o1,hm⟩:=law09_spoilt_ok hF' o a
  refine bd_ok e1 ?_
  obtain ⟨t2,k,e2,o2,k1,k2⟩:=keep_Tape_Range_ok (F:=F) o1 (lo:=1) (hi:=12) (by omega) (by omega) (by omega)
  refine bd_ok e2 ?_
  obtain ⟨t3,g,e3,o3,_,_⟩:=keep_Tape_Feature_ok hF' o2 k
  refine bd_ok e3 ?_
  refine fa_b3 hF' (fun hc=>lf6_of (k:=5) ((chkC_zero raw).1 hc) (fun f hf=>?_) (by omega)) (fun hc=>hm.lf hc)
  obtain ⟨j,hj,rfl⟩:=List.getElem_of_mem hf
  have:=hr j (by omega)
  have e:gl raw j=raw[j]:=by simp [gl,hj]
  rw [e] at this
  exact this
end
end Go.Ab
end
