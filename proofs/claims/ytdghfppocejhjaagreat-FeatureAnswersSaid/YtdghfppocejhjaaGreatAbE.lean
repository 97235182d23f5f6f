/- Abstract states over the model: every lemma holds of any program of the form that it names. -/
import Derived.Test.YtdghfppocejhjaaGreatLwA
import Derived.WideShapes
set_option linter.unusedVariables false
set_option linter.unusedSimpArgs false
section
namespace Go.Ab
set_option maxRecDepth 20000
noncomputable section
theorem insP_ok {F:Nat} {l:List Feature} {k:Nat} {f:Feature} (hk:k≤l.length) (hl:l.length≤60):insP F l (k:Int) [f]=some (l.take k++[f]++l.drop k):=by
 unfold insP
 exact gd_ok (by omega) (gd_ok rfl (gd_ok (by unfold LIM; omega) rfl))
theorem feature_Add_ok {F:Nat} (hF:BIG≤F) (l:List Feature) (f:Feature):feature_Add F l f=some (addC l f):=by
 have hF' := hF
 unfold BIG at hF
 unfold feature_Add addC
 refine bd_ok (feature_Check_ok hF' l) ?_
 by_cases h:chkC l=0
 ·refine br_ff (by simp [h]) ?_
  rw [if_neg (by simp [h])]
  refine bd_ok (feature_single_ok hF' f) ?_
  by_cases h1:oneC f=0
  ·refine br_ff (by simp [h1]) ?_
   rw [if_neg (by simp [h1])]
   have hv:=(chkC_zero l).1 h
   have hlen:=hv.len
   obtain ⟨a,b,c⟩:=lessN_spec hv.asc f.number_
   refine bd_ok (slices_BinarySearchFunc_Feature_ok hF' (x:=f) (fun g=>if g.number_<f.number_ then -1 else if f.number_<g.number_ then 1 else 0) (by omega) (fun g _=>feature_compare_ok F g f) a (fun j hj=>by simp [b j hj]) (fun j hj hjl=>by
    have:=c j hj hjl
    split
    ·omega
    ·split <;> omega)) ?_
   refine br_ok (fun h2=>?_) (fun h2=>?_)
   ·rw [Bool.and_eq_true,decide_eq_true_eq] at h2
    have h3:=c _ (Nat.le_refl _) h2.1
    have h4:(gl l (lessN l f.number_)).number_=f.number_:=by
     have:=h2.2
     rw [if_neg (by omega)] at this
     split at this
     ·simp at this
     ·omega
    rw [if_pos ⟨h2.1,h4⟩]
   ·have h5 : ¬ (lessN l f.number_<l.length∧(gl l (lessN l f.number_)).number_=f.number_):=fun ⟨h3,h4⟩=>by
     rw [decide_eq_true h3,Bool.true_and,h4,if_neg (by omega),if_neg (by omega)] at h2
     simp at h2
    rw [if_neg h5]
    refine br_ok (fun h6=>?_) (fun h6=>?_)
    ·have h6:l.length=60:=by simp at h6; omega
     rw [if_pos h6]
    ·have h6 : ¬ l.length=60:=by simp at h6; omega
     rw [if_neg h6]
     have hrl:f.region_.rects_.length≤LIM:=by
      have:=((oneC_zero f).1 h1).2.2.2.2.2.2.2.2.1
      unfold LIM; omega
     refine bd_ok (feature_all_ok hF' hv) (bd_ok (feature_copied_ok hrl) (bd_ok (insP_ok a (by omega)) ?_))
     rfl
  ·rw [if_pos (by simpa using h1)]
   exact br_tt (by simpa using h1) rfl
 ·rw [if_pos (by simpa using h)]
  exact br_tt (by simpa using h) rfl
theorem ref09_there_ok (F:Nat) (f:Feature) (d:Int):ref09_there F f d=some (thereB f d):=by
 unfold ref09_there thereB
 cases decide (f.from_≤d) <;> rfl
theorem ref09_On_ok {F:Nat} (hF:BIG≤F) (L:List Feature) (d:Int):ref09_On F L d=some (if chkC L≠0 then ([],chkC L) else if d<0∨36864<d then ([],9) else (L.filter fun f=>thereB f d,0)):=by
 have hF' := hF
 unfold BIG at hF
 unfold ref09_On
 refine bd_ok (ref09_Check_ok hF' L) ?_
 by_cases h:chkC L=0
 ·refine br_ff (by simp [h]) ?_
  rw [if_neg (by simp [h])]
  have hlen:=((chkC_zero L).1 h).len
  have hk : ∀ b:Bool,b=decide (d<0∨36864<d)→ref09_On_k0 F L d b=some (if d<0∨36864<d then ([],9) else (L.filter fun f=>thereB f d,0)):=by
   intro b hb
   unfold ref09_On_k0
   refine br_ok (fun h1=>?_) (fun h1=>?_)
   ·rw [if_pos (by simpa [h1] using hb)]
   ·rw [if_neg (by simpa [h1] using hb)]
    unfold ref09_On_b1 ref09_On_k2 ref09_On_k3
    refine range_st (l:=L) (σ:=List Feature) (fun rest acc=>acc.length+rest.length≤60) (fun rest acc=>some (acc++rest.filter fun f=>thereB f d,(0:Int))) (fun again i acc hi hI ih=>?_) (fun again acc hI=>?_) (by omega) (by simp; omega)
    ·simp only [List.length_cons] at hI
     simp only
     refine br_tt (lt_dec hi) ?_
     simp only [Int.toNat_natCast]
     refine gd_ok (by omega) ?_
     refine bd_ok (ref09_there_ok F _ d) ?_
     refine br_ok (fun h=>?_) (fun h=>?_)
     ·refine gd_ok (by unfold LIM; simp only [List.length_cons,List.length_nil]; omega) ?_
      refine gd_G (k:=?_)
      rw [ih _ (by simp only [List.length_append,List.length_cons,List.length_nil]; omega)]
      simp [List.filter_cons,h]
     ·refine gd_G (k:=?_)
      rw [ih _ (by omega)]
      simp [List.filter_cons,h]
    ·simp only
     refine br_ff (not_lt_dec _) ?_
     simp
  refine br_ok (fun h1=>?_) (fun h1=>?_)
  ·exact hk _ (by simp at h1; simp [h1])
  ·exact hk _ (by simp at h1; simp; omega)
 ·refine br_tt (by simp [h]) ?_
  rw [if_pos h]
theorem ref09_Apart_ok {F:Nat} (hF:BIG≤F) {L:List Feature} (hv:VL L):ref09_Apart F L=some (apGo L):=by
 have hF' := hF
 unfold BIG at hF
 have hlen:=hv.len
 unfold ref09_Apart
 refine bd_ok (ref09_Check_ok hF' L) ?_
 refine br_ff (by rw [(chkC_zero L).2 hv]; rfl) ?_
 refine range_ok (l:=L) (fun m=>some (apGo m)) (fun again i hi ha=>?_) (fun again=>?_) (by omega)
 ·unfold ref09_Apart_b0
  refine br_tt (lt_dec hi) ?_
  refine gd_G (k:=?_)
  refine gd_G (k:=?_)
  refine gd_G (k:=?_)
  have ei:((i:Int)+1).toNat=i+1:=by omega
  have hyy:some (apGo (gl L i::L.drop (i+1)))=(fun m:List Feature=>some (match m.find? (hitB (gl L i)) with | some g=>((gl L i).number_,g.number_,true,0) | none=>apGo (L.drop (i+1)))) (L.drop (i+1)):=rfl
  rw [hyy]
  refine range_ok (F:=F) (l:=L.drop (i+1)) (fun m:List Feature=>some (match m.find? (hitB (gl L i)) with | some g=>((gl L i).number_,g.number_,true,0) | none=>apGo (L.drop (i+1)))) (fun ag2 j hj ha2=>?_) (fun ag2=>?_) (Nat.lt_of_le_of_lt (by rw [List.length_drop]; omega:(L.drop (i+1)).length≤60) (by omega))
  ·have hj' : j<L.length:=by simp at hj; omega
   have hk : ∀ b:Bool,b=hitB (gl L i) (gl (L.drop (i+1)) j)→ref09_Apart_k2 F L i j ag2 b=some (match (gl (L.drop (i+1)) j::(L.drop (i+1)).drop (j+1)).find? (hitB (gl L i)) with | some g=>((gl L i).number_,g.number_,true,0) | none=>apGo (L.drop (i+1))):=by
    intro b hb
    unfold ref09_Apart_k2
    simp only [ei,Int.toNat_natCast]
    rw [List.find?_cons, ← hb]
    refine br_ok (fun h=>by rw [h]) (fun h=>?_)
    rw [h]
    refine gd_G (k:=?_)
    exact ha2
   unfold ref09_Apart_b1
   rw [ei]
   refine br_tt (lt_dec hj) ?_
   refine gd_G (k:=?_)
   simp only [Int.toNat_natCast]
   refine br_ok (fun h=>?_) (fun h=>hk _ (by unfold hitB; rw [h]; rfl))
   refine br_ok (fun h2=>?_) (fun h2=>hk _ (by unfold hitB; rw [h,h2]; rfl))
   refine bd_ok (ref04_Meets_ok hF' _ _) (hk _ (by unfold hitB; rw [h,h2]; rfl))
  ·unfold ref09_Apart_b1
   rw [ei]
   refine br_ff (not_lt_dec _) ?_
   unfold ref09_Apart_k3
   refine gd_G (k:=?_)
   exact ha
 ·unfold ref09_Apart_b0
  exact br_ff (not_lt_dec _) rfl
end
end Go.Ab
end

section
namespace Go.Ab
set_option maxRecDepth 20000
open Go.Maps Go.ChangeMaps
noncomputable section
theorem keys_put_nodup {es:List (Lit×DataW Unit)} (hes : ∀ p ∈ es,∃ x,p.1=.int .i64 x) (hn:(intKeys (.map es)).Nodup) (k:Int) (d:DataW Unit):(intKeys (.map (putKey (.int .i64 k) d es))).Nodup:=by
 unfold intKeys putKey
 have hp:((DataW.insert (Lit.int .i64 k,d) (es.filter (notKey (.int .i64 k)))).map fun p=>intOf p.1).Perm (((Lit.int .i64 k,d)::es.filter (notKey (.int .i64 k))).map fun p=>intOf p.1):=(Go.WideShapes.insert_perm _ _).map _
 rw [hp.nodup_iff,List.map_cons,List.nodup_cons]
 refine ⟨fun h=>?_, ?_⟩
 ·obtain ⟨p,hp,he⟩:=List.mem_map.1 h
  obtain ⟨hp,h2⟩:=List.mem_filter.1 hp
  obtain ⟨x,hx⟩:=hes p hp
  rw [hx] at he
  have he:x=k:=he
  rw [notKey,hx,he] at h2
  simp [Lit.sameKey] at h2
 ·exact List.Nodup.sublist (List.Sublist.map _ List.filter_sublist) hn
theorem mapD_nodup_go : ∀ (ks:List Int) (es:List (Lit×DataW Unit)),(∀ p ∈ es,∃ x,p.1=.int .i64 x)→(intKeys (.map es)).Nodup →
  ∃ es' : List (Lit×DataW Unit),ks.foldl (fun (D:DataW Unit) k=>D.put (.int .i64 k) (.lit (.bool true))) (DataW.map es)=DataW.map es' ∧ (intKeys (.map es')).Nodup
 | [],es,_,hn=>⟨es,rfl,hn⟩
 | k::ks,es,h,hn=>by
  have h' : ∀ p ∈ putKey (.int .i64 k) (.lit (.bool true)) es,∃ x,p.1=.int .i64 x:=fun p hp=>by
   unfold putKey at hp
   rcases mem_insert_iff.1 hp with rfl | hp
   ·exact ⟨_,rfl⟩
   ·exact h p (List.mem_filter.1 hp).1
  obtain ⟨es',h1,h2⟩:=mapD_nodup_go ks (putKey (.int .i64 k) (.lit (.bool true)) es) h' (keys_put_nodup h hn k _)
  exact ⟨es',by rw [List.foldl_cons,DataW.put_eq]; exact h1,h2⟩
theorem mapD_nodup (ks:List Int):(intKeys (mapD ks)).Nodup:=by
 obtain ⟨es,h1,h2⟩:=mapD_nodup_go ks [] (by simp) (by simp [intKeys])
 have e:mapD ks=.map es:=h1
 rw [e]; exact h2
theorem keysM_asc {ks r:List Int} (h:keysM ks=some r):r.Pairwise fun x y=>x<y:=by
 unfold keysM at h
 split at h
 ·cases h
  have h1:=List.pairwise_mergeSort (le:=fun x y:Int=>decide (x≤y)) (fun a b c h1 h2=>by simp at *; omega) (fun a b=>by simp; omega) (intKeys (mapD ks))
  have h2:((intKeys (mapD ks)).mergeSort fun x y=>decide (x≤y)).Nodup:=((List.mergeSort_perm _ _).nodup_iff).2 (mapD_nodup ks)
  exact (h1.and h2).imp fun {a b} ⟨h3,h4⟩=>by
   have:a≤b:=by simpa using h3
   have:a≠b:=h4
   omega
 ·cases h
theorem put_mem (n:Int) : ∀ (l:List Int) (v:Int),v ∈ put l n↔v=n∨v ∈ l
 | [],v=>by simp [put]
 | a::l,v=>by
  unfold put
  split
  ·rw [List.mem_cons,put_mem n l v,List.mem_cons]; grind
  ·split <;> grind
theorem put_asc (n:Int) : ∀ (l:List Int),(l.Pairwise fun x y=>x<y)→(put l n).Pairwise fun x y=>x<y
 | [],_=>by simp [put]
 | a::l,h=>by
  obtain ⟨h1,h2⟩:=List.pairwise_cons.1 h
  unfold put
  split
  ·refine List.pairwise_cons.2 ⟨fun v hv=>?_,put_asc n l h2⟩
   rcases (put_mem n l v).1 hv with rfl | hv
   ·assumption
   ·exact h1 v hv
  ·split
   ·exact h
   ·refine List.pairwise_cons.2 ⟨fun v hv=>?_,h⟩
    rcases List.mem_cons.1 hv with rfl | hv
    ·omega
    ·have:=h1 v hv; omega
theorem asc_eq : ∀ {a b:List Int},(a.Pairwise fun x y=>x<y)→(b.Pairwise fun x y=>x<y)→(∀ v,v ∈ a↔v ∈ b)→a=b
 | [],[],_,_,_=>rfl
 | [],y::b,_,_,h=>by have:=(h y).2 (List.mem_cons_self ..); cases this
 | x::a,[],_,_,h=>by have:=(h x).1 (List.mem_cons_self ..); cases this
 | x::a,y::b,ha,hb,h=>by
  obtain ⟨a1,a2⟩:=List.pairwise_cons.1 ha
  obtain ⟨b1,b2⟩:=List.pairwise_cons.1 hb
  have e:x=y:=by
   have h1:=(h x).1 (List.mem_cons_self ..)
   have h2:=(h y).2 (List.mem_cons_self ..)
   rcases List.mem_cons.1 h1 with h1 | h1
   ·exact h1
   ·rcases List.mem_cons.1 h2 with h2 | h2
    ·exact h2.symm
    ·have:=a1 _ h2; have:=b1 _ h1; omega
  subst e
  refine congrArg _ (asc_eq a2 b2 fun v=>?_)
  have:=h v
  constructor
  ·intro hv
   rcases List.mem_cons.1 (this.1 (List.mem_cons_of_mem _ hv)) with rfl | h3
   ·have:=a1 _ hv; omega
   ·exact h3
  ·intro hv
   rcases List.mem_cons.1 (this.2 (List.mem_cons_of_mem _ hv)) with rfl | h3
   ·have:=b1 _ hv; omega
   ·exact h3
end
end Go.Ab
end

section
namespace Go.Ab
set_option maxRecDepth 20000
noncomputable section
theorem feature_Changes_keys {F:Nat} (hF:BIG≤F) {L:List Feature} (hv:VL L) : ∃ r,feature_Changes F L=some (r,0)∧keysM (daysC L)=some r∧(∀ v,v ∈ r↔v ∈ daysC L)∧r.length≤120:=by
 have hF' := hF
 unfold BIG at hF
 have hl:=hv.len
 have hdl:=daysC_len L
 obtain ⟨r,hr,hs,hm,hrl⟩:=keysM_ok (ks:=daysC L) (by unfold LIM; omega)
 refine ⟨r, ?_,hr,hm,by omega⟩
 unfold feature_Changes
 refine bd_ok (feature_Check_ok hF' L) ?_
 rw [(chkC_zero L).2 hv]
 refine br_ff rfl ?_
 unfold feature_Changes_b0 feature_Changes_k1
 refine range_st (l:=L) (σ:=List Int) (fun rest acc=>acc++daysC rest=daysC L∧acc.length+2*rest.length≤2*L.length∧∀ f ∈ rest,f ∈ L) (fun rest acc=>some (r,0)) (fun again i acc hi hI ih=>?_) (fun again acc hI=>?_) (by omega) ⟨rfl,by simp,fun f h=>h⟩
 ·obtain ⟨h1,h2,h3⟩:=hI
  obtain ⟨q1,q2,q3,q4,q5,q6,q7,q8,q9⟩:=(oneC_zero _).1 (hv.one _ (h3 _ (List.mem_cons_self ..)))
  simp only [List.length_cons] at h2
  simp only
  refine br_tt (lt_dec hi) ?_
  simp only [Int.toNat_natCast]
  refine gd_ok (by omega) ?_
  refine gd_ok ⟨by unfold LIM; omega,i64_of (by omega) (by omega)⟩ ?_
  have e:daysC (gl L i::L.drop (i+1))=(if (gl L i).until_≤36864 then [(gl L i).from_,(gl L i).until_] else [(gl L i).from_])++daysC (L.drop (i+1)):=rfl
  rw [e] at h1
  refine br_ok (fun h=>?_) (fun h=>?_)
  ·have h:(gl L i).until_≤36864:=by simpa using h
   rw [if_pos h] at h1
   refine gd_ok ⟨by unfold LIM; simp only [List.length_append,List.length_cons,List.length_nil]; omega,i64_of (by omega) (by omega)⟩ ?_
   refine gd_G (k:=?_)
   exact ih _ ⟨by rw [← h1]; simp,by simp only [List.length_append,List.length_cons,List.length_nil]; omega,fun f hf=>h3 f (List.mem_cons_of_mem _ hf)⟩
  ·have h : ¬ (gl L i).until_≤36864:=by simpa using h
   rw [if_neg h] at h1
   refine gd_G (k:=?_)
   exact ih _ ⟨by rw [← h1]; simp,by simp only [List.length_append,List.length_cons,List.length_nil]; omega,fun f hf=>h3 f (List.mem_cons_of_mem _ hf)⟩
 ·obtain ⟨h1,_,_⟩:=hI
  simp only
  refine br_ff (not_lt_dec _) ?_
  unfold feature_Changes_k2
  have:acc=daysC L:=by simpa [daysC] using h1
  rw [this]
  exact bd_ok hr rfl
def chg1 (o:List Int) (f:Feature):List Int:=if f.until_≤36864 then put (put o f.from_) f.until_ else put o f.from_
def chg (L:List Feature):List Int:=L.foldl chg1 []
theorem put_len (n:Int) : ∀ (l:List Int),(put l n).length≤l.length+1
 | []=>by simp [put]
 | a::l=>by
  have:=put_len n l
  unfold put
  split
  ·simp; omega
  ·split <;> simp
theorem chg_go : ∀ (L:List Feature) (o:List Int),(o.Pairwise fun x y=>x<y)→((L.foldl chg1 o).Pairwise fun x y=>x<y)∧(∀ v,v ∈ L.foldl chg1 o↔v ∈ o∨v ∈ daysC L)∧(L.foldl chg1 o).length≤o.length+2*L.length
 | [],o,h=>⟨h,by simp [daysC],by simp⟩
 | f::L,o,h=>by
  have h1:(chg1 o f).Pairwise fun x y=>x<y:=by
   unfold chg1
   split
   ·exact put_asc _ _ (put_asc _ _ h)
   ·exact put_asc _ _ h
  have h2 : ∀ v,v ∈ chg1 o f↔v ∈ o∨v ∈ (if f.until_≤36864 then [f.from_,f.until_] else [f.from_]):=fun v=>by
   unfold chg1
   split
   ·rw [put_mem,put_mem]; simp; grind
   ·rw [put_mem]; simp; grind
  have h3:(chg1 o f).length≤o.length+2:=by
   unfold chg1
   have a:=put_len f.from_ o
   have b:=put_len f.until_ (put o f.from_)
   split <;> omega
  obtain ⟨q1,q2,q3⟩:=chg_go L (chg1 o f) h1
  refine ⟨q1,fun v=>?_,by rw [List.length_cons,List.foldl_cons]; omega⟩
  rw [List.foldl_cons,q2,h2]
  unfold daysC
  rw [List.flatMap_cons,List.mem_append,or_assoc]
theorem chg_take {L:List Feature} {i:Nat} (h:i<L.length):chg (L.take (i+1))=chg1 (chg (L.take i)) (gl L i):=by
 unfold chg
 rw [take_gl h,List.foldl_append]; rfl
theorem ref09_Changes_ok {F:Nat} (hF:BIG≤F) {L:List Feature} (hv:VL L):ref09_Changes F L=some (chg L,0):=by
 have hF' := hF
 unfold BIG at hF
 have hl:=hv.len
 unfold ref09_Changes
 refine bd_ok (ref09_Check_ok hF' L) ?_
 rw [(chkC_zero L).2 hv]
 refine br_ff rfl ?_
 refine loopN_ok (fun z:List Int×Int=>∃ i:Nat,z=(chg (L.take i),(i:Int))∧i≤L.length) (fun z=>L.length-z.2.toNat) (fun again z hz ih=>?_) ⟨0,rfl,Nat.zero_le _⟩ (by simp; omega)
 obtain ⟨i,rfl,hi2⟩:=hz
 simp only at ih ⊢
 have hlen : ∀ i,(chg (L.take i)).length≤120:=fun i=>by
  have:=(chg_go (L.take i) [] (by simp)).2.2
  have h2:(L.take i).length≤L.length:=by simp; omega
  unfold chg
  simp only [List.length_nil] at this
  omega
 unfold ref09_Changes_b0
 refine br_ok (fun h=>?_) (fun h=>?_)
 ·have h:i<L.length:=by simpa using h
  have hnext : ∀ o,o=chg (L.take (i+1))→ref09_Changes_k1 F (i:Int) again o=some (chg L,0):=fun o ho=>by
   unfold ref09_Changes_k1
   refine gd_G (k:=?_)
   exact ih _ ⟨i+1,by rw [ho]; simp,h⟩ (by simp only; omega)
  refine gd_G (k:=?_)
  simp only [Int.toNat_natCast]
  have:=hlen i
  refine bd_ok (ref01_Put_ok hF' (by omega) _) ?_
  have hp:=put_len (gl L i).from_ (chg (L.take i))
  refine br_ok (fun h2=>?_) (fun h2=>?_)
  ·refine bd_ok (ref01_Put_ok hF' (by omega) _) ?_
   refine hnext _ ?_
   rw [chg_take h]; unfold chg1
   rw [if_pos (by simpa using h2)]
  ·refine hnext _ ?_
   rw [chg_take h]; unfold chg1
   rw [if_neg (by simpa using h2)]
 ·have h : ¬ i<L.length:=by simpa using h
  unfold ref09_Changes_k2
  rw [List.take_of_length_le (by omega)]
theorem changes_same {F:Nat} (hF:BIG≤F) {L:List Feature} (hv:VL L):feature_Changes F L=some (chg L,0)∧(chg L).length≤120:=by
 obtain ⟨r,h1,h2,h3,h4⟩:=feature_Changes_keys hF hv
 obtain ⟨q1,q2,q3⟩:=chg_go L [] (by simp)
 have e:r=chg L:=asc_eq (keysM_asc h2) q1 fun v=>by rw [h3]; unfold chg; rw [q2]; simp
 exact ⟨by rw [← e]; exact h1,by rw [← e]; exact h4⟩
end
end Go.Ab
end

section
namespace Go.Ab
set_option maxRecDepth 20000
noncomputable section
theorem ref09_End_ok {F:Nat} (hF:BIG≤F) (L:List Feature) (n d:Int):ref09_End F L n d=some (endC L n d):=by
 have hF' := hF
 unfold BIG at hF
 unfold ref09_End endC
 refine bd_ok (ref09_Check_ok hF' L) ?_
 by_cases h0:chkC L=0
 ·refine br_ff (by simp [h0]) ?_
  rw [if_neg (by simp [h0])]
  have hv:=(chkC_zero L).1 h0
  have hlen:=hv.len
  obtain ⟨a,b,c⟩:=lessN_spec hv.asc n
  generalize lessN L n=k at a b c ⊢
  by_cases hf:k<L.length∧(gl L k).number_=n
  ·rw [if_neg (by simp [hf])]
   obtain ⟨hkl,hkn⟩:=hf
   have hne : ∀ j,j<L.length→j≠k→(gl L j).number_≠n:=fun j hj hjk=>by
    by_cases h:j<k
    ·have:=b j h; omega
    ·have:=hit_ix hv.asc (a:=j) (b:=k) (by omega) hj; omega
   obtain ⟨R,hR,hRl⟩ : ∃ R:List Feature,R=(if (gl L k).from_=d then L.eraseIdx k else L.set k { gl L k with until_:=d })∧R.length≤60:=⟨_,rfl,by
    split
    ·rw [List.length_eraseIdx]; split <;> omega
    ·rw [List.length_set]; exact hlen⟩
   have hE:(if thereB (gl L k) d=false then (([]:List Feature),(9:Int)) else if (gl L k).from_=d then (L.eraseIdx k,0) else (L.set k { gl L k with until_:=d },0))=if thereB (gl L k) d=false then ([],9) else (R,0):=by
    rw [hR]; split
    ·rfl
    ·split <;> rfl
   rw [hE]
   refine loopN_ok (fun z:Bool×Int×List Feature=>∃ (i:Nat) (acc:List Feature),z=(decide (k<i),(i:Int),acc)∧i≤L.length∧acc++L.drop i=(if i≤k then L else R)∧(k<i→thereB (gl L k) d=true)) (fun z=>L.length-z.2.1.toNat) (fun again z hz ih=>?_) ⟨0,[],rfl,Nat.zero_le _,by simp,by omega⟩ (by simp; omega)
   obtain ⟨i,acc,rfl,hi2,hacc,hth⟩:=hz
   simp only at ih ⊢
   have hal:acc.length≤60:=by
    have:=congrArg List.length hacc
    rw [List.length_append] at this
    split at this <;> omega
   unfold ref09_End_b0
   refine br_ok (fun h=>?_) (fun h=>?_)
   ·have h:i<L.length:=by simpa using h
    have hnext : ∀ (fd:Bool) (o:List Feature),fd=decide (k<i+1)→o++L.drop (i+1)=(if i+1≤k then L else R)→(k<i+1→thereB (gl L k) d=true)→ref09_End_k1 F (i:Int) again fd o=some (if thereB (gl L k) d=false then ([],9) else (R,0)):=fun fd o h1 h2 h3=>by
     unfold ref09_End_k1
     refine gd_G (k:=?_)
     exact ih _ ⟨i+1,o,by rw [h1]; simp,h,h2,h3⟩ (by simp only; omega)
    refine gd_G (k:=?_)
    simp only [Int.toNat_natCast]
    by_cases hik:i=k
    ·subst hik
     refine br_ff (by simp [hkn]) ?_
     refine bd_ok (ref09_there_ok F _ d) ?_
     rw [if_pos (Nat.le_refl _)] at hacc
     have hacc:acc=L.take i:=by
      have h1:acc++L.drop i=L.take i++L.drop i:=by rw [List.take_append_drop]; exact hacc
      exact List.append_cancel_right h1
     refine br_ok (fun h1=>?_) (fun h1=>?_)
     ·rw [if_pos (by simpa using h1)]
     ·have h1:thereB (gl L i) d=true:=by simpa using h1
      have hfd:(gl L i).from_≤d:=by
       unfold thereB at h1
       simp at h1; omega
      refine br_ok (fun h2=>?_) (fun h2=>?_)
      ·have h2:(gl L i).from_<d:=by simpa using h2
       refine gd_ok (by unfold LIM; simp only [List.length_cons,List.length_nil]; omega) ?_
       refine hnext _ _ (by simp) ?_ (fun _=>h1)
       rw [if_neg (by omega),hR,if_neg (by omega),List.set_eq_take_append_cons_drop,if_pos h,hacc]
       simp
      ·have h2 : ¬ (gl L i).from_<d:=by simpa using h2
       refine hnext _ _ (by simp) ?_ (fun _=>h1)
       rw [if_neg (by omega),hR,if_pos (by omega),List.eraseIdx_eq_take_drop_succ,hacc]
    ·refine br_tt (by simpa using hne i h hik) ?_
     refine gd_ok (by unfold LIM; simp only [List.length_cons,List.length_nil]; omega) ?_
     refine hnext _ _ (by congr 1; simp; omega) ?_ (fun h1=>hth (by omega))
     rw [List.append_assoc,List.singleton_append, ← drop_gl h,hacc]
     by_cases h1:i≤k
     ·rw [if_pos h1,if_pos (by omega)]
     ·rw [if_neg h1,if_neg (by omega)]
   ·have h : ¬ i<L.length:=by simpa using h
    have hi:i=L.length:=by omega
    unfold ref09_End_k2
    refine br_ff (by simp; omega) ?_
    rw [hi,List.drop_length,List.append_nil,if_neg (by omega)] at hacc
    rw [hth (by omega),hacc]; rfl
  ·rw [if_pos hf]
   have hne : ∀ j,j<L.length→(gl L j).number_≠n:=fun j hj=>by
    by_cases h:j<k
    ·have:=b j h; omega
    ·by_cases hjk:j=k
     ·subst hjk; exact fun e=>hf ⟨hj,e⟩
     ·have:=hit_ix hv.asc (a:=j) (b:=k) (by omega) hj
      have:=c k (Nat.le_refl _) (by omega); omega
   refine loopN_ok (fun z:Bool×Int×List Feature=>∃ (i:Nat) (acc:List Feature),z=(false,(i:Int),acc)∧i≤L.length∧acc.length≤i) (fun z=>L.length-z.2.1.toNat) (fun again z hz ih=>?_) ⟨0,[],rfl,Nat.zero_le _,by simp⟩ (by simp; omega)
   obtain ⟨i,acc,rfl,hi2,hacc⟩:=hz
   simp only at ih ⊢
   unfold ref09_End_b0
   refine br_ok (fun h=>?_) (fun h=>?_)
   ·have h:i<L.length:=by simpa using h
    refine gd_G (k:=?_)
    simp only [Int.toNat_natCast]
    refine br_tt (by simpa using hne i h) ?_
    refine gd_ok (by unfold LIM; simp only [List.length_cons,List.length_nil]; omega) ?_
    unfold ref09_End_k1
    refine gd_G (k:=?_)
    exact ih _ ⟨i+1,_,by simp; rfl,h,by simp only [List.length_append,List.length_cons,List.length_nil]; omega⟩ (by simp only; omega)
   ·unfold ref09_End_k2
    exact br_tt rfl rfl
 ·refine br_tt (by simp [h0]) ?_
  rw [if_pos h0]
end
end Go.Ab
end
