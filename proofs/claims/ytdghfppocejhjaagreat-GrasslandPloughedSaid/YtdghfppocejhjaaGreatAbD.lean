/- Abstract states over the model: every lemma holds of any program of the form that it names. -/
import Derived.Test.YtdghfppocejhjaaGreatLwA
set_option linter.unusedVariables false
set_option linter.unusedSimpArgs false
section
namespace Go.Ab
set_option maxRecDepth 20000
noncomputable section
def limB (n:Int):Bool:=decide (0≤n)&&decide (n≤1099511627776)
theorem limB_t {n:Int} (h:0≤n∧n≤1000000):limB n=true:=by
 unfold limB
 rw [decide_eq_true h.1,decide_eq_true (by omega)]; rfl
theorem exact_limited_ok (F:Nat) (n:Int):exact_limited F n=some (limB n):=by
 unfold exact_limited exact_limited_k0 limB
 generalize decide ((0:Int)≤n)=b
 cases b <;> rfl
theorem exact_divide_ok (F:Nat) {x y z:Int} (hx:0≤x∧x≤1000000) (hy:0≤y∧y≤1000000) (hz:1≤z∧z≤1000000):exact_divide F x y z=some (x*y / z,x*y % z):=by
 have h0:0≤x*y:=Int.mul_nonneg hx.1 hy.1
 have h1:x*y≤1000000*1000000:=Int.mul_le_mul hx.2 hy.2 hy.1 (by omega)
 have q0:0≤x*y / z:=Int.ediv_nonneg h0 (by omega)
 have q1:x*y / z≤x*y:=Int.ediv_le_self _ h0
 have m0:0≤x*y % z:=Int.emod_nonneg _ (by omega)
 have m1:x*y % z<z:=Int.emod_lt_of_pos _ (by omega)
 unfold exact_divide exact_product
 rw [wrap_u64 hx.1 (by omega),wrap_u64 hy.1 (by omega),wrap_u64 (n:=z) (by omega) (by omega)]
 refine bd_ok (bd_ok (math_bits_Mul64_ok F ⟨hx.1,by omega⟩ ⟨hy.1,by omega⟩) rfl) ?_
 refine br_ff (decide_eq_false (by simp only; omega)) ?_
 refine bd_ok (a:=(x*y / z,x*y % z)) ?_ ?_
 ·unfold math_bits_Div64
  refine br_ff (by simp; omega) (br_ff (decide_eq_false (by simp only; omega)) (br_tt (by simp) (gd_ok (by omega) (gd_ok (by omega) ?_))))
  simp only
  rw [Int.tdiv_eq_ediv_of_nonneg h0,Int.tmod_eq_emod_of_nonneg h0,wrap_u64 q0 (by omega)]
 ·have hm:gmin (x*y / z) 1125899906842625=x*y / z:=by unfold gmin; rw [if_neg (by omega)]
  simp only [hm]
  exact gd_ok (i64_of (by omega) (by omega)) (gd_ok (i64_of (by omega) (by omega)) rfl)
theorem exact_Part_ok (F:Nat) {s k:Int} (hs:0≤s∧s≤1000000) (hk:0≤k∧k≤1000000):exact_Part F s k 1000000=some (s*k / 1000000,0):=by
 have h0:0≤s*k:=Int.mul_nonneg hs.1 hk.1
 have h1:s*k≤1000000*1000000:=Int.mul_le_mul hs.2 hk.2 hk.1 (by omega)
 unfold exact_Part
 refine bd_ok (exact_limited_ok _ _) (br_ff (by rw [limB_t hs]; rfl) (bd_ok (exact_limited_ok _ _) (br_ff (by rw [limB_t hk]; rfl) (br_ff (decide_eq_false (by omega)) (bd_ok (exact_limited_ok _ _) ?_)))))
 unfold exact_Part_k0
 refine br_ff (by rw [limB_t (by omega)]; rfl) (bd_ok (exact_divide_ok F hs hk (by omega)) (br_ff (decide_eq_false (by simp only; omega)) rfl))
theorem sum_nn {w:List Int} (hw : ∀ x ∈ w,0≤x):0≤w.sum:=by
 induction w with
 | nil=>simp
 | cons a w ih=>
  rw [List.sum_cons]
  have:=hw a (by simp)
  have:=ih fun x hx=>hw x (List.mem_cons_of_mem _ hx)
  omega
theorem sum_le {w:List Int} (hw : ∀ x ∈ w,0≤x) {x:Int} (hx:x ∈ w):x≤w.sum:=by
 induction w with
 | nil=>cases hx
 | cons a w ih=>
  rw [List.sum_cons]
  have h1:=hw a (by simp)
  have h2:=sum_nn fun x hx=>hw x (List.mem_cons_of_mem a hx)
  rcases List.mem_cons.1 hx with rfl | hx
  ·omega
  ·have:=ih (fun x hx=>hw x (List.mem_cons_of_mem _ hx)) hx
   omega
theorem sum_snoc (w:List Int) (x:Int):(w++[x]).sum=w.sum+x:=by
 rw [List.sum_append,List.sum_cons,List.sum_nil,Int.add_zero]
theorem sum_takeN {w:List Int} (hw : ∀ x ∈ w,0≤x) (i:Nat):0≤(w.take i).sum∧(w.take i).sum≤w.sum:=by
 refine ⟨sum_nn fun x hx=>hw x (List.mem_of_mem_take hx), ?_⟩
 have h:=sum_nn fun x (hx:x ∈ w.drop i)=>hw x (List.mem_of_mem_drop hx)
 have:(w.take i++w.drop i).sum=w.sum:=by rw [List.take_append_drop]
 rw [List.sum_append] at this
 omega
theorem parts_sum {t s:Int} (hs:0<s) : ∀ w:List Int,t*w.sum=s*(w.map fun x=>t*x / s).sum+(w.map fun x=>t*x % s).sum∧0≤(w.map fun x=>t*x % s).sum∧(w.map fun x=>t*x % s).sum≤w.length*s:=by
 intro w
 induction w with
 | nil=>simp
 | cons a w ih=>
  obtain ⟨h1,h2,h3⟩:=ih
  simp only [List.map_cons,List.sum_cons,List.length_cons]
  have e1:s*(t*a / s)+t*a % s=t*a:=Int.mul_ediv_add_emod _ _
  have e2:0≤t*a % s:=Int.emod_nonneg _ (by omega)
  have e3:t*a % s<s:=Int.emod_lt_of_pos _ hs
  have e4:((w.length+1:Nat):Int)*s=w.length*s+s:=by rw [Int.natCast_add,Int.add_mul]; simp
  refine ⟨?_,by omega,by rw [e4]; omega⟩
  rw [Int.mul_add,Int.mul_add,h1]
  omega
def leftN (t:Int) (w:List Int):Int:=t-(w.map fun x=>t*x / w.sum).sum
theorem leftN_ok {t:Int} {w:List Int} (hs:0<w.sum):0≤leftN t w∧leftN t w≤w.length∧leftN t w*w.sum=(w.map fun x=>t*x % w.sum).sum:=by
 obtain ⟨h1,h2,h3⟩:=parts_sum (t:=t) hs w
 have e:leftN t w*w.sum=(w.map fun x=>t*x % w.sum).sum:=by
  unfold leftN
  rw [Int.sub_mul,h1,Int.mul_comm (List.sum _) w.sum]
  omega
 refine ⟨?_, ?_,e⟩
 ·rcases Int.lt_or_le (leftN t w) 0 with h | h
  ·have:=Int.mul_neg_of_neg_of_pos h hs
   omega
  ·exact h
 ·rw [← e] at h3
  exact Int.le_of_mul_le_mul_right h3 hs
theorem quo_le {t s x:Int} (ht:0≤t) (hs:0<s) (hx:0≤x∧x≤s):0≤t*x / s∧t*x / s≤t:=by
 refine ⟨Int.ediv_nonneg (Int.mul_nonneg ht hx.1) (by omega), ?_⟩
 have:t*x≤t*s:=Int.mul_le_mul_of_nonneg_left hx.2 ht
 exact Int.ediv_le_of_le_mul hs this
theorem quo_sum {t s:Int} (ht:0≤t∧t≤1000000) (hs:0<s) : ∀ w:List Int,(∀ x ∈ w,0≤x∧x≤s)→0≤(w.map fun x=>t*x / s).sum∧(w.map fun x=>t*x / s).sum≤w.length*1000000:=by
 intro w
 induction w with
 | nil=>simp
 | cons a w ih=>
  intro h
  obtain ⟨h1,h2⟩:=ih fun x hx=>h x (List.mem_cons_of_mem _ hx)
  have:=quo_le ht.1 hs (h a (by simp))
  simp only [List.map_cons,List.sum_cons,List.length_cons]
  omega
def idxs (n:Nat):List Int:=(List.range n).map fun (j:Nat)=>(j:Int)
def rkey (t s:Int) (w:List Int) (j:Int):Int×Int:=(-(t*gl w j.toNat % s),j)
structure Ordd (t:Int) (w:List Int) (o:List Int):Prop where
 perm:o.Perm (idxs w.length)
 asc:o.Pairwise fun a b=>lt2 (rkey t w.sum w a) (rkey t w.sum w b)
def shR (t:Int) (w:List Int) (o:List Int):List Int:=
 if w.sum=0 then List.replicate w.length 0 else (List.range w.length).map fun j=>t*gl w j / w.sum+if (j:Int) ∈ o.take (leftN t w).toNat then 1 else 0
theorem idxs_mem {n:Nat} {x:Int}:x ∈ idxs n↔0≤x∧x<n:=by
 unfold idxs
 simp only [List.mem_map,List.mem_range]
 constructor
 ·rintro ⟨j,hj,rfl⟩; omega
 ·rintro ⟨h1,h2⟩; exact ⟨x.toNat,by omega,by omega⟩
theorem idxs_nodup (n:Nat):(idxs n).Nodup:=by
 unfold idxs
 exact List.Pairwise.map _ (fun a b h=>by omega) (List.nodup_range)
theorem Ordd.mem {t:Int} {w o:List Int} (h:Ordd t w o) {x:Int}:x ∈ o↔0≤x∧x<w.length:=by rw [h.perm.mem_iff,idxs_mem]
theorem Ordd.nodup {t:Int} {w o:List Int} (h:Ordd t w o):o.Nodup:=h.perm.nodup_iff.2 (idxs_nodup _)
theorem Ordd.len {t:Int} {w o:List Int} (h:Ordd t w o):o.length=w.length:=by rw [h.perm.length_eq]; unfold idxs; simp
theorem gl_extI {l m:List Int} (h:l.length=m.length) (hg : ∀ i,i<l.length→gl l i=gl m i):l=m:=by
 apply List.ext_getElem h
 intro i h1 h2
 have:=hg i h1
 rw [gl_lt h1,gl_lt h2] at this
 exact this
theorem gl_setI {l:List Int} {i:Nat} {x:Int} (hi:i<l.length) (j:Nat):gl (l.set i x) j=if j=i then x else gl l j:=by
 simp only [gl,List.getD_eq_getElem?_getD,List.getElem?_set]
 by_cases h:i=j
 ·subst h; simp [hi]
 ·rw [if_neg h,if_neg (Ne.symm h)]
theorem gl_map_r (n:Nat) (f:Nat→Int) {i:Nat} (h:i<n):gl ((List.range n).map f) i=f i:=by simp [gl,List.getD_eq_getElem?_getD,h]
theorem gl_takeR {α:Type} [Emb α] (l:List α) {i k:Nat} (h:k<i):gl (l.take i) k=gl l k:=by simp [gl,List.getD_eq_getElem?_getD,h]
theorem gl_map_t (f:Int→Int) (w:List Int) {i:Nat} (h:i<w.length):gl (w.map f) i=f (gl w i):=by
 rw [gl_lt (by simpa using h),gl_lt h,List.getElem_map]
theorem cmp2_or (u v a b:Int):(if (if u<v then (-1:Int) else if v<u then 1 else 0)≠0 then (if u<v then (-1:Int) else if v<u then 1 else 0) else (if a<b then (-1:Int) else if b<a then 1 else 0))=cmp2 (-v,a) (-u,b):=by
 unfold cmp2
 simp only
 repeat' split
 all_goals omega
theorem mem_take_succ {o:List Int} {i:Nat} (hi:i<o.length) {x:Int}:x ∈ o.take (i+1)↔x ∈ o.take i∨x=gl o i:=by
 rw [take_gl hi,List.mem_append,List.mem_singleton]
theorem nodup_take {o:List Int} (h:o.Nodup) {i:Nat} (hi:i<o.length):gl o i ∉ o.take i:=by
 intro hm
 obtain ⟨k,hk,e⟩:=List.getElem_of_mem hm
 rw [List.length_take] at hk
 rw [List.getElem_take,gl_lt hi] at e
 have:=(List.getElem_inj h).1 e
 omega
end
end Go.Ab
end

section
namespace Go.Ab
set_option maxRecDepth 20000
noncomputable section
theorem exact_Shares_2_ok {F:Nat} (hF:BIG≤F) {t s:Int} {w R:List Int} (hR:R=w.map fun x=>t*x % s) {a b:Int} (ha:0≤a∧a<w.length) (hb:0≤b∧b<w.length):exact_Shares_2 F a b R=some (cmp2 (rkey t s w a) (rkey t s w b)):=by
 subst hR
 unfold exact_Shares_2
 have e : ∀ x:Int,0≤x∧x<w.length→gl (w.map fun x=>t*x % s) x.toNat=t*gl w x.toNat % s:=fun x hx=>gl_map_t _ _ (by omega)
 refine gd_ok (by rw [List.length_map]; exact hb) (gd_ok (by rw [List.length_map]; exact ha) ?_)
 rw [e a ha,e b hb]
 refine bd_ok (cmp_Compare_int_ok _ _ _) (bd_ok (cmp_Compare_int_ok _ _ _) (bd_ok (cmp_Or_two F hF _ _) ?_))
 congr 1
 exact cmp2_or _ _ _ _
theorem Ordd.ex {F:Nat} (hF:BIG≤F) {t:Int} {w:List Int} (hl:w.length≤64) : ∃ o,Ordd t w o∧sortG (idxs w.length) (fun y0 y1=>exact_Shares_2 F y0 y1 (w.map fun x=>t*x % w.sum))=some o:=by
 obtain ⟨o,h1,h2,h3⟩:=sortG_key (x:=idxs w.length) (q:=fun y0 y1=>exact_Shares_2 F y0 y1 (w.map fun x=>t*x % w.sum)) (rkey t w.sum w) (by unfold idxs LIM; simp; omega)
  (fun a ha b hb=>exact_Shares_2_ok hF rfl (idxs_mem.1 ha) (idxs_mem.1 hb)) ((idxs_nodup _).imp fun h e=>h (congrArg (·.2) e))
 exact ⟨o,⟨h2,h3⟩,h1⟩
theorem exact_Shares_k4_ok {F:Nat} (hF:BIG≤F) {t:Int} {w o:List Int} (hw : ∀ x ∈ w,0≤x) (hl:w.length≤64) (hs:w.sum≤1000000) (hs0:0<w.sum) (ht:0≤t∧t≤1000000) (ho:Ordd t w o)
  (hsort:sortG (idxs w.length) (fun y0 y1=>exact_Shares_2 F y0 y1 (w.map fun x=>t*x % w.sum))=some o):exact_Shares_k4 F (leftN t w) (w.map fun x=>t*x / w.sum) (idxs w.length) (w.map fun x=>t*x % w.sum)=some (shR t w o,0):=by
 have hF' := hF
 unfold BIG at hF
 obtain ⟨n0,n1,_⟩:=leftN_ok (t:=t) hs0
 have hol:=ho.len
 unfold exact_Shares_k4
 refine bd_ok hsort (gd_ok ⟨n0,by rw [hol]; omega⟩ ?_)
 obtain ⟨m,hm⟩ : ∃ m:Nat,leftN t w=m:=⟨(leftN t w).toNat,by omega⟩
 have hmn:m≤w.length:=by omega
 have hin : ∀ x ∈ w,0≤x∧x≤w.sum:=fun x hx=>⟨hw x hx,sum_le hw hx⟩
 have htl:((o.take (leftN t w).toNat).length:Nat)=m:=by rw [List.length_take,hol]; omega
 refine loopN_ok (fun z:Int×List Int=>∃ i:Nat,z.1=i∧i≤m∧z.2.length=w.length∧∀ j,j<w.length→gl z.2 j=t*gl w j / w.sum+if (j:Int) ∈ o.take i then 1 else 0) (fun z=>m-z.1.toNat) (fun again z hz ih=>?_) ⟨0,rfl,by omega,by simp,fun j hj=>?_⟩ (by simp only; omega)
 ·obtain ⟨zi,v⟩:=z
  obtain ⟨i,rfl,hi,hvl,hv⟩:=hz
  simp only at hvl hv ih ⊢
  unfold exact_Shares_b5
  rw [hm] at htl ⊢
  have e1:((m:Int)).toNat=m:=by omega
  rw [e1] at htl ⊢
  simp only [Int.toNat_natCast]
  refine br_ok (fun hb=>?_) (fun hb=>?_)
  ·have hb:i<m:=by simpa using hb
   have hio:i<o.length:=by omega
   have e2:gl (o.take m) i=gl o i:=gl_takeR _ hb
   have hmem:gl o i ∈ o:=gl_mem hio
   obtain ⟨h1,h2⟩:=ho.mem.1 hmem
   obtain ⟨p,hp⟩ : ∃ p:Nat,gl o i=p:=⟨(gl o i).toNat,by omega⟩
   have hpl:p<w.length:=by omega
   have hq:=quo_le ht.1 hs0 (hin _ (gl_mem hpl))
   have hvp:=hv p hpl
   have hb2:gl v p≤1000001∧0≤gl v p:=by rw [hvp]; split <;> omega
   simp only [e2,hp,Int.toNat_natCast]
   refine gd_ok (by rw [htl]; omega) (gd_ok (by omega) (gd_ok (i64_of (by omega) (by omega)) (gd_ok (by omega) (gd_ok (i64_of (by omega) (by omega)) ?_))))
   refine ih _ ⟨i+1,by simp,by omega,by simp [hvl],fun j hj=>?_⟩ (by simp only; omega)
   simp only
   rw [gl_setI (by omega)]
   have hnm:(p:Int) ∉ o.take i:=by rw [← hp]; exact nodup_take ho.nodup hio
   by_cases hjp:j=p
   ·subst hjp
    rw [if_pos rfl,hvp,if_neg hnm,if_pos ((mem_take_succ hio).2 (.inr hp.symm))]
    omega
   ·rw [if_neg hjp,hv j hj]
    congr 1
    have:((j:Int) ∈ o.take (i+1))↔((j:Int) ∈ o.take i):=by
     rw [mem_take_succ hio,hp]
     exact ⟨fun h=>h.elim id fun h=>absurd h (by omega),.inl⟩
    simp only [this]
  ·have hb:i=m:=by
    have : ¬ i<m:=by simpa using hb
    omega
   subst hb
   unfold exact_Shares_k6 shR
   rw [if_neg (by omega)]
   congr 2
   refine gl_extI (by simp [hvl]) fun j hj=>?_
   rw [hv j (by omega),gl_map_r _ _ (by omega),hm,e1]
 ·simp only
  rw [gl_map_t _ _ hj]
  simp
theorem exact_Shares_k2_ok {F:Nat} (hF:BIG≤F) {t:Int} {w o:List Int} (hw : ∀ x ∈ w,0≤x) (hl:w.length≤64) (hs:w.sum≤1000000) (ht:0≤t∧t≤1000000) (ho:Ordd t w o)
  (hsort:sortG (idxs w.length) (fun y0 y1=>exact_Shares_2 F y0 y1 (w.map fun x=>t*x % w.sum))=some o):exact_Shares_k2 F t w w.sum=some (shR t w o,0):=by
 have hF' := hF
 unfold BIG at hF
 have hsn:=sum_nn hw
 have hin : ∀ x ∈ w,0≤x∧x≤w.sum:=fun x hx=>⟨hw x hx,sum_le hw hx⟩
 unfold exact_Shares_k2
 simp only [Int.toNat_natCast]
 refine gd_ok (by unfold LIM; omega) (br_ok (fun hb=>?_) (fun hb=>?_))
 ·have hb:w.sum=0:=by simpa using hb
  unfold shR; rw [if_pos hb]
 ·have hb:w.sum≠0:=by simpa using hb
  have hs0:0<w.sum:=by omega
  refine gd_ok (by unfold LIM; omega) (gd_ok (by unfold LIM; omega) ?_)
  refine loopN_ok (fun z:Int×Int×List Int×List Int×List Int=>∃ i:Nat,z.2.1=i∧i≤w.length∧z.1=t-((w.take i).map fun x=>t*x / w.sum).sum∧z.2.2.1.length=w.length∧z.2.2.2.1.length=w.length∧z.2.2.2.2.length=w.length ∧
   ∀ j,j<i→gl z.2.2.1 j=t*gl w j / w.sum∧gl z.2.2.2.1 j=j∧gl z.2.2.2.2 j=t*gl w j % w.sum) (fun z=>w.length-z.2.1.toNat) (fun again z hz ih=>?_) ⟨0,rfl,by omega,by simp,by simp,by simp,by simp,fun j hj=>by omega⟩ (by simp only; omega)
  obtain ⟨z1,z2,u,v,r⟩:=z
  obtain ⟨i,h2,hi,h1,hu,hv,hr,hg⟩:=hz
  simp only at h1 h2 hu hv hr hg ih ⊢
  subst h2
  unfold exact_Shares_b3
  simp only [Int.toNat_natCast]
  refine br_ok (fun hb=>?_) (fun hb=>?_)
  ·have hb:i<w.length:=by simpa using hb
   have hx:=hin _ (gl_mem hb)
   have hq:=quo_le ht.1 hs0 hx
   have hqs:=quo_sum ht hs0 (w.take i) fun x hx=>hin x (List.mem_of_mem_take hx)
   rw [List.length_take] at hqs
   refine gd_ok (by omega) (bd_ok (exact_divide_ok F ht ⟨hx.1,by omega⟩ ⟨by omega,hs⟩) ?_)
   have e1:gl (u.set i (t*gl w i / w.sum)) i=t*gl w i / w.sum:=by rw [gl_setI (by omega),if_pos rfl]
   simp only [e1]
   refine gd_ok (by omega) (gd_ok (by omega) (gd_ok (by omega) (gd_ok (by rw [List.length_set]; omega) (gd_ok (i64_of (by omega) (by omega)) (gd_ok (i64_of (by omega) (by omega)) ?_)))))
   refine ih _ ⟨i+1,by simp,by omega, ?_,by simp [hu],by simp [hv],by simp [hr],fun j hj=>?_⟩ (by simp only; omega)
   ·simp only
    rw [take_gl hb,List.map_append,List.map_cons,List.map_nil,sum_snoc,h1]
    omega
   ·simp only
    rw [gl_setI (by omega),gl_setI (by omega),gl_setI (by omega)]
    by_cases hji:j=i
    ·subst hji; simp
    ·simp only [if_neg hji]
     exact hg j (by omega)
  ·have hb:i=w.length:=by
    have : ¬ i<w.length:=by simpa using hb
    omega
   subst hb
   have eu:u=w.map fun x=>t*x / w.sum:=gl_extI (by simp [hu]) fun j hj=>by rw [(hg j (by omega)).1,gl_map_t _ _ (by omega)]
   have ev:v=idxs w.length:=gl_extI (by unfold idxs; simp [hv]) fun j hj=>by
    rw [(hg j (by omega)).2.1]; unfold idxs
    rw [gl_map_r _ _ (by omega)]
   have er:r=w.map fun x=>t*x % w.sum:=gl_extI (by simp [hr]) fun j hj=>by rw [(hg j (by omega)).2.2,gl_map_t _ _ (by omega)]
   have el:z1=leftN t w:=by rw [h1,List.take_length]; rfl
   rw [eu,ev,er,el]
   exact exact_Shares_k4_ok hF' hw hl hs hs0 ht ho hsort
theorem exact_Shares_ok {F:Nat} (hF:BIG≤F) {t:Int} {w:List Int} (hw : ∀ x ∈ w,0≤x) (hl:w.length≤64) (hs:w.sum≤1000000) (ht:0≤t∧t≤1000000) : ∃ o,Ordd t w o∧exact_Shares F t w=some (shR t w o,0):=by
 have hF' := hF
 unfold BIG at hF
 obtain ⟨o,ho,hsort⟩:=Ordd.ex hF' (t:=t) hl
 refine ⟨o,ho, ?_⟩
 have hsn:=sum_nn hw
 unfold exact_Shares
 refine br_ff (decide_eq_false (by omega)) (bd_ok (exact_limited_ok _ _) (br_ff (by rw [limB_t ht]; rfl) ?_))
 refine bd_ok (slices_ContainsFunc_int_ok hF' (fun x=> !limB x) (by omega) (fun x _=>by unfold exact_Shares_1; exact bd_ok (exact_limited_ok _ _) rfl)) ?_
 have:(w.any fun x=> !limB x)=false:=by
  rw [List.any_eq_false]
  intro x hx
  have:=sum_le hw hx
  rw [limB_t ⟨hw x hx,by omega⟩]; simp
 rw [this]
 unfold exact_Shares_k0
 refine br_ff rfl ?_
 refine loopN_ok (fun z:Int×Int=>∃ i:Nat,z=((w.take i).sum,(i:Int))∧i≤w.length) (fun z=>w.length-z.2.toNat) (fun again z hz ih=>?_) ⟨0,rfl,by omega⟩ (by simp only; omega)
 obtain ⟨i,rfl,hi⟩:=hz
 simp only at ih ⊢
 unfold exact_Shares_b1
 simp only [Int.toNat_natCast]
 refine br_ok (fun hb=>?_) (fun hb=>?_)
 ·have hb:i<w.length:=by simpa using hb
  have h1:=sum_takeN hw (i+1)
  have h2:=sum_takeN hw i
  rw [take_gl hb,sum_snoc] at h1
  refine gd_ok (by omega) (gd_ok (i64_of (by omega) (by omega)) (gd_ok (i64_of (by omega) (by omega)) ?_))
  exact ih _ ⟨i+1,by rw [take_gl hb,sum_snoc]; simp,by omega⟩ (by simp only; omega)
 ·have hb:i=w.length:=by
   have : ¬ i<w.length:=by simpa using hb
   omega
  subst hb
  rw [List.take_length]
  exact exact_Shares_k2_ok hF' hw hl hs ht ho hsort
end
end Go.Ab
end

section
namespace Go.Ab
set_option maxRecDepth 20000
noncomputable section
theorem ref04_Both_ok {F:Nat} (hF:BIG≤F) {a b:Region} (ha:Val a.rects_) (hb:Val b.rects_):ref04_Both F a b=some (lim (cn fun x y=>keepB (inR a.rects_ x y) (inR b.rects_ x y) 2)):=by
 unfold ref04_Both
 exact bd_ok (ref04_combine_ok hF ha hb 2) rfl
theorem ploughed_1_ok (F:Nat) (l:List Record) (cs:List Crop) (c:Int):grassland_records_ploughed_1 F c ⟨l,cs⟩=some (!hasB cs c 2):=by
 unfold grassland_records_ploughed_1
 refine bd_ok ?_ rfl
 unfold grassland_records_grass
 exact bd_ok (crop_Has_ok F cs _ 2) rfl
theorem records_ploughed_ok {F:Nat} (hF:BIG≤F) {K:Int} {l:List Record} (h:HisT K l) (hl:l.length≤50) (cs:List Crop) {y:Int} (hy:0≤y∧y≤100) :
  ∃ P,grassland_records_ploughed F ⟨l,cs⟩ y=some P∧Box 9 P∧P.length≤2250∧∀ u v,inR P u v=true↔(4≤y-1∧∀ k,y-1-4≤k→k≤y-1→inR (yrs l k fun c=>hasB cs c 2) u v=true)∧inR (yrs l y fun c=> !hasB cs c 2) u v=true:=by
 have hT : ∃ T:List Rect,grassland_records_permanent F ⟨l,cs⟩ (y-1)=some T∧Box 9 T∧T.length≤2250∧∀ u v,inR T u v=true↔4≤y-1∧∀ k,y-1-4≤k→k≤y-1→inR (yrs l k fun c=>hasB cs c 2) u v=true:=by
  by_cases h0:y=0
  ·refine ⟨[], ?_,fun r hr=>(List.not_mem_nil hr).elim,by simp,fun u v=>⟨fun hh=>by simp [inR] at hh,fun hh=>by have:=hh.1; omega⟩⟩
   unfold grassland_records_permanent
   exact br_tt (decide_eq_true (by omega)) rfl
  ·exact grassland_permanent_ok hF h hl cs ⟨by omega,by omega⟩
 obtain ⟨T,t1,t2,t3,t4⟩:=hT
 have hyb:Box 9 (yrs l y fun c=> !hasB cs c 2):=yrs_box h
 have hyl:=yrs_some h hl y fun c=> !hasB cs c 2
 have hfin:=fin_and T (yrs l y fun c=> !hasB cs c 2)
 have hbox:Box 9 (cn fun u v=>inR T u v&&inR (yrs l y fun c=> !hasB cs c 2) u v):=(Canon.cn hfin).box fun u v hh=>by
  rw [inR_cn hfin,Bool.and_eq_true] at hh
  exact box_of t2 hh.1
 have h45:=Canon.half (Canon.cn hfin) (n:=9) hbox
 refine ⟨_, ?_,hbox,by omega,fun u v=>by rw [inR_cn hfin,Bool.and_eq_true,t4]⟩
 unfold grassland_records_ploughed
 refine gd_ok (i64_of (by omega) (by omega)) (bd_ok t1 (bd_ok (history_Rects_ok hF h.hl y (fun c=> !hasB cs c 2) (fun f _=>ploughed_1_ok F l cs _)) ?_))
 exact bd_ok (grassland_shared_ok hF (by omega) (lt_prop (box_prop t2)) (lt_prop (box_prop hyb))) rfl
theorem grassland_Ploughed_ok {F:Nat} (hF:BIG≤F) {cs:List Crop} (hc:CropO cs) {l:List Record} (h:HisT (cs.length:Nat) l) {y:Int} (hy:0≤y∧y≤100) {P:List Rect} (e:grassland_records_ploughed F ⟨l,cs⟩ y=some P) (hb:Box 9 P) (hl:P.length≤2250) :
  grassland_Ploughed F l cs y=some (⟨cn (inR P)⟩,0):=by
 unfold grassland_Ploughed
 refine bd_ok (grassland_check_ok hF hc h (by simp) (by simp) (fun r hr=>(List.not_mem_nil hr).elim) (fun z hz=>by rw [List.mem_singleton] at hz; subst hz; exact hy)) (br_ff rfl ?_)
 have hcb:Box 9 (cn (inR P)):=(Canon.cn (fin_inR _)).box fun u v hh=>by
  rw [inR_cn (fin_inR _)] at hh
  exact box_of hb hh
 have h45:=Canon.half (Canon.cn (fin_inR P)) (n:=9) hcb
 refine bd_ok e (bd_ok (region_Joined_ok hF (by omega) (lt_prop (box_prop hb))) ?_)
 rw [if_neg (by omega)]
def wts (P:List Rect) (rs:List Region):List Int:=rs.map fun a=>sq fun u v=>inR P u v&&inR a.rects_ u v
theorem wts_one {P:List Rect} (hb:Box 9 P) (a:Region):0≤(sq fun u v=>inR P u v&&inR a.rects_ u v)∧(sq fun u v=>inR P u v&&inR a.rects_ u v)≤3645:=sq_nine (fin_and P a.rects_) fun u v hh=>by
 rw [Bool.and_eq_true] at hh
 exact box_of hb hh.1
theorem wts_ok {P:List Rect} (hb:Box 9 P) (rs:List Region):(∀ x ∈ wts P rs,0≤x)∧(wts P rs).length=rs.length∧0≤(wts P rs).sum∧(wts P rs).sum≤3645*rs.length:=by
 unfold wts
 refine ⟨fun x hx=>?_,by simp, ?_⟩
 ·obtain ⟨a,_,rfl⟩:=List.mem_map.1 hx
  exact (wts_one hb a).1
 ·induction rs with
  | nil=>simp
  | cons a rs ih=>
   have:=wts_one hb a
   simp only [List.map_cons,List.sum_cons,List.length_cons]
   omega
theorem part_le {s k:Int} (hs:0≤s) (hk:0≤k∧k≤1000000):0≤s*k / 1000000∧s*k / 1000000≤s:=by
 have h0:0≤s*k:=Int.mul_nonneg hs hk.1
 have h1:s*k≤s*1000000:=Int.mul_le_mul_of_nonneg_left hk.2 hs
 omega
theorem restore_k4_ok {F:Nat} (hF:BIG≤F) {k:Int} (hk:0≤k∧k≤1000000) {w:List Int} (hw : ∀ x ∈ w,0≤x) (hl:w.length≤64) (hs:w.sum≤1000000) : ∃ o,Ordd (w.sum*k / 1000000) w o∧grassland_Restore_k4 F k w.sum w=some (shR (w.sum*k / 1000000) w o,0):=by
 have hsn:=sum_nn hw
 have hp:=part_le hsn hk
 obtain ⟨o,ho,e⟩:=exact_Shares_ok hF (t:=w.sum*k / 1000000) hw hl hs ⟨hp.1,by omega⟩
 refine ⟨o,ho, ?_⟩
 unfold grassland_Restore_k4
 exact bd_ok (exact_Part_ok F ⟨hsn,hs⟩ hk) (br_ff rfl (bd_ok e rfl))
theorem restore_k2_ok {F:Nat} (hF:BIG≤F) {l:List Record} {cs:List Crop} {y:Int} {P:List Rect} (e:grassland_records_ploughed F ⟨l,cs⟩ y=some P) (hb:Box 9 P) (hl:P.length≤2250) {rs:List Region} (h8:rs.length≤8) (hv : ∀ r ∈ rs,Val r.rects_)
  {k:Int} (hk:0≤k∧k≤1000000) : ∃ o,Ordd ((wts P rs).sum*k / 1000000) (wts P rs) o∧grassland_Restore_k2 F l cs y rs k false=some (shR ((wts P rs).sum*k / 1000000) (wts P rs) o,0):=by
 have hF' := hF
 unfold BIG at hF
 obtain ⟨w1,w2,w3,w4⟩:=wts_ok hb rs
 obtain ⟨o,ho,e4⟩:=restore_k4_ok hF' hk w1 (by omega) (by omega)
 refine ⟨o,ho, ?_⟩
 unfold grassland_Restore_k2
 refine br_ff rfl (bd_ok e ?_)
 refine loopN_ok (fun z:Int×Int×List Int=>∃ i:Nat,z=((wts P (rs.take i)).sum,(i:Int),wts P (rs.take i))∧i≤rs.length) (fun z=>rs.length-z.2.1.toNat) (fun again z hz ih=>?_) ⟨0,rfl,by omega⟩ (by simp only; omega)
 obtain ⟨i,rfl,hi⟩:=hz
 simp only at ih ⊢
 unfold grassland_Restore_b3
 simp only [Int.toNat_natCast]
 refine br_ok (fun h2=>?_) (fun h2=>?_)
 ·have h2:i<rs.length:=by simpa using h2
  have ht:=wts_ok hb (rs.take i)
  rw [List.length_take] at ht
  have h1:=wts_one hb (gl rs i)
  refine gd_ok (by omega) (bd_ok (grassland_common_ok hF' hb hl (hv _ (gl_mem h2))) ?_)
  refine gd_ok (by rw [ht.2.1]; simp only [LIM,List.length_cons,List.length_nil]; omega) (gd_ok (i64_of (by omega) (by omega)) (gd_ok (i64_of (by omega) (by omega)) ?_))
  have e1:wts P (rs.take (i+1))=wts P (rs.take i)++[sq fun u v=>inR P u v&&inR (gl rs i).rects_ u v]:=by
   unfold wts
   rw [take_gl h2,List.map_append]; rfl
  exact ih _ ⟨i+1,by rw [e1,sum_snoc]; simp,h2⟩ (by simp only; omega)
 ·have h2:i=rs.length:=by
   have : ¬ i<rs.length:=by simpa using h2
   omega
  subst h2
  rw [List.take_length]
  exact e4
def overB (rs:List Region):Prop:=∃ i j,j<i∧i<rs.length∧meetB (gl rs j) (gl rs i)=true
open Classical in
theorem restore_b0_ok {F:Nat} (hF:BIG≤F) {l:List Record} {cs:List Crop} {y k:Int} {rs:List Region} {X:(List Int)×Int} (h8:rs.length≤8) (hX:grassland_Restore_k1 F l cs y rs k=some X) :
  loopN (fun again (z:Int)=>grassland_Restore_b0 F l cs y rs k again z) F (0:Int)=some (if overB rs then ([],11) else X):=by
 have hF' := hF
 unfold BIG at hF
 refine loopN_ok (fun z:Int=>∃ i:Nat,z=i∧i≤rs.length∧∀ p q,q<p→p<i→meetB (gl rs q) (gl rs p)=false) (fun z=>rs.length-z.toNat) (fun again z hz ih=>?_) ⟨0,rfl,by omega,fun p q h1 h2=>by omega⟩ (by simp; omega)
 obtain ⟨i,rfl,hi,hm⟩:=hz
 unfold grassland_Restore_b0
 simp only [Int.toNat_natCast]
 refine br_ok (fun h2=>?_) (fun h2=>?_)
 ·have h2:i<rs.length:=by simpa using h2
  refine gd_ok (by omega) (gd_ok (by omega) (bd_ok (slices_ContainsFunc_Region_ok hF' (fun r=>meetB (gl rs i) r) (by rw [List.length_take]; omega) (fun r _=>by unfold grassland_Restore_1; exact bd_ok (region_Meets_ok hF' _ _) rfl)) ?_))
  refine br_ok (fun h3=>?_) (fun h3=>?_)
  ·obtain ⟨r,hr,h4⟩:=List.any_eq_true.1 h3
   obtain ⟨q,hq,e⟩:=List.getElem_of_mem hr
   rw [List.length_take] at hq
   rw [List.getElem_take] at e
   rw [if_pos]
   exact ⟨i,q,by omega,h2,by rw [gl_lt (by omega),e,meetB_comm]; exact h4⟩
  ·refine gd_ok (i64_of (by omega) (by omega)) (ih _ ⟨i+1,by omega,h2,fun p q h4 h5=>?_⟩ (by omega))
   by_cases h6:p<i
   ·exact hm p q h4 h6
   ·have:p=i:=by omega
    subst this
    rw [List.any_eq_false] at h3
    have:=h3 (gl rs q) (by rw [← gl_takeR rs h4]; exact gl_mem (by rw [List.length_take]; omega))
    rw [meetB_comm]; simpa using this
 ·have h2:i=rs.length:=by
   have : ¬ i<rs.length:=by simpa using h2
   omega
  subst h2
  rw [if_neg]
  ·exact hX
  ·rintro ⟨p,q,h3,h4,h5⟩
   rw [hm p q h3 h4] at h5; cases h5
end
end Go.Ab
end

section
namespace Go.Ab
set_option maxRecDepth 20000
noncomputable section
theorem shR_two {t w0 w1:Int} {o:List Int} (h0:0≤w0) (h1:0≤w1) (ht:0≤t∧t≤w0+w1) (ho:Ordd t [w0,w1] o) :
  (shR t [w0,w1] o).length=2∧gl (shR t [w0,w1] o) 0+gl (shR t [w0,w1] o) 1=t∧(w0=0→gl (shR t [w0,w1] o) 0=0)∧(w1=0→gl (shR t [w0,w1] o) 1=0) ∧
   (0≤gl (shR t [w0,w1] o) 0∧gl (shR t [w0,w1] o) 0≤t+1∧0≤gl (shR t [w0,w1] o) 1∧gl (shR t [w0,w1] o) 1≤t+1):=by
 have es : [w0,w1].sum=w0+w1:=by simp
 by_cases hs:w0+w1=0
 ·have e:shR t [w0,w1] o=[0,0]:=by unfold shR; rw [if_pos (by rw [es]; exact hs)]; rfl
  rw [e]
  refine ⟨rfl, ?_,fun _=>rfl,fun _=>rfl,by decide, ?_,by decide, ?_⟩
  ·show (0:Int)+0=t; omega
  ·show (0:Int)≤t+1; omega
  ·show (0:Int)≤t+1; omega
 ·have hs0:0<[w0,w1].sum:=by rw [es]; omega
  obtain ⟨l0,l1,l2⟩:=leftN_ok (t:=t) hs0
  have e:shR t [w0,w1] o=[t*w0 / (w0+w1)+(if (0:Int) ∈ o.take (leftN t [w0,w1]).toNat then 1 else 0),t*w1 / (w0+w1)+(if (1:Int) ∈ o.take (leftN t [w0,w1]).toNat then 1 else 0)]:=by
   unfold shR
   rw [if_neg (by rw [es]; exact hs),es]; rfl
  have el:leftN t [w0,w1]=t-(t*w0 / (w0+w1)+t*w1 / (w0+w1)):=by unfold leftN; rw [es]; simp
  simp only [es,List.map_cons,List.map_nil,List.sum_cons,List.sum_nil,Int.add_zero] at l2
  obtain ⟨a,b,rfl⟩ : ∃ a b,o=[a,b]:=by
   have:=ho.len
   match o,this with
   | [a,b],_=>exact ⟨a,b,rfl⟩
  have ha:=(ho.mem (x:=a)).1 (by simp)
  simp only [List.length_cons,List.length_nil] at ha
  have r0:0≤t*w0 % (w0+w1):=Int.emod_nonneg _ hs
  have r0' : t*w0 % (w0+w1)<w0+w1:=Int.emod_lt_of_pos _ (by omega)
  have r1:0≤t*w1 % (w0+w1):=Int.emod_nonneg _ hs
  have r1' : t*w1 % (w0+w1)<w0+w1:=Int.emod_lt_of_pos _ (by omega)
  have q0:=quo_le (t:=t) (s:=w0+w1) (x:=w0) ht.1 (by omega) ⟨h0,by omega⟩
  have q1:=quo_le (t:=t) (s:=w0+w1) (x:=w1) ht.1 (by omega) ⟨h1,by omega⟩
  have z0:w0=0→t*w0 / (w0+w1)=0∧t*w0 % (w0+w1)=0:=fun h=>by rw [h,Int.mul_zero]; simp
  have z1:w1=0→t*w1 / (w0+w1)=0∧t*w1 % (w0+w1)=0:=fun h=>by rw [h,Int.mul_zero]; simp
  rw [e]
  generalize leftN t [w0,w1]=L at *
  have hL2:L<2:=by
   rcases Int.lt_or_le L 2 with h | h
   ·exact h
   ·have:2*(w0+w1)≤L*(w0+w1):=Int.mul_le_mul_of_nonneg_right h (by omega)
    omega
  rcases (by omega:L=0∨L=1) with hL | hL
  ·subst hL
   have e0 : [a,b].take (0:Int).toNat=[]:=rfl
   simp only [e0,List.not_mem_nil,if_false,Int.add_zero]
   refine ⟨rfl, ?_,fun h=>(z0 h).1,fun h=>(z1 h).1,q0.1, ?_,q1.1, ?_⟩
   ·show t*w0 / (w0+w1)+t*w1 / (w0+w1)=t; omega
   ·show t*w0 / (w0+w1)≤t+1; omega
   ·show t*w1 / (w0+w1)≤t+1; omega
  ·subst hL
   have e0 : [a,b].take (1:Int).toNat=[a]:=rfl
   rw [Int.one_mul] at l2
   simp only [e0,List.mem_singleton]
   have hc:(if (0:Int)=a then (1:Int) else 0)+(if (1:Int)=a then 1 else 0)=1∧0≤(if (0:Int)=a then (1:Int) else 0)∧0≤(if (1:Int)=a then (1:Int) else 0):=by
    rcases (by omega:a=0∨a=1) with h | h
    ·rw [if_pos h.symm,if_neg (by omega)]; omega
    ·rw [if_neg (by omega),if_pos h.symm]; omega
   obtain ⟨c1,c2,c3⟩:=hc
   generalize (if (0:Int)=a then (1:Int) else 0)=c at *
   generalize (if (1:Int)=a then (1:Int) else 0)=d at *
   refine ⟨rfl, ?_,fun h=>?_,fun h=>?_, ?_, ?_, ?_, ?_⟩
   ·show t*w0 / (w0+w1)+c+(t*w1 / (w0+w1)+d)=t; omega
   ·have:=z0 h; omega
   ·have:=z1 h; omega
   ·show 0≤t*w0 / (w0+w1)+c; omega
   ·show t*w0 / (w0+w1)+c≤t+1; omega
   ·show 0≤t*w1 / (w0+w1)+d; omega
   ·show t*w1 / (w0+w1)+d≤t+1; omega
theorem law20_GrasslandPloughed_ok {F:Nat} (hF:BIG≤F) (tape:List Int) {x1 x2:Int} (h1:0≤x1∧x1≤255) (h2:0≤x2∧x2≤4294967295):law20_GrasslandPloughed F tape x1 x2=some true:=by
 have hF' := hF
 unfold BIG at hF
 obtain ⟨t,e0,o0⟩:=keep_New_ok F tape
 obtain ⟨t1,l,e1,o1,hh,hlen⟩:=keep_Tape_Grassy_ok hF' o0
 obtain ⟨t2,a,e2,o2,ha⟩:=keep_Tape_Region_ok hF' o1 (n:=9) (most:=2) (by omega) (by omega) (by omega) (by omega)
 obtain ⟨t3,b,e3,o3,hb⟩:=keep_Tape_Region_ok hF' o2 (n:=9) (most:=2) (by omega) (by omega) (by omega) (by omega)
 obtain ⟨d1,d2⟩:=tmod_range h1.1 (n:=3) (by omega)
 obtain ⟨m1,m2⟩:=tmod_range h2.1 (n:=1000001) (by omega)
 have hfd:=fin_comb b.rects_ a.rects_ 3
 have vw:Val (cn fun u v=>keepB (inR b.rects_ u v) (inR a.rects_ u v) 3)∧Box (9:Nat) (cn fun u v=>keepB (inR b.rects_ u v) (inR a.rects_ u v) 3):=val_cn (n:=9) hfd (by omega) fun u v h=>by
  simp [keepB] at h
  exact box_of hb.box h.1
 unfold law20_GrasslandPloughed
 refine bd_ok e0 (bd_ok e1 ?_)
 dsimp only
 obtain ⟨y,hy⟩ : ∃ y,(5:Int)+x1.tmod 3=y:=⟨_,rfl⟩
 obtain ⟨k,hk⟩ : ∃ k,x2.tmod 1000001=k:=⟨_,rfl⟩
 simp only [hy,hk]
 rw [hk] at m1 m2
 have hy0:5≤y∧y≤7:=by omega
 obtain ⟨P,p1,p2,p3,p4⟩:=records_ploughed_ok hF' hh (by omega) GC (y:=y) (by omega)
 obtain ⟨T1,q1,q2,q3⟩:=grassland_Permanent_ok hF' GC_o (l:=l) hh (by omega) (y:=y-1) (by omega)
 obtain ⟨T2,r1,r2,r3⟩:=grassland_Permanent_ok hF' GC_o (l:=l) hh (by omega) (y:=y) (by omega)
 have vP:=region_val9 p2
 have vT1:=region_val9 q2
 have vT2:=region_val9 r2
 have vB:Val (⟨cn fun u v=>keepB (inR b.rects_ u v) (inR a.rects_ u v) 3⟩ : Region).rects_:=vw.1
 have hrs : ∀ r ∈ [a,(⟨cn fun u v=>keepB (inR b.rects_ u v) (inR a.rects_ u v) 3⟩ : Region)],Val r.rects_:=by
  intro r hr
  rcases List.mem_cons.1 hr with rfl | hr
  ·exact ha.val
  ·rw [List.mem_singleton.1 hr]; exact vB
 obtain ⟨o,ho,eR⟩:=restore_k2_ok hF' p1 p2 p3 (rs:=[a,⟨cn fun u v=>keepB (inR b.rects_ u v) (inR a.rects_ u v) 3⟩]) (by simp) hrs (k:=k) ⟨m1,by omega⟩
 have hw0:=wts_one p2 a
 have hw1:=wts_one p2 ⟨cn fun u v=>keepB (inR b.rects_ u v) (inR a.rects_ u v) 3⟩
 have ew:wts P [a,⟨cn fun u v=>keepB (inR b.rects_ u v) (inR a.rects_ u v) 3⟩]=[sq fun u v=>inR P u v&&inR a.rects_ u v,sq fun u v=>inR P u v&&inR (⟨cn fun u v=>keepB (inR b.rects_ u v) (inR a.rects_ u v) 3⟩ : Region).rects_ u v]:=rfl
 rw [ew] at ho eR
 have area2 : ∀ c:Region,Val c.rects_→(Val (cn fun u v=>keepB (inR (cn (inR P)) u v) (inR c.rects_ u v) 2))∧area (cn fun u v=>keepB (inR (cn (inR P)) u v) (inR c.rects_ u v) 2)=sq fun u v=>inR P u v&&inR c.rects_ u v:=by
  intro c hc
  have hf:=fin_comb (cn (inR P)) c.rects_ 2
  have hv:=(val_cn (n:=9) hf (by omega) fun u v h=>by
   simp [keepB] at h
   exact box_of vP.2 h.1).1
  refine ⟨hv, ?_⟩
  rw [hv.area]
  congr 1
  funext u v
  rw [inR_cn hf,inR_cn (fin_inR _)]
  rfl
 obtain ⟨va,ea⟩:=area2 a ha.val
 obtain ⟨vb,eb⟩:=area2 ⟨cn fun u v=>keepB (inR b.rects_ u v) (inR a.rects_ u v) 3⟩ vB
 have hsum : ∀ w0 w1:Int,[w0,w1].sum=w0+w1:=fun w0 w1=>by simp
 generalize hW0:(sq fun u v=>inR P u v&&inR a.rects_ u v)=w0 at *
 generalize hW1:(sq fun u v=>inR P u v&&inR (⟨cn fun u v=>keepB (inR b.rects_ u v) (inR a.rects_ u v) 3⟩ : Region).rects_ u v)=w1 at *
 rw [hsum] at ho eR
 have hp:=part_le (s:=w0+w1) (k:=k) (by omega) ⟨m1,by omega⟩
 have hpm:0≤(w0+w1)*k∧(w0+w1)*k≤7290*1000000:=⟨Int.mul_nonneg (by omega) m1,Int.mul_le_mul (by omega) (by omega) m1 (by omega)⟩
 obtain ⟨s1,s2,s3,s4,s5⟩:=shR_two hw0.1 hw1.1 hp ho
 have eRest:grassland_Restore F l GC y [a,⟨cn fun u v=>keepB (inR b.rects_ u v) (inR a.rects_ u v) 3⟩] k=some (shR ((w0+w1)*k / 1000000) [w0,w1] o,0):=by
  unfold grassland_Restore
  refine bd_ok (grassland_check_ok hF' GC_o hh (by simp) (by simp) hrs (fun z hz=>by rw [List.mem_singleton] at hz; subst hz; omega)) (br_ff rfl (br_ff (by simp) ?_))
  have hk1:grassland_Restore_k1 F l GC y [a,⟨cn fun u v=>keepB (inR b.rects_ u v) (inR a.rects_ u v) 3⟩] k=some (shR ((w0+w1)*k / 1000000) [w0,w1] o,0):=by
   unfold grassland_Restore_k1
   refine br_ff (decide_eq_false (by omega)) ?_
   rw [decide_eq_false (by omega)]
   exact eR
  rw [restore_b0_ok hF' (by simp) hk1,if_neg]
  rintro ⟨i,j,hj,hi,hm⟩
  have hi2:i<2:=hi
  obtain ⟨rfl,rfl⟩ : i=1∧j=0:=by omega
  have:meetB a ⟨cn fun u v=>keepB (inR b.rects_ u v) (inR a.rects_ u v) 3⟩=false:=meetB_off fun u v g1 g2=>by
   rw [inR_cn hfd] at g2
   simp [keepB] at g2
   rw [g2.2] at g1; cases g1
  have hm:meetB a ⟨cn fun u v=>keepB (inR b.rects_ u v) (inR a.rects_ u v) 3⟩=true:=hm
  rw [this] at hm; cases hm
 refine gd_ok (i64_of (by omega) (by omega)) (gd_ok (by omega) (gd_ok (i64_of (by omega) (by omega)) (gd_ok (i64_of (by omega) (by omega)) (gd_ok (by omega) ?_))))
 refine bd_ok (grassland_Ploughed_ok hF' GC_o hh (by omega) p1 p2 p3) (gd_ok (i64_of (by omega) (by omega)) (bd_ok q1 (bd_ok r1 (bd_ok e2 (bd_ok e3 ?_)))))
 refine bd_ok ((ref04_Without_ok hF' (a:=b) (b:=a) hb.val ha.val).trans (congrArg some (lim_val vw.1))) (bd_ok eRest ?_)
 refine br_ff rfl (br_ff rfl (br_ff rfl (br_ff rfl ?_)))
 rw [show ((((shR ((w0+w1)*k / 1000000) [w0,w1] o,(0:Int)).1.length:Nat):Int) != (2:Int))=false by simp [s1]]
 unfold law20_GrasslandPloughed_k0
 simp only [hk]
 refine br_ff rfl ?_
 refine bd_ok ((ref04_Both_ok hF' (a:=⟨cn (inR P)⟩) (b:=a) vP.1 ha.val).trans (congrArg some (lim_val va))) ?_
 refine bd_ok ((ref04_Both_ok hF' (a:=⟨cn (inR P)⟩) (b:=⟨_⟩) vP.1 vB).trans (congrArg some (lim_val vb))) ?_
 have A0:=(ref04_Area_ok hF' (a:=⟨cn fun u v=>keepB (inR (cn (inR P)) u v) (inR a.rects_ u v) 2⟩) va).trans (congrArg some ea)
 have A1:=(ref04_Area_ok hF' (a:=⟨cn fun u v=>keepB (inR (cn (inR P)) u v) (inR (cn fun u v=>keepB (inR b.rects_ u v) (inR a.rects_ u v) 3) u v) 2⟩) vb).trans (congrArg some eb)
 refine bd_ok A0 (bd_ok A1 ?_)
 refine gd_ok (i64_of (by omega) (by omega)) (bd_ok (ref04_Within_ok hF' _ _) (br_tt ?_ ?_))
 ·refine (withB_iff (a:=⟨cn (inR P)⟩) (b:=⟨cn (inR T1)⟩) vP.1 vT1.1).2 fun u v hin=>?_
  simp only at hin ⊢
  rw [inR_cn (fin_inR _)] at hin ⊢
  exact (q3 u v).2 ((p4 u v).1 hin).1
 refine bd_ok (ref04_Meets_ok hF' _ _) (br_tt ?_ ?_)
 ·have:meetB (⟨cn (inR P)⟩ : Region) ⟨cn (inR T2)⟩=false:=meetB_off fun u v g1 g2=>by
   simp only at g1 g2
   rw [inR_cn (fin_inR _)] at g1 g2
   have g3:=((p4 u v).1 g1).2
   have g4:=((r3 u v).1 g2).2 y (by omega) (by omega)
   rw [yrs_at hh] at g3 g4
   have:=g3.2
   rw [g4.2] at this; cases this
  rw [this]; rfl
 have i0:(0:Int).toNat=0:=rfl
 have i1:(1:Int).toNat=1:=rfl
 simp only [i0,i1]
 have td:((w0+w1)*k).tdiv 1000000=(w0+w1)*k / 1000000:=Int.tdiv_eq_ediv_of_nonneg hpm.1
 simp only [td]
 refine gd_ok (by simp only [s1]; omega) (gd_ok (by simp only [s1]; omega) (gd_ok (i64_of (by omega) (by omega)) (gd_ok (i64_of (by omega) (by omega)) (gd_ok ⟨i64_of (by omega) (by omega),by omega⟩ (br_tt (by simp only [s2]; simp) ?_)))))
 have fin:(law20_awake F).bind (fun z=>law20_GrasslandPloughed_k1 F z)=some true:=bd_ok (law20_awake_ok hF') rfl
 have rest:(ref04_Area F (⟨cn fun u v=>keepB (inR (cn (inR P)) u v) (inR (cn fun u v=>keepB (inR b.rects_ u v) (inR a.rects_ u v) 3) u v) 2⟩ : Region)).bind (fun z=>
   br (decide ((0:Int)<z)) ((law20_awake F).bind fun z2=>law20_GrasslandPloughed_k1 F z2) (gd (0≤(1:Int)∧(1:Int)<((List.length (shR ((w0+w1)*k / 1000000) [w0,w1] o):Nat):Int)) <|
   br ((gl (shR ((w0+w1)*k / 1000000) [w0,w1] o) 1)==(0:Int)) ((law20_awake F).bind fun z2=>law20_GrasslandPloughed_k1 F z2) (law20_GrasslandPloughed_k1 F false)))=some true:=by
  refine bd_ok A1 (br_ok (fun _=>fin) fun g=>?_)
  have g:=of_decide_eq_false g
  exact gd_ok (by rw [s1]; omega) (br_tt (by rw [s4 (by omega)]; rfl) fin)
 refine bd_ok A0 (br_ok (fun _=>rest) fun g=>?_)
 have g:=of_decide_eq_false g
 exact gd_ok (by simp only [s1]; omega) (br_tt (by rw [s3 (by omega)]; rfl) rest)
end
end Go.Ab
end
