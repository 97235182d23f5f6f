/- Abstract states over the model: every lemma holds of any program of the form that it names. -/
import Derived.Test.YtgfmopdbhjcpfaaGreatLwA
set_option linter.unusedVariables false
set_option linter.unusedSimpArgs false
section
namespace Go.Ab
set_option maxRecDepth 20000
noncomputable section
def lowB (n:Int):Bool:=decide (97≤n)&&decide (n≤122)
def digB (n:Int):Bool:=decide (48≤n)&&decide (n≤57)
def nameB (s:ByteArray):Bool:=decide (1≤s.size)&&decide (s.size≤12)&&decide (∀ i,i<s.size→(lowB (sAt s (i:Nat))||(!decide (i=0)&&digB (sAt s (i:Nat))))=true)
theorem words_Name_ok {F:Nat} {s:ByteArray} (hs:s.size<F) (hs2:s.size≤4294967296):words_Name F s=some (nameB s):=by
 unfold words_Name
 refine loopN_ok (fun z:Int=>∃ i:Nat,z=i∧i≤s.size∧∀ j,j<i→(lowB (sAt s (j:Nat))||(!decide (j=0)&&digB (sAt s (j:Nat))))=true) (fun z=>s.size-z.toNat) (fun again z hz ih=>?_) ⟨0,rfl,by omega,fun j hj=>absurd hj (Nat.not_lt_zero j)⟩ (by simp; omega)
 obtain ⟨i,rfl,hi,hp⟩:=hz
 unfold words_Name_b0
 refine br_ok (fun h=>?_) (fun h=>?_)
 ·have h:i<s.size:=by simpa using h
  refine gd_G (k:=?_)
  have k3 : ∀ b:Bool,b = !(lowB (sAt s (i:Nat))||(!decide (i=0)&&digB (sAt s (i:Nat))))→words_Name_k3 F i again b=some (nameB s):=by
   intro b hb
   unfold words_Name_k3
   refine br_ok (fun h1=>?_) (fun h1=>?_)
   ·rw [h1,eq_comm,Bool.not_eq_true'] at hb
    congr 1
    symm
    unfold nameB
    rw [Bool.and_eq_false_iff]
    right
    rw [decide_eq_false_iff_not]
    intro hall
    rw [hall i h] at hb; cases hb
   ·rw [h1,eq_comm,Bool.not_eq_false'] at hb
    refine gd_G (k:=?_)
    refine ih _ ⟨i+1,by omega,h,fun j hj=>?_⟩ (by omega)
    rcases Nat.lt_or_ge j i with h2 | h2
    ·exact hp j h2
    ·have:j=i:=by omega
     subst this; exact hb
  have k2 : ∀ lo dg:Bool,lo=lowB (sAt s (i:Nat))→dg=digB (sAt s (i:Nat))→words_Name_k2 F i lo again dg=some (nameB s):=by
   intro lo dg h1 h2
   unfold words_Name_k2
   rw [h1,h2]
   refine br_ok (fun h3=>?_) (fun h3=>?_)
   ·have h3:lowB (sAt s (i:Nat))=false:=by simpa using h3
    refine br_ok (fun h4=>?_) (fun h4=>?_)
    ·have h4:i=0:=by simpa using h4
     refine k3 _ ?_
     rw [h3,h4]; rfl
    ·have h4:i≠0:=by simpa using h4
     refine k3 _ ?_
     rw [h3,decide_eq_false h4]; simp
   ·have h3:lowB (sAt s (i:Nat))=true:=by simpa using h3
    refine k3 _ ?_
    rw [h3]; rfl
  have k1 : ∀ lo:Bool,lo=lowB (sAt s (i:Nat))→words_Name_k1 F s i again lo=some (nameB s):=by
   intro lo h1
   unfold words_Name_k1
   refine gd_G (k:=?_)
   refine br_ok (fun h2=>?_) (fun h2=>?_)
   ·refine gd_G (k:=?_)
    refine k2 _ _ h1 ?_
    unfold digB; rw [h2,Bool.true_and]
   ·refine k2 _ _ h1 ?_
    unfold digB; rw [h2,Bool.false_and]
  refine br_ok (fun h1=>?_) (fun h1=>?_)
  ·refine gd_G (k:=?_)
   refine k1 _ ?_
   unfold lowB; rw [h1,Bool.true_and]
  ·refine k1 _ ?_
   unfold lowB; rw [h1,Bool.false_and]
 ·have h:i=s.size:=by
   have : ¬ i<s.size:=by simpa using h
   omega
  subst h
  unfold words_Name_k4
  refine br_ok (fun h1=>?_) (fun h1=>?_)
  ·unfold words_Name_k5
   congr 1
   unfold nameB
   have h1:1≤s.size:=by have:=of_decide_eq_true h1; omega
   rw [decide_eq_true h1,decide_eq_true hp,Bool.true_and,Bool.and_true,Bool.eq_iff_iff,decide_eq_true_eq,decide_eq_true_eq]
   omega
  ·unfold words_Name_k5
   congr 1
   unfold nameB
   have h1 : ¬ 1≤s.size:=by have:=of_decide_eq_false h1; omega
   rw [decide_eq_false h1]; rfl
theorem scan_ok {R:Type} {body:(Int→Option R)→Int→Option R} {c y:Option R} (N:Nat) (p:Nat→Bool)
  (bad : ∀ again (i:Nat),i<N→p i=true→body again (i:Int)=c) (good : ∀ again (i:Nat) z,i<N→p i=false→again ((i:Int)+1)=z→body again (i:Int)=z)
  (stop : ∀ again,body again (N:Int)=y) {F:Nat} (hF:N<F):loopN body F 0=if (List.range N).any p=true then c else y:=by
 refine loopN_ok (fun z:Int=>∃ i:Nat,z=i∧i≤N∧∀ j,j<i→p j=false) (fun z=>N-z.toNat) (fun again z hz ih=>?_) ⟨0,rfl,Nat.zero_le _,fun j h=>absurd h (Nat.not_lt_zero j)⟩ (by simp; omega)
 obtain ⟨i,rfl,hi,hp⟩:=hz
 rcases Nat.lt_or_ge i N with h | h
 ·cases hpi:p i with
  | true=>
   rw [if_pos (List.any_eq_true.2 ⟨i,List.mem_range.2 h,hpi⟩)]
   exact bad again i h hpi
  | false=>
   refine good again i _ h hpi (ih _ ⟨i+1,by omega,h,fun j hj=>?_⟩ (by omega))
   by_cases hji:j=i
   ·rw [hji]; exact hpi
   ·exact hp j (by omega)
 ·have:i=N:=by omega
  subst this
  rw [if_neg (by rw [Bool.not_eq_true,List.any_eq_false]; intro j hj; rw [hp j (List.mem_range.1 hj)]; simp)]
  exact stop again
theorem ref02_Name_gen {F:Nat} (hF:BIG≤F) (s:ByteArray):ref02_Name F s=some (nameB s):=by
 unfold BIG at hF
 unfold ref02_Name
 have k0t:nameB s=false→ref02_Name_k0 F s true=some (nameB s):=fun h=>by unfold ref02_Name_k0; rw [h]; exact br_tt rfl rfl
 refine br_ok (fun h=>k0t ?_) (fun h=>?_)
 ·have h:=of_decide_eq_true h
  unfold nameB
  rw [decide_eq_false (by omega : ¬ 1≤s.size)]; rfl
 have h1:1≤s.size:=by have:=of_decide_eq_false h; omega
 refine br_ok (fun h=>k0t ?_) (fun h=>?_)
 ·have h:=of_decide_eq_true h
  unfold nameB
  rw [decide_eq_false (by omega : ¬ s.size≤12)]; simp
 have h2:s.size≤12:=by have:=of_decide_eq_false h; omega
 have hz:nameB s=decide (∀ i,i<s.size→(lowB (sAt s (i:Nat))||(!decide (i=0)&&digB (sAt s (i:Nat))))=true):=by
  unfold nameB
  rw [decide_eq_true h1,decide_eq_true h2]; simp
 have bad0:lowB (sAt s (0:Int))=false→nameB s=false:=fun h=>by
  rw [hz,decide_eq_false_iff_not]
  intro hall
  have:=hall 0 (by omega)
  rw [show (((0:Nat):Int))=0 from rfl,h] at this
  simp at this
 refine gd_ok (by omega) (br_ok (fun h=>k0t (bad0 ?_)) (fun h=>?_))
 ·have h:=of_decide_eq_true h
  unfold lowB; rw [decide_eq_false (by omega)]; rfl
 have h3:=of_decide_eq_false h
 refine gd_ok (by omega) ?_
 by_cases h4:122<sAt s (0:Int)
 ·rw [decide_eq_true h4]
  refine k0t (bad0 ?_)
  unfold lowB; rw [decide_eq_false (by omega : ¬ sAt s (0:Int)≤122)]; simp
 rw [decide_eq_false h4]
 have hl0:lowB (sAt s (0:Int))=true:=by
  unfold lowB; rw [decide_eq_true (by omega),decide_eq_true (by omega)]; rfl
 unfold ref02_Name_k0
 refine br_ff rfl ?_
 refine (scan_ok (c:=some false) (y:=some true) s.size (fun i=> !(lowB (sAt s (i:Nat))||digB (sAt s (i:Nat)))) (fun again i hi hp=>?_) (fun again i z hi hp hz=>?_) (fun again=>?_) (by omega)).trans ?_
 ·rw [Bool.not_eq_true',Bool.or_eq_false_iff] at hp
  unfold lowB digB at hp
  unfold ref02_Name_b1
  have k2:ref02_Name_k2 F (i:Int) again true=some false:=by unfold ref02_Name_k2; exact br_tt rfl rfl
  refine br_tt (decide_eq_true (by omega)) (gd_ok (by omega) ?_)
  have dg:gd (0≤(i:Int)∧(i:Int)<((s.size:Nat):Int)) (br (decide (sAt s (i:Nat)<48)) (ref02_Name_k2 F (i:Int) again true) (gd (0≤(i:Int)∧(i:Int)<((s.size:Nat):Int)) (ref02_Name_k2 F (i:Int) again (decide (57<sAt s (i:Nat))))))=some false:=by
   refine gd_ok (by omega) (br_ok (fun _=>k2) (fun h5=>gd_ok (by omega) ?_))
   have h5:=of_decide_eq_false h5
   rw [decide_eq_true (p:=57<sAt s (i:Nat))]
   ·exact k2
   ·have h6:=hp.2
    rw [decide_eq_true (by omega:48≤sAt s (i:Nat)),Bool.true_and,decide_eq_false_iff_not] at h6
    omega
  refine br_ok (fun _=>dg) (fun h5=>gd_ok (by omega) ?_)
  refine br_tt ?_ dg
  have h5:=of_decide_eq_false h5
  have h6:=hp.1
  rw [decide_eq_true (by omega:97≤sAt s (i:Nat)),Bool.true_and,decide_eq_false_iff_not] at h6
  exact decide_eq_true (by omega)
 ·rw [Bool.not_eq_false',Bool.or_eq_true] at hp
  unfold lowB digB at hp
  rw [Bool.and_eq_true,Bool.and_eq_true,decide_eq_true_eq,decide_eq_true_eq,decide_eq_true_eq,decide_eq_true_eq] at hp
  unfold ref02_Name_b1
  have k2:ref02_Name_k2 F (i:Int) again false=z:=by unfold ref02_Name_k2; exact br_ff rfl (gd_ok (i64_of (by omega) (by omega)) hz)
  refine br_tt (decide_eq_true (by omega)) (gd_ok (by omega) ?_)
  refine br_ok (fun h5=>?_) (fun h5=>?_)
  ·have h5:=of_decide_eq_true h5
   refine gd_ok (by omega) (br_ff (decide_eq_false (by omega)) (gd_ok (by omega) ?_))
   rw [decide_eq_false (p:=57<sAt s (i:Nat)) (by omega)]; exact k2
  ·have h5:=of_decide_eq_false h5
   refine gd_ok (by omega) (br_ok (fun h6=>?_) (fun h6=>k2))
   have h6:=of_decide_eq_true h6
   refine gd_ok (by omega) (br_ff (decide_eq_false (by omega)) (gd_ok (by omega) ?_))
   rw [decide_eq_false (p:=57<sAt s (i:Nat)) (by omega)]; exact k2
 ·unfold ref02_Name_b1
  exact br_ff (decide_eq_false (by omega)) rfl
 ·rw [hz]
  split
  ·rename_i hh
   congr 1
   symm
   rw [decide_eq_false_iff_not]
   intro hall
   obtain ⟨i,hi,hp⟩:=List.any_eq_true.1 hh
   have:=hall i (List.mem_range.1 hi)
   rw [Bool.not_eq_true',Bool.or_eq_false_iff] at hp
   rw [hp.1,hp.2] at this
   simp at this
  ·rename_i hh
   congr 1
   symm
   rw [decide_eq_true_eq]
   intro i hi
   rw [Bool.not_eq_true,List.any_eq_false] at hh
   have:=hh i (List.mem_range.2 hi)
   rw [Bool.not_eq_true,Bool.not_eq_false'] at this
   by_cases h0:i=0
   ·subst h0; rw [show (((0:Nat):Int))=0 from rfl,hl0]; rfl
   ·rw [decide_eq_false h0]; simpa using this
end
end Go.Ab
end

section
namespace Go.Ab
set_option maxRecDepth 20000
noncomputable section
def TD:Nat→Term→Prop
 | 0,_=>False
 | d+1,t=>I64 t.op_∧I64 t.num_∧t.kids_.length≤1000000∧∀ k ∈ t.kids_,TD d k
theorem TD.op {d:Nat} {t:Term} (h:TD d t):I64 t.op_:=by
 cases d with
 | zero=>exact h.elim
 | succ d=>exact h.1
theorem TD.up {d e:Nat} (hde:d≤e) : ∀ {t:Term},TD d t→TD e t:=by
 induction d generalizing e with
 | zero=>intro t h; exact h.elim
 | succ d ih=>cases e with
  | zero=>omega
  | succ e=>intro t h; exact ⟨h.1,h.2.1,h.2.2.1,fun k hk=>ih (by omega) (h.2.2.2 k hk)⟩
def szD:Nat→Term→Nat
 | 0,_=>0
 | d+1,t=>1+(t.kids_.map (szD d)).sum
theorem szD_pos {d:Nat} {t:Term} (h:TD d t):1≤szD d t:=by
 cases d with
 | zero=>exact h.elim
 | succ d=>unfold szD; omega
def sumK (d:Nat) (t:Term) (i:Nat):Nat:=1+((t.kids_.take i).map (szD d)).sum
theorem sumK_succ {d i:Nat} {t:Term} (h:i<t.kids_.length):sumK d t (i+1)=sumK d t i+szD d (gl t.kids_ i):=by
 unfold sumK; rw [take_gl h,List.map_append,List.sum_append]; simp; omega
theorem sumK_mono {d i:Nat} {t:Term}:sumK d t i≤szD (d+1) t:=by
 unfold sumK szD
 have:(t.kids_.map (szD d)).sum=((t.kids_.take i).map (szD d)).sum+((t.kids_.drop i).map (szD d)).sum:=by
  rw [← List.sum_append, ← List.map_append,List.take_append_drop]
 omega
theorem sumK_all {d:Nat} {t:Term}:sumK d t t.kids_.length=szD (d+1) t:=by unfold sumK szD; rw [List.take_length]
theorem term_count_ok : ∀ (d:Nat) {F:Nat} (_:BIG+d≤F) {t:Term} (_:TD d t) {m:Int} (_:0≤m) (_:m≤40),∃ v,term_count F t m=some v∧1≤v∧v≤m+1∧(m<v↔m<(szD d t:Int))∧((szD d t:Int)≤m→v=szD d t)
 | 0,_,_,_,h,_,_,_=>h.elim
 | d+1,0,hF,_,_,_,_,_=>by unfold BIG at hF; omega
 | d+1,F+1,hF,t,h,m,m0,m1=>by
  obtain ⟨_,_,hl,hk⟩:=h
  show ∃ v,term_count_B F (term_count F) t m=some v∧_
  unfold term_count_B
  have hF' : BIG+d≤F:=by omega
  have hB:=hF'
  unfold BIG at hB
  suffices hs : ∀ (n:Nat) (i:Nat) (v:Int),t.kids_.length-i<n→i≤t.kids_.length→1≤v→v≤m+1→(v≤m→v=(sumK d t i:Int))→(m<v→m<(sumK d t i:Int)) →
    ∃ u,loopN (fun again (z:Int×Int)=>term_count_b0 F (term_count F) t m again z.1 z.2) n (v,(i:Int))=some u∧1≤u∧u≤m+1∧(m<u↔m<(szD (d+1) t:Int))∧((szD (d+1) t:Int)≤m→u=szD (d+1) t) by
   refine hs F 0 1 (by omega) (by omega) (by omega) (by omega) (fun _=>by simp [sumK]) (fun h=>?_)
   simp [sumK]; omega
  intro n
  induction n with
  | zero=>intro i v h; omega
  | succ n ih=>
   intro i v hn hi v0 v1 v2 v3
   show ∃ u,term_count_b0 F (term_count F) t m (loopN _ n) v (i:Int)=some u∧_
   unfold term_count_b0
   by_cases hil:i<t.kids_.length
   ·rw [show decide ((i:Int)<((t.kids_.length:Nat):Int))=true from decide_eq_true (by omega)]
    have hkt:=hk _ (gl_mem hil)
    have hop:=hkt.op
    by_cases hv:m<v
    ·refine ⟨v, ?_,v0,v1, ?_,fun h=>?_⟩
     ·refine br_tt rfl (gd_ok (by omega) (gd_ok hop (br_tt (decide_eq_true hv) rfl)))
     ·exact ⟨fun _=>by have:=v3 hv; have:=sumK_mono (d:=d) (i:=i) (t:=t); omega,fun _=>hv⟩
     ·have:=v3 hv; have:=sumK_mono (d:=d) (i:=i) (t:=t); omega
    ·obtain ⟨w,hw,w0,w1,w2,w3⟩:=term_count_ok d hF' hkt (m:=m-v) (by omega) (by omega)
     have hsum:=sumK_succ (d:=d) hil
     have hv2:=v2 (by omega)
     have hnx:=ih (i+1) (v+w) (by omega) (by omega) (by omega) (by omega) (fun h=>by
      have:=w3 (by
       have : ¬ m-v<w:=by omega
       have:=mt w2.2 this
       omega)
      omega) (fun h=>by
      have:=w2.1 (by omega)
      omega)
     obtain ⟨u,hu,hr⟩:=hnx
     refine ⟨u, ?_,hr⟩
     refine br_tt rfl (gd_ok (by omega) (gd_ok hop (br_ff (decide_eq_false hv) (gd_ok (i64_of (by omega) (by omega)) (bd_ok hw (gd_ok (i64_of (by omega) (by omega)) (gd_ok (i64_of (by omega) (by omega)) ?_)))))))
     rw [← hu]; congr 1
   ·have hie:i=t.kids_.length:=by omega
    subst hie
    rw [sumK_all] at v2 v3
    refine ⟨v,br_ff (decide_eq_false (by omega)) rfl,v0,v1,⟨v3,fun h=>?_⟩,fun h=>?_⟩
    ·by_cases hv:m<v
     ·exact hv
     ·have:=v2 (by omega); omega
    ·by_cases hv:m<v
     ·have:=v3 hv; omega
     ·exact v2 (by omega)
theorem ref16_count_ok : ∀ (d:Nat) (_:d≤2000000) {F:Nat} (_:BIG+d≤F) {t:Term} (_:TD d t),∃ v,ref16_count F t=some v∧1≤v∧v≤41*d∧(40<v↔40<(szD d t:Int))∧((szD d t:Int)≤40→v=szD d t)
 | 0,_,_,_,_,h=>h.elim
 | d+1,_,0,hF,_,_=>by unfold BIG at hF; omega
 | d+1,hd,F+1,hF,t,h=>by
  obtain ⟨_,_,hl,hk⟩:=h
  show ∃ v,ref16_count_B F (ref16_count F) t=some v∧_
  unfold ref16_count_B
  have hF' : BIG+d≤F:=by omega
  have hB:=hF'
  unfold BIG at hB
  suffices hs : ∀ (n:Nat) (i:Nat) (v:Int),t.kids_.length-i<n→i≤t.kids_.length→1≤v→v≤41*((d+1:Nat):Int)→(v≤40→v=(sumK d t i:Int))→(40<v→40<(sumK d t i:Int)) →
    ∃ u,loopN (fun again (z:Int×Int)=>ref16_count_b0 F (ref16_count F) t again z.1 z.2) n (v,(i:Int))=some u∧1≤u∧u≤41*((d+1:Nat):Int)∧(40<u↔40<(szD (d+1) t:Int))∧((szD (d+1) t:Int)≤40→u=szD (d+1) t) by
   exact hs F 0 1 (by omega) (by omega) (by omega) (by omega) (fun _=>by simp [sumK]) (fun h=>by omega)
  intro n
  induction n with
  | zero=>intro i v h; omega
  | succ n ih=>
   intro i v hn hi v0 v1 v2 v3
   show ∃ u,ref16_count_b0 F (ref16_count F) t (loopN _ n) v (i:Int)=some u∧_
   unfold ref16_count_b0
   by_cases hil:i<t.kids_.length
   ·rw [show decide ((i:Int)<((t.kids_.length:Nat):Int))=true from decide_eq_true (by omega)]
    have hkt:=hk _ (gl_mem hil)
    have hop:=hkt.op
    have hsum:=sumK_succ (d:=d) hil
    by_cases hv:v≤40
    ·obtain ⟨w,hw,w0,w1,w2,w3⟩:=ref16_count_ok d (by omega) hF' hkt
     have hv2:=v2 hv
     obtain ⟨u,hu,hr⟩:=ih (i+1) (v+w) (by omega) (by omega) (by omega) (by omega) (fun h=>by
      have:=w3 (by
       have : ¬ 40<w:=by omega
       have:=mt w2.2 this
       omega)
      omega) (fun h=>by
      by_cases h40:40<w
      ·have:=w2.1 h40; omega
      ·have:=w3 (by have:=mt w2.2 h40; omega); omega)
     refine ⟨u, ?_,hr⟩
     refine br_tt rfl (gd_ok (by omega) (gd_ok hop (br_tt (decide_eq_true hv) (bd_ok hw (gd_ok (i64_of (by omega) (by omega)) ?_)))))
     unfold ref16_count_k1
     refine gd_ok (i64_of (by omega) (by omega)) ?_
     rw [← hu]; congr 1
    ·obtain ⟨u,hu,hr⟩:=ih (i+1) v (by omega) (by omega) v0 v1 (fun h=>by omega) (fun h=>by have:=v3 h; omega)
     refine ⟨u, ?_,hr⟩
     refine br_tt rfl (gd_ok (by omega) (gd_ok hop (br_ff (decide_eq_false hv) ?_)))
     unfold ref16_count_k1
     refine gd_ok (i64_of (by omega) (by omega)) ?_
     rw [← hu]; congr 1
   ·have hie:i=t.kids_.length:=by omega
    subst hie
    rw [sumK_all] at v2 v3
    refine ⟨v,br_ff (decide_eq_false (by omega)) rfl,v0,v1,⟨v3,fun h=>?_⟩,fun h=>?_⟩
    ·by_cases hv:40<v
     ·exact hv
     ·have:=v2 (by omega); omega
    ·by_cases hv:40<v
     ·have:=v3 hv; omega
     ·exact v2 (by omega)
def oneBit (n:Int):Bool:=n==1||(n==2||(n==4||(n==8||n==16)))
theorem ref16_single_ok (F:Nat) (n:Int):ref16_single F n=some (oneBit n):=by
 unfold ref16_single ref16_single_k0 oneBit
 cases h1:(n==(1:Int)) <;> cases h2:(n==(2:Int)) <;> cases h3:(n==(4:Int)) <;> cases h4:(n==(8:Int)) <;> rfl
theorem term_single_ok (F:Nat) (n:Int):term_single F n=some (oneBit n):=by
 unfold term_single
 by_cases h:1≤n∧n≤16
 ·have hc:n=1∨n=2∨n=3∨n=4∨n=5∨n=6∨n=7∨n=8∨n=9∨n=10∨n=11∨n=12∨n=13∨n=14∨n=15∨n=16:=by omega
  rcases hc with rfl | rfl | rfl | rfl | rfl | rfl | rfl | rfl | rfl | rfl | rfl | rfl | rfl | rfl | rfl | rfl <;> rfl
 ·have hz:oneBit n=false:=by
   unfold oneBit
   simp only [Bool.or_eq_false_iff,beq_eq_false_iff_ne]
   omega
  rw [hz]
  refine br_ok (fun h1=>br_ok (fun h2=>?_) (fun _=>rfl)) (fun _=>rfl)
  exact absurd ⟨of_decide_eq_true h1,of_decide_eq_true h2⟩ h
end
end Go.Ab
end

section
namespace Go.Ab
set_option maxRecDepth 20000
noncomputable section
def nodeB (t:Term):Bool:=
 if t.op_=1 then t.num_==0&&(t.more_==0&&t.kids_.length==0)
 else if t.op_=2 then (decide (0≤t.num_)&&decide (t.num_≤39))&&(t.more_==0&&t.kids_.length==0)
 else if t.op_=3 then (decide (0≤t.num_)&&decide (t.num_≤40))&&(t.more_==0&&t.kids_.length==0)
 else if t.op_=4 then oneBit t.num_&&(t.more_==0&&t.kids_.length==0)
 else if t.op_=5 then (decide (0≤t.num_)&&decide (t.num_≤15))&&(t.more_==0&&t.kids_.length==0)
 else if t.op_=6 then (decide (2≤t.num_)&&decide (t.num_≤10))&&(t.more_==0&&t.kids_.length==0)
 else if t.op_=7 then (decide (1≤t.num_)&&decide (t.num_≤10))&&(oneBit t.more_&&t.kids_.length==0)
 else if t.op_=8 then (decide (1≤t.num_)&&decide (t.num_≤10))&&(t.more_==0&&t.kids_.length==0)
 else if t.op_=9∨t.op_=10 then t.num_==0&&(t.more_==0&&decide (1≤t.kids_.length))
 else if t.op_=11 then t.num_==0&&(t.more_==0&&t.kids_.length==1)
 else false
def formD:Nat→Term→Bool
 | 0,_=>false
 | d+1,t=>nodeB t&&t.kids_.all (formD d)
def depD:Nat→Term→Nat
 | 0,_=>0
 | d+1,t=>1+t.kids_.foldl (fun n k=>max n (depD d k)) 0
def rightD:Nat→Nat→Term→Bool
 | 0,_,_=>false
 | d+1,n,t=> !decide (n=0)&&(nodeB t&&t.kids_.all (rightD d (n-1)))
theorem foldl_max {α:Type} (f:α→Nat) : ∀ (l:List α) (a n:Nat),l.foldl (fun n k=>max n (f k)) a≤n↔a≤n∧∀ k ∈ l,f k≤n
 | [],a,n=>by simp
 | x::l,a,n=>by
  rw [List.foldl_cons,foldl_max f l]
  simp only [List.mem_cons,forall_eq_or_imp]
  constructor
  ·rintro ⟨h1,h2⟩; exact ⟨by omega,by omega,h2⟩
  ·rintro ⟨h1,h2,h3⟩; exact ⟨by omega,h3⟩
theorem rightD_eq : ∀ (d n:Nat) (t:Term),TD d t→rightD d n t=(decide (depD d t≤n)&&formD d t)
 | 0,_,_,h=>h.elim
 | d+1,n,t,h=>by
  unfold rightD depD formD
  have hk:=h.2.2.2
  cases n with
  | zero=>simp
  | succ n=>
   have e1:t.kids_.all (rightD d (n+1-1))=(t.kids_.all (fun k=>decide (depD d k≤n))&&t.kids_.all (formD d)):=by
    rw [Bool.eq_iff_iff,Bool.and_eq_true,List.all_eq_true,List.all_eq_true,List.all_eq_true]
    constructor
    ·intro h
     refine ⟨fun k hkk=>?_,fun k hkk=>?_⟩ <;> (have:=h k hkk; rw [Nat.add_sub_cancel,rightD_eq d n k (hk k hkk),Bool.and_eq_true] at this)
     ·exact this.1
     ·exact this.2
    ·rintro ⟨h1,h2⟩ k hkk
     rw [Nat.add_sub_cancel,rightD_eq d n k (hk k hkk),h1 k hkk,h2 k hkk]; rfl
   have e2:decide (1+t.kids_.foldl (fun n k=>max n (depD d k)) 0≤n+1)=t.kids_.all (fun k=>decide (depD d k≤n)):=by
    rw [Bool.eq_iff_iff,decide_eq_true_eq,List.all_eq_true]
    have:=foldl_max (depD d) t.kids_ 0 n
    simp only [decide_eq_true_eq]
    constructor
    ·intro h; exact (this.1 (by omega)).2
    ·intro h; have:=this.2 ⟨by omega,h⟩; omega
   rw [e1,e2]
   cases nodeB t <;> cases t.kids_.all (fun k=>decide (depD d k≤n)) <;> cases t.kids_.all (formD d) <;> simp
theorem ref16_depth_ok : ∀ (d:Nat) (_:d≤2000000) {F:Nat} (_:BIG+d≤F) {t:Term} (_:TD d t),ref16_depth F t=some (depD d t:Int)∧depD d t≤d
 | 0,_,_,_,_,h=>h.elim
 | d+1,_,0,hF,_,_=>by unfold BIG at hF; omega
 | d+1,hd,F+1,hF,t,h=>by
  obtain ⟨_,_,hl,hk⟩:=h
  have hF' : BIG+d≤F:=by omega
  have hB:=hF'
  unfold BIG at hB
  have hle:t.kids_.foldl (fun n k=>max n (depD d k)) 0≤d:=(foldl_max _ _ _ _).2 ⟨by omega,fun k hkk=>(ref16_depth_ok d (by omega) hF' (hk k hkk)).2⟩
  refine ⟨?_,by unfold depD; omega⟩
  show ref16_depth_B F (ref16_depth F) t=_
  unfold ref16_depth_B
  suffices hs : ∀ (n:Nat) (i:Nat) (v:Nat),t.kids_.length-i<n→i≤t.kids_.length→(t.kids_.drop i).foldl (fun n k=>max n (depD d k)) v=t.kids_.foldl (fun n k=>max n (depD d k)) 0→v≤d →
    loopN (fun again (z:Int×Int)=>ref16_depth_b0 F (ref16_depth F) t again z.1 z.2) n ((v:Int),(i:Int))=some ((depD (d+1) t:Nat):Int) by
   exact hs F 0 0 (by omega) (by omega) rfl (by omega)
  intro n
  induction n with
  | zero=>intro i v h; omega
  | succ n ih=>
   intro i v hn hi hv vd
   show ref16_depth_b0 F (ref16_depth F) t (loopN _ n) (v:Int) (i:Int)=_
   unfold ref16_depth_b0
   by_cases hil:i<t.kids_.length
   ·have hkt:=hk _ (gl_mem hil)
    obtain ⟨h1,h2⟩:=ref16_depth_ok d (by omega) hF' hkt
    rw [drop_gl hil,List.foldl_cons] at hv
    have hnx:=ih (i+1) (max v (depD d (gl t.kids_ i))) (by omega) (by omega) hv (by omega)
    refine br_tt (decide_eq_true (by omega)) (gd_ok (by omega) (gd_ok hkt.op (bd_ok h1 (gd_ok (i64_of (by omega) (by omega)) ?_))))
    rw [← hnx]; congr 1
    refine Prod.ext ?_ rfl
    show gmax _ _=_
    unfold gmax
    split <;> omega
   ·have hie:i=t.kids_.length:=by omega
    subst hie
    rw [List.drop_length,List.foldl_nil] at hv
    refine br_ff (decide_eq_false (by omega)) ?_
    unfold ref16_depth_k1
    refine gd_ok (i64_of (by omega) (by omega)) ?_
    unfold depD
    rw [← hv]; congr 1; omega
theorem ref16_form_ok : ∀ (d:Nat) {F:Nat} (_:BIG+d≤F) {t:Term} (_:TD d t),ref16_form F t=some (formD d t)
 | 0,_,_,_,h=>h.elim
 | d+1,0,hF,_,_=>by unfold BIG at hF; omega
 | d+1,F+1,hF,t,h=>by
  obtain ⟨_,_,hl,hk⟩:=h
  have hF' : BIG+d≤F:=by omega
  have hB:=hF'
  unfold BIG at hB
  show ref16_form_B F (ref16_form F) t=_
  have hloop:loopN (fun again (z:Int)=>ref16_form_b3 F (ref16_form F) t again z) F (0:Int)=some (t.kids_.all (formD d)):=by
   refine range_ok (fun l=>some (l.all (formD d))) (fun again i hi hag=>?_) (fun again=>?_) (by omega)
   ·show ref16_form_b3 F (ref16_form F) t again (i:Int)=_
    unfold ref16_form_b3
    have hkt:=hk _ (gl_mem hi)
    refine br_tt (decide_eq_true (by omega)) (gd_ok (by omega) (gd_ok hkt.op (bd_ok (ref16_form_ok d hF' hkt) ?_)))
    show br (!formD d (gl t.kids_ i)) _ _=some (formD d (gl t.kids_ i)&&_)
    cases formD d (gl t.kids_ i) with
    | false=>rfl
    | true=>exact br_ff rfl (gd_ok (i64_of (by omega) (by omega)) hag)
   ·show ref16_form_b3 F (ref16_form F) t again (t.kids_.length:Int)=_
    unfold ref16_form_b3
    exact br_ff (decide_eq_false (by omega)) rfl
  have k2 : ∀ b,ref16_form_k2 F (ref16_form F) t b=some (!b&&t.kids_.all (formD d)):=fun b=>by
   unfold ref16_form_k2
   cases b with
   | true=>rfl
   | false=>exact br_ff rfl hloop
  have k1 : ∀ (n:Int) (a b:Bool),ref16_form_k1 F (ref16_form F) t n a b=some ((b&&(a&&((t.kids_.length:Nat):Int)==n))&&t.kids_.all (formD d)):=fun n a b=>by
   unfold ref16_form_k1
   cases b <;> cases a
   ·rw [k2]; rfl
   ·rw [k2]; rfl
   ·exact br_ff rfl (br_tt rfl (k2 _))
   ·refine br_ff rfl (br_ff rfl ((k2 _).trans ?_))
    congr 2
    rw [bne,Bool.not_not]; rfl
  have e0 : ∀ (n:Nat),(((t.kids_.length:Nat):Int)==(n:Int))=(t.kids_.length==n):=fun n=>by
   rw [Bool.eq_iff_iff,beq_iff_eq,beq_iff_eq]; omega
  have eL:(((t.kids_.length:Nat):Int)==((t.kids_.length:Nat):Int))=true:=by simp
  have eP:(decide ((0:Int)<((t.kids_.length:Nat):Int)))=decide (1≤t.kids_.length):=by rw [Bool.eq_iff_iff,decide_eq_true_eq,decide_eq_true_eq]; omega
  have z0:(((t.kids_.length:Nat):Int)==0)=(t.kids_.length==0):=e0 0
  have z1:(((t.kids_.length:Nat):Int)==1)=(t.kids_.length==1):=e0 1
  unfold ref16_form_B formD nodeB
  have K : ∀ {x:Option Bool} {n:Int} {a b c:Bool},x=ref16_form_k1 F (ref16_form F) t n a b→(b&&(a&&((t.kids_.length:Nat):Int)==n))=c→x=some (c&&t.kids_.all (formD d)):=fun h e=>by rw [h,k1,e]
  have R : ∀ {lo hi:Int} {a:Bool} {c:Bool},(ref16_form_k1 F (ref16_form F) t 0 a (decide (lo≤t.num_)&&decide (t.num_≤hi)))=some c→br (decide (lo≤t.num_)) (ref16_form_k1 F (ref16_form F) t 0 a (decide (t.num_≤hi))) (ref16_form_k1 F (ref16_form F) t 0 a false)=some c:=fun h=>by
   rw [← h]; cases decide (_≤t.num_) <;> rfl
  by_cases h1:t.op_=1
  ·rw [if_pos h1]
   exact br_tt (by simp [h1]) (K rfl (by rw [z0]))
  rw [if_neg h1]
  refine br_ff (by simp [h1]) ?_
  by_cases h2:t.op_=2
  ·rw [if_pos h2]
   refine br_tt (by simp [h2]) ?_
   rw [show decide (t.num_<40)=decide (t.num_≤39) from decide_eq_decide.2 (by omega)]
   exact R (K rfl (by rw [z0]))
  rw [if_neg h2]
  refine br_ff (by simp [h2]) ?_
  by_cases h3:t.op_=3
  ·rw [if_pos h3]
   exact br_tt (by simp [h3]) (R (K rfl (by rw [z0])))
  rw [if_neg h3]
  refine br_ff (by simp [h3]) ?_
  by_cases h4:t.op_=4
  ·rw [if_pos h4]
   exact br_tt (by simp [h4]) (bd_ok (ref16_single_ok F _) (K rfl (by rw [z0])))
  rw [if_neg h4]
  refine br_ff (by simp [h4]) ?_
  by_cases h5:t.op_=5
  ·rw [if_pos h5]
   exact br_tt (by simp [h5]) (R (K rfl (by rw [z0])))
  rw [if_neg h5]
  refine br_ff (by simp [h5]) ?_
  by_cases h6:t.op_=6
  ·rw [if_pos h6]
   exact br_tt (by simp [h6]) (R (K rfl (by rw [z0])))
  rw [if_neg h6]
  refine br_ff (by simp [h6]) ?_
  by_cases h7:t.op_=7
  ·rw [if_pos h7]
   refine br_tt (by simp [h7]) ?_
   refine br_ok (fun h8=>bd_ok (ref16_single_ok F _) (K rfl ?_)) (fun h8=>bd_ok (ref16_single_ok F _) (K rfl ?_))
   ·rw [z0,h8,Bool.true_and]
   ·rw [h8]; rfl
  rw [if_neg h7]
  refine br_ff (by simp [h7]) ?_
  by_cases h8:t.op_=8
  ·rw [if_pos h8]
   exact br_tt (by simp [h8]) (R (K rfl (by rw [z0])))
  rw [if_neg h8]
  refine br_ff (by simp [h8]) ?_
  have k0t:ref16_form_k0 F (ref16_form F) t true=some ((t.num_==0&&(t.more_==0&&decide (1≤t.kids_.length)))&&t.kids_.all (formD d)):=by
   unfold ref16_form_k0
   refine br_tt rfl (br_ok (fun h=>K rfl ?_) (fun h=>K rfl ?_))
   ·rw [eL,eP,h,Bool.true_and,Bool.and_true,Bool.and_comm]
   ·rw [h]; rfl
  by_cases h9:t.op_=9∨t.op_=10
  ·rw [if_pos h9]
   refine br_ok (fun h=>?_) (fun h=>?_)
   ·rw [h]; exact k0t
   ·have:t.op_=10:=by simp at h; omega
    rw [this]; exact k0t
  rw [if_neg h9]
  refine br_ff (by simp; omega) ?_
  rw [show (t.op_==(10:Int))=false by simp; omega]
  unfold ref16_form_k0
  refine br_ff rfl ?_
  by_cases h11:t.op_=11
  ·rw [if_pos h11]
   exact br_tt (by simp [h11]) (K rfl (by rw [z1]))
  ·rw [if_neg h11]
   exact br_ff (by simp [h11]) (K rfl rfl)
end
end Go.Ab
end

section
namespace Go.Ab
set_option maxRecDepth 20000
noncomputable section
theorem slices_IndexFunc_Term_ok {F:Nat} {l:List Term} {q:Term→Option Bool} (p:Term→Bool) (hF:l.length<F) (hl:l.length≤1000000000) (ho : ∀ r ∈ l,I64 r.op_) (hq : ∀ r ∈ l,q r=some (p r)) : ∃ i:Int,slices_IndexFunc_Term F l q=some i∧(0≤i↔l.any p=true):=by
 unfold slices_IndexFunc_Term
 suffices hs : ∀ (n i:Nat),l.length-i<n→i≤l.length→∃ j:Int,loopN (fun again (z:Int)=>slices_IndexFunc_Term_b0 F l q again z) n (i:Int)=some j∧(0≤j↔(l.drop i).any p=true) by
  simpa using hs F 0 (by omega) (by omega)
 intro n
 induction n with
 | zero=>intro i h; omega
 | succ n ih=>
  intro i hn hi
  show ∃ j:Int,slices_IndexFunc_Term_b0 F l q (loopN _ n) (i:Int)=some j∧_
  unfold slices_IndexFunc_Term_b0
  by_cases hil:i<l.length
  ·have hm:=gl_mem hil
   rw [any_drop hil]
   cases hp:p (gl l i) with
   | true=>exact ⟨i,br_tt (decide_eq_true (by omega)) (gd_ok (by omega) (gd_ok (ho _ hm) (bd_ok (hq _ hm) (br_tt hp rfl)))),by simp⟩
   | false=>
    obtain ⟨j,hj,hr⟩:=ih (i+1) (by omega) (by omega)
    refine ⟨j,br_tt (decide_eq_true (by omega)) (gd_ok (by omega) (gd_ok (ho _ hm) (bd_ok (hq _ hm) (br_ff hp (gd_ok (i64_of (by omega) (by omega)) ?_))))),by simpa using hr⟩
    rw [← hj]; congr 1
  ·refine ⟨-1,br_ff (decide_eq_false (by omega)) rfl, ?_⟩
   rw [List.drop_eq_nil_of_le (by omega)]; simp
theorem slices_ContainsFunc_Term_ok {F:Nat} {l:List Term} {q:Term→Option Bool} (p:Term→Bool) (hF:l.length<F) (hl:l.length≤1000000000) (ho : ∀ r ∈ l,I64 r.op_) (hq : ∀ r ∈ l,q r=some (p r)):slices_ContainsFunc_Term F l q=some (l.any p):=by
 obtain ⟨i,h1,h2⟩:=slices_IndexFunc_Term_ok p hF hl ho hq
 unfold slices_ContainsFunc_Term
 refine bd_ok h1 ?_
 rw [Option.some.injEq,Bool.eq_iff_iff,decide_eq_true_eq]; exact h2
def limB (n:Int):Int×Int×Bool:=if n=2 then (0,39,true) else if n=3 then (0,40,true) else if n=4 then (1,16,true) else if n=5 then (0,15,true) else if n=6 then (2,10,true) else if n=7∨n=8 then (1,10,true) else (0,0,false)
def kidB (n:Int):Int×Int:=if n=9∨n=10 then (1,40) else if n=11 then (1,1) else (0,0)
theorem term_limits_ok (F:Nat) (n:Int):term_limits F n=some (limB n):=by
 unfold term_limits limB term_limits_k0
 by_cases h2:n=2
 ·subst h2; rfl
 by_cases h3:n=3
 ·subst h3; rfl
 by_cases h4:n=4
 ·subst h4; rfl
 by_cases h5:n=5
 ·subst h5; rfl
 by_cases h6:n=6
 ·subst h6; rfl
 by_cases h7:n=7
 ·subst h7; rfl
 by_cases h8:n=8
 ·subst h8; rfl
 have e : ∀ m:Int,n≠m→(n==m)=false:=fun m h=>by simpa using h
 rw [e 2 h2,e 3 h3,e 4 h4,e 5 h5,e 6 h6,e 7 h7,e 8 h8,if_neg h2,if_neg h3,if_neg h4,if_neg h5,if_neg h6,if_neg (by omega)]; rfl
theorem term_kids_ok (F:Nat) (n:Int):term_kids F n=some (kidB n):=by
 unfold term_kids kidB term_kids_k0
 have e : ∀ m:Int,n≠m→(n==m)=false:=fun m h=>by simpa using h
 by_cases h2:n=9
 ·subst h2; rfl
 by_cases h3:n=10
 ·subst h3; rfl
 by_cases h4:n=11
 ·subst h4; rfl
 rw [e 9 h2,e 10 h3,e 11 h4,if_neg (by omega),if_neg h4]; rfl
def badN (t:Term):Bool:=((limB t.op_).2.2&&(decide (t.num_<(limB t.op_).1)||decide ((limB t.op_).2.1<t.num_)))||(!(limB t.op_).2.2&&t.num_ != 0)
def badM (t:Term):Bool:=(t.op_==4 && !oneBit t.num_)||((t.op_==7 && !oneBit t.more_)||(t.op_ != 7&&t.more_ != 0))
def badL (t:Term):Bool:=decide (((t.kids_.length:Nat):Int)<(kidB t.op_).1)||decide ((kidB t.op_).2<((t.kids_.length:Nat):Int))
theorem node_bad {t:Term} (hl:t.kids_.length≤40):(!(decide (t.op_<1)||decide (11<t.op_))&&(!badN t&&(!badM t && !badL t)))=nodeB t:=by
 have hb1 : ∀ n:Int,oneBit n=true→1≤n∧n≤16:=fun n h=>by
  unfold oneBit at h; simp only [Bool.or_eq_true,beq_iff_eq] at h; omega
 have ek : ∀ n:Nat,(t.kids_.length==n)=decide (t.kids_.length=n):=fun n=>by rw [Bool.eq_iff_iff,beq_iff_eq,decide_eq_true_eq]
 rw [Bool.eq_iff_iff]
 unfold badN badM badL limB kidB nodeB
 generalize t.op_=o,t.num_=n,t.more_=m at *
 have key : ∀ {p q:Prop},(p↔q)→(p↔q):=fun h=>h
 by_cases h:o<1∨11<o
 ·rw [show (decide (o<1)||decide (11<o))=true by simpa using h]
  have e : ∀ m:Int,1≤m→m≤11→¬ o=m:=fun m _ _=>by omega
  simp [e 1,e 2,e 3,e 4,e 5,e 6,e 7,e 8,e 9,e 10,e 11]
 have hc:o=1∨o=2∨o=3∨o=4∨o=5∨o=6∨o=7∨o=8∨o=9∨o=10∨o=11:=by omega
 rcases hc with rfl | rfl | rfl | rfl | rfl | rfl | rfl | rfl | rfl | rfl | rfl <;> simp <;> (try omega)
 constructor
 ·rintro ⟨_,⟨h1,h2⟩,h3⟩; exact ⟨h1,h2,h3⟩
 ·rintro ⟨h1,h2,h3⟩; exact ⟨hb1 _ h1,⟨h1,h2⟩,h3⟩
theorem term_right_ok : ∀ (d:Nat) {F:Nat} (_:BIG+d≤F) {t:Term} (_:TD d t) (_:szD d t≤40) (n:Nat) (_:n≤8),term_right F t (n:Int)=some (rightD d n t)
 | 0,_,_,_,h,_,_,_=>h.elim
 | d+1,0,hF,_,_,_,_,_=>by unfold BIG at hF; omega
 | d+1,F+1,hF,t,h,hs,n,hn=>by
  obtain ⟨_,_,hl,hk⟩:=h
  have hF' : BIG+d≤F:=by omega
  have hB:=hF'
  unfold BIG at hB
  have hlen:t.kids_.length≤39:=by
   have:t.kids_.length≤(t.kids_.map (szD d)).sum:=by
    have : ∀ l:List Term,(∀ k ∈ l,TD d k)→l.length≤(l.map (szD d)).sum:=by
     intro l
     induction l with
     | nil=>intro _; simp
     | cons x l ih=>intro hx; have:=szD_pos (hx x (by simp)); have:=ih fun k hk=>hx k (by simp [hk]); simp; omega
    exact this _ hk
   unfold szD at hs; omega
  have hsz : ∀ k ∈ t.kids_,szD d k≤40:=fun k hkk=>by
   obtain ⟨i,hi,rfl⟩:=List.getElem_of_mem hkk
   have h1:=sumK_succ (d:=d) hi
   have h2:=sumK_mono (d:=d) (i:=i+1) (t:=t)
   rw [gl_lt hi] at h1; omega
  show term_right_B F (term_right F) t (n:Int)=_
  unfold term_right_B
  refine bd_ok (term_limits_ok F _) (bd_ok (term_kids_ok F _) ?_)
  have k3 : ∀ b,n≠0→term_right_k3 F (term_right F) t (n:Int) b=some (!b&&t.kids_.all (rightD d (n-1))):=fun b h0=>by
   unfold term_right_k3
   cases b with
   | true=>rfl
   | false=>
    refine br_ff rfl (bd_ok (slices_ContainsFunc_Term_ok (fun k=> !rightD d (n-1) k) (by omega) (by omega) (fun k hkk=>(hk k hkk).op) fun k hkk=>?_) ?_)
    ·unfold term_right_1
     refine gd_ok (i64_of (by omega) (by omega)) ?_
     rw [show ((n:Int)-1)=((n-1:Nat):Int) by omega]
     exact bd_ok (term_right_ok d hF' (hk k hkk) (hsz k hkk) (n-1) (by omega)) rfl
    ·rw [Bool.not_false,Bool.true_and,List.not_any_eq_all_not]; simp
  have k2 : ∀ b,n≠0→term_right_k2 F (term_right F) t (n:Int) (kidB t.op_) b=some (!b&&(!badL t&&t.kids_.all (rightD d (n-1)))):=fun b h0=>by
   unfold term_right_k2 badL
   cases b with
   | true=>rfl
   | false=>
    refine br_ff rfl ?_
    rw [or_br (fun b=>term_right_k3 F (term_right F) t (n:Int) b),k3 _ h0]; rfl
  have k1 : ∀ b,n≠0→term_right_k1 F (term_right F) t (n:Int) (kidB t.op_) b=some (!b&&(!badM t&&(!badL t&&t.kids_.all (rightD d (n-1))))):=fun b h0=>by
   unfold term_right_k1 badM
   cases b with
   | true=>rfl
   | false=>
    refine br_ff rfl ?_
    have s7:(term_single F t.more_).bind (fun z=>br (!z) (term_right_k2 F (term_right F) t (n:Int) (kidB t.op_) true) (br (t.op_ != (7:Int)) (term_right_k2 F (term_right F) t (n:Int) (kidB t.op_) (t.more_ != (0:Int))) (term_right_k2 F (term_right F) t (n:Int) (kidB t.op_) false)))=term_right_k2 F (term_right F) t (n:Int) (kidB t.op_) (!oneBit t.more_||(t.op_ != 7&&t.more_ != 0)):=by
     refine bd_ok (term_single_ok F _) ?_
     cases oneBit t.more_ <;> cases (t.op_ != (7:Int)) <;> rfl
    have s:(br (t.op_==(7:Int)) ((term_single F t.more_).bind (fun z=>br (!z) (term_right_k2 F (term_right F) t (n:Int) (kidB t.op_) true) (br (t.op_ != (7:Int)) (term_right_k2 F (term_right F) t (n:Int) (kidB t.op_) (t.more_ != (0:Int))) (term_right_k2 F (term_right F) t (n:Int) (kidB t.op_) false)))) (br (t.op_ != (7:Int)) (term_right_k2 F (term_right F) t (n:Int) (kidB t.op_) (t.more_ != (0:Int))) (term_right_k2 F (term_right F) t (n:Int) (kidB t.op_) false)))
      = term_right_k2 F (term_right F) t (n:Int) (kidB t.op_) ((t.op_==7 && !oneBit t.more_)||(t.op_ != 7&&t.more_ != 0)):=by
     rw [s7]
     cases h7:(t.op_==(7:Int)) with
     | true=>rw [show (t.op_ != (7:Int))=false by rw [bne,h7]; rfl]; cases oneBit t.more_ <;> rfl
     | false=>rw [show (t.op_ != (7:Int))=true by rw [bne,h7]; rfl]; rfl
    rw [s]
    refine br_ok (fun h4=>bd_ok (term_single_ok F _) ?_) (fun h4=>?_)
    ·rw [h4,Bool.true_and]
     cases oneBit t.num_ with
     | false=>refine br_tt rfl ((k2 _ h0).trans ?_); rfl
     | true=>refine br_ff rfl ((k2 _ h0).trans ?_); rfl
    ·rw [h4]; exact k2 _ h0
  have k0 : ∀ b,(b=false→n≠0)→term_right_k0 F (term_right F) t (n:Int) (limB t.op_) (kidB t.op_) b=some (!b&&(!badN t&&(!badM t&&(!badL t&&t.kids_.all (rightD d (n-1)))))):=fun b hb=>by
   unfold term_right_k0 badN
   cases b with
   | true=>rfl
   | false=>
    have h0:=hb rfl
    refine br_ff rfl ?_
    have k1:=fun b=>k1 b h0
    generalize hK:term_right_k1 F (term_right F) t (n:Int) (kidB t.op_)=K at k1 ⊢
    generalize (!badM t&&(!badL t&&t.kids_.all (rightD d (n-1))))=rest at k1 ⊢
    generalize (t.num_ != 0)=nz
    cases (limB t.op_).2.2 <;> cases decide (t.num_<(limB t.op_).1) <;> cases decide ((limB t.op_).2.1<t.num_) <;> cases nz <;> simp only [br,k1] <;> rfl
  have hn0:(((n:Int))==0)=decide (n=0):=by rw [Bool.eq_iff_iff,beq_iff_eq,decide_eq_true_eq]; omega
  rw [hn0]
  rw [or_br (fun b=>term_right_k0 F (term_right F) t (n:Int) (limB t.op_) (kidB t.op_) b),or_br (fun b=>term_right_k0 F (term_right F) t (n:Int) (limB t.op_) (kidB t.op_) b)]
  rw [k0 _ (fun h=>by simp only [Bool.or_eq_false_iff,decide_eq_false_iff_not] at h; exact h.2.2)]
  unfold rightD
  rw [← node_bad (t:=t) (by omega)]
  cases decide (t.op_<1) <;> cases decide (11<t.op_) <;> cases decide (n=0) <;> cases badN t <;> cases badM t <;> cases badL t <;> rfl
def termE (d:Nat) (t:Term):Int:=if 40<szD d t then 1 else if rightD d 8 t=true then 0 else 16
theorem term_Check_ok {d F:Nat} (hF:BIG+d≤F) {t:Term} (h:TD d t):term_Check F t=some (termE d t):=by
 unfold term_Check termE
 obtain ⟨v,hv,_,_,h1,_⟩:=term_count_ok d hF h (m:=40) (by omega) (by omega)
 refine bd_ok hv (br_ok (fun h2=>?_) (fun h2=>?_))
 ·have:=h1.1 (of_decide_eq_true h2); rw [if_pos (by omega)]
 ·have h3 : ¬ 40<szD d t:=fun h=>of_decide_eq_false h2 (h1.2 (by omega))
  rw [if_neg h3]
  refine bd_ok (term_right_ok d hF h (by omega) 8 (by omega)) ?_
  cases rightD d 8 t <;> rfl
theorem ref16_Check_ok {d F:Nat} (hd:d≤2000000) (hF:BIG+d≤F) {t:Term} (h:TD d t):ref16_Check F t=some (termE d t):=by
 unfold ref16_Check termE
 obtain ⟨v,hv,_,_,h1,_⟩:=ref16_count_ok d hd hF h
 refine bd_ok hv (br_ok (fun h2=>?_) (fun h2=>?_))
 ·have:=h1.1 (of_decide_eq_true h2); rw [if_pos (by omega)]
 ·have h3 : ¬ 40<szD d t:=fun h=>of_decide_eq_false h2 (h1.2 (by omega))
  rw [if_neg h3,rightD_eq d 8 t h]
  refine bd_ok (ref16_depth_ok d hd hF h).1 (br_ok (fun h4=>?_) (fun h4=>?_))
  ·have h4:=of_decide_eq_true h4
   rw [decide_eq_false (by omega)]; rfl
  ·have h4:=of_decide_eq_false h4
   rw [decide_eq_true (by omega)]
   refine bd_ok (ref16_form_ok d hF h) ?_
   unfold ref16_Check_k0
   cases formD d t <;> rfl
theorem termE_true (d:Nat):termE (d+1) ⟨1,0,0,[]⟩=0:=by
 unfold termE
 rw [if_neg (by simp [szD]),if_pos]
 simp [rightD,nodeB]
end
end Go.Ab
end

section
namespace Go.Ab
set_option maxRecDepth 20000
noncomputable section
theorem slices_IndexFunc_Scheme_ok {F:Nat} (hF:BIG≤F) {l:List Scheme} {q:Scheme→Option Bool} (p:Scheme→Bool) (hl:l.length≤1000000000) (hq : ∀ r ∈ l,q r=some (p r)):slices_IndexFunc_Scheme F l q=some (idxI p l):=by
 unfold BIG at hF
 unfold slices_IndexFunc_Scheme
 refine loopN_ok (fun z:Int=>∃ i:Nat,z=i∧i≤l.length∧∀ j,j<i→p (gl l j)=false) (fun z=>l.length-z.toNat) (fun again z hz ih=>?_) ⟨0,rfl,by omega,fun j hj=>by omega⟩ (by simp; omega)
 obtain ⟨i,rfl,hi,hb⟩:=hz
 unfold slices_IndexFunc_Scheme_b0
 refine br_ok (fun h=>?_) (fun h=>?_)
 ·have h:i<l.length:=by simpa using h
  refine gd_G (k:=?_)
  refine bd_ok (hq _ (gl_mem h)) ?_
  simp only [Int.toNat_natCast]
  refine br_ok (fun hp=>?_) (fun hp=>?_)
  ·have ha:l.any p=true:=List.any_eq_true.2 ⟨_,gl_mem h,hp⟩
   rw [idxI,if_pos ha,findIdx_go h hb hp]
  ·refine gd_G (k:=?_)
   refine ih _ ⟨i+1,by omega,h,fun j hj=>?_⟩ (by omega)
   rcases Nat.lt_or_ge j i with h1 | h1
   ·exact hb j h1
   ·have:j=i:=by omega
    subst this; exact hp
 ·have h : ¬ i<l.length:=by simpa using h
  have:i=l.length:=by omega
  subst this
  have ha:=any_of_before hb
  rw [idxI,ha]; rfl
theorem slices_ContainsFunc_Scheme_ok {F:Nat} (hF:BIG≤F) {l:List Scheme} {q:Scheme→Option Bool} (p:Scheme→Bool) (hl:l.length≤1000000000) (hq : ∀ r ∈ l,q r=some (p r)):slices_ContainsFunc_Scheme F l q=some (l.any p):=by
 unfold slices_ContainsFunc_Scheme
 refine bd_ok (slices_IndexFunc_Scheme_ok hF p hl hq) ?_
 unfold idxI
 cases l.any p with
 | true=>rw [if_pos rfl,decide_eq_true (by omega)]
 | false=>rw [if_neg (by simp)]; rfl
theorem slices_IndexFunc_Region_ok {F:Nat} (hF:BIG≤F) {l:List Region} {q:Region→Option Bool} (p:Region→Bool) (hl:l.length≤1000000000) (hq : ∀ r ∈ l,q r=some (p r)):slices_IndexFunc_Region F l q=some (idxI p l):=by
 unfold BIG at hF
 unfold slices_IndexFunc_Region
 refine loopN_ok (fun z:Int=>∃ i:Nat,z=i∧i≤l.length∧∀ j,j<i→p (gl l j)=false) (fun z=>l.length-z.toNat) (fun again z hz ih=>?_) ⟨0,rfl,by omega,fun j hj=>by omega⟩ (by simp; omega)
 obtain ⟨i,rfl,hi,hb⟩:=hz
 unfold slices_IndexFunc_Region_b0
 refine br_ok (fun h=>?_) (fun h=>?_)
 ·have h:i<l.length:=by simpa using h
  refine gd_G (k:=?_)
  refine bd_ok (hq _ (gl_mem h)) ?_
  simp only [Int.toNat_natCast]
  refine br_ok (fun hp=>?_) (fun hp=>?_)
  ·have ha:l.any p=true:=List.any_eq_true.2 ⟨_,gl_mem h,hp⟩
   rw [idxI,if_pos ha,findIdx_go h hb hp]
  ·refine gd_G (k:=?_)
   refine ih _ ⟨i+1,by omega,h,fun j hj=>?_⟩ (by omega)
   rcases Nat.lt_or_ge j i with h1 | h1
   ·exact hb j h1
   ·have:j=i:=by omega
    subst this; exact hp
 ·have h : ¬ i<l.length:=by simpa using h
  have:i=l.length:=by omega
  subst this
  have ha:=any_of_before hb
  rw [idxI,ha]; rfl
theorem slices_ContainsFunc_Region_ok {F:Nat} (hF:BIG≤F) {l:List Region} {q:Region→Option Bool} (p:Region→Bool) (hl:l.length≤1000000000) (hq : ∀ r ∈ l,q r=some (p r)):slices_ContainsFunc_Region F l q=some (l.any p):=by
 unfold slices_ContainsFunc_Region
 refine bd_ok (slices_IndexFunc_Region_ok hF p hl hq) ?_
 unfold idxI
 cases l.any p with
 | true=>rw [if_pos rfl,decide_eq_true (by omega)]
 | false=>rw [if_neg (by simp)]; rfl
def bitB (e n:Int):Bool:=band .i64 (e.fdiv (2 ^ (min n.toNat (IntKind.bits .i64)))) 1==1
theorem band_one (x:Int):band .i64 x 1=0∨band .i64 x 1=1:=by
 unfold band
 have h:(BitVec.ofInt 64 x &&& BitVec.ofInt 64 1).toNat≤1:=by
  rw [BitVec.toNat_and]
  exact Nat.le_trans Nat.and_le_right (by decide)
 show IntKind.wrap .i64 ((BitVec.ofInt 64 x &&& BitVec.ofInt 64 1).toNat:Nat)=0∨IntKind.wrap .i64 ((BitVec.ofInt 64 x &&& BitVec.ofInt 64 1).toNat:Nat)=1
 have h2:(BitVec.ofInt 64 x &&& BitVec.ofInt 64 1).toNat=0∨(BitVec.ofInt 64 x &&& BitVec.ofInt 64 1).toNat=1:=by omega
 rcases h2 with h2 | h2 <;> rw [h2]
 ·left; rfl
 ·right; rfl
theorem bit_zero (e n:Int):(band .i64 (e.fdiv (2 ^ (min n.toNat (IntKind.bits .i64)))) 1==0) = !bitB e n:=by
 unfold bitB
 rcases band_one (e.fdiv (2 ^ (min n.toNat (IntKind.bits .i64)))) with h | h <;> rw [h] <;> rfl
def brOne (p:Int) (b:Bracket):Bool:=decide (p<b.up_)&&(decide (b.up_≤268435456)&&(decide (0≤b.rate_)&&decide (b.rate_≤1048576)))
def prevU (l:List Bracket) (i:Nat):Int:=if i=0 then 0 else (gl l (i-1)).up_
def brB (l:List Bracket):Bool:=decide (1≤l.length)&&(decide (l.length≤6) && !(List.range l.length).any fun i=> !brOne (prevU l i) (gl l i))
theorem scan_before {R:Type} {body:(Int→Option R)→Int→Option R} {c y:Option R} (N:Nat) (p:Nat→Bool)
  (bad : ∀ again (i:Nat),i<N→(∀ j,j<i→p j=false)→p i=true→body again (i:Int)=c) (good : ∀ again (i:Nat) z,i<N→(∀ j,j<i→p j=false)→p i=false→again ((i:Int)+1)=z→body again (i:Int)=z)
  (stop : ∀ again,body again (N:Int)=y) {F:Nat} (hF:N<F):loopN body F 0=if (List.range N).any p=true then c else y:=by
 refine loopN_ok (fun z:Int=>∃ i:Nat,z=i∧i≤N∧∀ j,j<i→p j=false) (fun z=>N-z.toNat) (fun again z hz ih=>?_) ⟨0,rfl,Nat.zero_le _,fun j h=>absurd h (Nat.not_lt_zero j)⟩ (by simp; omega)
 obtain ⟨i,rfl,hi,hp⟩:=hz
 rcases Nat.lt_or_ge i N with h | h
 ·cases hpi:p i with
  | true=>
   rw [if_pos (List.any_eq_true.2 ⟨i,List.mem_range.2 h,hpi⟩)]
   exact bad again i h hp hpi
  | false=>
   refine good again i _ h hp hpi (ih _ ⟨i+1,by omega,h,fun j hj=>?_⟩ (by omega))
   by_cases hji:j=i
   ·rw [hji]; exact hpi
   ·exact hp j (by omega)
 ·have:i=N:=by omega
  subst this
  rw [if_neg (by rw [Bool.not_eq_true,List.any_eq_false]; intro j hj; rw [hp j (List.mem_range.1 hj)]; simp)]
  exact stop again
theorem scheme_brackets_ok {F:Nat} {l:List Bracket} (hF:l.length<F) (hl:l.length≤1000000):scheme_brackets F l=some (brB l):=by
 unfold scheme_brackets
 refine (scan_before (c:=some false) (y:=some (decide (1≤l.length)&&decide (l.length≤6))) l.length (fun i=> !brOne (prevU l i) (gl l i)) (fun again i hi hb hp=>?_) (fun again i z hi hb hp hz=>?_) (fun again=>?_) hF).trans ?_
 all_goals try (
  have hpos:i=0∨(1≤i∧1≤(gl l (i-1)).up_):=by
   rcases Nat.eq_zero_or_pos i with h | h
   ·exact .inl h
   ·refine .inr ⟨h, ?_⟩
    have hq : ∀ j,j<i→1≤(gl l j).up_:=by
     intro j
     induction j with
     | zero=>
      intro h0
      have:=hb 0 h0
      rw [Bool.not_eq_false'] at this
      unfold brOne prevU at this
      rw [if_pos rfl] at this
      simp only [Bool.and_eq_true,decide_eq_true_eq] at this; omega
     | succ j ih=>
      intro hj
      have h1:=ih (by omega)
      have:=hb (j+1) hj
      rw [Bool.not_eq_false'] at this
      unfold brOne prevU at this
      rw [if_neg (by omega),Nat.add_sub_cancel] at this
      simp only [Bool.and_eq_true,decide_eq_true_eq] at this; omega
    exact hq (i-1) (by omega)
  have ep:(((i:Nat):Int)-1).toNat=i-1:=by omega)
 ·show scheme_brackets_b0 F l again (i:Int)=_
  unfold scheme_brackets_b0
  have k1:scheme_brackets_k1 F (i:Int) again true=some false:=rfl
  refine br_tt (decide_eq_true (by omega)) (gd_ok (by omega) (br_ok (fun _=>k1) (fun h1=>br_ok (fun _=>k1) (fun h2=>br_ok (fun _=>k1) (fun h3=>br_ok (fun _=>k1) (fun h4=>?_))))))
  have h1:=of_decide_eq_false h1
  have h2:=of_decide_eq_false h2
  have h3:=of_decide_eq_false h3
  have h4:=of_decide_eq_false h4
  simp only [Int.toNat_natCast] at h1 h2 h3 h4
  have hp' : brOne (prevU l i) (gl l i)=false:=by simpa using hp
  unfold brOne prevU at hp'
  rcases hpos with h | ⟨h,h5⟩
  ·subst h
   rw [if_pos rfl,decide_eq_true (by omega),decide_eq_true (by omega),decide_eq_true (by omega),decide_eq_true (by omega)] at hp'
   simp at hp'
  ·rw [if_neg (by omega)] at hp'
   refine br_tt (decide_eq_true (by omega)) (gd_ok (i64_of (by omega) (by omega)) (gd_ok (by omega) ?_))
   rw [ep,decide_eq_true (p:=(gl l ((i:Nat):Int).toNat).up_≤_)]
   ·exact k1
   ·simp only [Int.toNat_natCast]
    by_cases h6:(gl l (i-1)).up_<(gl l i).up_
    ·rw [decide_eq_true h6,decide_eq_true (by omega),decide_eq_true (by omega),decide_eq_true (by omega)] at hp'
     simp at hp'
    ·omega
 ·show scheme_brackets_b0 F l again (i:Int)=_
  unfold scheme_brackets_b0
  have hp' : brOne (prevU l i) (gl l i)=true:=by simpa using hp
  unfold brOne prevU at hp'
  simp only [Bool.and_eq_true,decide_eq_true_eq] at hp'
  obtain ⟨h1,h2,h3,h4⟩:=hp'
  have k1:scheme_brackets_k1 F (i:Int) again false=z:=br_ff rfl (gd_ok (i64_of (by omega) (by omega)) hz)
  have hu:1≤(gl l i).up_:=by
   rcases hpos with h | ⟨h,h5⟩
   ·rw [if_pos h] at h1; omega
   ·rw [if_neg (by omega)] at h1; omega
  refine br_tt (decide_eq_true (by omega)) (gd_ok (by omega) (br_ff (decide_eq_false (by simp only [Int.toNat_natCast]; omega)) (br_ff (decide_eq_false (by simp only [Int.toNat_natCast]; omega)) (br_ff (decide_eq_false (by simp only [Int.toNat_natCast]; omega)) (br_ff (decide_eq_false (by simp only [Int.toNat_natCast]; omega)) ?_)))))
  refine br_ok (fun h=>?_) (fun _=>k1)
  have h:=of_decide_eq_true h
  refine gd_ok (i64_of (by omega) (by omega)) (gd_ok (by omega) ?_)
  rw [ep,decide_eq_false]
  ·exact k1
  ·rw [if_neg (by omega)] at h1
   simp only [Int.toNat_natCast]; omega
 ·show scheme_brackets_b0 F l again (l.length:Int)=_
  unfold scheme_brackets_b0 scheme_brackets_k2 scheme_brackets_k3
  refine br_ff (decide_eq_false (by omega)) ?_
  rw [show decide ((1:Int)≤((l.length:Nat):Int))=decide (1≤l.length) from decide_eq_decide.2 (by omega),show decide (((l.length:Nat):Int)≤(6:Int))=decide (l.length≤6) from decide_eq_decide.2 (by omega)]
  cases decide (1≤l.length) <;> rfl
 ·unfold brB
  cases (List.range l.length).any fun i=> !brOne (prevU l i) (gl l i) <;> simp
theorem ref17_brackets_ok {F:Nat} {l:List Bracket} (hF:l.length<F) (hl:l.length≤1000000):ref17_brackets F l=some (brB l):=by
 unfold ref17_brackets brB
 have k0t:ref17_brackets_k0 F l true=some false:=rfl
 by_cases h1:1≤l.length
 ·refine br_ff (decide_eq_false (by omega)) ?_
  by_cases h2:l.length≤6
  ·rw [decide_eq_true h1,decide_eq_true h2,decide_eq_false (by omega)]
   unfold ref17_brackets_k0
   refine br_ff rfl ?_
   suffices hs : ∀ (n i:Nat),l.length-i<n→i≤l.length→loopN (fun again (z:Int×Int)=>ref17_brackets_b1 F l again z.1 z.2) n (prevU l i,(i:Int))=some (!((List.range l.length).drop i).any fun i=> !brOne (prevU l i) (gl l i)) by
    have:=hs F 0 (by omega) (by omega)
    simpa [prevU] using this
   intro n
   induction n with
   | zero=>intro i h; omega
   | succ n ih=>
    intro i hn hi
    have hnx:=ih (i+1)
    revert hnx
    show _→ref17_brackets_b1 F l (loopN (fun again (z:Int×Int)=>ref17_brackets_b1 F l again z.1 z.2) n) (prevU l i) (i:Int)=_
    generalize loopN (fun again (z:Int×Int)=>ref17_brackets_b1 F l again z.1 z.2) n=ag
    intro hnx
    unfold ref17_brackets_b1
    by_cases hil:i<l.length
    ·rw [show (List.range l.length).drop i=i::(List.range l.length).drop (i+1) by rw [List.drop_eq_getElem_cons (by simpa using hil),List.getElem_range]]
     rw [List.any_cons]
     refine br_tt (decide_eq_true (by omega)) (gd_ok (by omega) ?_)
     simp only [Int.toNat_natCast]
     have k2t:ref17_brackets_k2 F l (i:Int) ag true=some false:=rfl
     have k2f:ref17_brackets_k2 F l (i:Int) ag false=some (!((List.range l.length).drop (i+1)).any fun i=> !brOne (prevU l i) (gl l i)):=by
      unfold ref17_brackets_k2
      refine br_ff rfl (gd_ok (i64_of (by omega) (by omega)) ?_)
      rw [← hnx (by omega) (by omega)]; congr 1
     rw [show brOne (prevU l i) (gl l i)=(decide (prevU l i<(gl l i).up_)&&(decide ((gl l i).up_≤268435456)&&(decide (0≤(gl l i).rate_)&&decide ((gl l i).rate_≤1048576)))) from rfl]
     by_cases g1:prevU l i<(gl l i).up_
     ·rw [decide_eq_true g1]
      refine br_ff (decide_eq_false (by omega)) ?_
      by_cases g2:(gl l i).up_≤268435456
      ·rw [decide_eq_true g2]
       refine br_ff (decide_eq_false (by omega)) ?_
       by_cases g3:0≤(gl l i).rate_
       ·rw [decide_eq_true g3]
        refine br_ff (decide_eq_false (by omega)) ?_
        by_cases g4:(gl l i).rate_≤1048576
        ·rw [decide_eq_true g4,decide_eq_false (by omega),k2f]; simp
        ·rw [decide_eq_false g4,decide_eq_true (by omega),k2t]; simp
       ·rw [decide_eq_false g3]
        exact br_tt (decide_eq_true (by omega)) k2t
      ·rw [decide_eq_false g2]
       exact br_tt (decide_eq_true (by omega)) k2t
     ·rw [decide_eq_false g1]
      exact br_tt (decide_eq_true (by omega)) k2t
    ·have:i=l.length:=by omega
     subst this
     refine br_ff (decide_eq_false (by omega)) ?_
     rw [List.drop_eq_nil_of_le (by simp)]; rfl
  ·rw [decide_eq_false h2,decide_eq_true (by omega),Bool.false_and,Bool.and_false]; exact k0t
 ·rw [decide_eq_false h1]
  exact br_tt (decide_eq_true (by omega)) k0t
structure SD (d:Nat) (s:Scheme):Prop where
 cond:TD d s.cond_
 name:s.name_.size≤4294967296
 brl:s.brackets_.length≤1000000
def oneS (d:Nat) (s:Scheme):Int:=
 if s.number_<0∨15<s.number_∨s.least_<0∨268435456<s.least_ then 2 else if nameB s.name_=false then 5 else if termE d s.cond_≠0 then termE d s.cond_
 else if brB s.brackets_=false∨s.excludes_<0∨65536≤s.excludes_∨bitB s.excludes_ s.number_=true then 3 else 0
theorem scheme_Valid_ok {d F:Nat} (hd:d≤2000000) (hF:BIG+d≤F) {s:Scheme} (h:SD d s):scheme_Valid F s=some (oneS d s):=by
 have hB:BIG≤F:=by omega
 have hB' := hB
 unfold BIG at hB'
 unfold scheme_Valid oneS
 have k0t:scheme_Valid_k0 F s true=some 2:=rfl
 by_cases h1:s.number_<0
 ·rw [if_pos (.inl h1)]; exact br_tt (decide_eq_true h1) k0t
 refine br_ff (decide_eq_false h1) ?_
 by_cases h2:15<s.number_
 ·rw [if_pos (.inr (.inl h2))]; exact br_tt (decide_eq_true h2) k0t
 refine br_ff (decide_eq_false h2) ?_
 by_cases h3:s.least_<0
 ·rw [if_pos (.inr (.inr (.inl h3)))]; exact br_tt (decide_eq_true h3) k0t
 refine br_ff (decide_eq_false h3) ?_
 by_cases h4:268435456<s.least_
 ·rw [if_pos (.inr (.inr (.inr h4))),decide_eq_true h4]; exact k0t
 rw [if_neg (by omega),decide_eq_false h4]
 unfold scheme_Valid_k0
 refine br_ff rfl (bd_ok (words_Name_ok (by have:=h.name; omega) h.name) ?_)
 cases hn:nameB s.name_ with
 | false=>rfl
 | true=>
  rw [if_neg (by simp)]
  refine br_ff rfl (bd_ok (term_Check_ok hF h.cond) ?_)
  by_cases h5:termE d s.cond_=0
  ·rw [if_neg (by simpa using h5)]
   refine br_ff (by simp [h5]) (bd_ok (scheme_brackets_ok (by have:=h.brl; omega) h.brl) ?_)
   have k1t:scheme_Valid_k1 F true=some 3:=rfl
   cases hbr:brB s.brackets_ with
   | false=>rw [if_pos (.inl rfl)]; exact br_tt rfl k1t
   | true=>
    refine br_ff rfl ?_
    by_cases h6:s.excludes_<0
    ·rw [if_pos (.inr (.inl h6))]; exact br_tt (decide_eq_true h6) k1t
    refine br_ff (decide_eq_false h6) ?_
    by_cases h7:65536≤s.excludes_
    ·rw [if_pos (.inr (.inr (.inl h7)))]; exact br_tt (decide_eq_true h7) k1t
    refine br_ff (decide_eq_false h7) (gd_ok (by omega) ?_)
    show scheme_Valid_k1 F (bitB s.excludes_ s.number_)=_
    cases bitB s.excludes_ s.number_ with
    | true=>rw [if_pos (.inr (.inr (.inr rfl)))]; exact k1t
    | false=>rw [if_neg (by simp; omega)]; rfl
  ·rw [if_pos h5]
   exact br_tt (by simpa using h5) rfl
theorem ref17_One_ok {d F:Nat} (hd:d≤2000000) (hF:BIG+d≤F) {s:Scheme} (h:SD d s):ref17_One F s=some (oneS d s):=by
 have hB:BIG≤F:=by omega
 have hB' := hB
 unfold BIG at hB'
 unfold ref17_One oneS
 have k0t:ref17_One_k0 F s true=some 2:=rfl
 by_cases h1:s.number_<0
 ·rw [if_pos (.inl h1)]; exact br_tt (decide_eq_true h1) k0t
 refine br_ff (decide_eq_false h1) ?_
 by_cases h2:15<s.number_
 ·rw [if_pos (.inr (.inl h2))]; exact br_tt (decide_eq_true h2) k0t
 refine br_ff (decide_eq_false h2) ?_
 by_cases h3:s.least_<0
 ·rw [if_pos (.inr (.inr (.inl h3)))]; exact br_tt (decide_eq_true h3) k0t
 refine br_ff (decide_eq_false h3) ?_
 by_cases h4:268435456<s.least_
 ·rw [if_pos (.inr (.inr (.inr h4))),decide_eq_true h4]; exact k0t
 rw [if_neg (by omega),decide_eq_false h4]
 unfold ref17_One_k0
 refine br_ff rfl (bd_ok (ref02_Name_gen hB _) ?_)
 cases hn:nameB s.name_ with
 | false=>rfl
 | true=>
  rw [if_neg (by simp)]
  refine br_ff rfl (bd_ok (ref16_Check_ok hd hF h.cond) ?_)
  by_cases h5:termE d s.cond_=0
  ·rw [if_neg (by simpa using h5)]
   refine br_ff (by simp [h5]) (bd_ok (ref17_brackets_ok (by have:=h.brl; omega) h.brl) ?_)
   have k1t:ref17_One_k1 F true=some 3:=rfl
   cases hbr:brB s.brackets_ with
   | false=>rw [if_pos (.inl rfl)]; exact br_tt rfl k1t
   | true=>
    refine br_ff rfl ?_
    by_cases h6:s.excludes_<0
    ·rw [if_pos (.inr (.inl h6))]; exact br_tt (decide_eq_true h6) k1t
    refine br_ff (decide_eq_false h6) ?_
    by_cases h7:65536≤s.excludes_
    ·rw [if_pos (.inr (.inr (.inl h7)))]; exact br_tt (decide_eq_true h7) k1t
    refine br_ff (decide_eq_false h7) (gd_ok (by omega) ?_)
    show ref17_One_k1 F (bitB s.excludes_ s.number_)=_
    cases bitB s.excludes_ s.number_ with
    | true=>rw [if_pos (.inr (.inr (.inr rfl)))]; exact k1t
    | false=>rw [if_neg (by simp; omega)]; rfl
  ·rw [if_pos h5]
   exact br_tt (by simpa using h5) rfl
end
end Go.Ab
end

section
namespace Go.Ab
set_option maxRecDepth 20000
noncomputable section
theorem scan_find {R:Type} {body:(Int→Option R)→Int→Option R} {c:Nat→Option R} {y:Option R} (N:Nat) (p:Nat→Bool)
  (bad : ∀ again (i:Nat),i<N→(∀ j,j<i→p j=false)→p i=true→body again (i:Int)=c i) (good : ∀ again (i:Nat) z,i<N→(∀ j,j<i→p j=false)→p i=false→again ((i:Int)+1)=z→body again (i:Int)=z)
  (stop:(∀ j,j<N→p j=false)→∀ again,body again (N:Int)=y) {F:Nat} (hF:N<F):loopN body F 0=match (List.range N).find? p with | some i=>c i | none=>y:=by
 refine loopN_ok (fun z:Int=>∃ i:Nat,z=i∧i≤N∧∀ j,j<i→p j=false) (fun z=>N-z.toNat) (fun again z hz ih=>?_) ⟨0,rfl,Nat.zero_le _,fun j h=>absurd h (Nat.not_lt_zero j)⟩ (by simp; omega)
 obtain ⟨i,rfl,hi,hp⟩:=hz
 rcases Nat.lt_or_ge i N with h | h
 ·cases hpi:p i with
  | true=>
   rw [List.find?_range_eq_some.2 ⟨hpi,List.mem_range.2 h,fun j hj=>by simp [hp j hj]⟩]
   exact bad again i h hp hpi
  | false=>
   refine good again i _ h hp hpi (ih _ ⟨i+1,by omega,h,fun j hj=>?_⟩ (by omega))
   by_cases hji:j=i
   ·rw [hji]; exact hpi
   ·exact hp j (by omega)
 ·have:i=N:=by omega
  subst this
  rw [List.find?_eq_none.2 fun x hx=>by rw [hp x (List.mem_range.1 hx)]; simp]
  exact stop hp again
theorem idxI_lt {α:Type} [Emb α] (p:α→Bool) (l:List α):idxI p l<(l.length:Int) ∧ -1≤idxI p l∧(0≤idxI p l→p (gl l (idxI p l).toNat)=true∧l.any p=true):=by
 unfold idxI
 split
 ·rename_i h
  have h1:l.findIdx p<l.length:=List.findIdx_lt_length_of_exists (by simpa using h)
  refine ⟨by omega,by omega,fun _=>⟨?_,h⟩⟩
  rw [Int.toNat_natCast,gl_lt h1]; exact List.findIdx_getElem (w:=h1)
 ·exact ⟨by omega,by omega,fun h=>by omega⟩
def hasNo (n:Int) (x:Scheme):Bool:=x.number_==n
theorem scheme_Find_ok {F:Nat} (hF:BIG≤F) {l:List Scheme} (hl:l.length≤1000000) (n:Int):scheme_Find F l n=some (idxI (hasNo n) l):=by
 unfold scheme_Find
 exact bd_ok (slices_IndexFunc_Scheme_ok hF (hasNo n) (by omega) fun r _=>rfl) rfl
theorem ref17_Find_ok {F:Nat} (hF:BIG≤F) {l:List Scheme} (hl:l.length≤1000000) (n:Int):ref17_Find F l n=some (idxI (hasNo n) l):=by
 have hB:=hF
 unfold BIG at hB
 unfold ref17_Find
 refine (scan_find (c:=fun i=>some (i:Int)) (y:=some (-1)) l.length (fun i=>hasNo n (gl l i)) (fun again i hi _ hp=>?_) (fun again i z hi _ hp hz=>?_) (fun _ again=>?_) (by omega)).trans ?_
 ·show ref17_Find_b0 F l n again (i:Int)=_
  unfold ref17_Find_b0
  exact br_tt (decide_eq_true (by omega)) (gd_ok (by omega) (br_tt hp rfl))
 ·show ref17_Find_b0 F l n again (i:Int)=_
  unfold ref17_Find_b0
  exact br_tt (decide_eq_true (by omega)) (gd_ok (by omega) (br_ff hp (gd_ok (i64_of (by omega) (by omega)) hz)))
 ·show ref17_Find_b0 F l n again (l.length:Int)=_
  unfold ref17_Find_b0
  exact br_ff (decide_eq_false (by omega)) rfl
 ·unfold idxI
  cases hf:(List.range l.length).find? fun i=>hasNo n (gl l i) with
  | none=>
   have h:=List.find?_eq_none.1 hf
   rw [if_neg]
   rw [Bool.not_eq_true]
   exact any_of_before fun j hj=>by have:=h j (List.mem_range.2 hj); simpa using this
  | some i=>
   obtain ⟨h1,h2,h3⟩:=List.find?_range_eq_some.1 hf
   have h2:=List.mem_range.1 h2
   have ha:l.any (hasNo n)=true:=List.any_eq_true.2 ⟨_,gl_mem h2,h1⟩
   rw [if_pos ha,findIdx_go h2 (fun j hj=>by have:=h3 j hj; simpa using this) h1]
def twB (l:List Scheme) (i:Nat):Bool:=(decide (0<i)&&decide ((gl l i).number_≤(gl l (i-1)).number_))||(l.take i).any fun x=>sEq x.name_ (gl l i).name_
def mutN (l:List Scheme) (s:Scheme) (n:Nat):Bool:=bitB s.excludes_ n&&(decide (idxI (hasNo n) l<0) || !bitB (gl l (idxI (hasNo n) l).toNat).excludes_ s.number_)
def mutB (l:List Scheme) (s:Scheme):Bool:= !(List.range 16).any (mutN l s)
def chk2 (l:List Scheme):Int×Int:=match (List.range l.length).find? fun i=> !mutB l (gl l i) with
 | some i=>(i,17)
 | none=>(-1,0)
def badS (d:Nat) (l:List Scheme) (i:Nat):Bool:=decide (oneS d (gl l i)≠0)||twB l i
def chkS (d:Nat) (l:List Scheme):Int×Int:=if 16<l.length then (0,1) else match (List.range l.length).find? (badS d l) with
 | some i=>(i,if oneS d (gl l i)≠0 then oneS d (gl l i) else 6)
 | none=>chk2 l
theorem oneS_zero {d:Nat} {s:Scheme} (h:oneS d s=0):0≤s.number_∧s.number_≤15∧0≤s.least_∧s.least_≤268435456∧nameB s.name_=true∧termE d s.cond_=0∧brB s.brackets_=true∧0≤s.excludes_∧s.excludes_<65536∧bitB s.excludes_ s.number_=false:=by
 unfold oneS at h
 split at h
 ·omega
 split at h
 ·omega
 split at h
 ·rename_i h1; exact absurd h h1
 split at h
 ·omega
 rename_i h1 h2 h3 h4
 refine ⟨by omega,by omega,by omega,by omega,by simpa using h2,by simpa using h3, ?_,by omega,by omega, ?_⟩
 ·cases e:brB s.brackets_ with
  | true=>rfl
  | false=>exact absurd (.inl e) h4
 ·cases e:bitB s.excludes_ s.number_ with
  | false=>rfl
  | true=>exact absurd (.inr (.inr (.inr e))) h4
theorem scheme_mutual_ok {F:Nat} (hF:BIG≤F) {l:List Scheme} (hl:l.length≤1000000) {s:Scheme} (hs:0≤s.number_):scheme_mutual F l s=some (mutB l s):=by
 have hB:=hF
 unfold BIG at hB
 unfold scheme_mutual
 refine (scan_ok (c:=some false) (y:=some true) 16 (mutN l s) (fun again i hi hp=>?_) (fun again i z hi hp hz=>?_) (fun again=>?_) (by omega)).trans ?_
 ·show scheme_mutual_b0 F l s again (i:Int)=_
  unfold scheme_mutual_b0
  unfold mutN at hp
  rw [Bool.and_eq_true] at hp
  obtain ⟨h1,h2⟩:=idxI_lt (hasNo (i:Nat)) l
  refine br_tt (decide_eq_true (by omega)) (gd_ok (by omega) (br_ff (by rw [bit_zero,hp.1]; rfl) (bd_ok (scheme_Find_ok hF hl _) ?_)))
  refine br_ok (fun _=>rfl) (fun h3=>gd_ok (by have:=of_decide_eq_false h3; omega) (gd_ok hs ?_))
  rw [bit_zero]
  have:=hp.2
  rw [h3,Bool.false_or] at this
  rw [this]; rfl
 ·show scheme_mutual_b0 F l s again (i:Int)=_
  unfold scheme_mutual_b0
  unfold mutN at hp
  obtain ⟨h1,h2⟩:=idxI_lt (hasNo (i:Nat)) l
  have k2:scheme_mutual_k2 F (i:Int) again=z:=gd_ok (i64_of (by omega) (by omega)) hz
  refine br_tt (decide_eq_true (by omega)) (gd_ok (by omega) ?_)
  rw [bit_zero]
  cases hb:bitB s.excludes_ i with
  | false=>exact br_tt rfl k2
  | true=>
   rw [hb,Bool.true_and,Bool.or_eq_false_iff] at hp
   refine br_ff rfl (bd_ok (scheme_Find_ok hF hl _) (br_ff hp.1 (gd_ok (by have:=of_decide_eq_false hp.1; omega) (gd_ok hs ?_))))
   rw [bit_zero,hp.2]; unfold scheme_mutual_k1; exact br_ff rfl k2
 ·show scheme_mutual_b0 F l s again (16:Int)=_
  unfold scheme_mutual_b0
  exact br_ff (by decide) rfl
 ·unfold mutB
  cases (List.range 16).any (mutN l s) <;> rfl
theorem scheme_Check_ok {d F:Nat} (hd:d≤2000000) (hF:BIG+d≤F) {l:List Scheme} (hl : ∀ s ∈ l,SD d s):scheme_Check F l=some (chkS d l):=by
 have hB:BIG≤F:=by omega
 have hB' := hB
 unfold BIG at hB'
 unfold scheme_Check chkS
 by_cases h16:16<l.length
 ·rw [if_pos h16]; exact br_tt (decide_eq_true (by omega)) rfl
 rw [if_neg h16]
 refine br_ff (decide_eq_false (by omega)) ?_
 refine (scan_find (c:=fun i=>some ((i:Int),if oneS d (gl l i)≠0 then oneS d (gl l i) else 6)) (y:=some (chk2 l)) l.length (badS d l) (fun again i hi _ hp=>?_) (fun again i z hi _ hp hz=>?_) (fun hp again=>?_) (by omega)).trans ?_
 ·show scheme_Check_b0 F l again (i:Int)=_
  unfold scheme_Check_b0
  refine br_tt (decide_eq_true (by omega)) (gd_ok (by omega) (bd_ok (scheme_Valid_ok hd hF (hl _ (gl_mem hi))) ?_))
  by_cases h0:oneS d (gl l i)=0
  ·rw [if_neg (by simpa using h0)]
   refine br_ff (by simp [h0]) ?_
   unfold badS twB at hp
   have k1:scheme_Check_k1 F (i:Int) again true=some ((i:Int),6):=rfl
   rw [decide_eq_false (by simpa using h0),Bool.false_or,Bool.or_eq_true] at hp
   have hc:slices_ContainsFunc_Scheme F (l.take ((i:Nat):Int).toNat) (fun y0=>scheme_Check_1 F y0 (gl l ((i:Nat):Int).toNat))=some ((l.take i).any fun x=>sEq x.name_ (gl l i).name_):=slices_ContainsFunc_Scheme_ok hB _ (by simp; omega) fun r _=>rfl
   refine br_ok (fun h1=>?_) (fun h1=>?_)
   ·have h1:=of_decide_eq_true h1
    rw [show ((i:Int)-1).toNat=i-1 by omega]
    refine gd_ok (i64_of (by omega) (by omega)) (gd_ok (by omega) (br_ok (fun _=>k1) (fun h2=>gd_ok (by omega) (bd_ok hc ?_))))
    rcases hp with hp | hp
    ·rw [Bool.and_eq_true] at hp; rw [show decide ((gl l i).number_≤(gl l (i-1)).number_)=false from h2] at hp; simp at hp
    ·rw [hp]; exact k1
   ·refine gd_ok (by omega) (bd_ok hc ?_)
    rcases hp with hp | hp
    ·rw [Bool.and_eq_true] at hp; have:=of_decide_eq_false h1; have:=of_decide_eq_true hp.1; omega
    ·rw [hp]; exact k1
  ·rw [if_pos h0]; exact br_tt (by simpa using h0) rfl
 ·show scheme_Check_b0 F l again (i:Int)=_
  unfold scheme_Check_b0
  unfold badS twB at hp
  rw [Bool.or_eq_false_iff,Bool.or_eq_false_iff] at hp
  obtain ⟨h0,h1,h2⟩:=hp
  have h0:oneS d (gl l i)=0:=by simpa using h0
  have k1:scheme_Check_k1 F (i:Int) again false=z:=br_ff rfl (gd_ok (i64_of (by omega) (by omega)) hz)
  have hc:slices_ContainsFunc_Scheme F (l.take ((i:Nat):Int).toNat) (fun y0=>scheme_Check_1 F y0 (gl l ((i:Nat):Int).toNat))=some false:=(slices_ContainsFunc_Scheme_ok hB (fun x=>sEq x.name_ (gl l i).name_) (by simp; omega) fun r _=>rfl).trans (congrArg some h2)
  refine br_tt (decide_eq_true (by omega)) (gd_ok (by omega) (bd_ok (scheme_Valid_ok hd hF (hl _ (gl_mem hi))) (br_ff (by simp [h0]) ?_)))
  refine br_ok (fun h3=>?_) (fun h3=>gd_ok (by omega) (bd_ok hc k1))
  have h3:=of_decide_eq_true h3
  rw [show ((i:Int)-1).toNat=i-1 by omega]
  refine gd_ok (i64_of (by omega) (by omega)) (gd_ok (by omega) (br_ff ?_ (gd_ok (by omega) (bd_ok hc k1))))
  rw [decide_eq_true (by omega:0<i),Bool.true_and] at h1
  exact h1
 ·show scheme_Check_b0 F l again (l.length:Int)=_
  unfold scheme_Check_b0 scheme_Check_k2 chk2
  refine br_ff (decide_eq_false (by omega)) ?_
  have hz : ∀ j,j<l.length→0≤(gl l j).number_:=fun j hj=>by
   have:=hp j hj
   unfold badS at this
   rw [Bool.or_eq_false_iff] at this
   exact (oneS_zero (by simpa using this.1)).1
  refine (scan_find (c:=fun i=>some ((i:Int),17)) (y:=some (-1,0)) l.length (fun i=> !mutB l (gl l i)) (fun again i hi _ hp=>?_) (fun again i z hi _ hp hz' => ?_) (fun hp again=>?_) (by omega)).trans ?_
  ·show scheme_Check_b3 F l again (i:Int)=_
   unfold scheme_Check_b3
   exact br_tt (decide_eq_true (by omega)) (gd_ok (by omega) (bd_ok (scheme_mutual_ok hB (by omega) (hz i hi)) (br_tt hp rfl)))
  ·show scheme_Check_b3 F l again (i:Int)=_
   unfold scheme_Check_b3
   exact br_tt (decide_eq_true (by omega)) (gd_ok (by omega) (bd_ok (scheme_mutual_ok hB (by omega) (hz i hi)) (br_ff hp (gd_ok (i64_of (by omega) (by omega)) hz'))))
  ·show scheme_Check_b3 F l again (l.length:Int)=_
   unfold scheme_Check_b3
   exact br_ff (decide_eq_false (by omega)) rfl
  ·cases (List.range l.length).find? fun i=> !mutB l (gl l i) <;> rfl
 ·cases (List.range l.length).find? (badS d l) <;> rfl
theorem ref17_Check_ok {d F:Nat} (hd:d≤2000000) (hF:BIG+d≤F) {l:List Scheme} (hl : ∀ s ∈ l,SD d s):ref17_Check F l=some (chkS d l):=by
 have hB:BIG≤F:=by omega
 have hB' := hB
 unfold BIG at hB'
 unfold ref17_Check chkS
 by_cases h16:16<l.length
 ·rw [if_pos h16]; exact br_tt (decide_eq_true (by omega)) rfl
 rw [if_neg h16]
 refine br_ff (decide_eq_false (by omega)) ?_
 have sy : ∀ a b:ByteArray,sEq a b=sEq a b:=fun _ _=>rfl
 have inner : ∀ (again:Int→Option (Int×Int)) (i:Nat),i<l.length→∀ {y:Option (Int×Int)},(twB l i=false→again ((i:Int)+1)=y)→loopN (fun ag (z:Int)=>ref17_Check_b1 F l (i:Int) again ag z) F (0:Int)=if twB l i=true then some ((i:Int),6) else y:=by
  intro again i hi y hy
  have e:twB l i=(List.range i).any fun k=>sEq (gl l k).name_ (gl l i).name_||(decide (k=i-1)&&decide ((gl l i).number_≤(gl l k).number_)):=by
   unfold twB
   rw [Bool.eq_iff_iff,Bool.or_eq_true,Bool.and_eq_true,List.any_eq_true,List.any_eq_true]
   constructor
   ·rintro (⟨h1,h2⟩|⟨x,hx,h⟩)
    ·refine ⟨i-1,List.mem_range.2 (by have:=of_decide_eq_true h1; omega), ?_⟩
     rw [h2]; simp
    ·obtain ⟨k,hk,rfl⟩:=List.getElem_of_mem hx
     rw [List.length_take] at hk
     refine ⟨k,List.mem_range.2 (by omega), ?_⟩
     rw [List.getElem_take, ← gl_lt (by omega)] at h
     rw [h]; rfl
   ·rintro ⟨k,hk,h⟩
    have hk:=List.mem_range.1 hk
    rw [Bool.or_eq_true,Bool.and_eq_true] at h
    rcases h with h | ⟨h1,h2⟩
    ·exact .inr ⟨gl l k,List.mem_take_iff_getElem.2 ⟨k,by omega,(gl_lt (by omega)).symm⟩,h⟩
    ·have h1:=of_decide_eq_true h1
     subst h1
     exact .inl ⟨decide_eq_true (by omega),h2⟩
  have htk : ∀ k,k<i→gl (l.take i) k=gl l k:=fun k hk=>by rw [gl_lt (by simp; omega),gl_lt (by omega),List.getElem_take]
  have hti:((i:Nat):Int).toNat=i:=Int.toNat_natCast i
  have htl:(l.take ((i:Nat):Int).toNat).length=i:=by simp; omega
  refine (scan_find (c:=fun _=>some ((i:Int),(6:Int))) (y:=y) i (fun k=>sEq (gl l k).name_ (gl l i).name_||(decide (k=i-1)&&decide ((gl l i).number_≤(gl l k).number_))) (fun ag k hk _ hp=>?_) (fun ag k z hk _ hp hz=>?_) (fun hp ag=>?_) (by omega)).trans ?_
  ·show ref17_Check_b1 F l (i:Int) again ag (k:Int)=_
   unfold ref17_Check_b1
   have k2:ref17_Check_k2 F (i:Int) (k:Int) ag true=some ((i:Int),6):=rfl
   refine br_tt (decide_eq_true (by rw [htl]; omega)) (gd_ok (by rw [htl]; omega) ?_)
   simp only [Int.toNat_natCast,htk k hk]
   refine br_ok (fun _=>k2) (fun h1=>gd_ok (i64_of (by omega) (by omega)) ?_)
   rw [h1,Bool.false_or,Bool.and_eq_true] at hp
   refine br_tt (by have:=of_decide_eq_true hp.1; simp; omega) ?_
   rw [hp.2]; exact k2
  ·show ref17_Check_b1 F l (i:Int) again ag (k:Int)=_
   unfold ref17_Check_b1
   have k2:ref17_Check_k2 F (i:Int) (k:Int) ag false=z:=br_ff rfl (gd_ok (i64_of (by omega) (by omega)) hz)
   refine br_tt (decide_eq_true (by rw [htl]; omega)) (gd_ok (by rw [htl]; omega) ?_)
   simp only [Int.toNat_natCast,htk k hk]
   rw [Bool.or_eq_false_iff] at hp
   refine br_ff hp.1 (gd_ok (i64_of (by omega) (by omega)) (br_ok (fun h1=>?_) (fun _=>k2)))
   have h1:k=i-1:=by simp at h1; omega
   have:=hp.2
   rw [decide_eq_true h1,Bool.true_and] at this
   rw [this]; exact k2
  ·show ref17_Check_b1 F l (i:Int) again ag (i:Int)=_
   unfold ref17_Check_b1
   refine br_ff (decide_eq_false (by rw [htl]; omega)) ?_
   have ht:twB l i=false:=by rw [e,List.any_eq_false]; intro k hk; rw [hp k (List.mem_range.1 hk)]; simp
   exact gd_ok (i64_of (by omega) (by omega)) (hy ht)
  ·cases hf:(List.range i).find? fun k=>sEq (gl l k).name_ (gl l i).name_||(decide (k=i-1)&&decide ((gl l i).number_≤(gl l k).number_)) with
   | some k=>
    have ht:twB l i=true:=by rw [e,List.any_eq_true]; have h:=List.find?_range_eq_some.1 hf; exact ⟨k,h.2.1,h.1⟩
    rw [if_pos ht]
   | none=>
    have ht:twB l i=false:=by rw [e,List.any_eq_false]; intro k hk; exact List.find?_eq_none.1 hf k hk
    rw [if_neg (by simp [ht])]
 refine (scan_find (c:=fun i=>some ((i:Int),if oneS d (gl l i)≠0 then oneS d (gl l i) else 6)) (y:=some (chk2 l)) l.length (badS d l) (fun again i hi _ hp=>?_) (fun again i z hi _ hp hz=>?_) (fun hp again=>?_) (by omega)).trans ?_
 ·show ref17_Check_b0 F l again (i:Int)=_
  unfold ref17_Check_b0
  refine br_tt (decide_eq_true (by omega)) (gd_ok (by omega) (bd_ok (ref17_One_ok hd hF (hl _ (gl_mem hi))) ?_))
  by_cases h0:oneS d (gl l i)=0
  ·rw [if_neg (by simpa using h0)]
   unfold badS at hp
   rw [decide_eq_false (by simpa using h0),Bool.false_or] at hp
   refine br_ff (by simp [h0]) (gd_ok (by omega) ((inner again i hi (y:=none) fun h=>by rw [hp] at h; cases h).trans ?_))
   rw [if_pos hp]
  ·rw [if_pos h0]; exact br_tt (by simpa using h0) rfl
 ·show ref17_Check_b0 F l again (i:Int)=_
  unfold ref17_Check_b0
  unfold badS at hp
  rw [Bool.or_eq_false_iff] at hp
  have h0:oneS d (gl l i)=0:=by simpa using hp.1
  refine br_tt (decide_eq_true (by omega)) (gd_ok (by omega) (bd_ok (ref17_One_ok hd hF (hl _ (gl_mem hi))) (br_ff (by simp [h0]) (gd_ok (by omega) ((inner again i hi fun _=>hz).trans ?_)))))
  rw [if_neg (by simp [hp.2])]
 ·show ref17_Check_b0 F l again (l.length:Int)=_
  unfold ref17_Check_b0 ref17_Check_k4 chk2
  refine br_ff (decide_eq_false (by omega)) ?_
  have hz : ∀ j,j<l.length→0≤(gl l j).number_:=fun j hj=>by
   have:=hp j hj
   unfold badS at this
   rw [Bool.or_eq_false_iff] at this
   exact (oneS_zero (by simpa using this.1)).1
  have hmt : ∀ (again:Int→Option (Int×Int)) (i:Nat),i<l.length→∀ {y:Option (Int×Int)},again ((i:Int)+1)=y→loopN (fun ag (z:Int)=>ref17_Check_b6 F l (i:Int) again ag z) F (0:Int)=if (List.range 16).any (mutN l (gl l i))=true then some ((i:Int),17) else y:=by
   intro again i hi y hy
   refine scan_ok (c:=some ((i:Int),17)) (y:=y) 16 (mutN l (gl l i)) (fun ag n hn hp=>?_) (fun ag n z hn hp hz' => ?_) (fun ag=>?_) (by omega)
   ·show ref17_Check_b6 F l (i:Int) again ag (n:Int)=_
    unfold ref17_Check_b6
    unfold mutN at hp
    rw [Bool.and_eq_true] at hp
    obtain ⟨h1,h2⟩:=idxI_lt (hasNo (n:Nat)) l
    simp only [Int.toNat_natCast (n:=i)]
    refine br_tt (decide_eq_true (by omega)) (gd_ok (by omega) (br_ff (by rw [bit_zero,hp.1]; rfl) (bd_ok (ref17_Find_ok hB (by omega) _) ?_)))
    refine br_ok (fun _=>rfl) (fun h3=>gd_ok (by have:=of_decide_eq_false h3; omega) (gd_ok (hz i hi) ?_))
    rw [bit_zero]
    have:=hp.2
    rw [h3,Bool.false_or] at this
    rw [this]; rfl
   ·show ref17_Check_b6 F l (i:Int) again ag (n:Int)=_
    unfold ref17_Check_b6
    unfold mutN at hp
    obtain ⟨h1,h2⟩:=idxI_lt (hasNo (n:Nat)) l
    simp only [Int.toNat_natCast (n:=i)]
    have k8:ref17_Check_k8 F (n:Int) ag=z:=gd_ok (i64_of (by omega) (by omega)) hz'
    refine br_tt (decide_eq_true (by omega)) (gd_ok (by omega) ?_)
    rw [bit_zero]
    cases hb:bitB (gl l i).excludes_ n with
    | false=>exact br_tt rfl k8
    | true=>
     rw [hb,Bool.true_and,Bool.or_eq_false_iff] at hp
     refine br_ff rfl (bd_ok (ref17_Find_ok hB (by omega) _) (br_ff hp.1 (gd_ok (by have:=of_decide_eq_false hp.1; omega) (gd_ok (hz i hi) ?_))))
     rw [bit_zero,hp.2]; unfold ref17_Check_k7; exact br_ff rfl k8
   ·show ref17_Check_b6 F l (i:Int) again ag (16:Int)=_
    unfold ref17_Check_b6
    exact br_ff (by decide) (gd_ok (i64_of (by omega) (by omega)) hy)
  refine (scan_find (c:=fun i=>some ((i:Int),17)) (y:=some (-1,0)) l.length (fun i=> !mutB l (gl l i)) (fun again i hi _ hp=>?_) (fun again i z hi _ hp hz' => ?_) (fun hp again=>?_) (by omega)).trans ?_
  ·show ref17_Check_b5 F l again (i:Int)=_
   unfold ref17_Check_b5
   unfold mutB at hp
   rw [Bool.not_not] at hp
   refine br_tt (decide_eq_true (by omega)) (gd_ok (by omega) ((hmt again i hi rfl).trans ?_))
   rw [if_pos hp]
  ·show ref17_Check_b5 F l again (i:Int)=_
   unfold ref17_Check_b5
   unfold mutB at hp
   rw [Bool.not_not] at hp
   refine br_tt (decide_eq_true (by omega)) (gd_ok (by omega) ((hmt again i hi hz').trans ?_))
   rw [if_neg (by simp [hp])]
  ·show ref17_Check_b5 F l again (l.length:Int)=_
   unfold ref17_Check_b5
   exact br_ff (decide_eq_false (by omega)) rfl
  ·cases (List.range l.length).find? fun i=> !mutB l (gl l i) <;> rfl
 ·cases (List.range l.length).find? (badS d l) <;> rfl
end
end Go.Ab
end

section
namespace Go.Ab
set_option maxRecDepth 20000
noncomputable section
theorem half15 {l:List Rect} (hc:Canon l) {n:Nat} (hb:Box n l) (hn:n≤15):l.length≤120:=by
 have h1:=hc.half hb
 have h2:n*((n+1) / 2)≤15*8:=Nat.mul_le_mul hn (by omega)
 omega
theorem grid_prop {l:List Rect} (hc:Canon l) {a:List Rect} (ha : ∀ r ∈ a,propB r=true) (hs : ∀ x y,inR l x y=true→inR a x y=true) : ∀ r ∈ l,propB r=true:=by
 have hb:Box (16384:Int) l:=hc.box fun x y h=>by
  obtain ⟨r,hr,h2⟩:=(inR_iff _ _ _).1 (hs x y h)
  have:=(propB_iff r).1 (ha r hr)
  rw [has_iff] at h2
  omega
 exact hb.prop (by omega)
end
end Go.Ab
end

section
namespace Go.Ab
set_option maxRecDepth 20000
noncomputable section
def chkE (d:Nat) (l:List Scheme) (due:List Region):Int:=if (chkS d l).2≠0 then (chkS d l).2 else if l.length≠due.length then 3 else if due.any (fun a=> !valB a.rects_)=true then 7 else 0
theorem exclusion_check_ok {d F:Nat} (hd:d≤2000000) (hF:BIG+d≤F) {l:List Scheme} (hl : ∀ s ∈ l,SD d s) {due:List Region} (hdue:due.length≤1000000):exclusion_check F l due=some (chkE d l due):=by
 have hB:BIG≤F:=by omega
 unfold exclusion_check chkE
 refine bd_ok (scheme_Check_ok hd hF hl) ?_
 by_cases h1:(chkS d l).2=0
 ·rw [if_neg (by simpa using h1)]
  refine br_ff (by simp [h1]) ?_
  by_cases h2:l.length=due.length
  ·rw [if_neg (by simpa using h2)]
   refine br_ff (by simp [h2]) (bd_ok (slices_ContainsFunc_Region_ok hB (fun a=> !valB a.rects_) (by omega) fun r _=>?_) ?_)
   ·exact bd_ok (region_Valid_ok hB r) rfl
   ·cases due.any (fun a=> !valB a.rects_) <;> rfl
  ·rw [if_pos h2]
   exact br_tt (by simp; omega) rfl
 ·rw [if_pos h1]
  exact br_tt (by simpa using h1) rfl
theorem ref31_check_ok {d F:Nat} (hd:d≤2000000) (hF:BIG+d≤F) {l:List Scheme} (hl : ∀ s ∈ l,SD d s) {due:List Region} (hdue:due.length≤1000000):ref31_check F l due=some (chkE d l due):=by
 have hB:BIG≤F:=by omega
 have hB' := hB
 unfold BIG at hB'
 unfold ref31_check chkE
 refine bd_ok (ref17_Check_ok hd hF hl) ?_
 by_cases h1:(chkS d l).2=0
 ·rw [if_neg (by simpa using h1)]
  refine br_ff (by simp [h1]) ?_
  by_cases h2:l.length=due.length
  ·rw [if_neg (by simpa using h2)]
   refine br_ff (by simp [h2]) ?_
   refine range_ok (fun m:List Region=>some (if m.any (fun a=> !valB a.rects_)=true then (7:Int) else 0)) (fun again i hi hag=>?_) (fun again=>?_) (by omega)
   ·show ref31_check_b0 F due again (i:Int)=_
    unfold ref31_check_b0
    refine br_tt (decide_eq_true (by omega)) (gd_ok (by omega) (bd_ok (ref04_Valid_ok hB _) ?_))
    rw [List.any_cons]
    simp only [Int.toNat_natCast]
    cases valB (gl due i).rects_ with
    | false=>rfl
    | true=>exact br_ff rfl (gd_ok (i64_of (by omega) (by omega)) hag)
   ·show ref31_check_b0 F due again (due.length:Int)=_
    unfold ref31_check_b0
    exact br_ff (decide_eq_false (by omega)) rfl
  ·rw [if_pos h2]
   exact br_tt (by simp; omega) rfl
 ·rw [if_pos h1]
  exact br_tt (by simpa using h1) rfl
structure GoodL (d:Nat) (l:List Scheme):Prop where
 len:l.length≤16
 one : ∀ i,i<l.length→oneS d (gl l i)=0
 asc : ∀ i,0<i→i<l.length→(gl l (i-1)).number_<(gl l i).number_
 nam : ∀ i,i<l.length→((l.take i).any fun x=>sEq x.name_ (gl l i).name_)=false
 mtl : ∀ i,i<l.length→mutB l (gl l i)=true
theorem chkS_snd {d:Nat} {l:List Scheme} (h:GoodL d l):chkS d l=(-1,0):=by
 obtain ⟨h1,h2,h3,h4,h5⟩:=h
 unfold chkS
 rw [if_neg (by omega)]
 rw [List.find?_eq_none.2 fun i hi=>by
  have hi:=List.mem_range.1 hi
  unfold badS twB
  rw [h2 i hi,h4 i hi]
  by_cases h0:0<i
  ·have:=h3 i h0 hi
   rw [decide_eq_false (p:=(gl l i).number_≤(gl l (i-1)).number_) (by omega)]; simp
  ·rw [decide_eq_false h0]; simp]
 show chk2 l=_
 unfold chk2
 rw [List.find?_eq_none.2 fun i hi=>by rw [h5 i (List.mem_range.1 hi)]; simp]
theorem chkS_zero {d:Nat} {l:List Scheme}:(chkS d l).2=0↔GoodL d l:=by
 unfold chkS
 constructor
 ·intro h
  by_cases h16:16<l.length
  ·rw [if_pos h16] at h; cases h
  rw [if_neg h16] at h
  cases hf:(List.range l.length).find? (badS d l) with
  | some i=>
   rw [hf] at h
   exfalso
   revert h
   show ¬ (if oneS d (gl l i)≠0 then oneS d (gl l i) else 6)=0
   split
   ·assumption
   ·omega
  | none=>
   rw [hf] at h
   have hb : ∀ i,i<l.length→badS d l i=false:=fun i hi=>by have:=List.find?_eq_none.1 hf i (List.mem_range.2 hi); simpa using this
   have h:(chk2 l).2=0:=h
   unfold chk2 at h
   cases hg:(List.range l.length).find? fun i=> !mutB l (gl l i) with
   | some i=>rw [hg] at h; exact absurd h (by show ¬ (17:Int)=0; omega)
   | none=>
    have hm : ∀ i,i<l.length→mutB l (gl l i)=true:=fun i hi=>by have:=List.find?_eq_none.1 hg i (List.mem_range.2 hi); simpa using this
    refine ⟨by omega,fun i hi=>?_,fun i h0 hi=>?_,fun i hi=>?_,hm⟩
    ·have:=hb i hi
     unfold badS at this
     rw [Bool.or_eq_false_iff] at this
     simpa using this.1
    ·have:=hb i hi
     unfold badS twB at this
     rw [Bool.or_eq_false_iff,Bool.or_eq_false_iff] at this
     have:=this.2.1
     rw [decide_eq_true h0,Bool.true_and,decide_eq_false_iff_not] at this
     omega
    ·have:=hb i hi
     unfold badS twB at this
     rw [Bool.or_eq_false_iff,Bool.or_eq_false_iff] at this
     exact this.2.2
 ·intro h
  have:=chkS_snd h
  unfold chkS at this
  rw [this]
theorem GoodL.num {d:Nat} {l:List Scheme} (h:GoodL d l) {i k:Nat} (hik:i<k) (hk:k<l.length):(gl l i).number_<(gl l k).number_:=by
 induction k with
 | zero=>omega
 | succ k ih=>
  have h1:=h.asc (k+1) (by omega) hk
  rw [Nat.add_sub_cancel] at h1
  by_cases e:i=k
  ·subst e; exact h1
  ·have:=ih (by omega) (by omega); omega
theorem GoodL.inj {d:Nat} {l:List Scheme} (h:GoodL d l) {i k:Nat} (hi:i<l.length) (hk:k<l.length) (e:(gl l i).number_=(gl l k).number_):i=k:=by
 rcases Nat.lt_trichotomy i k with h1 | h1 | h1
 ·have:=h.num h1 hk; omega
 ·exact h1
 ·have:=h.num h1 hi; omega
def exB (l:List Scheme) (i k:Nat):Bool:=bitB (gl l i).excludes_ (gl l k).number_
theorem GoodL.sym {d:Nat} {l:List Scheme} (h:GoodL d l) {i k:Nat} (hi:i<l.length) (hk:k<l.length):exB l i k=exB l k i:=by
 have one : ∀ i k,i<l.length→k<l.length→exB l i k=true→exB l k i=true:=by
  intro i k hi hk he
  have hm:=h.mtl i hi
  have hz:=oneS_zero (h.one k hk)
  unfold mutB at hm
  rw [Bool.not_eq_true',List.any_eq_false] at hm
  have:=hm (gl l k).number_.toNat (List.mem_range.2 (by omega))
  unfold mutN at this
  rw [Int.toNat_of_nonneg hz.1] at this
  unfold exB at he
  rw [he,Bool.true_and,Bool.or_eq_true,not_or] at this
  obtain ⟨h1,h2⟩:=this
  obtain ⟨g1,g2,g3⟩:=idxI_lt (hasNo (gl l k).number_) l
  have h1:0≤idxI (hasNo (gl l k).number_) l:=by
   simp only [decide_eq_true_eq] at h1; omega
  have g4:((gl l (idxI (hasNo (gl l k).number_) l).toNat).number_==(gl l k).number_)=true:=(g3 h1).1
  have g5:(idxI (hasNo (gl l k).number_) l).toNat=k:=h.inj (by omega) hk (by simpa using g4)
  rw [g5] at h2
  unfold exB
  simpa using h2
 cases h1:exB l i k with
 | true=>exact (one i k hi hk h1).symm
 | false=>
  cases h2:exB l k i with
  | true=>rw [one k i hk hi h2] at h1; cases h1
  | false=>rfl
end
end Go.Ab
end

section
namespace Go.Ab
set_option maxRecDepth 20000
noncomputable section
theorem region_Without_ok {F:Nat} (hF:BIG≤F) {a b:Region} (ha:Val a.rects_) (hb:Val b.rects_):region_Without F a b=some (lim (cn fun x y=>keepB (inR a.rects_ x y) (inR b.rects_ x y) 3)):=by
 have v1:=ha.1
 have v2:=hb.1
 unfold region_Without region_combine
 have hc:region_Choose F a.rects_ b.rects_ (fun y0 y1=>region_Without_1 F y0 y1)=some (cn fun x y=>keepB (inR a.rects_ x y) (inR b.rects_ x y) 3):=by
  refine region_Choose_ok hF (by omega) (fun r hr=>((propB_iff r).1 (ha.2.1 r hr)).2.1) (fun r hr=>((propB_iff r).1 (hb.2.1 r hr)).2.1) (k:=fun u v=>keepB u v 3) rfl fun u v=>?_
  cases u <;> cases v <;> rfl
 refine bd_ok (a:=lim (cn fun x y=>keepB (inR a.rects_ x y) (inR b.rects_ x y) 3)) (bd_ok (region_Valid_ok hF a) ?_) rfl
 rw [valB_true ha]
 refine br_ff rfl (bd_ok (region_Valid_ok hF b) ?_)
 rw [valB_true hb]
 unfold region_combine_k0
 refine br_ff rfl (bd_ok hc (bd_ok (region_Limited_ok F _) ?_))
 unfold lim
 split <;> rfl
theorem region_Area_ok {F:Nat} (hF:BIG≤F) {a:Region} (hv:Val a.rects_):region_Area F a=some (area a.rects_):=by
 unfold region_Area
 refine bd_ok (region_Valid_ok hF a) ?_
 rw [valB_true hv]
 exact br_ff rfl (bd_ok (region_Size_ok hF (by have:=hv.1; omega) hv.2.1) rfl)
def wd (a b:List Rect):List Rect:=cn fun x y=>keepB (inR a x y) (inR b x y) 3
theorem fin_wd (a b:List Rect):Fin fun x y=>keepB (inR a x y) (inR b x y) 3:=fin_comb a b 3
theorem inR_wd (a b:List Rect) (x y:Int):inR (wd a b) x y=(inR a x y && !inR b x y):=by
 unfold wd; rw [inR_cn (fin_wd a b)]; rfl
theorem wd_val {a b:List Rect} (ha:Val a) (hl : ¬ 120<(wd a b).length):Val (wd a b):=
 ⟨by omega,grid_prop (Canon.cn (fin_wd a b)) ha.2.1 fun x y h=>by rw [inR_wd,Bool.and_eq_true] at h; exact h.1,Canon.cn (fin_wd a b)⟩
theorem lim_wd (a b:List Rect):lim (cn fun x y=>keepB (inR a x y) (inR b x y) 3)=if 120<(wd a b).length then (⟨[]⟩,1) else (⟨wd a b⟩,0):=rfl
def asgIn (e:Nat→Bool):List Region→Nat→List Rect→List Rect×Int
 | [],_,left=>(left,0)
 | o::os,k,left=>if e k=true then (if 120<(wd left o.rects_).length then ([],1) else asgIn e os (k+1) (wd left o.rects_)) else asgIn e os (k+1) left
theorem asgIn_f {e:Nat→Bool} {o:Region} {os:List Region} {k:Nat} {left:List Rect} (h:e k=false):asgIn e (o::os) k left=asgIn e os (k+1) left:=by
 rw [asgIn,if_neg (by simp [h])]
theorem asgIn_e {e:Nat→Bool} {o:Region} {os:List Region} {k:Nat} {left:List Rect} (h:e k=true) (h1:120<(wd left o.rects_).length):asgIn e (o::os) k left=([],1):=by
 rw [asgIn,if_pos h,if_pos h1]
theorem asgIn_t {e:Nat→Bool} {o:Region} {os:List Region} {k:Nat} {left:List Rect} (h:e k=true) (h1 : ¬ 120<(wd left o.rects_).length):asgIn e (o::os) k left=asgIn e os (k+1) (wd left o.rects_):=by
 rw [asgIn,if_pos h,if_neg h1]
def asgR (l:List Scheme) (due:List Region):Nat→List Region→List Region×Int
 | 0,outs=>(outs,0)
 | n+1,outs=>if (asgIn (exB l outs.length) outs 0 (gl due outs.length).rects_).2≠0 then ([],(asgIn (exB l outs.length) outs 0 (gl due outs.length).rects_).2) else asgR l due n (outs++[⟨(asgIn (exB l outs.length) outs 0 (gl due outs.length).rects_).1⟩])
theorem asgIn_val (e:Nat→Bool) : ∀ (os:List Region) (k:Nat) {left:List Rect},Val left→(asgIn e os k left).2=0→Val (asgIn e os k left).1
 | [],_,_,h,_=>h
 | o::os,k,left,h,he=>by
  unfold asgIn at he ⊢
  split
  ·rename_i h1
   rw [if_pos h1] at he
   split
   ·exact Val.nil
   ·rename_i h2
    rw [if_neg h2] at he
    exact asgIn_val e os (k+1) (wd_val h h2) he
  ·rename_i h1
   rw [if_neg h1] at he
   exact asgIn_val e os (k+1) h he
def asgC (d:Nat) (l:List Scheme) (due:List Region):List Region×Int:=if chkE d l due≠0 then ([],chkE d l due) else asgR l due l.length []
theorem chkE_zero {d:Nat} {l:List Scheme} {due:List Region}:chkE d l due=0↔GoodL d l∧l.length=due.length∧∀ a ∈ due,Val a.rects_:=by
 unfold chkE
 constructor
 ·intro h
  split at h
  ·rename_i h1; exact absurd h h1
  rename_i h1
  split at h
  ·omega
  rename_i h2
  split at h
  ·omega
  rename_i h3
  refine ⟨chkS_zero.1 (by simpa using h1),by simpa using h2,fun a ha=>?_⟩
  rw [List.any_eq_true] at h3
  rw [← valB_iff]
  cases hv:valB a.rects_ with
  | true=>rfl
  | false=>exact absurd ⟨a,ha,by rw [hv]; rfl⟩ h3
 ·rintro ⟨h1,h2,h3⟩
  rw [if_neg (by simpa using chkS_zero.2 h1),if_neg (by simpa using h2),if_neg]
  rw [List.any_eq_true]
  rintro ⟨a,ha,h⟩
  rw [valB_true (h3 a ha)] at h; cases h
theorem clone_ok {F:Nat} {a:Region} (h:a.rects_.length≤120):exclusion_clone F a=some a:=by
 unfold exclusion_clone
 exact bd_ok (slices_Clone_Rect_ok (by unfold LIM; omega)) rfl
theorem excl_ok {d F:Nat} {l:List Scheme} (hg:GoodL d l) {i k:Nat} (hk:k<l.length):exclusion_excludes F (gl l i) (gl l k)=some (exB l i k):=by
 unfold exclusion_excludes
 exact gd_ok (oneS_zero (hg.one k hk)).1 rfl
theorem wrap_u64 {n:Int} (h0:0≤n) (h1:n≤1000):IntKind.wrap .u64 n=n:=by
 unfold IntKind.wrap
 simp [IntKind.signed,IntKind.bits]
 omega
theorem ref31_Excl_ok {d F:Nat} {l:List Scheme} (hg:GoodL d l) {i k:Nat} (hi:i<l.length) (hk:k<l.length):ref31_Excludes F (gl l k) (gl l i)=some (exB l i k):=by
 have hz:=oneS_zero (hg.one i hi)
 unfold ref31_Excludes
 rw [wrap_u64 hz.1 (by omega)]
 refine gd_ok hz.1 ?_
 rw [hg.sym hi hk]; rfl
theorem exclusion_Assign_ok {d F:Nat} (hd:d≤2000000) (hF:BIG+d≤F) {l:List Scheme} (hl : ∀ s ∈ l,SD d s) {due:List Region} (hdue:due.length≤1000000):exclusion_Assign F l due=some (asgC d l due):=by
 have hB:BIG≤F:=by omega
 have hB' := hB
 unfold BIG at hB'
 unfold exclusion_Assign asgC
 refine bd_ok (exclusion_check_ok hd hF hl hdue) ?_
 by_cases hc:chkE d l due=0
 rotate_left
 ·rw [if_pos hc]; exact br_tt (by simpa using hc) rfl
 rw [if_neg (by simpa using hc)]
 refine br_ff (by simp [hc]) ?_
 obtain ⟨hg,hlen,hval⟩:=chkE_zero.1 hc
 have h16:=hg.len
 have inner : ∀ (outs:List Region) (i:Nat) (ag:Int×List Region→Option (List Region×Int)),i=outs.length→i<l.length→(∀ o ∈ outs,Val o.rects_)→∀ (n k:Nat) (left:List Rect),outs.length-k<n→k≤outs.length→Val left →
   loopN (fun again (z:Int×List Rect)=>exclusion_Assign_b1 F l (i:Int) outs ag again z.1 z.2) n ((k:Int),left)=if (asgIn (exB l i) (outs.drop k) k left).2≠0 then some ([],(asgIn (exB l i) (outs.drop k) k left).2) else exclusion_Assign_k3 F (i:Int) outs ag (asgIn (exB l i) (outs.drop k) k left).1:=by
  intro outs i ag hi hil hov n
  induction n with
  | zero=>intro k left h; omega
  | succ n ih=>
   intro k left hn hk hleft
   have hnx:=ih (k+1)
   revert hnx
   show _→exclusion_Assign_b1 F l (i:Int) outs ag (loopN (fun again (z:Int×List Rect)=>exclusion_Assign_b1 F l (i:Int) outs ag again z.1 z.2) n) (k:Int) left=_
   generalize loopN (fun again (z:Int×List Rect)=>exclusion_Assign_b1 F l (i:Int) outs ag again z.1 z.2) n=again
   intro hnx
   unfold exclusion_Assign_b1
   by_cases hko:k<outs.length
   ·rw [drop_gl hko]
    have hov' := hov _ (gl_mem hko)
    refine br_tt (decide_eq_true (by omega)) (gd_ok (by omega) (gd_ok (by omega) (bd_ok (excl_ok hg (by omega)) ?_)))
    simp only [Int.toNat_natCast]
    cases he:exB l i k with
    | false=>
     rw [asgIn_f he]
     refine br_tt rfl ?_
     unfold exclusion_Assign_k2
     refine gd_ok (i64_of (by omega) (by omega)) ?_
     rw [← hnx left (by omega) (by omega) hleft]; congr 1
    | true=>
     refine br_ff rfl (bd_ok (region_Without_ok hB (a:=⟨left⟩) hleft hov') ?_)
     rw [lim_wd]
     by_cases h1:120<(wd left (gl outs k).rects_).length
     ·rw [if_pos h1,asgIn_e he h1]; rfl
     ·rw [if_neg h1,asgIn_t he h1]
      refine br_ff rfl ?_
      unfold exclusion_Assign_k2
      refine gd_ok (i64_of (by omega) (by omega)) ?_
      rw [← hnx _ (by omega) (by omega) (wd_val hleft h1)]; congr 1
   ·rw [List.drop_eq_nil_of_le (by omega)]
    refine br_ff (decide_eq_false (by omega)) ?_
    unfold asgIn
    rw [if_neg (by simp)]
 suffices hs : ∀ (n:Nat) (outs:List Region),l.length-outs.length<n→outs.length≤l.length→(∀ o ∈ outs,Val o.rects_)→loopN (fun again (z:Int×List Region)=>exclusion_Assign_b0 F l due again z.1 z.2) n ((outs.length:Int),outs)=some (asgR l due (l.length-outs.length) outs) from hs F [] (by simp; omega) (by simp) (fun o ho=>(List.not_mem_nil ho).elim)
 intro n
 induction n with
 | zero=>intro outs h; omega
 | succ n ih=>
  intro outs hn ho hov
  have hnx:=fun r=>ih (outs++[r])
  revert hnx
  show _→exclusion_Assign_b0 F l due (loopN (fun again (z:Int×List Region)=>exclusion_Assign_b0 F l due again z.1 z.2) n) (outs.length:Int) outs=_
  generalize loopN (fun again (z:Int×List Region)=>exclusion_Assign_b0 F l due again z.1 z.2) n=again
  intro hnx
  unfold exclusion_Assign_b0
  by_cases hol:outs.length<l.length
  ·have hvd:=hval _ (gl_mem (l:=due) (i:=outs.length) (by omega))
   obtain ⟨m,hm⟩ : ∃ m,l.length-outs.length=m+1:=⟨l.length-outs.length-1,by omega⟩
   rw [hm]
   unfold asgR
   refine br_tt (decide_eq_true (by omega)) (gd_ok (by omega) (gd_ok (by omega) (bd_ok (clone_ok hvd.1) ?_)))
   refine (inner outs outs.length again rfl hol hov F 0 _ (by omega) (by omega) hvd).trans ?_
   rw [List.drop_zero]
   by_cases h1:(asgIn (exB l outs.length) outs 0 (gl due outs.length).rects_).2=0
   ·rw [if_neg (by simpa using h1),if_neg (by simpa using h1)]
    unfold exclusion_Assign_k3 exclusion_Assign_k4
    have hv:=asgIn_val (exB l outs.length) outs 0 hvd h1
    refine gd_ok (by simp only [List.length_cons,List.length_nil]; unfold LIM; omega) (gd_ok (i64_of (by omega) (by omega)) ?_)
    have:=hnx ⟨(asgIn (exB l outs.length) outs 0 (gl due outs.length).rects_).1⟩ (by simp; omega) (by simp; omega) (fun o ho=>by
     rcases List.mem_append.1 ho with h | h
     ·exact hov o h
     ·rw [List.mem_singleton.1 h]; exact hv)
    rw [show l.length-(outs++[(⟨(asgIn (exB l outs.length) outs 0 (gl due outs.length).rects_).1⟩ : Region)]).length=m by simp; omega] at this
    rw [← this]; congr 1
    simp
   ·rw [if_pos h1,if_pos h1]
  ·have:l.length-outs.length=0:=by omega
   rw [this]
   exact br_ff (decide_eq_false (by omega)) rfl
theorem ref31_Assign_ok {d F:Nat} (hd:d≤2000000) (hF:BIG+d≤F) {l:List Scheme} (hl : ∀ s ∈ l,SD d s) {due:List Region} (hdue:due.length≤1000000):ref31_Assign F l due=some (asgC d l due):=by
 have hB:BIG≤F:=by omega
 have hB' := hB
 unfold BIG at hB'
 unfold ref31_Assign asgC
 refine bd_ok (ref31_check_ok hd hF hl hdue) ?_
 by_cases hc:chkE d l due=0
 rotate_left
 ·rw [if_pos hc]; exact br_tt (by simpa using hc) rfl
 rw [if_neg (by simpa using hc)]
 refine br_ff (by simp [hc]) ?_
 obtain ⟨hg,hlen,hval⟩:=chkE_zero.1 hc
 have h16:=hg.len
 have inner : ∀ (outs:List Region) (i:Nat) (ag:Int×List Region→Option (List Region×Int)),i=outs.length→i<l.length→(∀ o ∈ outs,Val o.rects_)→∀ (n k:Nat) (left:List Rect),outs.length-k<n→k≤outs.length→Val left →
   loopN (fun again (z:Int×List Rect)=>ref31_Assign_b1 F l (i:Int) outs ag again z.1 z.2) n ((k:Int),left)=if (asgIn (exB l i) (outs.drop k) k left).2≠0 then some ([],(asgIn (exB l i) (outs.drop k) k left).2) else ref31_Assign_k3 F (i:Int) outs ag (asgIn (exB l i) (outs.drop k) k left).1:=by
  intro outs i ag hi hil hov n
  induction n with
  | zero=>intro k left h; omega
  | succ n ih=>
   intro k left hn hk hleft
   have hnx:=ih (k+1)
   revert hnx
   show _→ref31_Assign_b1 F l (i:Int) outs ag (loopN (fun again (z:Int×List Rect)=>ref31_Assign_b1 F l (i:Int) outs ag again z.1 z.2) n) (k:Int) left=_
   generalize loopN (fun again (z:Int×List Rect)=>ref31_Assign_b1 F l (i:Int) outs ag again z.1 z.2) n=again
   intro hnx
   unfold ref31_Assign_b1
   by_cases hko:k<outs.length
   ·rw [drop_gl hko]
    have hov' := hov _ (gl_mem hko)
    refine br_tt (decide_eq_true (by omega)) (gd_ok (by omega) (gd_ok (by omega) (bd_ok (ref31_Excl_ok hg (by omega) (by omega)) ?_)))
    simp only [Int.toNat_natCast]
    cases he:exB l i k with
    | false=>
     rw [asgIn_f he]
     refine br_tt rfl ?_
     unfold ref31_Assign_k2
     refine gd_ok (i64_of (by omega) (by omega)) ?_
     rw [← hnx left (by omega) (by omega) hleft]; congr 1
    | true=>
     refine br_ff rfl (gd_ok (by omega) (bd_ok (ref04_Without_ok hB (a:=⟨left⟩) hleft hov') ?_))
     rw [lim_wd]
     by_cases h1:120<(wd left (gl outs k).rects_).length
     ·rw [if_pos h1,asgIn_e he h1]; rfl
     ·rw [if_neg h1,asgIn_t he h1]
      refine br_ff rfl ?_
      unfold ref31_Assign_k2
      refine gd_ok (i64_of (by omega) (by omega)) ?_
      rw [← hnx _ (by omega) (by omega) (wd_val hleft h1)]; congr 1
   ·rw [List.drop_eq_nil_of_le (by omega)]
    refine br_ff (decide_eq_false (by omega)) ?_
    unfold asgIn
    rw [if_neg (by simp)]
 suffices hs : ∀ (n:Nat) (outs:List Region),l.length-outs.length<n→outs.length≤l.length→(∀ o ∈ outs,Val o.rects_)→loopN (fun again (z:Int×List Region)=>ref31_Assign_b0 F l due again z.1 z.2) n ((outs.length:Int),outs)=some (asgR l due (l.length-outs.length) outs) from hs F [] (by simp; omega) (by simp) (fun o ho=>(List.not_mem_nil ho).elim)
 intro n
 induction n with
 | zero=>intro outs h; omega
 | succ n ih=>
  intro outs hn ho hov
  have hnx:=fun r=>ih (outs++[r])
  revert hnx
  show _→ref31_Assign_b0 F l due (loopN (fun again (z:Int×List Region)=>ref31_Assign_b0 F l due again z.1 z.2) n) (outs.length:Int) outs=_
  generalize loopN (fun again (z:Int×List Region)=>ref31_Assign_b0 F l due again z.1 z.2) n=again
  intro hnx
  unfold ref31_Assign_b0
  by_cases hol:outs.length<l.length
  ·have hvd:=hval _ (gl_mem (l:=due) (i:=outs.length) (by omega))
   obtain ⟨m,hm⟩ : ∃ m,l.length-outs.length=m+1:=⟨l.length-outs.length-1,by omega⟩
   rw [hm]
   unfold asgR
   refine br_tt (decide_eq_true (by omega)) (gd_ok (by omega) ?_)
   refine (inner outs outs.length again rfl hol hov F 0 _ (by omega) (by omega) hvd).trans ?_
   rw [List.drop_zero]
   by_cases h1:(asgIn (exB l outs.length) outs 0 (gl due outs.length).rects_).2=0
   ·rw [if_neg (by simpa using h1),if_neg (by simpa using h1)]
    unfold ref31_Assign_k3 ref31_Assign_k4
    have hv:=asgIn_val (exB l outs.length) outs 0 hvd h1
    refine gd_ok (by simp only [List.length_cons,List.length_nil]; unfold LIM; omega) (gd_ok (i64_of (by omega) (by omega)) ?_)
    have:=hnx ⟨(asgIn (exB l outs.length) outs 0 (gl due outs.length).rects_).1⟩ (by simp; omega) (by simp; omega) (fun o ho=>by
     rcases List.mem_append.1 ho with h | h
     ·exact hov o h
     ·rw [List.mem_singleton.1 h]; exact hv)
    rw [show l.length-(outs++[(⟨(asgIn (exB l outs.length) outs 0 (gl due outs.length).rects_).1⟩ : Region)]).length=m by simp; omega] at this
    rw [← this]; congr 1
    simp
   ·rw [if_pos h1,if_pos h1]
  ·have:l.length-outs.length=0:=by omega
   rw [this]
   exact br_ff (decide_eq_false (by omega)) rfl
end
end Go.Ab
end

section
namespace Go.Ab
set_option maxRecDepth 20000
noncomputable section
theorem scan_find_at {R:Type} {body:(Int→Option R)→Int→Option R} {c:Nat→Option R} {y:Option R} (N s:Nat) (p:Nat→Bool) (hs:s≤N) (h0 : ∀ j,j<s→p j=false)
  (bad : ∀ again (i:Nat),s≤i→i<N→(∀ j,j<i→p j=false)→p i=true→body again (i:Int)=c i) (good : ∀ again (i:Nat) z,s≤i→i<N→(∀ j,j<i→p j=false)→p i=false→again ((i:Int)+1)=z→body again (i:Int)=z)
  (stop:(∀ j,j<N→p j=false)→∀ again,body again (N:Int)=y) {F:Nat} (hF:N<F):loopN body F (s:Int)=match (List.range N).find? p with | some i=>c i | none=>y:=by
 refine loopN_ok (fun z:Int=>∃ i:Nat,z=i∧s≤i∧i≤N∧∀ j,j<i→p j=false) (fun z=>N-z.toNat) (fun again z hz ih=>?_) ⟨s,rfl,Nat.le_refl _,hs,h0⟩ (by simp; omega)
 obtain ⟨i,rfl,hsi,hi,hp⟩:=hz
 rcases Nat.lt_or_ge i N with h | h
 ·cases hpi:p i with
  | true=>
   rw [List.find?_range_eq_some.2 ⟨hpi,List.mem_range.2 h,fun j hj=>by simp [hp j hj]⟩]
   exact bad again i hsi h hp hpi
  | false=>
   refine good again i _ hsi h hp hpi (ih _ ⟨i+1,by omega,by omega,h,fun j hj=>?_⟩ (by omega))
   by_cases hji:j=i
   ·rw [hji]; exact hpi
   ·exact hp j (by omega)
 ·have:i=N:=by omega
  subst this
  rw [List.find?_eq_none.2 fun x hx=>by rw [hp x (List.mem_range.1 hx)]; simp]
  exact stop hp again
def hitK (l:List Scheme) (rs:List Region) (i:Nat):Option Nat:=(List.range l.length).find? fun k=>decide (i<k)&&(exB l i k&&meetB (gl rs i) (gl rs k))
def onceG (l:List Scheme) (rs:List Region):Int×Int×Bool×Int:=match (List.range l.length).find? fun i=>(hitK l rs i).isSome with
 | some i=>(i,((hitK l rs i).getD 0:Nat),false,0)
 | none=>(0,0,true,0)
def onceC (d:Nat) (l:List Scheme) (rs:List Region):Int×Int×Bool×Int:=if chkE d l rs≠0 then (0,0,false,chkE d l rs) else onceG l rs
theorem asgR_ok (l:List Scheme) (due:List Region) : ∀ (n:Nat) (outs:List Region),outs.length+n=l.length→l.length=due.length→(∀ a ∈ due,Val a.rects_)→(∀ o ∈ outs,Val o.rects_)→(∀ o ∈ (asgR l due n outs).1,Val o.rects_)∧((asgR l due n outs).2=0→(asgR l due n outs).1.length=l.length)∧(asgR l due n outs).1.length≤l.length
 | 0,outs,h,_,_,ho=>⟨ho,fun _=>by have:(asgR l due 0 outs).1=outs:=rfl; rw [this]; omega,by have:(asgR l due 0 outs).1=outs:=rfl; rw [this]; omega⟩
 | n+1,outs,h,hl,hd,ho=>by
  unfold asgR
  split
  ·rename_i h1
   exact ⟨fun o h=>(List.not_mem_nil h).elim,fun h2=>absurd h2 h1,by simp⟩
  ·rename_i h1
   have hv:=asgIn_val (exB l outs.length) outs 0 (hd _ (gl_mem (l:=due) (i:=outs.length) (by omega))) (by simpa using h1)
   refine asgR_ok l due n _ (by simp; omega) hl hd fun o h=>?_
   rcases List.mem_append.1 h with h | h
   ·exact ho o h
   ·rw [List.mem_singleton.1 h]; exact hv
theorem asgC_ok {d:Nat} {l:List Scheme} {due:List Region}:(∀ o ∈ (asgC d l due).1,Val o.rects_)∧((asgC d l due).2=0→(asgC d l due).1.length=l.length∧GoodL d l∧l.length=due.length∧∀ a ∈ due,Val a.rects_)∧(asgC d l due).1.length≤l.length:=by
 unfold asgC
 split
 ·rename_i h; exact ⟨fun o h=>(List.not_mem_nil h).elim,fun h2=>absurd h2 h,by simp⟩
 ·rename_i h
  obtain ⟨h1,h2,h3⟩:=chkE_zero.1 (by simpa using h)
  obtain ⟨g1,g2,g3⟩:=asgR_ok l due l.length [] (by simp) h2 h3 (fun o h=>(List.not_mem_nil h).elim)
  exact ⟨g1,fun h=>⟨g2 h,h1,h2,h3⟩,g3⟩
def lostC (d:Nat) (l:List Scheme) (due:List Region):List Int×Int:=if (asgC d l due).2≠0 then ([],(asgC d l due).2) else ((List.range l.length).map fun i=>area (gl due i).rects_-area (gl (asgC d l due).1 i).rects_,0)
theorem area_le {l:List Rect} (h:Val l):0≤area l∧area l≤40000000000:=by
 unfold area
 have:=sum_bound (l:=l.map ar1) (M:=268435456) (fun x hx=>by
  obtain ⟨r,hr,rfl⟩:=List.mem_map.1 hx
  exact ar1_le (h.2.1 r hr))
 rw [List.length_map] at this
 have:=h.1
 omega
theorem exclusion_Once_ok {d F:Nat} (hd:d≤2000000) (hF:BIG+d≤F) {l:List Scheme} (hl : ∀ s ∈ l,SD d s) {rs:List Region} (hrs:rs.length≤1000000):exclusion_Once F l rs=some (onceC d l rs):=by
 have hB:BIG≤F:=by omega
 have hB' := hB
 unfold BIG at hB'
 unfold exclusion_Once onceC
 refine bd_ok (exclusion_check_ok hd hF hl hrs) ?_
 by_cases hc:chkE d l rs=0
 rotate_left
 ·rw [if_pos hc]; exact br_tt (by simpa using hc) rfl
 rw [if_neg (by simpa using hc)]
 refine br_ff (by simp [hc]) ?_
 obtain ⟨hg,hlen,hval⟩:=chkE_zero.1 hc
 have h16:=hg.len
 have inner : ∀ (ag:Int→Option (Int×Int×Bool×Int)) (i:Nat),i<l.length→loopN (fun again (z:Int)=>exclusion_Once_b1 F l rs (i:Int) ag again z) F ((i:Int)+1)=match hitK l rs i with | some k=>some ((i:Int),(k:Int),false,0) | none=>exclusion_Once_k3 F (i:Int) ag:=by
  intro ag i hi
  refine scan_find_at (c:=fun k=>some ((i:Int),(k:Int),false,0)) (y:=exclusion_Once_k3 F (i:Int) ag) l.length (i+1) (fun k=>decide (i<k)&&(exB l i k&&meetB (gl rs i) (gl rs k))) (by omega) (fun j hj=>by rw [decide_eq_false (by omega)]; rfl) (fun again k hk hkl _ hp=>?_) (fun again k z hk hkl _ hp hz=>?_) (fun _ again=>?_) (by omega)
  ·show exclusion_Once_b1 F l rs (i:Int) ag again (k:Int)=_
   unfold exclusion_Once_b1
   rw [Bool.and_eq_true,Bool.and_eq_true] at hp
   refine br_tt (decide_eq_true (by omega)) (gd_ok (by omega) (bd_ok (excl_ok hg (by omega)) ?_))
   simp only [Int.toNat_natCast]
   rw [hp.2.1]
   refine br_tt rfl (gd_ok (by omega) (gd_ok (by omega) (bd_ok (region_Meets_ok hB _ _) ?_)))
   rw [hp.2.2]; rfl
  ·show exclusion_Once_b1 F l rs (i:Int) ag again (k:Int)=_
   unfold exclusion_Once_b1
   rw [decide_eq_true (by omega:i<k),Bool.true_and] at hp
   have k2:exclusion_Once_k2 F (i:Int) (k:Int) again false=z:=by
    unfold exclusion_Once_k2
    exact br_ff rfl (gd_ok (i64_of (by omega) (by omega)) hz)
   refine br_tt (decide_eq_true (by omega)) (gd_ok (by omega) (bd_ok (excl_ok hg (by omega)) ?_))
   simp only [Int.toNat_natCast]
   cases he:exB l i k with
   | false=>exact br_ff rfl k2
   | true=>
    rw [he,Bool.true_and] at hp
    refine br_tt rfl (gd_ok (by omega) (gd_ok (by omega) (bd_ok (region_Meets_ok hB _ _) ?_)))
    rw [hp]; exact k2
  ·show exclusion_Once_b1 F l rs (i:Int) ag again (l.length:Int)=_
   unfold exclusion_Once_b1
   exact br_ff (decide_eq_false (by omega)) rfl
 refine (scan_find (c:=fun i=>some ((i:Int),(((hitK l rs i).getD 0:Nat):Int),false,0)) (y:=some (0,0,true,0)) l.length (fun i=>(hitK l rs i).isSome) (fun again i hi _ hp=>?_) (fun again i z hi _ hp hz=>?_) (fun _ again=>?_) (by omega)).trans ?_
 ·show exclusion_Once_b0 F l rs again (i:Int)=_
  unfold exclusion_Once_b0
  refine br_tt (decide_eq_true (by omega)) (gd_ok (by omega) (gd_ok (i64_of (by omega) (by omega)) ?_))
  refine (inner again i hi).trans ?_
  obtain ⟨k,hk⟩:=Option.isSome_iff_exists.1 hp
  rw [hk]; rfl
 ·show exclusion_Once_b0 F l rs again (i:Int)=_
  unfold exclusion_Once_b0
  refine br_tt (decide_eq_true (by omega)) (gd_ok (by omega) (gd_ok (i64_of (by omega) (by omega)) ?_))
  refine (inner again i hi).trans ?_
  have hk:hitK l rs i=none:=by simpa using hp
  rw [hk]
  show exclusion_Once_k3 F (i:Int) again=z
  unfold exclusion_Once_k3
  exact gd_ok (i64_of (by omega) (by omega)) hz
 ·show exclusion_Once_b0 F l rs again (l.length:Int)=_
  unfold exclusion_Once_b0
  exact br_ff (decide_eq_false (by omega)) rfl
 ·unfold onceG
  cases (List.range l.length).find? fun i=>(hitK l rs i).isSome <;> rfl
theorem ref31_Once_ok {d F:Nat} (hd:d≤2000000) (hF:BIG+d≤F) {l:List Scheme} (hl : ∀ s ∈ l,SD d s) {rs:List Region} (hrs:rs.length≤1000000):ref31_Once F l rs=some (onceC d l rs):=by
 have hB:BIG≤F:=by omega
 have hB' := hB
 unfold BIG at hB'
 unfold ref31_Once onceC
 refine bd_ok (ref31_check_ok hd hF hl hrs) ?_
 by_cases hc:chkE d l rs=0
 rotate_left
 ·rw [if_pos hc]; exact br_tt (by simpa using hc) rfl
 rw [if_neg (by simpa using hc)]
 refine br_ff (by simp [hc]) ?_
 obtain ⟨hg,hlen,hval⟩:=chkE_zero.1 hc
 have h16:=hg.len
 have inner : ∀ (ag:Int→Option (Int×Int×Bool×Int)) (i:Nat),i<l.length→loopN (fun again (z:Int)=>ref31_Once_b1 F l rs (i:Int) ag again z) F ((i:Int)+1)=match hitK l rs i with | some k=>some ((i:Int),(k:Int),false,0) | none=>ref31_Once_k3 F (i:Int) ag:=by
  intro ag i hi
  refine scan_find_at (c:=fun k=>some ((i:Int),(k:Int),false,0)) (y:=ref31_Once_k3 F (i:Int) ag) l.length (i+1) (fun k=>decide (i<k)&&(exB l i k&&meetB (gl rs i) (gl rs k))) (by omega) (fun j hj=>by rw [decide_eq_false (by omega)]; rfl) (fun again k hk hkl _ hp=>?_) (fun again k z hk hkl _ hp hz=>?_) (fun _ again=>?_) (by omega)
  ·show ref31_Once_b1 F l rs (i:Int) ag again (k:Int)=_
   unfold ref31_Once_b1
   rw [Bool.and_eq_true,Bool.and_eq_true] at hp
   refine br_tt (decide_eq_true (by omega)) (gd_ok (by omega) (gd_ok (by omega) (bd_ok (a:=exB l i k) (by have:=ref31_Excl_ok (F:=F) hg (i:=k) (k:=i) (by omega) (by omega); rw [hg.sym (i:=k) (k:=i) (by omega) (by omega)] at this; exact this) ?_)))
   simp only [Int.toNat_natCast]
   rw [hp.2.1]
   refine br_tt rfl (gd_ok (by omega) (gd_ok (by omega) (bd_ok (ref04_Meets_ok hB _ _) ?_)))
   rw [hp.2.2]; rfl
  ·show ref31_Once_b1 F l rs (i:Int) ag again (k:Int)=_
   unfold ref31_Once_b1
   rw [decide_eq_true (by omega:i<k),Bool.true_and] at hp
   have k2:ref31_Once_k2 F (i:Int) (k:Int) again false=z:=by
    unfold ref31_Once_k2
    exact br_ff rfl (gd_ok (i64_of (by omega) (by omega)) hz)
   refine br_tt (decide_eq_true (by omega)) (gd_ok (by omega) (gd_ok (by omega) (bd_ok (a:=exB l i k) (by have:=ref31_Excl_ok (F:=F) hg (i:=k) (k:=i) (by omega) (by omega); rw [hg.sym (i:=k) (k:=i) (by omega) (by omega)] at this; exact this) ?_)))
   simp only [Int.toNat_natCast]
   cases he:exB l i k with
   | false=>exact br_ff rfl k2
   | true=>
    rw [he,Bool.true_and] at hp
    refine br_tt rfl (gd_ok (by omega) (gd_ok (by omega) (bd_ok (ref04_Meets_ok hB _ _) ?_)))
    rw [hp]; exact k2
  ·show ref31_Once_b1 F l rs (i:Int) ag again (l.length:Int)=_
   unfold ref31_Once_b1
   exact br_ff (decide_eq_false (by omega)) rfl
 refine (scan_find (c:=fun i=>some ((i:Int),(((hitK l rs i).getD 0:Nat):Int),false,0)) (y:=some (0,0,true,0)) l.length (fun i=>(hitK l rs i).isSome) (fun again i hi _ hp=>?_) (fun again i z hi _ hp hz=>?_) (fun _ again=>?_) (by omega)).trans ?_
 ·show ref31_Once_b0 F l rs again (i:Int)=_
  unfold ref31_Once_b0
  refine br_tt (decide_eq_true (by omega)) (gd_ok (i64_of (by omega) (by omega)) ?_)
  refine (inner again i hi).trans ?_
  obtain ⟨k,hk⟩:=Option.isSome_iff_exists.1 hp
  rw [hk]; rfl
 ·show ref31_Once_b0 F l rs again (i:Int)=_
  unfold ref31_Once_b0
  refine br_tt (decide_eq_true (by omega)) (gd_ok (i64_of (by omega) (by omega)) ?_)
  refine (inner again i hi).trans ?_
  have hk:hitK l rs i=none:=by simpa using hp
  rw [hk]
  show ref31_Once_k3 F (i:Int) again=z
  unfold ref31_Once_k3
  exact gd_ok (i64_of (by omega) (by omega)) hz
 ·show ref31_Once_b0 F l rs again (l.length:Int)=_
  unfold ref31_Once_b0
  exact br_ff (decide_eq_false (by omega)) rfl
 ·unfold onceG
  cases (List.range l.length).find? fun i=>(hitK l rs i).isSome <;> rfl
theorem exclusion_Lost_ok {d F:Nat} (hd:d≤2000000) (hF:BIG+d≤F) {l:List Scheme} (hl : ∀ s ∈ l,SD d s) {due:List Region} (hdue:due.length≤1000000):exclusion_Lost F l due=some (lostC d l due):=by
 have hB:BIG≤F:=by omega
 have hB' := hB
 unfold BIG at hB'
 unfold exclusion_Lost lostC
 refine bd_ok (exclusion_Assign_ok hd hF hl hdue) ?_
 by_cases h:(asgC d l due).2=0
 rotate_left
 ·rw [if_pos h]; exact br_tt (by simpa using h) rfl
 rw [if_neg (by simpa using h)]
 refine br_ff (by simp [h]) ?_
 obtain ⟨hv,hk,_⟩:=asgC_ok (d:=d) (l:=l) (due:=due)
 obtain ⟨hgl,hg,hlen,hval⟩:=hk h
 have h16:=hg.len
 generalize hG:asgC d l due=G at *
 suffices hs : ∀ (n i:Nat),l.length-i<n→i≤l.length→loopN (fun again (z:Int×List Int)=>exclusion_Lost_b0 F due G again z.1 z.2) n ((i:Int),(List.range i).map fun i=>area (gl due i).rects_-area (gl G.1 i).rects_)=some ((List.range l.length).map fun i=>area (gl due i).rects_-area (gl G.1 i).rects_,0) from hs F 0 (by omega) (by omega)
 intro n
 induction n with
 | zero=>intro i h; omega
 | succ n ih=>
  intro i hn hi
  have hnx:=ih (i+1)
  revert hnx
  show _→exclusion_Lost_b0 F due G (loopN (fun again (z:Int×List Int)=>exclusion_Lost_b0 F due G again z.1 z.2) n) (i:Int) _=_
  generalize loopN (fun again (z:Int×List Int)=>exclusion_Lost_b0 F due G again z.1 z.2) n=again
  intro hnx
  unfold exclusion_Lost_b0
  by_cases hil:i<l.length
  ·have v1:=hval _ (gl_mem (l:=due) (i:=i) (by omega))
   have v2:=hv _ (gl_mem (l:=G.1) (i:=i) (by omega))
   have a1:=area_le v1
   have a2:=area_le v2
   refine br_tt (decide_eq_true (by omega)) (gd_ok (by omega) (bd_ok (region_Area_ok hB v1) (gd_ok (by omega) (bd_ok (region_Area_ok hB v2) (gd_ok (by simp only [Int.toNat_natCast]; exact i64_of (by omega) (by omega)) (gd_ok (by simp only [List.length_map,List.length_range,List.length_cons,List.length_nil]; unfold LIM; omega) (gd_ok (i64_of (by omega) (by omega)) ?_)))))))
   rw [← hnx (by omega) (by omega)]
   rw [List.range_succ,List.map_append]; rfl
  ·have:i=l.length:=by omega
   subst this
   exact br_ff (decide_eq_false (by omega)) rfl
theorem ref31_Lost_ok {d F:Nat} (hd:d≤2000000) (hF:BIG+d≤F) {l:List Scheme} (hl : ∀ s ∈ l,SD d s) {due:List Region} (hdue:due.length≤1000000):ref31_Lost F l due=some (lostC d l due):=by
 have hB:BIG≤F:=by omega
 have hB' := hB
 unfold BIG at hB'
 unfold ref31_Lost lostC
 refine bd_ok (ref31_Assign_ok hd hF hl hdue) ?_
 by_cases h:(asgC d l due).2=0
 rotate_left
 ·rw [if_pos h]; exact br_tt (by simpa using h) rfl
 rw [if_neg (by simpa using h)]
 refine br_ff (by simp [h]) ?_
 obtain ⟨hv,hk,_⟩:=asgC_ok (d:=d) (l:=l) (due:=due)
 obtain ⟨hgl,hg,hlen,hval⟩:=hk h
 have h16:=hg.len
 generalize hG:asgC d l due=G at *
 suffices hs : ∀ (n i:Nat),l.length-i<n→i≤l.length→loopN (fun again (z:Int×List Int)=>ref31_Lost_b0 F l due G again z.1 z.2) n ((i:Int),(List.range i).map fun i=>area (gl due i).rects_-area (gl G.1 i).rects_)=some ((List.range l.length).map fun i=>area (gl due i).rects_-area (gl G.1 i).rects_,0) from hs F 0 (by omega) (by omega)
 intro n
 induction n with
 | zero=>intro i h; omega
 | succ n ih=>
  intro i hn hi
  have hnx:=ih (i+1)
  revert hnx
  show _→ref31_Lost_b0 F l due G (loopN (fun again (z:Int×List Int)=>ref31_Lost_b0 F l due G again z.1 z.2) n) (i:Int) _=_
  generalize loopN (fun again (z:Int×List Int)=>ref31_Lost_b0 F l due G again z.1 z.2) n=again
  intro hnx
  unfold ref31_Lost_b0
  by_cases hil:i<l.length
  ·have v1:=hval _ (gl_mem (l:=due) (i:=i) (by omega))
   have v2:=hv _ (gl_mem (l:=G.1) (i:=i) (by omega))
   have a1:=area_le v1
   have a2:=area_le v2
   refine br_tt (decide_eq_true (by omega)) (gd_ok (by omega) (bd_ok (ref04_Area_ok hB v1) (gd_ok (by omega) (bd_ok (ref04_Area_ok hB v2) (gd_ok (by simp only [Int.toNat_natCast]; exact i64_of (by omega) (by omega)) (gd_ok (by simp only [List.length_map,List.length_range,List.length_cons,List.length_nil]; unfold LIM; omega) (gd_ok (i64_of (by omega) (by omega)) ?_)))))))
   rw [← hnx (by omega) (by omega)]
   rw [List.range_succ,List.map_append]; rfl
  ·have:i=l.length:=by omega
   subst this
   exact br_ff (decide_eq_false (by omega)) rfl
theorem ref24_Ints_refl {F:Nat} (hF:BIG≤F) {l:List Int} (hl:l.length≤1000000):ref24_Ints F l l=some true:=by
 unfold BIG at hF
 unfold ref24_Ints
 refine br_ff (by simp) ?_
 refine range_ok (l:=l) (fun _:List Int=>some true) (fun again i hi hag=>?_) (fun again=>?_) (by omega)
 ·show ref24_Ints_b0 F l l again (i:Int)=_
  unfold ref24_Ints_b0
  exact br_tt (decide_eq_true (by omega)) (gd_ok (by omega) (gd_ok (by omega) (br_ff (by simp) (gd_ok (i64_of (by omega) (by omega)) hag))))
 ·show ref24_Ints_b0 F l l again (l.length:Int)=_
  unfold ref24_Ints_b0
  exact br_ff (decide_eq_false (by omega)) rfl
theorem ref04_All_refl {F:Nat} (hF:BIG≤F) {l:List Region} (hl:l.length≤1000000) (hr : ∀ a ∈ l,a.rects_.length≤1000000):ref04_All F l l=some true:=by
 have hB:=hF
 unfold BIG at hF
 unfold ref04_All
 refine br_ff (by simp) ?_
 refine range_ok (l:=l) (fun _:List Region=>some true) (fun again i hi hag=>?_) (fun again=>?_) (by omega)
 ·show ref04_All_b0 F l l again (i:Int)=_
  unfold ref04_All_b0
  refine br_tt (decide_eq_true (by omega)) (gd_ok (by omega) (gd_ok (by omega) (bd_ok (ref04_Same_ok hB (by have:=hr _ (gl_mem hi); simp only [Int.toNat_natCast]; unfold LIM; omega)) ?_)))
  refine br_ff (by simp) (gd_ok (i64_of (by omega) (by omega)) hag)
 ·show ref04_All_b0 F l l again (l.length:Int)=_
  unfold ref04_All_b0
  exact br_ff (decide_eq_false (by omega)) rfl
end
end Go.Ab
end

section
namespace Go.Ab
set_option maxRecDepth 20000
noncomputable section
theorem keep_Tape_One_ok {F:Nat} {t:Tape} (ht:TOk t) {n:Int} (h1:1≤n) (h2:n≤1099511627776) : ∃ t' b,keep_Tape_One F t n=some (t',b)∧TOk t' := by
 obtain ⟨t1,k,e1,o1,_,_⟩:=keep_Tape_Next_ok (F:=F) ht h1 h2
 refine ⟨t1,k==n-1, ?_,o1⟩
 unfold keep_Tape_One
 refine bd_ok e1 ?_
 refine gd_ok (i64_of (by omega) (by omega)) rfl
theorem tape_eta (t:Tape):(⟨t.l_,t.at_⟩ : Tape)=t:=rfl
theorem keep_Tape_Broken_ok {F:Nat} (hF:BIG≤F) {t:Tape} (ht:TOk t) {n:Nat} {most:Int} (h1:1≤n) (h2:n≤1000) (m1:0≤most) (m2:most≤100) : ∃ t' r,keep_Tape_Broken F t n most=some (t',r)∧TOk t' ∧ r.rects_.length≤n*((n+1) / 2)+1:=by
 obtain ⟨t1,a,e1,o1,ha⟩:=keep_Tape_Region_ok hF ht (n:=n) (most:=most) (by omega) (by omega) m1 m2
 have hlen:a.rects_.length≤n*((n+1) / 2):=ha.val.2.2.half ha.box
 have hval:=ha.val.1
 unfold keep_Tape_Broken
 simp only [e1,Option.bind_some]
 by_cases hz:a.rects_.length=0
 ·refine ⟨t1,a, ?_,o1,by omega⟩
  refine br_tt (by rw [hz]; rfl) ?_
  rfl
 ·obtain ⟨t2,b,e2,o2⟩:=keep_Tape_One_ok (F:=F) o1 (n:=6) (by omega) (by omega)
  have e0:((a.rects_.length:Int)==0)=false:=by rw [beq_eq_false_iff_ne]; omega
  rw [e0]
  simp only [br,e2,Option.bind_some]
  cases b with
  | false=>exact ⟨t2,a,rfl,o2,by omega⟩
  | true=>
   obtain ⟨t3,k,e3,o3,k1,k2⟩:=keep_Tape_Next_ok (F:=F) o2 (n:=(a.rects_.length:Int)) (by omega) (by omega)
   obtain ⟨t4,c,e4,o4,c1,c2⟩:=keep_Tape_Next_ok (F:=F) o3 (n:=5) (by omega) (by omega)
   have hkn:k.toNat<a.rects_.length:=by omega
   have hr:=(propB_iff _).1 (ha.val.2.1 _ (gl_mem hkn))
   have main:Ok (keep_Tape_Broken_k0 F (t1,a) (!true) t2.l_ t2.at_) fun z=>TOk z.1∧z.2.rects_.length≤n*((n+1) / 2)+1:=by
    unfold keep_Tape_Broken_k0
    refine ok_br (fun h=>by cases h) (fun _=>?_)
    simp only [List.nil_append,tape_eta]
    refine ok_gd (by simp only [LIM]; omega) ?_
    refine ok_bd e3 ?_
    refine ok_bd e4 ?_
    dsimp only
    refine ok_br (fun _=>?_) (fun _=>ok_br (fun _=>?_) (fun _=>ok_br (fun _=>?_) (fun _=>ok_br (fun _=>?_) (fun _=>?_))))
    ·refine ok_gd (by omega) (ok_gd (i64_of (by omega) (by omega)) (ok_gd (by omega) ?_))
     exact ok_some ⟨o4,by simp only [List.length_set]; omega⟩
    ·refine ok_gd (by omega) ?_
     exact ok_some ⟨o4,by simp only [List.length_set]; omega⟩
    ·refine ok_gd (by omega) (ok_gd (by simp only [LIM,List.length_cons,List.length_nil]; omega) ?_)
     exact ok_some ⟨o4,by simp only [List.length_append,List.length_cons,List.length_nil]; omega⟩
    ·refine ok_gd (by omega) (ok_gd (by omega) (ok_gd (by omega) (ok_gd (by simp only [List.length_set]; omega) ?_)))
     exact ok_some ⟨o4,by simp only [List.length_set]; omega⟩
    ·refine ok_gd (by omega) (ok_gd (by omega) ?_)
     exact ok_some ⟨o4,by simp only [List.length_set]; omega⟩
   obtain ⟨⟨t',r⟩,g1,g2,g3⟩:=main
   exact ⟨t',r,g1,g2,g3⟩
end
end Go.Ab
end

section
namespace Go.Ab
set_option maxRecDepth 20000
noncomputable section
theorem ref02_Decimal_digit {F:Nat} (hF:1≤F) {n:Int} (h0:0≤n) (h1:n≤9) : ∃ s,ref02_Decimal F n=some s∧s.size≤10:=by
 cases F with
 | zero=>omega
 | succ F=>
  refine ⟨bOf (IntKind.wrap .u8 (48+n)), ?_,by unfold bOf; simp⟩
  show ref02_Decimal_B F (ref02_Decimal F) n=_
  unfold ref02_Decimal_B
  exact br_ff (decide_eq_false (by omega)) (br_tt (decide_eq_true (by omega)) (gd_ok (i64_of (by omega) (by omega)) rfl))
theorem pow_le {k:Int} (h0:0≤k) (h1:k≤10):1≤(1:Int)*2 ^ (min k.toNat (IntKind.bits .i64))∧(1:Int)*2 ^ (min k.toNat (IntKind.bits .i64))≤1024:=by
 have hc:k=0∨k=1∨k=2∨k=3∨k=4∨k=5∨k=6∨k=7∨k=8∨k=9∨k=10:=by omega
 rcases hc with rfl | rfl | rfl | rfl | rfl | rfl | rfl | rfl | rfl | rfl | rfl <;> decide
theorem td_leaf {d:Nat} {a b c:Int} (h1:I64 a) (h2:I64 b):TD (d+1) ⟨a,b,c,[]⟩:=⟨h1,h2,by simp,fun k hk=>(List.not_mem_nil hk).elim⟩
theorem keep_Tape_Term_ok : ∀ (n:Nat) {F:Nat} (_:n+1≤F) {t:Tape} (_:TOk t) (_:n≤5),∃ t' x,keep_Tape_Term F t (n:Int)=some (t',x)∧TOk t' ∧ TD (n+1) x
 | n,0,hF,_,_,_=>by omega
 | n,F+1,hF,t,ht,hn=>by
  show ∃ t' x,keep_Tape_Term_B F (keep_Tape_Term F) t (n:Int)=some (t',x)∧_
  unfold keep_Tape_Term_B
  have k2 : ∀ (u:Tape×Int) (a b:Int) (v:Tape),TOk v→I64 u.2→I64 a→Ok (keep_Tape_Term_k2 F (keep_Tape_Term F) u a b v.l_ v.at_) fun z=>TOk z.1∧TD (n+1) z.2:=fun u a b v hv h1 h2=>by
   unfold keep_Tape_Term_k2
   exact ok_some ⟨hv,td_leaf h1 h2⟩
  have leaf : ∀ (v:Tape),TOk v→Ok ((keep_Tape_Range F v (1:Int) (8:Int)).bind fun z=>br (z.2==(2:Int)) (keep_Tape_Term_k1 F (keep_Tape_Term F) z (z.2==(2:Int))) (keep_Tape_Term_k1 F (keep_Tape_Term F) z (z.2==(3:Int)))) fun z=>TOk z.1∧TD (n+1) z.2:=fun v hv=>by
   obtain ⟨t1,o,e1,o1,a1,a2⟩:=keep_Tape_Range_ok (F:=F) hv (lo:=1) (hi:=8) (by omega) (by omega) (by omega)
   have ho:I64 o:=i64_of (by omega) (by omega)
   have k1 : ∀ b,Ok (keep_Tape_Term_k1 F (keep_Tape_Term F) (t1,o) b) fun z=>TOk z.1∧TD (n+1) z.2:=fun b=>by
    unfold keep_Tape_Term_k1
    refine ok_br (fun _=>?_) (fun _=>ok_br (fun _=>?_) (fun _=>ok_br (fun _=>?_) (fun _=>ok_br (fun _=>?_) (fun _=>ok_br (fun _=>?_) (fun _=>ok_br (fun _=>?_) (fun _=>?_))))))
    ·obtain ⟨t2,k,e2,o2,b1,b2⟩:=keep_Tape_Next_ok (F:=F) o1 (n:=4) (by omega) (by omega)
     exact ok_bd e2 (k2 _ _ _ t2 o2 ho (i64_of (by omega) (by omega)))
    ·obtain ⟨t2,k,e2,o2,b1,b2⟩:=keep_Tape_Next_ok (F:=F) o1 (n:=5) (by omega) (by omega)
     have:=pow_le b1 (by omega)
     exact ok_bd e2 (ok_gd ⟨i64_of (by simp only; omega) (by simp only; omega),b1⟩ (k2 _ _ _ t2 o2 ho (i64_of (by simp only; omega) (by simp only; omega))))
    ·obtain ⟨t2,k,e2,o2,b1,b2⟩:=keep_Tape_Next_ok (F:=F) o1 (n:=16) (by omega) (by omega)
     exact ok_bd e2 (k2 _ _ _ t2 o2 ho (i64_of (by omega) (by omega)))
    ·obtain ⟨t2,k,e2,o2,b1,b2⟩:=keep_Tape_Range_ok (F:=F) o1 (lo:=2) (hi:=3) (by omega) (by omega) (by omega)
     exact ok_bd e2 (k2 _ _ _ t2 o2 ho (i64_of (by omega) (by omega)))
    ·obtain ⟨t2,k,e2,o2,b1,b2⟩:=keep_Tape_Range_ok (F:=F) o1 (lo:=1) (hi:=2) (by omega) (by omega) (by omega)
     obtain ⟨t3,m,e3,o3,c1,c2⟩:=keep_Tape_Next_ok (F:=F) o2 (n:=5) (by omega) (by omega)
     have:=pow_le c1 (by omega)
     exact ok_bd e2 (ok_bd e3 (ok_gd ⟨i64_of (by simp only; omega) (by simp only; omega),c1⟩ (k2 _ _ _ t3 o3 ho (i64_of (by simp only; omega) (by simp only; omega)))))
    ·obtain ⟨t2,k,e2,o2,b1,b2⟩:=keep_Tape_Range_ok (F:=F) o1 (lo:=1) (hi:=3) (by omega) (by omega) (by omega)
     exact ok_bd e2 (k2 _ _ _ t2 o2 ho (i64_of (by omega) (by omega)))
    ·exact k2 _ _ _ t1 o1 ho (i64_of (by omega) (by omega))
   exact ok_bd e1 (ok_br (fun _=>k1 _) (fun _=>k1 _))
  have main:Ok (br (decide ((0:Int)<(n:Int))) ((keep_Tape_One F t (2:Int)).bind fun z=>keep_Tape_Term_k0 F (keep_Tape_Term F) (n:Int) z.2 z.1.l_ z.1.at_) (keep_Tape_Term_k0 F (keep_Tape_Term F) (n:Int) false t.l_ t.at_)) fun z=>TOk z.1∧TD (n+1) z.2:=by
   refine ok_br (fun h=>?_) (fun _=>?_)
   ·have h:=of_decide_eq_true h
    obtain ⟨m,rfl⟩ : ∃ m,n=m+1:=⟨n-1,by omega⟩
    obtain ⟨t1,b,e1,o1⟩:=keep_Tape_One_ok (F:=F) ht (n:=2) (by omega) (by omega)
    refine ok_bd e1 ?_
    unfold keep_Tape_Term_k0
    refine ok_br (fun _=>?_) (fun _=>leaf t1 o1)
    obtain ⟨t2,k,e2,o2,_,_⟩:=keep_Tape_Next_ok (F:=F) o1 (n:=3) (by omega) (by omega)
    refine ok_bd e2 ?_
    have em:((m+1:Nat):Int)-1=(m:Int):=by omega
    refine ok_br (fun _=>ok_gd (i64_of (by omega) (by omega)) ?_) (fun _=>ok_br (fun _=>ok_gd (i64_of (by omega) (by omega)) ?_) (fun _=>ok_gd (i64_of (by omega) (by omega)) ?_))
    ·rw [em]
     obtain ⟨t3,x,e3,o3,d3⟩:=keep_Tape_Term_ok m (by omega:m+1≤F) o2 (by omega)
     exact ok_bd e3 (ok_gd d3.op (ok_some ⟨o3,i64_of (by simp only; omega) (by simp only; omega),i64_of (by simp only; omega) (by simp only; omega),by simp,fun k hk=>by rw [List.mem_singleton.1 hk]; exact d3⟩))
    all_goals
     rw [em]
     obtain ⟨t3,x,e3,o3,d3⟩:=keep_Tape_Term_ok m (by omega:m+1≤F) o2 (by omega)
     obtain ⟨t4,y,e4,o4,d4⟩:=keep_Tape_Term_ok m (by omega:m+1≤F) o3 (by omega)
     refine ok_bd e3 (ok_gd (i64_of (by omega) (by omega)) (ok_bd e4 (ok_gd d3.op (ok_gd d4.op (ok_some ⟨o4,i64_of (by simp only; omega) (by simp only; omega),i64_of (by simp only; omega) (by simp only; omega),by simp,fun k hk=>?_⟩)))))
     rcases List.mem_cons.1 hk with h | h
     ·rw [h]; exact d3
     ·rw [List.mem_singleton.1 h]; exact d4
   ·unfold keep_Tape_Term_k0
    exact ok_br (fun h=>by cases h) (fun _=>leaf t ht)
  obtain ⟨r,hr,h1,h2⟩:=main
  exact ⟨r.1,r.2,hr,h1,h2⟩
structure ST (s:Scheme):Prop where
 sd:SD 3 s
 num:0≤s.number_∧s.number_≤3
theorem ST.excl {s:Scheme} (h:ST s) (e:Int):ST { s with excludes_:=e } := ⟨⟨h.sd.cond,h.sd.name,h.sd.brl⟩,h.num⟩
theorem st_set {l:List Scheme} (h : ∀ s ∈ l,ST s) {i:Nat} {x:Scheme} (hx:ST x) : ∀ s ∈ l.set i x,ST s:=fun s hs=>by
 rcases List.mem_or_eq_of_mem_set hs with h1 | h1
 ·exact h s h1
 ·rw [h1]; exact hx
structure LT (L:List Scheme):Prop where
 st : ∀ s ∈ L,ST s
 len:L.length≤3
theorem keep_Tape_Law_ok {F:Nat} (hF:BIG+3≤F) {t:Tape} (ht:TOk t) {most:Int} (m0:0≤most) (m1:most≤3) : ∃ t' L,keep_Tape_Law F t most=some (t',L)∧TOk t' ∧ LT L∧(L=[]∨GoodL 3 L):=by
 have hB:BIG≤F:=by omega
 have hB' := hB
 unfold BIG at hB'
 unfold keep_Tape_Law
 obtain ⟨t1,n,e1,o1,n0,n1⟩:=keep_Tape_Next_ok (F:=F) ht (n:=2) (by omega) (by omega)
 obtain ⟨t2,k,e2,o2,k0,k1⟩:=keep_Tape_Next_ok (F:=F) o1 (n:=most+1) (by omega) (by omega)
 suffices h:Ok (loopN (fun again (z:Int×Int×(List Int)×Int×(List Scheme))=>keep_Tape_Law_b0 F again z.1 z.2.1 z.2.2.1 z.2.2.2.1 z.2.2.2.2) F (n,k,t2.l_,t2.at_,([]:List Scheme))) fun z=>TOk z.1∧LT z.2∧(z.2=[]∨GoodL 3 z.2) by
  obtain ⟨r,hr,h1,h2,h3⟩:=h
  exact ⟨r.1,r.2,bd_ok e1 (gd_ok (i64_of (by omega) (by omega)) (bd_ok e2 hr)),h1,h2,h3⟩
 have k10 : ∀ (L:List Scheme) (v:Tape),TOk v→LT L→Ok (keep_Tape_Law_k10 F L v.l_ v.at_) fun z=>TOk z.1∧LT z.2∧(z.2=[]∨GoodL 3 z.2):=fun L v hv hL=>by
  unfold keep_Tape_Law_k10
  refine ok_bd (ref17_Check_ok (d:=3) (by omega) hF fun s hs=>(hL.st s hs).sd) (ok_br (fun _=>?_) (fun h=>?_))
  ·exact ok_some ⟨hv,⟨fun s hs=>(List.not_mem_nil hs).elim,by simp⟩,.inl rfl⟩
  ·exact ok_some ⟨hv,hL,.inr (chkS_zero.1 (by simpa using h))⟩
 have k5 : ∀ (L:List Scheme) (v:Tape),TOk v→LT L→Ok (keep_Tape_Law_k5 F v.l_ v.at_ L) fun z=>TOk z.1∧LT z.2∧(z.2=[]∨GoodL 3 z.2):=fun L v hv hL=>by
  have hlen:=hL.len
  unfold keep_Tape_Law_k5
  refine ok_loop (fun z:Int×(List Int)×Int×(List Scheme)=>0≤z.1∧z.1≤L.length∧TOk ⟨z.2.1,z.2.2.1⟩∧LT z.2.2.2∧z.2.2.2.length=L.length) (fun z=>L.length-z.1.toNat) (fun again z hz ih=>?_) ⟨by simp,by simp,hv,hL,rfl⟩ (by simp; omega)
  obtain ⟨i,a,b,M⟩:=z
  obtain ⟨i0,i1,hv,hM,hl⟩:=hz
  simp only at i0 i1 hv hM hl
  show Ok (keep_Tape_Law_b6 F L again i a b M) _
  unfold keep_Tape_Law_b6
  refine ok_br (fun h=>?_) (fun _=>k10 M ⟨a,b⟩ hv hM)
  have h:=of_decide_eq_true h
  refine ok_gd (by omega) ?_
  refine ok_loop (fun z:Int×(List Int)×Int×(List Scheme)=>0≤z.1∧z.1≤i∧TOk ⟨z.2.1,z.2.2.1⟩∧LT z.2.2.2∧z.2.2.2.length=L.length) (fun z=>i.toNat-z.1.toNat) (fun ag z hz ih2=>?_) ⟨by simp,by simpa using i0,hv,hM,hl⟩ (by simp; omega)
  obtain ⟨j,a,b,M⟩:=z
  obtain ⟨j0,j1,hv,hM,hl⟩:=hz
  simp only at j0 j1 hv hM hl
  show Ok (keep_Tape_Law_b7 F i again ag j a b M) _
  unfold keep_Tape_Law_b7
  refine ok_br (fun h2=>?_) (fun _=>?_)
  ·have h2:=of_decide_eq_true h2
   obtain ⟨t3,c,e3,o3⟩:=keep_Tape_One_ok (F:=F) hv (n:=3) (by omega) (by omega)
   have k8 : ∀ (N:List Scheme) (v:Tape),TOk v→LT N→N.length=L.length→Ok (keep_Tape_Law_k8 F j ag v.l_ v.at_ N) fun z=>TOk z.1∧LT z.2∧(z.2=[]∨GoodL 3 z.2):=fun N v hv hN hl=>by
    unfold keep_Tape_Law_k8
    exact ok_gd (i64_of (by omega) (by omega)) (ih2 _ ⟨by simp only; omega,by simp only; omega,hv,hN,hl⟩ (by simp only; omega))
   refine ok_bd e3 (ok_br (fun _=>?_) (fun _=>k8 M t3 o3 hM hl))
   have hj:=hM.st _ (gl_mem (l:=M) (i:=j.toNat) (by omega))
   have hi:=hM.st _ (gl_mem (l:=M) (i:=i.toNat) (by omega))
   have p1:=pow_le hj.num.1 (by have:=hj.num.2; omega)
   refine ok_gd (by omega) (ok_gd (by omega) (ok_gd ⟨i64_of (by omega) (by omega),hj.num.1⟩ (ok_gd (by omega) ?_)))
   have hs1 : ∀ s ∈ M.set i.toNat ⟨(gl M i.toNat).number_,(gl M i.toNat).name_,(gl M i.toNat).cond_,(gl M i.toNat).brackets_,(gl M i.toNat).least_,bor .i64 (gl M i.toNat).excludes_ ((1:Int)*2 ^ (min (gl M j.toNat).number_.toNat (IntKind.bits .i64))),(gl M i.toNat).needs_⟩,ST s:=st_set hM.st (hi.excl _)
   generalize hN:M.set i.toNat _=N at hs1 ⊢
   have hNl:N.length=M.length:=by rw [← hN]; simp
   have hi2:=hs1 _ (gl_mem (l:=N) (i:=i.toNat) (by omega))
   have hj2:=hs1 _ (gl_mem (l:=N) (i:=j.toNat) (by omega))
   have p2:=pow_le hi2.num.1 (by have:=hi2.num.2; omega)
   refine ok_gd (by omega) (ok_gd (by omega) (ok_gd ⟨i64_of (by omega) (by omega),hi2.num.1⟩ (ok_gd (by omega) ?_)))
   exact k8 _ t3 o3 ⟨st_set hs1 (hj2.excl _),by simp; omega⟩ (by simp; omega)
  ·unfold keep_Tape_Law_k9
   exact ok_gd (i64_of (by omega) (by omega)) (ih _ ⟨by simp only; omega,by simp only; omega,hv,hM,hl⟩ (by simp only; omega))
 refine ok_loop (fun z:Int×Int×(List Int)×Int×(List Scheme)=>0≤z.1∧z.1≤5∧0≤z.2.1∧TOk ⟨z.2.2.1,z.2.2.2.1⟩∧(∀ s ∈ z.2.2.2.2,ST s)∧(z.2.2.2.2.length:Int)+z.2.1≤3) (fun z=>z.2.1.toNat) (fun again z hz ih=>?_) ⟨by simpa using n0,by simp only; omega,by simpa using k0,o2,fun s hs=>(List.not_mem_nil hs).elim,by simp; omega⟩ (by simp only; omega)
 obtain ⟨n,k,a,b,L⟩:=z
 obtain ⟨n0,n1,k0,hv,hL,hl⟩:=hz
 simp only at n0 n1 k0 hv hL hl
 show Ok (keep_Tape_Law_b0 F again n k a b L) _
 unfold keep_Tape_Law_b0
 have hLT:LT L:=⟨hL,by omega⟩
 have kf:Ok (keep_Tape_Law_k1 F n k a b L again false) fun z=>TOk z.1∧LT z.2∧(z.2=[]∨GoodL 3 z.2):=by
  unfold keep_Tape_Law_k1
  exact ok_br (fun h=>by cases h) (fun _=>k5 L ⟨a,b⟩ hv hLT)
 refine ok_br (fun h=>?_) (fun _=>kf)
 have h:=of_decide_eq_true h
 by_cases h3:n≤3
 rotate_left
 ·rw [decide_eq_false h3]; exact kf
 rw [decide_eq_true h3]
 unfold keep_Tape_Law_k1
 refine ok_br (fun _=>?_) (fun h=>by cases h)
 obtain ⟨s,es,hs⟩:=ref02_Decimal_digit (F:=F) (by omega) n0 (by omega)
 obtain ⟨t3,x,e3,o3,hx⟩:=keep_Tape_Term_ok 2 (by omega:3≤F) hv (by omega)
 obtain ⟨t4,y,e4,o4,y0,y1⟩:=keep_Tape_Next_ok (F:=F) o3 (n:=4) (by omega) (by omega)
 obtain ⟨t5,c,e5,o5⟩:=keep_Tape_One_ok (F:=F) o4 (n:=2) (by omega) (by omega)
 obtain ⟨t6,m,e6,o6,m0,m1⟩:=keep_Tape_Range_ok (F:=F) o5 (lo:=1) (hi:=3) (by omega) (by omega) (by omega)
 have hsz:ByteArray.size (ByteArray.mk #[115])=1:=rfl
 refine ok_bd es (ok_gd (by rw [hsz]; unfold LIM; omega) (ok_bd e3 (ok_bd e4 (ok_bd e5 (ok_bd e6 ?_)))))
 refine ok_loop (fun z:Int×Int×(List Int)×Int×(List Bracket)=>0≤z.1∧z.1+40*z.2.1≤120∧0≤z.2.1∧TOk ⟨z.2.2.1,z.2.2.2.1⟩∧(z.2.2.2.2.length:Int)+z.2.1≤3) (fun z=>z.2.1.toNat) (fun ag z hz ih2=>?_) ⟨by simp,by simp only; omega,by simp only; omega,o6,by simp; omega⟩ (by simp only; omega)
 obtain ⟨u,q,a2,b2,B⟩:=z
 obtain ⟨u0,u1,q0,hv2,hBl⟩:=hz
 simp only at u0 u1 q0 hv2 hBl
 show Ok (keep_Tape_Law_b2 F n k L s (t3,x) (t4,y) (t5,c) again ag u q a2 b2 B) _
 unfold keep_Tape_Law_b2
 refine ok_br (fun h4=>?_) (fun _=>?_)
 ·have h4:=of_decide_eq_true h4
  obtain ⟨t7,w,e7,o7,w0,w1⟩:=keep_Tape_Range_ok (F:=F) hv2 (lo:=1) (hi:=40) (by omega) (by omega) (by omega)
  obtain ⟨t8,g,e8,o8,g0,g1⟩:=keep_Tape_Next_ok (F:=F) o7 (n:=3000) (by omega) (by omega)
  exact ok_bd e7 (ok_gd (i64_of (by simp only; omega) (by simp only; omega)) (ok_bd e8 (ok_gd (by simp only [List.length_cons,List.length_nil]; unfold LIM; omega) (ok_gd (i64_of (by omega) (by omega)) (ih2 _ ⟨by simp only; omega,by simp only; omega,by simp only; omega,o8,by simp; omega⟩ (by simp only; omega))))))
 ·unfold keep_Tape_Law_k3
  obtain ⟨t9,w,e9,o9,w0,w1⟩:=keep_Tape_Range_ok (F:=F) hv2 (lo:=1) (hi:=2) (by omega) (by omega) (by omega)
  refine ok_gd (by simp only [List.length_cons,List.length_nil]; unfold LIM; omega) (ok_bd e9 (ok_gd (i64_of (by simp only; omega) (by simp only; omega)) ?_))
  unfold keep_Tape_Law_k4
  refine ok_gd (i64_of (by omega) (by omega)) (ih _ ⟨by simp only; omega,by simp only; omega,by simp only; omega,o9,fun s' hs' => ?_,by simp; omega⟩ (by simp only; omega))
  rcases List.mem_append.1 hs' with h5 | h5
  ·exact hL s' h5
  ·rw [List.mem_singleton.1 h5]
   refine ⟨⟨hx, ?_,by simp only; omega⟩,n0,h3⟩
   show ((ByteArray.mk #[115])++s).size≤_
   rw [ByteArray.size_append,hsz]; omega
end
end Go.Ab
end

section
namespace Go.Ab
set_option maxRecDepth 20000
noncomputable section
theorem bit0 (n:Int):bitB 0 n=false:=by
 have h:band .i64 0 1=0:=by decide +kernel
 unfold bitB
 rw [Int.zero_fdiv,h]; rfl
theorem idxI_ext {α β:Type} [Emb α] [Emb β] (p:α→Bool) (q:β→Bool) : ∀ (l:List α) (m:List β),l.length=m.length→(∀ i,i<l.length→p (gl l i)=q (gl m i))→idxI p l=idxI q m:=by
 intro l m hl h
 have e : ∀ (l:List α) (m:List β),l.length=m.length→(∀ i,i<l.length→p (gl l i)=q (gl m i))→l.map p=m.map q:=by
  intro l
  induction l with
  | nil=>intro m hl _; cases m with
   | nil=>rfl
   | cons _ _=>cases hl
  | cons a l ih=>intro m hl h; cases m with
   | nil=>cases hl
   | cons b m=>
    rw [List.map_cons,List.map_cons]
    congr 1
    ·exact h 0 (by simp)
    ·exact ih m (by simpa using hl) fun i hi=>h (i+1) (by simpa using hi)
 have e:=e l m hl h
 have ea:l.any p=m.any q:=by
  have h1:l.any p=(l.map p).any id:=by simp [List.any_map]
  have h2:m.any q=(m.map q).any id:=by simp [List.any_map]
  rw [h1,h2,e]
 have ef:l.findIdx p=m.findIdx q:=by
  have h1:l.findIdx p=(l.map p).findIdx id:=by simp [List.findIdx_map]
  have h2:m.findIdx q=(m.map q).findIdx id:=by simp [List.findIdx_map]
  rw [h1,h2,e]
 unfold idxI
 rw [ea,ef]
structure Like (l m:List Scheme):Prop where
 len:m.length=l.length
 at_ : ∀ i,i<l.length→(gl m i).number_=(gl l i).number_∧(gl m i).name_=(gl l i).name_∧(gl m i).brackets_=(gl l i).brackets_∧(gl m i).least_=(gl l i).least_
theorem sEq_take {l m:List Scheme} (h:Like l m) {i:Nat} (hi:i<l.length):((m.take i).any fun x=>sEq x.name_ (gl m i).name_)=((l.take i).any fun x=>sEq x.name_ (gl l i).name_):=by
 rw [Bool.eq_iff_iff,List.any_eq_true,List.any_eq_true]
 have hl:=h.len
 constructor
 ·rintro ⟨x,hx,e⟩
  obtain ⟨k,hk,rfl⟩:=List.getElem_of_mem hx
  rw [List.length_take] at hk
  have hk2:k<l.length:=by omega
  refine ⟨gl l k,List.mem_take_iff_getElem.2 ⟨k,by omega,(gl_lt hk2).symm⟩, ?_⟩
  rw [List.getElem_take, ← gl_lt (by omega)] at e
  rw [← (h.at_ k hk2).2.1, ← (h.at_ i hi).2.1]; exact e
 ·rintro ⟨x,hx,e⟩
  obtain ⟨k,hk,rfl⟩:=List.getElem_of_mem hx
  rw [List.length_take] at hk
  have hk2:k<l.length:=by omega
  refine ⟨gl m k,List.mem_take_iff_getElem.2 ⟨k,by omega,(gl_lt (by omega)).symm⟩, ?_⟩
  rw [List.getElem_take, ← gl_lt (by omega)] at e
  rw [(h.at_ k hk2).2.1,(h.at_ i hi).2.1]; exact e
theorem oneS_like {d:Nat} {s u:Scheme} (hz0:oneS d s=0) (a1:u.number_=s.number_) (a2:u.name_=s.name_) (a3:u.brackets_=s.brackets_) (a4:u.least_=s.least_) (ht:termE d u.cond_=0) (he:u.excludes_=s.excludes_∨u.excludes_=0):oneS d u=0:=by
 obtain ⟨z1,z2,z3,z4,z5,z6,z7,z8,z9,z10⟩:=oneS_zero hz0
 have e1:0≤u.excludes_∧u.excludes_<65536:=by rcases he with he | he <;> rw [he] <;> omega
 have e2:bitB u.excludes_ s.number_=false:=by
  rcases he with he | he
  ·rw [he]; exact z10
  ·rw [he]; exact bit0 _
 unfold oneS
 rw [a1,a2,a3,a4,ht]
 rw [if_neg (by omega),if_neg (by rw [z5]; exact Bool.noConfusion),if_neg (fun h=>h rfl)]
 rw [if_neg]
 rintro (h1 | h1 | h1 | h1)
 ·rw [z7] at h1; cases h1
 ·omega
 ·omega
 ·rw [e2] at h1; cases h1
theorem mut_like {l m:List Scheme} (h:Like l m) (he0 : ∀ i,i<l.length→(gl m i).excludes_=(gl l i).excludes_∨(gl m i).excludes_=0) {i:Nat} (hm:mutB l (gl l i)=true) (hi:i<l.length) (he:(∀ i,i<l.length→(gl m i).excludes_=(gl l i).excludes_)∨∀ i,i<l.length→(gl m i).excludes_=0):mutB m (gl m i)=true:=by
 have hl:=h.len
 unfold mutB at hm ⊢
 rw [Bool.not_eq_true',List.any_eq_false] at hm ⊢
 intro n hn
 have hmn:=hm n hn
 clear hm hn
 rcases he with he | he
 ·have ei:idxI (hasNo (n:Int)) m=idxI (hasNo (n:Int)) l:=idxI_ext _ _ m l (by omega) fun j hj=>by unfold hasNo; rw [(h.at_ j (by omega)).1]
  obtain ⟨g1,g2,g3⟩:=idxI_lt (hasNo (n:Int)) l
  have e:mutN m (gl m i) n=mutN l (gl l i) n:=by
   unfold mutN
   rw [ei,he i hi,(h.at_ i hi).1]
   by_cases h0:idxI (hasNo (n:Int)) l<0
   ·rw [decide_eq_true h0,Bool.true_or,Bool.true_or]
   ·rw [he _ (by omega)]
  rw [e]; exact hmn
 ·have e:mutN m (gl m i) n=false:=by
   unfold mutN
   rw [he i hi,bit0]; rfl
  rw [e]; exact Bool.noConfusion
theorem Like.good {d:Nat} {l m:List Scheme} (h:Like l m) (hg:GoodL d l) (ht : ∀ i,i<l.length→termE d (gl m i).cond_=0) (he:(∀ i,i<l.length→(gl m i).excludes_=(gl l i).excludes_)∨∀ i,i<l.length→(gl m i).excludes_=0):GoodL d m:=by
 have hl:=h.len
 have b0:=bit0
 refine ⟨by have:=hg.len; omega,fun i hi=>?_,fun i h0 hi=>?_,fun i hi=>?_,fun i hi=>?_⟩
 ·have hi' : i<l.length:=by omega
  have hz:=oneS_zero (hg.one i hi')
  obtain ⟨a1,a2,a3,a4⟩:=h.at_ i hi'
  exact oneS_like (hg.one i hi') a1 a2 a3 a4 (ht i hi') (he.imp (fun h=>h i hi') fun h=>h i hi')
 ·rw [(h.at_ i (by omega)).1,(h.at_ (i-1) (by omega)).1]; exact hg.asc i h0 (by omega)
 ·rw [sEq_take h (by omega)]; exact hg.nam i (by omega)
 ·exact mut_like h (fun k hk=>(he.imp (fun h=>h k hk) fun h=>h k hk)) (hg.mtl i (by omega)) (by omega) he
def tTrue:Term:=⟨1,0,0,[]⟩
theorem td_true (d:Nat):TD (d+1) tTrue:=td_leaf (i64_of (by omega) (by omega)) (i64_of (by omega) (by omega))
theorem gl_setE {α:Type} [Emb α] {l:List α} {i:Nat} {x:α} (hi:i<l.length) (j:Nat):gl (l.set i x) j=if j=i then x else gl l j:=by
 by_cases hj:j<l.length
 ·rw [gl_lt (by simpa using hj),List.getElem_set,gl_lt hj]
  by_cases e:i=j
  ·rw [if_pos e,if_pos e.symm]
  ·rw [if_neg e,if_neg fun h=>e h.symm]
 ·rw [if_neg (by omega)]
  unfold gl
  rw [List.getD_eq_getElem?_getD,List.getD_eq_getElem?_getD,List.getElem?_eq_none (by simp; omega),List.getElem?_eq_none (by omega)]
theorem set_true {L:List Scheme} (hg:GoodL 3 L) (hs : ∀ s ∈ L,SD 3 s) {i:Nat} (hi:i<L.length):GoodL 3 (L.set i { gl L i with cond_:=tTrue })∧∀ s ∈ L.set i { gl L i with cond_:=tTrue },SD 3 s:=by
 refine ⟨Like.good (l:=L) ⟨by simp,fun j hj=>?_⟩ hg (fun j hj=>?_) (.inl fun j hj=>?_),fun s h=>?_⟩
 ·rw [gl_setE hi]; split
  ·rename_i e; subst e; exact ⟨rfl,rfl,rfl,rfl⟩
  ·exact ⟨rfl,rfl,rfl,rfl⟩
 ·rw [gl_setE hi]; split
  ·exact termE_true 2
  ·exact (oneS_zero (hg.one j hj)).2.2.2.2.2.1
 ·rw [gl_setE hi]; split
  ·rename_i e; subst e; rfl
  ·rfl
 ·rcases List.mem_or_eq_of_mem_set h with h1 | h1
  ·exact hs s h1
  ·rw [h1]; have:=hs _ (gl_mem hi); exact ⟨td_true 2,this.name,this.brl⟩
theorem good_first {r:Int} (h0:100≤r) (h1:r≤999):GoodL 3 [⟨0,ByteArray.mk #[115,48],tTrue,[⟨500,r⟩],0,0,false⟩]:=by
 have hbr:brB [⟨500,r⟩]=true:=by
  unfold brB
  have:brOne (prevU [⟨500,r⟩] 0) (gl [(⟨500,r⟩ : Bracket)] 0)=true:=by
   show (decide ((0:Int)<500)&&(decide ((500:Int)≤268435456)&&(decide (0≤r)&&decide (r≤1048576))))=true
   rw [decide_eq_true (by omega:0≤r),decide_eq_true (by omega:r≤1048576)]; rfl
  have e:(List.range [(⟨500,r⟩ : Bracket)].length)=[0]:=rfl
  rw [e,List.any_cons,this]; rfl
 have hn:nameB (ByteArray.mk #[115,48])=true:=by decide +kernel
 have hb:bitB 0 0=false:=bit0 0
 refine ⟨by simp,fun i hi=>?_,fun i h0 hi=>by simp at hi; omega,fun i hi=>?_,fun i hi=>?_⟩
 all_goals
  have:i=0:=by simp at hi; omega
  subst this
 ·show oneS 3 ⟨0,ByteArray.mk #[115,48],tTrue,[⟨500,r⟩],0,0,false⟩=0
  unfold oneS
  rw [if_neg (by simp),if_neg (by simp [hn]),if_neg (by rw [show termE 3 tTrue=0 from termE_true 2]; simp),if_neg (by simp [hbr,hb])]
 ·rfl
 ·show mutB _ ⟨0,ByteArray.mk #[115,48],tTrue,[⟨500,r⟩],0,0,false⟩=true
  unfold mutB
  rw [Bool.not_eq_true',List.any_eq_false]
  intro n _
  unfold mutN
  have:bitB 0 (n:Int)=false:=bit0 n
  show ¬ (bitB 0 (n:Int)&&_)=true
  rw [this]; simp
theorem second_Schemes_ok {F:Nat} (hF:BIG+3≤F) {t:Tape} (ht:TOk t) : ∃ t' L,second_Schemes F t=some (t',L)∧TOk t' ∧ GoodL 3 L∧(∀ s ∈ L,SD 3 s)∧1≤L.length∧L.length≤3:=by
 have hB:BIG≤F:=by omega
 have hB' := hB
 unfold BIG at hB'
 unfold second_Schemes
 obtain ⟨t1,L,e1,o1,hL,hor⟩:=keep_Tape_Law_ok hF ht (most:=3) (by omega) (by omega)
 have k0 : ∀ (L:List Scheme) (v:Tape),TOk v→GoodL 3 L→(∀ s ∈ L,SD 3 s)→1≤L.length→L.length≤3→Ok (second_Schemes_k0 F v.l_ v.at_ L) fun z=>TOk z.1∧GoodL 3 z.2∧(∀ s ∈ z.2,SD 3 s)∧1≤z.2.length∧z.2.length≤3:=by
  intro L v hv hg hs h1 h3
  unfold second_Schemes_k0
  refine ok_loop (fun z:Int×(List Int)×Int×(List Scheme)=>0≤z.1∧z.1≤L.length∧TOk ⟨z.2.1,z.2.2.1⟩∧GoodL 3 z.2.2.2∧(∀ s ∈ z.2.2.2,SD 3 s)∧z.2.2.2.length=L.length) (fun z=>L.length-z.1.toNat) (fun again z hz ih=>?_) ⟨by simp,by simp,hv,hg,hs,rfl⟩ (by simp; omega)
  obtain ⟨i,a,b,M⟩:=z
  obtain ⟨i0,i1,hv,hM,hsM,hl⟩:=hz
  simp only at i0 i1 hv hM hsM hl
  show Ok (second_Schemes_b1 F L again i a b M) _
  unfold second_Schemes_b1
  refine ok_br (fun h=>?_) (fun _=>?_)
  ·have h:=of_decide_eq_true h
   obtain ⟨t2,c,e2,o2,c0,c1⟩:=keep_Tape_Next_ok (F:=F) hv (n:=3) (by omega) (by omega)
   have k2 : ∀ (N:List Scheme),GoodL 3 N→(∀ s ∈ N,SD 3 s)→N.length=L.length→Ok (second_Schemes_k2 F i again t2.l_ t2.at_ N) fun z=>TOk z.1∧GoodL 3 z.2∧(∀ s ∈ z.2,SD 3 s)∧1≤z.2.length∧z.2.length≤3:=fun N hN hsN hlN=>by
    unfold second_Schemes_k2
    exact ok_gd (i64_of (by omega) (by omega)) (ih _ ⟨by simp only; omega,by simp only; omega,o2,hN,hsN,hlN⟩ (by simp only; omega))
   refine ok_bd e2 (ok_br (fun _=>ok_gd (by omega) ?_) (fun _=>k2 M hM hsM hl))
   obtain ⟨g1,g2⟩:=set_true hM hsM (i:=i.toNat) (by omega)
   exact k2 _ g1 g2 (by simp; omega)
  ·unfold second_Schemes_k3
   exact ok_some ⟨hv,hM,hsM,by simp only; omega,by simp only; omega⟩
 have main:Ok (br (((List.length L:Nat):Int)==(0:Int)) ((keep_Tape_Next F t1 (900:Int)).bind fun z=>gd (I64 ((100:Int)+z.2)) <| second_Schemes_k0 F z.1.l_ z.1.at_ ([(⟨(0:Int),(ByteArray.mk #[115,48]),(⟨(1:Int),0,0,[]⟩ : Term),([(⟨(500:Int),((100:Int)+z.2)⟩ : Bracket)]:List Bracket),0,0,false⟩ : Scheme)]:List Scheme)) (second_Schemes_k0 F t1.l_ t1.at_ L)) fun z=>TOk z.1∧GoodL 3 z.2∧(∀ s ∈ z.2,SD 3 s)∧1≤z.2.length∧z.2.length≤3:=by
  refine ok_br (fun _=>?_) (fun h=>?_)
  ·obtain ⟨t2,c,e2,o2,c0,c1⟩:=keep_Tape_Next_ok (F:=F) o1 (n:=900) (by omega) (by omega)
   refine ok_bd e2 (ok_gd (i64_of (by simp only; omega) (by simp only; omega)) (k0 _ t2 o2 (good_first (by simp only; omega) (by simp only; omega)) (fun s hs=>?_) (by simp) (by simp)))
   rw [List.mem_singleton.1 hs]
   exact ⟨td_true 2,by show (2:Nat)≤_; omega,by simp⟩
  ·have h:L.length≠0:=by simpa using h
   rcases hor with h1 | h1
   ·rw [h1] at h; simp at h
   ·exact k0 L t1 o1 h1 (fun s hs=>(hL.st s hs).sd) (by omega) hL.len
 obtain ⟨r,hr,h1,h2,h3,h4,h5⟩:=main
 exact ⟨r.1,r.2,bd_ok e1 hr,h1,h2,h3,h4,h5⟩
theorem law31_regions_ok {F:Nat} (hF:BIG≤F) {t:Tape} (ht:TOk t) {L:List Scheme} (hL:L.length≤100) : ∃ t' R,law31_regions F t L=some (t',R)∧TOk t' ∧ R.length=L.length∧∀ a ∈ R,RegT 8 a:=by
 have hB:=hF
 unfold BIG at hB
 unfold law31_regions
 have h:Ok (loopN (fun again (z:Int×(List Int)×Int×(List Region))=>law31_regions_b0 F L again z.1 z.2.1 z.2.2.1 z.2.2.2) F ((0:Int),t.l_,t.at_,([]:List Region))) fun z=>TOk z.1∧z.2.length=L.length∧∀ a ∈ z.2,RegT 8 a:=by
  refine ok_loop (fun z:Int×(List Int)×Int×(List Region)=>0≤z.1∧z.1≤L.length∧TOk ⟨z.2.1,z.2.2.1⟩∧(z.2.2.2.length:Int)=z.1∧∀ a ∈ z.2.2.2,RegT 8 a) (fun z=>L.length-z.1.toNat) (fun again z hz ih=>?_) ⟨by simp,by simp,ht,by simp,fun a h=>(List.not_mem_nil h).elim⟩ (by simp; omega)
  obtain ⟨i,a,b,M⟩:=z
  obtain ⟨i0,i1,hv,hl,hM⟩:=hz
  simp only at i0 i1 hv hl hM
  show Ok (law31_regions_b0 F L again i a b M) _
  unfold law31_regions_b0
  refine ok_br (fun h=>?_) (fun h=>?_)
  ·have h:=of_decide_eq_true h
   obtain ⟨t2,c,e2,o2,hc⟩:=keep_Tape_Region_ok hF hv (n:=8) (most:=3) (by omega) (by omega) (by omega) (by omega)
   refine ok_bd e2 (ok_gd (by simp only [List.length_cons,List.length_nil]; unfold LIM; omega) (ok_gd (i64_of (by omega) (by omega)) (ih _ ⟨by simp only; omega,by simp only; omega,o2,by simp; omega,fun x hx=>?_⟩ (by simp only; omega))))
   rcases List.mem_append.1 hx with h1 | h1
   ·exact hM x h1
   ·rw [List.mem_singleton.1 h1]; exact hc
  ·have h:=of_decide_eq_false h
   unfold law31_regions_k1
   exact ok_some ⟨hv,by simp only; omega,hM⟩
 obtain ⟨r,hr,h1,h2,h3⟩:=h
 exact ⟨r.1,r.2,hr,h1,h2,h3⟩
theorem asgIn_box {n:Nat} (hn:n≤15) (e:Nat→Bool) : ∀ (os:List Region) (k:Nat) {left:List Rect},Val left→Box n left→(asgIn e os k left).2=0∧Val (asgIn e os k left).1∧Box n (asgIn e os k left).1 ∧
  ∀ x y,inR (asgIn e os k left).1 x y=true↔inR left x y=true∧∀ j,j<os.length→e (k+j)=true→inR (gl os j).rects_ x y=false
 | [],k,left,hv,hb=>⟨rfl,hv,hb,fun x y=>⟨fun h=>⟨h,fun j hj=>by simp at hj⟩,fun h=>h.1⟩⟩
 | o::os,k,left,hv,hb=>by
  cases he:e k with
  | false=>
   rw [asgIn_f he]
   obtain ⟨h1,h2,h3,h4⟩:=asgIn_box hn e os (k+1) hv hb
   refine ⟨h1,h2,h3,fun x y=>(h4 x y).trans ?_⟩
   constructor
   ·rintro ⟨g1,g2⟩
    refine ⟨g1,fun j hj hej=>?_⟩
    cases j with
    | zero=>rw [Nat.add_zero,he] at hej; cases hej
    | succ j=>exact g2 j (by simpa using hj) (by rwa [show k+1+j=k+(j+1) by omega])
   ·rintro ⟨g1,g2⟩
    exact ⟨g1,fun j hj hej=>g2 (j+1) (by simpa using hj) (by rwa [show k+(j+1)=k+1+j by omega])⟩
  | true=>
   have hbw:Box n (wd left o.rects_):=(Canon.cn (fin_wd left o.rects_)).box fun x y h=>by
    rw [show (cn fun x y=>keepB (inR left x y) (inR o.rects_ x y) 3)=wd left o.rects_ from rfl,inR_wd,Bool.and_eq_true] at h
    exact hb.in h.1
   have hlen : ¬ 120<(wd left o.rects_).length:=by
    have:=half15 (Canon.cn (fin_wd left o.rects_)) hbw hn
    exact Nat.not_lt.2 this
   rw [asgIn_t he hlen]
   obtain ⟨h1,h2,h3,h4⟩:=asgIn_box hn e os (k+1) (wd_val hv hlen) hbw
   refine ⟨h1,h2,h3,fun x y=>(h4 x y).trans ?_⟩
   rw [inR_wd,Bool.and_eq_true,Bool.not_eq_true']
   constructor
   ·rintro ⟨⟨g1,g0⟩,g2⟩
    refine ⟨g1,fun j hj hej=>?_⟩
    cases j with
    | zero=>exact g0
    | succ j=>exact g2 j (by simpa using hj) (by rwa [show k+1+j=k+(j+1) by omega])
   ·rintro ⟨g1,g2⟩
    exact ⟨⟨g1,g2 0 (by simp) (by simpa using he)⟩,fun j hj hej=>g2 (j+1) (by simpa using hj) (by rwa [show k+(j+1)=k+1+j by omega])⟩
structure AS (n:Nat) (l:List Scheme) (due G:List Region):Prop where
 len:G.length=l.length
 val : ∀ i,i<l.length→Val (gl G i).rects_
 box : ∀ i,i<l.length→Box n (gl G i).rects_
 sq : ∀ i,i<l.length→∀ x y,inR (gl G i).rects_ x y=true↔inR (gl due i).rects_ x y=true∧∀ k,k<i→exB l i k=true→inR (gl G k).rects_ x y=false
theorem gl_app_l {α:Type} [Emb α] {a b:List α} {i:Nat} (h:i<a.length):gl (a++b) i=gl a i:=by
 rw [gl_lt (by simp; omega),gl_lt h,List.getElem_append_left h]
theorem asgR_box {n:Nat} (hn:n≤15) (l:List Scheme) (due:List Region) (hlen:l.length=due.length) (hd : ∀ a ∈ due,Val a.rects_∧Box n a.rects_) : ∀ (m:Nat) (outs:List Region),outs.length+m=l.length →
  (∀ i,i<outs.length→Val (gl outs i).rects_∧Box n (gl outs i).rects_∧∀ x y,inR (gl outs i).rects_ x y=true↔inR (gl due i).rects_ x y=true∧∀ k,k<i→exB l i k=true→inR (gl outs k).rects_ x y=false)→∃ G,asgR l due m outs=(G,0)∧AS n l due G
 | 0,outs,hm,h=>⟨outs,rfl,by omega,fun i hi=>(h i (by omega)).1,fun i hi=>(h i (by omega)).2.1,fun i hi=>(h i (by omega)).2.2⟩
 | m+1,outs,hm,h=>by
  obtain ⟨v1,b1⟩:=hd _ (gl_mem (l:=due) (i:=outs.length) (by omega))
  obtain ⟨h1,h2,h3,h4⟩:=asgIn_box hn (exB l outs.length) outs 0 v1 b1
  unfold asgR
  rw [if_neg (by simpa using h1)]
  refine asgR_box hn l due hlen hd m _ (by simp; omega) fun i hi=>?_
  by_cases hio:i<outs.length
  ·obtain ⟨g1,g2,g3⟩:=h i hio
   rw [gl_app_l hio]
   refine ⟨g1,g2,fun x y=>(g3 x y).trans ⟨fun ⟨a,b⟩=>⟨a,fun k hk he=>?_⟩,fun ⟨a,b⟩=>⟨a,fun k hk he=>?_⟩⟩⟩
   ·rw [gl_app_l (by omega)]; exact b k hk he
   ·have:=b k hk he; rwa [gl_app_l (by omega)] at this
  ·have:i=outs.length:=by simp at hi; omega
   subst this
   rw [gl_last _ _ rfl]
   refine ⟨h2,h3,fun x y=>(h4 x y).trans ⟨fun ⟨a,b⟩=>⟨a,fun k hk he=>?_⟩,fun ⟨a,b⟩=>⟨a,fun k hk he=>?_⟩⟩⟩
   ·rw [gl_app_l hk]; exact b k hk (by rwa [Nat.zero_add])
   ·have:=b k hk (by rwa [Nat.zero_add] at he); rwa [gl_app_l hk] at this
theorem asgC_box {n d:Nat} (hn:n≤15) {l:List Scheme} {due:List Region} (hg:GoodL d l) (hlen:l.length=due.length) (hd : ∀ a ∈ due,Val a.rects_∧Box n a.rects_) : ∃ G,asgC d l due=(G,0)∧AS n l due G:=by
 unfold asgC
 rw [if_neg (by simpa using chkE_zero.2 ⟨hg,hlen,fun a ha=>(hd a ha).1⟩)]
 exact asgR_box hn l due hlen hd l.length [] (by simp) fun i hi=>by simp at hi
end
end Go.Ab
end

section
namespace Go.Ab
set_option maxRecDepth 20000
noncomputable section
def exL:List Scheme:=[⟨1,ByteArray.mk #[97],⟨1,0,0,[]⟩,[⟨9,1⟩],0,4,false⟩,⟨2,ByteArray.mk #[98],⟨1,0,0,[]⟩,[⟨9,1⟩],0,2,false⟩]
def exR:List Region:=[⟨[⟨0,0,5,2⟩]⟩,⟨[⟨0,0,5,2⟩]⟩]
theorem exL_sd : ∀ s ∈ exL,SD 3 s:=fun s hs=>by
 unfold exL at hs
 simp only [List.mem_cons,List.not_mem_nil,or_false] at hs
 rcases hs with rfl | rfl <;> exact ⟨td_true 2,by show (1:Nat)≤_; omega,by simp⟩
theorem exL_bits:bitB 4 1=false∧bitB 4 2=true∧bitB 2 1=true∧bitB 2 2=false:=by decide +kernel
theorem exL_good:GoodL 3 exL:=by
 have h:(chkS 3 exL).2=0:=by
  have e1:oneS 3 (gl exL 0)=0:=by
   show oneS 3 ⟨1,ByteArray.mk #[97],tTrue,[⟨9,1⟩],0,4,false⟩=0
   have hn:nameB (ByteArray.mk #[97])=true:=by decide +kernel
   have hb:brB [⟨9,1⟩]=true:=by decide +kernel
   unfold oneS
   rw [show termE 3 tTrue=0 from termE_true 2,if_neg (by simp),if_neg (by rw [hn]; simp),if_neg (by simp),if_neg (by rw [hb]; simp [exL_bits.1])]
  have e2:oneS 3 (gl exL 1)=0:=by
   show oneS 3 ⟨2,ByteArray.mk #[98],tTrue,[⟨9,1⟩],0,2,false⟩=0
   have hn:nameB (ByteArray.mk #[98])=true:=by decide +kernel
   have hb:brB [⟨9,1⟩]=true:=by decide +kernel
   unfold oneS
   rw [show termE 3 tTrue=0 from termE_true 2,if_neg (by simp),if_neg (by rw [hn]; simp),if_neg (by simp),if_neg (by rw [hb]; simp [exL_bits.2.2.2])]
  refine chkS_zero.2 ⟨by decide,fun i hi=>?_,fun i h0 hi=>?_,fun i hi=>?_,fun i hi=>?_⟩
  all_goals
   have hi:i=0∨i=1:=by have:exL.length=2:=rfl; omega
   rcases hi with rfl | rfl
  ·exact e1
  ·exact e2
  ·omega
  ·decide
  ·rfl
  ·decide +kernel
  ·decide +kernel
  ·decide +kernel
 exact chkS_zero.1 h
theorem exR_reg : ∀ a ∈ exR,Val a.rects_∧Box 5 a.rects_:=fun a ha=>by
 unfold exR at ha
 simp only [List.mem_cons,List.not_mem_nil,or_false,or_self] at ha
 subst ha
 have hb:Box 5 [(⟨0,0,5,2⟩ : Rect)]:=fun r hr=>by rw [List.mem_singleton.1 hr]; simp
 exact ⟨⟨by simp,hb.prop (by omega),canon_one (by simp) (by simp)⟩,hb⟩
theorem val_eq {a b:List Rect} (ha:Val a) (hb:Val b) (h : ∀ x y,inR a x y=inR b x y):a=b:=by
 rw [ha.2.2.eq_cn,hb.2.2.eq_cn]
 congr 1
 funext x y
 exact h x y
theorem val_nil {a:List Rect} (ha:Val a) (h : ∀ x y,inR a x y=false):a=[]:=val_eq ha Val.nil fun x y=>by rw [h x y]; rfl
theorem law31_awake_ok {F:Nat} (hF:BIG+3≤F):law31_awake F=some true:=by
 have hB:BIG≤F:=by omega
 obtain ⟨G,hG,hAS⟩:=asgC_box (n:=5) (d:=3) (by omega) exL_good (due:=exR) rfl exR_reg
 have g0:=hAS.sq 0 (by decide)
 have g1:=hAS.sq 1 (by decide)
 have v0:=hAS.val 0 (by decide)
 have v1:=hAS.val 1 (by decide)
 have hl:G.length=2:=hAS.len
 have r0:(gl G 0).rects_=[⟨0,0,5,2⟩]:=val_eq v0 (exR_reg _ (by unfold exR; simp)).1 fun x y=>by
  rw [Bool.eq_iff_iff]
  exact (g0 x y).trans ⟨fun h=>h.1,fun h=>⟨h,fun k hk=>absurd hk (Nat.not_lt_zero k)⟩⟩
 have r1:(gl G 1).rects_=[]:=val_nil v1 fun x y=>by
  cases h:inR (gl G 1).rects_ x y with
  | false=>rfl
  | true=>
   obtain ⟨h1,h2⟩:=(g1 x y).1 h
   have:=h2 0 (by omega) exL_bits.2.2.1
   rw [r0] at this
   rw [show inR [(⟨0,0,5,2⟩ : Rect)] x y=inR (gl exR 1).rects_ x y from rfl,h1] at this
   cases this
 have hA:exclusion_Assign F exL exR=some (G,0):=(exclusion_Assign_ok (d:=3) (by omega) hF exL_sd (by decide)).trans (congrArg some hG)
 have a0:area (gl G 0).rects_=10:=by rw [r0]; rfl
 have a1:area (gl G 1).rects_=0:=by rw [r1]; rfl
 have hLs:exclusion_Lost F exL exR=some ([0,10],0):=by
  refine (exclusion_Lost_ok (d:=3) (by omega) hF exL_sd (by decide)).trans ?_
  unfold lostC
  rw [hG,if_neg (by simp)]
  have e:List.range exL.length=[0,1]:=rfl
  rw [e]
  simp only [List.map_cons,List.map_nil,a0,a1]
  rfl
 have hOn : ∃ r,exclusion_Once F exL exR=some r∧r.2.2.2=0∧r.2.2.1=false:=by
  refine ⟨_,exclusion_Once_ok (d:=3) (by omega) hF exL_sd (by decide), ?_⟩
  unfold onceC
  have hc:chkE 3 exL exR=0:=chkE_zero.2 ⟨exL_good,rfl,fun a ha=>(exR_reg a ha).1⟩
  rw [if_neg (by simpa using hc)]
  have hv:=exR_reg _ (by unfold exR; simp:(⟨[⟨0,0,5,2⟩]⟩ : Region) ∈ exR)
  have hm:meetB (gl exR 0) (gl exR 1)=true:=by
   show meetB ⟨[⟨0,0,5,2⟩]⟩ ⟨[⟨0,0,5,2⟩]⟩=true
   unfold meetB
   rw [valB_true hv.1]; rfl
  have hh:(hitK exL exR 0).isSome=true:=by
   unfold hitK
   rw [List.find?_isSome]
   refine ⟨1,by decide, ?_⟩
   rw [hm,show exB exL 0 1=true from exL_bits.2.1]; rfl
  unfold onceG
  have hf:(List.range exL.length).find? (fun i=>(hitK exL exR i).isSome)=some 0:=List.find?_range_eq_some.2 ⟨hh,by decide,fun j hj=>absurd hj (Nat.not_lt_zero j)⟩
  rw [hf]
  exact ⟨rfl,rfl⟩
 obtain ⟨r,hr,hr1,hr2⟩:=hOn
 unfold law31_awake
 refine bd_ok hA (bd_ok hLs (bd_ok hr ?_))
 have k0:law31_awake_k0 F true=some true:=rfl
 refine br_tt rfl (br_tt (by simp [hl]) (gd_ok (by simp only; omega) (bd_ok (ref04_Same_ok hB (by show (1:Nat)≤LIM; unfold LIM; omega)) ?_)))
 refine br_tt (by simpa using r0) (gd_ok (by simp only; omega) (bd_ok (region_Area_ok hB v0) (br_tt (by simpa using a0) (gd_ok (by simp only; omega) (br_tt ?_ (br_tt rfl ?_))))))
 ·show (((List.length (gl G 1).rects_:Nat):Int)==0)=true
  rw [r1]; rfl
 ·refine bd_ok (ref24_Ints_refl hB (by simp)) (br_tt rfl (br_tt (by simp [hr1]) ?_))
  rw [hr2]; rfl
end
end Go.Ab
end

section
namespace Go.Ab
set_option maxRecDepth 20000
noncomputable section
theorem SD.up {d e:Nat} (h:d≤e) {s:Scheme} (hs:SD d s):SD e s:=⟨hs.cond.up h,hs.name,hs.brl⟩
theorem law31_ExclusionAnswers_ok {d F:Nat} (h3:3≤d) (hd:d≤2000000) (hF:BIG+d≤F) (l:List Int) {raw:List Scheme} (hraw : ∀ s ∈ raw,SD d s) (x:List Region):law31_ExclusionAnswers F l raw x=some true:=by
 have hF3:BIG+3≤F:=by omega
 have hB:BIG≤F:=by omega
 have hB' := hB
 unfold BIG at hB'
 have haw:((law31_awake F).bind fun z=>some z)=some true:=bd_ok (law31_awake_ok hF3) rfl
 unfold law31_ExclusionAnswers
 have h0:law31_ExclusionAnswers_k0 F l raw x true=some true:=by
  unfold law31_ExclusionAnswers_k0
  exact br_tt rfl haw
 refine br_ok (fun _=>h0) (fun hr=>?_)
 cases hx:decide ((10:Int)<((List.length x:Nat):Int)) with
 | true=>exact h0
 | false=>
 have hx:=of_decide_eq_false hx
 unfold law31_ExclusionAnswers_k0
 refine br_ff rfl ?_
 obtain ⟨t0,e0,o0⟩:=keep_New_ok F l
 obtain ⟨t1,L,e1,o1,hg,hs,l1,l3⟩:=second_Schemes_ok hF3 o0
 obtain ⟨t2,R,e2,o2,hlR,hR⟩:=law31_regions_ok hB o1 (L:=L) (by omega)
 obtain ⟨t3,k,e3,o3,k0,k1⟩:=keep_Tape_Next_ok (F:=F) o2 (n:=((List.length (([]:List Region)++R):Nat):Int)) (by simp; omega) (by simp; omega)
 obtain ⟨t4,b,e4,o4,_⟩:=keep_Tape_Broken_ok hB o3 (n:=8) (most:=3) (by omega) (by omega) (by omega) (by omega)
 refine bd_ok e0 (bd_ok e1 (bd_ok e2 (gd_ok (by simp only; unfold LIM; omega) (bd_ok e3 (bd_ok e4 (gd_ok ⟨k0,k1⟩ ?_))))))
 have hds : ∀ j,j<3→(gl ([R,(List.set (([]:List Region)++R) k.toNat b),x]:List (List Region)) j).length≤1000000:=fun j hj=>by
  rcases j with _ | _ | _ | j
  ·show R.length≤_; omega
  ·show (List.set (([]:List Region)++R) k.toNat b).length≤_; simp; omega
  ·show x.length≤_; omega
  ·omega
 have hll : ∀ j,j<2→(gl ([L,raw]:List (List Scheme)) j).length≤1000000:=fun j hj=>by
  have hr:=of_decide_eq_false hr
  rcases j with _ | _ | j
  ·show L.length≤_; omega
  ·show raw.length≤_; omega
  ·omega
 have hlw : ∀ j,j<2→∀ s ∈ gl ([L,raw]:List (List Scheme)) j,SD d s:=fun j hj=>by
  rcases j with _ | _ | j
  ·exact fun s h=>(hs s h).up h3
  ·exact hraw
  ·omega
 refine (scan_ok (c:=some false) (y:=some true) 3 (fun _=>false) (fun again i _ hp=>by cases hp) (fun again i z hi _ hz=>?_) (fun again=>?_) (by omega)).trans ?_
 ·show law31_ExclusionAnswers_b1 F raw x (t1,L) (t2,R) (t3,k) (t4,b) again (i:Int)=_
  unfold law31_ExclusionAnswers_b1
  refine br_tt (decide_eq_true (by show (i:Int)<3; omega)) (gd_ok ⟨by omega,by show (i:Int)<3; omega⟩ ?_)
  have hdue:=hds i hi
  refine (scan_ok (c:=some false) (y:=z) 2 (fun _=>false) (fun again2 j _ hp=>by cases hp) (fun again2 j z2 hj _ hz2=>?_) (fun again2=>?_) (by omega)).trans ?_
  ·show law31_ExclusionAnswers_b2 F raw x (t1,L) (t2,R) (t3,k) (t4,b) (i:Int) again again2 (j:Int)=_
   unfold law31_ExclusionAnswers_b2
   have hl:=hlw j hj
   have ei:((i:Nat):Int).toNat=i:=Int.toNat_natCast i
   have ej:((j:Nat):Int).toNat=j:=Int.toNat_natCast j
   have k5:law31_ExclusionAnswers_k5 F (j:Int) again2 false=z2:=by
    unfold law31_ExclusionAnswers_k5
    exact br_ff rfl (gd_ok (i64_of (by omega) (by omega)) hz2)
   refine br_tt (decide_eq_true (by show (j:Int)<2; omega)) (gd_ok ⟨by omega,by show (j:Int)<2; omega⟩ ?_)
   have k4:law31_ExclusionAnswers_k4 F raw x (t1,L) (t2,R) (t3,k) (t4,b) (i:Int) (j:Int) again2 false=z2:=by
    unfold law31_ExclusionAnswers_k4
    simp only [ei,ej]
    generalize gl ([L,raw]:List (List Scheme)) j=S at hl
    generalize gl ([R,(List.set (([]:List Region)++R) k.toNat b),x]:List (List Region)) i=D at hdue
    refine br_ff rfl (bd_ok (exclusion_Lost_ok hd hF hl hdue) (bd_ok (ref31_Lost_ok hd hF hl hdue) (br_ff (by simp) (bd_ok (ref24_Ints_refl hB ?_) k5))))
    unfold lostC
    split
    ·simp
    ·rename_i h
     have h1:=(asgC_ok (d:=d) (l:=S) (due:=D)).2.1 (by omega)
     have h2:=h1.2.1.len
     simp
     omega
   have k3:law31_ExclusionAnswers_k3 F raw x (t1,L) (t2,R) (t3,k) (t4,b) (i:Int) (j:Int) again2 false=z2:=by
    unfold law31_ExclusionAnswers_k3
    simp only [ei,ej]
    generalize gl ([L,raw]:List (List Scheme)) j=S at hl
    generalize gl ([R,(List.set (([]:List Region)++R) k.toNat b),x]:List (List Region)) i=D at hdue
    refine br_ff rfl (bd_ok (exclusion_Once_ok hd hF hl hdue) (bd_ok (ref31_Once_ok hd hF hl hdue) (br_ff (by simp) (br_ff (by simp) (br_ff (by simp) ?_)))))
    rw [bne_self_eq_false]
    exact k4
   simp only [ei,ej]
   have hl2:=hll j hj
   generalize gl ([L,raw]:List (List Scheme)) j=S at hl hl2
   generalize gl ([R,(List.set (([]:List Region)++R) k.toNat b),x]:List (List Region)) i=D at hdue
   have hv:=(asgC_ok (d:=d) (l:=S) (due:=D)).1
   have hlen:(asgC d S D).1.length≤1000000:=Nat.le_trans (asgC_ok (d:=d) (l:=S) (due:=D)).2.2 hl2
   refine bd_ok (exclusion_Assign_ok hd hF hl hdue) (bd_ok (ref31_Assign_ok hd hF hl hdue) (br_ff (by simp) (bd_ok (ref04_All_refl hB hlen fun a ha=>?_) k3)))
   have:=(hv a ha).1
   omega
  ·show law31_ExclusionAnswers_b2 F raw x (t1,L) (t2,R) (t3,k) (t4,b) (i:Int) again again2 (2:Int)=_
   unfold law31_ExclusionAnswers_b2
   refine br_ff (by rfl) ?_
   unfold law31_ExclusionAnswers_k6
   exact gd_ok (i64_of (by omega) (by omega)) hz
  ·rw [if_neg]
   rw [Bool.not_eq_true,List.any_eq_false]; intro x _; simp
 ·show law31_ExclusionAnswers_b1 F raw x (t1,L) (t2,R) (t3,k) (t4,b) again (3:Int)=_
  unfold law31_ExclusionAnswers_b1
  refine br_ff (by rfl) ?_
  exact haw
 ·rw [if_neg]
  rw [Bool.not_eq_true,List.any_eq_false]; intro x _; simp
end
end Go.Ab
end
