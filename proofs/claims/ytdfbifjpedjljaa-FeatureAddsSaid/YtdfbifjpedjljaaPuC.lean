/- The code that the statement reaches as plain programs, and what they compute: no condition on the program. -/
import Derived.Test.YtdfbifjpedjljaaPuB
import Derived.Test.YtdfbifjpedjljaaAbD
import Derived.Test.YtdfbifjpedjljaaAbC
import Derived.Test.YtdfbifjpedjljaaPuA
set_option linter.unusedVariables false
set_option linter.unusedSimpArgs false
section
namespace Go.Ab
set_option linter.unusedVariables false
set_option maxRecDepth 100000
noncomputable section
def feature_Add (F:Nat) (a:(List Feature)) (b:Feature):Option ((List Feature)×Int):=
 (feature_Check F a).bind fun c=>
 br (c != (0:Int)) (some ([],c)) ((feature_single F b).bind fun d=>
 br (d != (0:Int)) (some ([],d)) ((slices_BinarySearchFunc_Feature F a b (fun y0 y1=>feature_compare F y0 y1)).bind fun e=>
 br e.2 (some ([],(6:Int))) (br (((List.length a:Nat):Int)==(60:Int)) (some ([],(1:Int))) ((feature_all F a).bind fun i=>
 (feature_copied F b).bind fun j=>
 (insP F i e.1 ([j]:List Feature)).bind fun k=>
 some (k,(0:Int))))))
end
end Go.Ab
end

section
namespace Go.Ab
set_option linter.unusedVariables false
set_option maxRecDepth 100000
noncomputable section
def law09_FeatureAdds_k2 (F:Nat) (a:Bool):Option (Bool):=
 some a
def law09_FeatureAdds_k1 (F:Nat) (b:Tape×(List Feature)) (a:(List Feature)):Option (Bool):=
 (ref09_Same F b.2 a).bind fun c=>
 br c ((law09_awake F).bind fun d=>
 law09_FeatureAdds_k2 F d) (law09_FeatureAdds_k2 F false)
def law09_FeatureAdds_b0 (F:Nat) (b:Tape×(List Feature)) (e:((List Feature)×Int)→Option (Bool)) (c:(List Feature)) (a:Int):Option (Bool):=
 br (decide ((0:Int)≤a)) (gd (0≤a∧a<((List.length b.2:Nat):Int)) <|
 (feature_Add F c (gl b.2 a.toNat)).bind fun d=>
 br (d.2 != (0:Int)) (some false) (gd (I64 (a-(1:Int))) <|
 e (d.1,(a-(1:Int))))) (law09_FeatureAdds_k1 F b c)
def law09_FeatureAdds (F:Nat) (b:(List Int)):Option (Bool):=
 (keep_New F b).bind fun c=>
 (keep_Tape_Layer F c (5:Int)).bind fun a=>
 gd (I64 (((List.length a.2:Nat):Int)-(1:Int))) <|
 loopN (fun again (z:(List Feature)×Int)=>law09_FeatureAdds_b0 F a again z.1 z.2) F (([]:List Feature),(((List.length a.2:Nat):Int)-(1:Int)))
end
end Go.Ab
end

section
namespace Go.Ab
def BIG:Nat:=1099511627776
theorem gd_ok {R:Type} {p:Prop} [Decidable p] {x:Option R} {y:Option R} (h:p) (k:x=y):gd p x=y:=by unfold gd; rw [if_pos h]; exact k
theorem bd_ok {α R:Type} {x:Option α} {f:α→Option R} {a:α} {y:Option R} (h:x=some a) (k:f a=y):x.bind f=y:=by rw [h]; exact k
theorem br_ok {R:Type} {b:Bool} {x y z:Option R} (ht:b=true→x=z) (hf:b=false→y=z):br b x y=z:=by cases b; exact hf rfl; exact ht rfl
theorem br_tt {R:Type} {b:Bool} {x y z:Option R} (h:b=true) (k:x=z):br b x y=z:=by subst h; exact k
theorem br_ff {R:Type} {b:Bool} {x y z:Option R} (h:b=false) (k:y=z):br b x y=z:=by subst h; exact k
theorem br_ite {R:Type} (b:Bool) (x y:Option R):br b x y=if b=true then x else y:=by cases b <;> rfl
theorem loopN_ok {σ R:Type} {body:(σ→Option R)→σ→Option R} {y:Option R} (I:σ→Prop) (μ:σ→Nat)
  (round : ∀ again z,I z→(∀ z',I z' → μ z' < μ z→again z' = y)→body again z=y) : ∀ {n:Nat} {z:σ},I z→μ z<n→loopN body n z=y:=by
 intro n
 induction n with
 | zero=>intro z _ h; omega
 | succ n ih=>
  intro z hz hμ
  exact round (loopN body n) z hz fun z' hz' hlt=>ih hz' (by omega)
section
variable {α:Type} [Emb α]
theorem gl_lt {l:List α} {i:Nat} (h:i<l.length):gl l i=l[i]:=by simp [gl,List.getD_eq_getElem?_getD,h]
theorem gl_mem {l:List α} {i:Nat} (h:i<l.length):gl l i ∈ l:=by rw [gl_lt h]; exact List.getElem_mem h
theorem drop_gl {l:List α} {i:Nat} (h:i<l.length):l.drop i=gl l i::l.drop (i+1):=by rw [gl_lt h]; exact List.drop_eq_getElem_cons h
theorem take_gl {l:List α} {i:Nat} (h:i<l.length):l.take (i+1)=l.take i++[gl l i]:=by rw [gl_lt h]; exact List.take_succ_eq_append_getElem h
end
theorem i64_of {n:Int} (h1 : -4611686018427387904≤n) (h2:n≤4611686018427387904):I64 n:=⟨by omega,by omega⟩
theorem range_ok {α R:Type} [Emb α] {l:List α} {body:(Int→Option R)→Int→Option R} (y:List α→Option R)
  (step : ∀ again (i:Nat),i<l.length→again ((i:Int)+1)=y (l.drop (i+1))→body again (i:Int)=y (gl l i::l.drop (i+1)))
  (stop : ∀ again,body again (l.length:Int)=y []) {F:Nat} (hF:l.length<F):loopN body F 0=y l:=by
 have key : ∀ (n:Nat) (i:Nat),i≤l.length→l.length-i<n→loopN body n (i:Int)=y (l.drop i):=by
  intro n
  induction n with
  | zero=>intro i _ h; omega
  | succ n ih=>
   intro i hi hn
   show body (loopN body n) (i:Int)=_
   by_cases h:i<l.length
   ·rw [drop_gl h]
    refine step _ i h ?_
    have:=ih (i+1) h (by omega)
    rw [← this]; congr 1
   ·have:i=l.length:=by omega
    subst this
    rw [List.drop_length]; exact stop _
 have:=key F 0 (Nat.zero_le _) (by omega)
 rw [List.drop_zero] at this
 exact this
theorem range_st {α σ R:Type} [Emb α] {l:List α} {body:(Int×σ→Option R)→Int×σ→Option R} (I:List α→σ→Prop) (y:List α→σ→Option R)
  (step : ∀ again (i:Nat) (s:σ),i<l.length→I (gl l i::l.drop (i+1)) s→(∀ s',I (l.drop (i+1)) s' → again ((i:Int)+1,s')=y (l.drop (i+1)) s')→body again ((i:Int),s)=y (gl l i::l.drop (i+1)) s)
  (stop : ∀ again (s:σ),I [] s→body again ((l.length:Int),s)=y [] s) {F:Nat} (hF:l.length<F) {s0:σ} (h0:I l s0):loopN body F (0,s0)=y l s0:=by
 have key : ∀ (n:Nat) (i:Nat) (s:σ),i≤l.length→l.length-i<n→I (l.drop i) s→loopN body n ((i:Int),s)=y (l.drop i) s:=by
  intro n
  induction n with
  | zero=>intro i _ _ h; omega
  | succ n ih=>
   intro i s hi hn hI
   show body (loopN body n) ((i:Int),s)=_
   by_cases h:i<l.length
   ·rw [drop_gl h] at hI ⊢
    refine step _ i s h hI fun s' hs' => ?_
    have:=ih (i+1) s' h (by omega) hs'
    rw [← this]; congr 1
   ·have:i=l.length:=by omega
    subst this
    rw [List.drop_length] at hI ⊢; exact stop _ s hI
 have:=key F 0 s0 (Nat.zero_le _) (by omega) (by rwa [List.drop_zero])
 rw [List.drop_zero] at this
 exact this
theorem and_br {R:Type} (K:Bool→Option R) (b x:Bool):br b (K x) (K false)=K (b&&x):=by cases b <;> rfl
theorem or_br {R:Type} (K:Bool→Option R) (b x:Bool):br b (K true) (K x)=K (b||x):=by cases b <;> rfl
theorem any_drop {α:Type} [Emb α] {l:List α} {i:Nat} (h:i<l.length) (p:α→Bool):(l.drop i).any p=(p (gl l i)||(l.drop (i+1)).any p):=by rw [drop_gl h]; rfl
theorem lt_dec {a b:Nat} (h:a<b):decide ((a:Int)<((b:Nat):Int))=true:=by simpa using h
theorem not_lt_dec (a:Nat):decide ((a:Int)<((a:Nat):Int))=false:=by simp
theorem gd_G {R:Type} {p:Prop} [Decidable p] {x:Option R} {y:Option R} (h:p:=by first | omega | exact i64_of (by omega) (by omega) | (simp only [LIM,BIG,List.length_append,List.length_cons,List.length_nil,List.length_map,List.length_take,List.length_drop,List.length_set] at *; omega)) (k:x=y):gd p x=y:=gd_ok h k
end Go.Ab
end

section
namespace Go.Ab
def Asc (l:List Int):Prop:=l.Pairwise (· < ·)
theorem Asc.at_lt {l:List Int} (h:Asc l) {i j:Nat} (hij:i<j) (hj:j<l.length):gl l i<gl l j:=by
 rw [gl_lt (by omega),gl_lt hj]
 exact List.pairwise_iff_getElem.1 h i j (by omega) hj hij
theorem mem_gl {l:List Int} {v:Int} (h:v ∈ l) : ∃ j,j<l.length∧gl l j=v:=by
 obtain ⟨j,hj,e⟩:=List.getElem_of_mem h
 exact ⟨j,hj,by rw [gl_lt hj]; exact e⟩
theorem Asc.gap {c:List Int} (h:Asc c) {i:Nat} (hi:i+1<c.length) {t v:Int} (h1:gl c i≤t) (h2:t<gl c (i+1)) (hv:v ∈ c):(v≤t↔v≤gl c i):=by
 obtain ⟨j,hj,rfl⟩:=mem_gl hv
 rcases Nat.lt_or_ge i j with hij | hij
 ·rcases Nat.lt_or_ge (i+1) j with h3 | h3
  ·have:=h.at_lt h3 hj
   have:=h.at_lt (show i<i+1 by omega) hi
   omega
  ·have:j=i+1:=by omega
   subst this
   have:=h.at_lt (show i<i+1 by omega) hi
   omega
 ·rcases Nat.lt_or_ge j i with h3 | h3
  ·have:=h.at_lt h3 (by omega)
   omega
  ·have:j=i:=by omega
   subst this; omega
def CovX (c:List Int) (l:List Rect):Prop:=∀ r ∈ l,r.left_ ∈ c∧r.right_ ∈ c
def CovY (c:List Int) (l:List Rect):Prop:=∀ r ∈ l,r.low_ ∈ c∧r.high_ ∈ c
theorem inR_congr {l:List Rect} {x y x' y' : Int} (h : ∀ r ∈ l,r.has x y=r.has x' y'):inR l x y=inR l x' y' := by
 induction l with
 | nil=>rfl
 | cons r l ih=>
  simp only [inR,List.any_cons] at ih ⊢
  rw [h r (by simp),ih fun q hq=>h q (by simp [hq])]
theorem inR_false {l:List Rect} {x y:Int} (h : ∀ r ∈ l,r.has x y=false):inR l x y=false:=by
 induction l with
 | nil=>rfl
 | cons r l ih=>
  simp only [inR,List.any_cons] at ih ⊢
  rw [h r (by simp),ih fun q hq=>h q (by simp [hq])]; rfl
theorem has_iff (r:Rect) (x y:Int):r.has x y=true↔r.left_≤x∧x<r.right_∧r.low_≤y∧y<r.high_:=by simp [Rect.has,and_assoc]
theorem has_eq {r:Rect} {x y x' y' : Int} (h:(r.left_≤x∧x<r.right_∧r.low_≤y∧y<r.high_)↔(r.left_≤x' ∧ x' < r.right_∧r.low_≤y' ∧ y' < r.high_)):r.has x y=r.has x' y' := by
 rw [Bool.eq_iff_iff,has_iff,has_iff]; exact h
theorem has_ff {r:Rect} {x y:Int} (h : ¬ (r.left_≤x∧x<r.right_∧r.low_≤y∧y<r.high_)):r.has x y=false:=by
 rw [← Bool.not_eq_true,has_iff]; exact h
theorem CovX.gap {c:List Int} {l:List Rect} (hc:Asc c) (h:CovX c l) {i:Nat} (hi:i+1<c.length) {t:Int} (h1:gl c i≤t) (h2:t<gl c (i+1)) (y:Int):inR l t y=inR l (gl c i) y:=
 inR_congr fun r hr=>has_eq (by
  have a:=hc.gap hi h1 h2 (h r hr).1
  have b:=hc.gap hi h1 h2 (h r hr).2
  omega)
theorem CovY.gap {c:List Int} {l:List Rect} (hc:Asc c) (h:CovY c l) {i:Nat} (hi:i+1<c.length) {t:Int} (h1:gl c i≤t) (h2:t<gl c (i+1)) (x:Int):inR l x t=inR l x (gl c i):=
 inR_congr fun r hr=>has_eq (by
  have a:=hc.gap hi h1 h2 (h r hr).1
  have b:=hc.gap hi h1 h2 (h r hr).2
  omega)
theorem CovX.before {c:List Int} {l:List Rect} (h:CovX c l) {t:Int} (ht : ∀ v ∈ c,t<v) (y:Int):inR l t y=false:=
 inR_false fun r hr=>has_ff (by have:=ht _ (h r hr).1; omega)
theorem CovX.after {c:List Int} {l:List Rect} (h:CovX c l) {t:Int} (ht : ∀ v ∈ c,v≤t) (y:Int):inR l t y=false:=
 inR_false fun r hr=>has_ff (by have:=ht _ (h r hr).2; omega)
theorem CovY.before {c:List Int} {l:List Rect} (h:CovY c l) {t:Int} (ht : ∀ v ∈ c,t<v) (x:Int):inR l x t=false:=
 inR_false fun r hr=>has_ff (by have:=ht _ (h r hr).1; omega)
theorem CovY.after {c:List Int} {l:List Rect} (h:CovY c l) {t:Int} (ht : ∀ v ∈ c,v≤t) (x:Int):inR l x t=false:=
 inR_false fun r hr=>has_ff (by have:=ht _ (h r hr).2; omega)
theorem Asc.first {c:List Int} (h:Asc c) {t:Int} (ht:t<gl c 0) : ∀ v ∈ c,t<v:=by
 intro v hv
 obtain ⟨j,hj,rfl⟩:=mem_gl hv
 rcases Nat.eq_zero_or_pos j with rfl | hp
 ·exact ht
 ·have:=h.at_lt hp hj; omega
theorem Asc.last {c:List Int} (h:Asc c) {t:Int} {i:Nat} (hi:i+1=c.length) (ht:gl c i≤t) : ∀ v ∈ c,v≤t:=by
 intro v hv
 obtain ⟨j,hj,rfl⟩:=mem_gl hv
 rcases Nat.lt_or_ge j i with h1 | h1
 ·have:=h.at_lt h1 (by omega); omega
 ·have:j=i:=by omega
  subst this; exact ht
structure Step {α:Type} (d:α) (c:List Int) (f:Int→α):Prop where
 asc:Asc c
 gap : ∀ i,i+1<c.length→∀ t,gl c i≤t→t<gl c (i+1)→f t=f (gl c i)
 before : ∀ t,(∀ v ∈ c,t<v)→f t=d
 after : ∀ t,(∀ v ∈ c,v≤t)→f t=d
theorem Step.start {α:Type} {d:α} {c:List Int} {f:Int→α} (h:Step d c f) (_:0<c.length):Bst d f [] (gl c 0):=.start fun t ht=>h.before t (h.asc.first ht)
theorem Step.empty {α:Type} {d:α} {c:List Int} {f:Int→α} (h:Step d c f) (hc:c.length=0) (t:Int):f t=d:=h.before t fun v hv=>by
 rw [List.eq_nil_of_length_eq_zero hc] at hv; cases hv
theorem Step.done {α:Type} {d:α} {c:List Int} {f:Int→α} (h:Step d c f) {i:Nat} (hi:i+1=c.length) {acc:List (Rn α)} (hb:Bst d f acc (gl c i)) (t:Int):atR d acc t=f t:=by
 rcases Int.lt_or_le t (gl c i) with h1 | h1
 ·exact hb.val t h1
 ·rw [hb.out t h1,h.after t (h.asc.last hi h1)]
open Classical in
noncomputable def spn (f:Int→Bool):List Span:=if h : ∃ l,SpOk l∧∀ x,inS l x=f x then h.choose else []
theorem spn_eq {f:Int→Bool} {l:List Span} (hl:SpOk l) (h : ∀ x,inS l x=f x):spn f=l:=by
 have he : ∃ l,SpOk l∧∀ x,inS l x=f x:=⟨l,hl,h⟩
 unfold spn
 rw [dif_pos he]
 exact he.choose_spec.1.unique hl fun x=>(he.choose_spec.2 x).trans (h x).symm
theorem SpOk.nil:SpOk []:=⟨fun s hs=>(List.not_mem_nil hs).elim,List.Pairwise.nil⟩
theorem spn_false {f:Int→Bool} (h : ∀ x,f x=false):spn f=[]:=spn_eq .nil fun x=>(h x).symm
def RowsOk (S:Int→Int→Bool):Prop:=∀ y,∃ l,SpOk l∧∀ x,inS l x=S x y
theorem RowsOk.sp {S:Int→Int→Bool} (h:RowsOk S) (y:Int):SpOk (spn fun x=>S x y)∧∀ x,inS (spn fun x=>S x y) x=S x y:=by
 obtain ⟨l,h1,h2⟩:=h y
 rw [spn_eq h1 h2]; exact ⟨h1,h2⟩
theorem Step.cn {S:Int→Int→Bool} (hr:RowsOk S) {c:List Int} (h:Step [] c fun y=>spn fun x=>S x y) {acc:List (Rn (List Span))} (hacc:Runs acc) (hval : ∀ t,atR [] acc t=spn fun x=>S x t) (hne : ∀ b ∈ acc,b.v≠[]):cn S=flat acc∧Fin S:=by
 have hv : ∀ b ∈ acc,b.v=spn fun x=>S x b.lo:=by
  intro b hb
  have hat : ∀ (l:List (Rn (List Span))),Runs l→b ∈ l→atR [] l b.lo=b.v:=by
   intro l
   induction l with
   | nil=>intro _ hb; cases hb
   | cons a l ih=>
    intro hl hb
    rcases List.mem_cons.1 hb with rfl | hb
    ·have:=hl.pos b (by simp)
     rw [atR,if_pos ⟨by omega,this⟩]
    ·have h1:=(hl.head b hb).1
     rw [atR,if_neg (by omega)]; exact ih hl.tail hb
  rw [← hval,hat acc hacc hb]
 have hB:Bands acc:=⟨hacc,fun b hb=>by rw [hv b hb]; exact (hr.sp _).1,hne⟩
 have hS : ∀ x y,inS (atR [] acc y) x=S x y:=fun x y=>by rw [hval]; exact (hr.sp y).2 x
 exact ⟨cn_eq hB hS,acc,hB,hS⟩
structure Grid (xs ys:List Int) (S:Int→Int→Bool):Prop where
 x : ∀ y,Step false xs fun x=>S x y
 y : ∀ x,Step false ys fun y=>S x y
theorem Step.spansL {xs:List Int} {f:Int→Bool} (h:Step false xs f) : ∃ l,SpOk l∧(∀ x,inS l x=f x)∧l.length≤xs.length:=by
 by_cases h0:xs.length=0
 ·exact ⟨[],.nil,fun x=>(h.empty h0 x).symm,by simp⟩
 ·have key : ∀ i,i+1≤xs.length→∃ l:List Span,Bst false f (l.map Span.rn) (gl xs i)∧l.length≤i:=by
   intro i
   induction i with
   | zero=>intro hi; exact ⟨[],h.start (by omega),by simp⟩
   | succ i ih=>
    intro hi
    obtain ⟨l,hl,hll⟩:=ih (by omega)
    have hlt:=h.asc.at_lt (show i<i+1 by omega) (by omega)
    cases hf:f (gl xs i) with
    | false=>exact ⟨l,hl.skip (by omega) fun t h1 h2=>(h.gap i (by omega) t h1 h2).trans hf,by omega⟩
    | true=>
     rcases List.eq_nil_or_concat l with rfl | ⟨l',s,hls⟩
     ·refine ⟨[⟨gl xs i,gl xs (i+1)⟩], ?_,by simp⟩
      have:=hl.add hlt (h.gap i (by omega)) (fun a ha=>by simp at ha)
      rw [hf] at this; exact this
     ·rw [List.concat_eq_append] at hls
      subst hls
      by_cases hs:s.right_=gl xs i
      ·refine ⟨l' ++ [⟨s.left_,gl xs (i+1)⟩], ?_,by simp at hll ⊢; omega⟩
       rw [List.map_append] at hl
       have:=hl.grow (a:=s.rn) hs hlt fun t h1 h2=>(h.gap i (by omega) t h1 h2).trans hf
       rw [List.map_append]; exact this
      ·refine ⟨(l' ++ [s])++[⟨gl xs i,gl xs (i+1)⟩], ?_,by simp at hll ⊢; omega⟩
       have:=hl.add hlt (h.gap i (by omega)) (fun a ha he=>by
        rw [List.map_append] at ha
        simp at ha
        subst ha
        exact absurd he hs)
       rw [hf] at this
       rw [List.map_append]; exact this
  obtain ⟨l,hl,hll⟩:=key (xs.length-1) (by omega)
  refine ⟨l,.of_runs hl.runs,fun x=>?_,by omega⟩
  rw [inS_atR]; exact h.done (by omega) hl x
theorem Step.spans {xs:List Int} {f:Int→Bool} (h:Step false xs f) : ∃ l,SpOk l∧∀ x,inS l x=f x:=by
 obtain ⟨l,h1,h2,_⟩:=h.spansL; exact ⟨l,h1,h2⟩
theorem Step.spn_len {xs:List Int} {f:Int→Bool} (h:Step false xs f):(spn f).length≤xs.length:=by
 obtain ⟨l,h1,h2,h3⟩:=h.spansL; rw [spn_eq h1 h2]; exact h3
theorem Grid.rows {xs ys:List Int} {S:Int→Int→Bool} (h:Grid xs ys S):RowsOk S:=fun y=>(h.x y).spans
theorem Grid.step {xs ys:List Int} {S:Int→Int→Bool} (h:Grid xs ys S):Step [] ys fun y=>spn fun x=>S x y:=by
 refine ⟨(h.y 0).asc,fun i hi t h1 h2=>?_,fun t ht=>?_,fun t ht=>?_⟩
 ·congr 1; funext x; exact (h.y x).gap i hi t h1 h2
 ·exact spn_false fun x=>(h.y x).before t ht
 ·exact spn_false fun x=>(h.y x).after t ht
theorem Grid.of {xs ys:List Int} {a b:List Rect} (hx:Asc xs) (hy:Asc ys) (ax:CovX xs a) (bx:CovX xs b) (ay:CovY ys a) (by' : CovY ys b) {k:Bool→Bool→Bool} (hk:k false false=false) :
  Grid xs ys fun x y=>k (inR a x y) (inR b x y):=by
 refine ⟨fun y=>⟨hx,fun i hi t h1 h2=>?_,fun t ht=>?_,fun t ht=>?_⟩,fun x=>⟨hy,fun i hi t h1 h2=>?_,fun t ht=>?_,fun t ht=>?_⟩⟩
 ·simp only [ax.gap hx hi h1 h2,bx.gap hx hi h1 h2]
 ·simp only [ax.before ht,bx.before ht,hk]
 ·simp only [ax.after ht,bx.after ht,hk]
 ·simp only [ay.gap hy hi h1 h2,by'.gap hy hi h1 h2]
 ·simp only [ay.before ht,by'.before ht,hk]
 ·simp only [ay.after ht,by'.after ht,hk]
end Go.Ab
end
