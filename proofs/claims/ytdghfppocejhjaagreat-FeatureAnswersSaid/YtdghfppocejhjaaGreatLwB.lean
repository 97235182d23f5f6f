/- What the plain programs compute, up to the law itself: each lemma states its own bounds. -/
import Derived.Test.YtdghfppocejhjaaGreatLwA
import Derived.Test.YtdghfppocejhjaaGreatPuB
set_option linter.unusedVariables false
set_option linter.unusedSimpArgs false
section
namespace Go.Ab
set_option maxRecDepth 20000
end Go.Ab
end

section
namespace Go.Ab
set_option maxRecDepth 20000
end Go.Ab
end

section
namespace Go.Ab
set_option maxRecDepth 20000
end Go.Ab
end

section
namespace Go.Ab
set_option maxRecDepth 20000
end Go.Ab
end

section
namespace Go.Ab
set_option maxRecDepth 20000
end Go.Ab
end

section
namespace Go.Ab
set_option maxRecDepth 20000
section
variable {F:Nat} {a:Region} {z1:Tape×Region} {x1 k:Int} {x y:Int}
end
end Go.Ab
end

section
namespace Go.Ab
set_option maxRecDepth 20000
theorem Step.spansH {xs:List Int} {f:Int→Bool} (h:Step false xs f) : ∃ l,SpOk l∧(∀ x,inS l x=f x)∧2*l.length≤xs.length:=by
 by_cases h0:xs.length=0
 ·exact ⟨[],.nil,fun x=>(h.empty h0 x).symm,by simp⟩
 ·have key : ∀ i,i+1≤xs.length→∃ l:List Span,Bst false f (l.map Span.rn) (gl xs i)∧2*l.length≤i+1∧((∀ s,l.getLast? = some s→s.right_≠gl xs i)→2*l.length≤i):=by
   intro i
   induction i with
   | zero=>intro hi; exact ⟨[],h.start (by omega),by simp,by simp⟩
   | succ i ih=>
    intro hi
    obtain ⟨l,hl,hll,hlm⟩:=ih (by omega)
    have hlt:=h.asc.at_lt (show i<i+1 by omega) (by omega)
    cases hf:f (gl xs i) with
    | false=>exact ⟨l,hl.skip (by omega) fun t h1 h2=>(h.gap i (by omega) t h1 h2).trans hf,by omega,fun _=>by omega⟩
    | true=>
     rcases List.eq_nil_or_concat l with rfl | ⟨l',s,hls⟩
     ·refine ⟨[⟨gl xs i,gl xs (i+1)⟩], ?_,by simp,fun hh=>absurd rfl (hh ⟨gl xs i,gl xs (i+1)⟩ rfl)⟩
      have:=hl.add hlt (h.gap i (by omega)) (fun a ha=>by simp at ha)
      rw [hf] at this; exact this
     ·rw [List.concat_eq_append] at hls
      subst hls
      by_cases hs:s.right_=gl xs i
      ·refine ⟨l' ++ [⟨s.left_,gl xs (i+1)⟩], ?_,by simp at hll ⊢; omega,fun hh=>absurd rfl (hh ⟨s.left_,gl xs (i+1)⟩ (by simp))⟩
       rw [List.map_append] at hl
       have:=hl.grow (a:=s.rn) hs hlt fun t h1 h2=>(h.gap i (by omega) t h1 h2).trans hf
       rw [List.map_append]; exact this
      ·have hlm:=hlm fun s' hs' => by simp at hs'; rw [← hs']; exact hs
       refine ⟨(l' ++ [s])++[⟨gl xs i,gl xs (i+1)⟩], ?_,by simp at hlm ⊢; omega,fun hh=>absurd rfl (hh ⟨gl xs i,gl xs (i+1)⟩ (by simp))⟩
       have:=hl.add hlt (h.gap i (by omega)) (fun a ha he=>by
        rw [List.map_append] at ha
        simp at ha
        subst ha
        exact absurd he hs)
       rw [hf] at this
       rw [List.map_append]; exact this
  obtain ⟨l,hl,hll,_⟩:=key (xs.length-1) (by omega)
  refine ⟨l,.of_runs hl.runs,fun x=>?_,by omega⟩
  rw [inS_atR]; exact h.done (by omega) hl x
theorem Step.spn_half {xs:List Int} {f:Int→Bool} (h:Step false xs f):2*(spn f).length≤xs.length:=by
 obtain ⟨l,h1,h2,h3⟩:=h.spansH; rw [spn_eq h1 h2]; exact h3
open Classical in
theorem Step.runsL {α:Type} {d:α} {c:List Int} {f:Int→α} (h:Step d c f) : ∃ acc:List (Rn α),Runs acc∧(∀ t,atR d acc t=f t)∧(∀ b ∈ acc,b.v≠d)∧acc.length≤c.length:=by
 by_cases h0:c.length=0
 ·exact ⟨[],.nil,fun x=>(h.empty h0 x).symm,fun b hb=>(List.not_mem_nil hb).elim,by simp⟩
 ·have key : ∀ i,i+1≤c.length→∃ l:List (Rn α),Bst d f l (gl c i)∧(∀ b ∈ l,b.v≠d)∧l.length≤i:=by
   intro i
   induction i with
   | zero=>intro hi; exact ⟨[],h.start (by omega),fun b hb=>(List.not_mem_nil hb).elim,by simp⟩
   | succ i ih=>
    intro hi
    obtain ⟨l,hl,hlv,hll⟩:=ih (by omega)
    have hlt:=h.asc.at_lt (show i<i+1 by omega) (by omega)
    by_cases hf:f (gl c i)=d
    ·exact ⟨l,hl.skip (by omega) fun t h1 h2=>(h.gap i (by omega) t h1 h2).trans hf,hlv,by omega⟩
    ·by_cases hs : ∃ a,l.getLast? = some a∧a.hi=gl c i∧a.v=f (gl c i)
     ·obtain ⟨a,ha,h1,h2⟩:=hs
      obtain ⟨l',rfl⟩:=List.getLast?_eq_some_iff.1 ha
      refine ⟨l' ++ [{ a with hi:=gl c (i+1) }],hl.grow h1 hlt fun t g1 g2=>(h.gap i (by omega) t g1 g2).trans h2.symm,fun b hb=>?_,by simp at hll ⊢; omega⟩
      rcases List.mem_append.1 hb with hb | hb
      ·exact hlv b (by simp [hb])
      ·rw [List.mem_singleton.1 hb]; exact hlv a (by simp)
     ·refine ⟨l++[⟨gl c i,gl c (i+1),f (gl c i)⟩],hl.add hlt (h.gap i (by omega)) (fun a ha he hv=>hs ⟨a,ha,he,hv⟩),fun b hb=>?_,by simp at hll ⊢; omega⟩
      rcases List.mem_append.1 hb with hb | hb
      ·exact hlv b hb
      ·rw [List.mem_singleton.1 hb]; exact hf
  obtain ⟨l,hl,hlv,hll⟩:=key (c.length-1) (by omega)
  exact ⟨l,hl.runs,fun x=>h.done (by omega) hl x,hlv,by omega⟩
theorem atR_lo {α:Type} {d:α} {b:Rn α} : ∀ {l:List (Rn α)},Runs l→b ∈ l→atR d l b.lo=b.v:=by
 intro l
 induction l with
 | nil=>intro _ hb; cases hb
 | cons a l ih=>
  intro hl hb
  rcases List.mem_cons.1 hb with rfl | hb
  ·have:=hl.pos b (by simp)
   rw [atR,if_pos ⟨by omega,this⟩]
  ·have h1:=(hl.head b hb).1
   rw [atR,if_neg (by omega)]; exact ih hl.tail hb
theorem flat_le {B:List (Rn (List Span))} {N:Nat} (h : ∀ b ∈ B,b.v.length≤N):(flat B).length≤B.length*N:=by
 induction B with
 | nil=>simp [flat]
 | cons c B ih=>
  have e:flat (c::B)=flat1 c++flat B:=rfl
  have:=ih fun d hd=>h d (by simp [hd])
  have h4:=h c (by simp)
  rw [e,List.length_append,flat1_len,List.length_cons,Nat.add_mul]
  omega
theorem Grid.len {xs ys:List Int} {S:Int→Int→Bool} (h:Grid xs ys S) {N:Nat} (hN:xs.length≤2*N+1):(cn S).length≤ys.length*N:=by
 obtain ⟨acc,h1,h2,h3,h4⟩:=h.step.runsL
 rw [(Step.cn h.rows h.step h1 h2 h3).1]
 refine Nat.le_trans (flat_le (N:=N) fun b hb=>?_) (Nat.mul_le_mul_right _ h4)
 have:=atR_lo (d:=[]) h1 hb
 rw [h2] at this
 have h5:=(h.x b.lo).spn_half
 rw [← this]
 omega
theorem cn_rects_len (l:List Rect):(cn (inR l)).length≤2*l.length*l.length:=by
 have hg:Grid (cutX l []) (cuts [l]) (inR l):=one_grid l (by simp)
 have h1:=cutX_small (l:=l)
 have h2:=cuts_len [l]
 have ht:tot [l]=l.length:=by simp [tot]
 exact Nat.le_trans (hg.len (N:=l.length) (by omega)) (Nat.mul_le_mul_right _ (by omega))
end Go.Ab
end

section
namespace Go.Ab
set_option maxRecDepth 20000
end Go.Ab
end

section
namespace Go.Ab
set_option maxRecDepth 20000
end Go.Ab
end

section
namespace Go.Ab
set_option maxRecDepth 20000
theorem SpOk.half {n:Int} : ∀ {l:List Span},SpOk l→∀ {a:Int},a≤n+1→(∀ s ∈ l,a≤s.left_∧s.right_≤n)→2*(l.length:Int)≤n+1-a
 | [],_,a,ha,_=>by simp; omega
 | s::l,h,a,ha,hb=>by
  have h1:=hb s (by simp)
  have h2:=h.pos s (by simp)
  have ht:SpOk l:=⟨fun q hq=>h.pos q (by simp [hq]),(List.pairwise_cons.1 h.ch).2⟩
  have:=SpOk.half (n:=n) ht (a:=s.right_+1) (by omega) fun q hq=>⟨by have:=(List.pairwise_cons.1 h.ch).1 q hq; omega,(hb q (by simp [hq])).2⟩
  rw [List.length_cons]
  omega
theorem Canon.half {l:List Rect} (hc:Canon l) {n:Nat} (hb:Box n l):l.length≤n*((n+1) / 2):=by
 obtain ⟨b,hB,rfl⟩:=hc
 have hne : ∀ c ∈ b,∃ s,s ∈ c.v:=fun c hc=>List.exists_mem_of_ne_nil _ (hB.ne c hc)
 have hmem : ∀ c ∈ b,∀ s ∈ c.v,(⟨s.left_,c.lo,s.right_,c.hi⟩ : Rect) ∈ flat b:=fun c hc s hs=>List.mem_flatMap.2 ⟨c,hc,List.mem_map.2 ⟨s,hs,rfl⟩⟩
 have h1:(b.length:Int)≤n-0:=hB.runs.len (by omega) fun c hc=>by
  obtain ⟨s,hs⟩:=hne c hc
  have:=hb _ (hmem c hc s hs)
  simp only at this
  omega
 have h2 : ∀ c ∈ b,c.v.length≤(n+1) / 2:=fun c hc=>by
  have:=(hB.sp c hc).half (n:=n) (a:=0) (by omega) fun s hs=>by
   have:=hb _ (hmem c hc s hs)
   simp only at this ⊢
   omega
  omega
 have h5:=flat_le h2
 have h6:b.length*((n+1) / 2)≤n*((n+1) / 2):=Nat.mul_le_mul_right _ (by omega)
 omega
end Go.Ab
end

section
namespace Go.Ab
set_option maxRecDepth 20000
def Ok {R:Type} (x:Option R) (G:R→Prop):Prop:=∃ r,x=some r∧G r
theorem ok_some {R:Type} {r:R} {G:R→Prop} (h:G r):Ok (some r) G:=⟨r,rfl,h⟩
theorem ok_gd {R:Type} {p:Prop} [Decidable p] {x:Option R} {G:R→Prop} (h:p) (k:Ok x G):Ok (gd p x) G:=by unfold gd; rw [if_pos h]; exact k
theorem ok_bd {α R:Type} {x:Option α} {f:α→Option R} {a:α} {G:R→Prop} (h:x=some a) (k:Ok (f a) G):Ok (x.bind f) G:=by rw [h]; exact k
theorem ok_br {R:Type} {b:Bool} {x y:Option R} {G:R→Prop} (ht:b=true→Ok x G) (hf:b=false→Ok y G):Ok (br b x y) G:=by cases b; exact hf rfl; exact ht rfl
section
variable (R:List Rect)
end
variable {F:Nat} {a:Region}
end Go.Ab
end

section
namespace Go.Ab
set_option maxRecDepth 20000
end Go.Ab
end

section
namespace Go.Ab
set_option maxRecDepth 20000
end Go.Ab
end

section
namespace Go.Ab
set_option maxRecDepth 20000
end Go.Ab
end

section
namespace Go.Ab
set_option maxRecDepth 20000
end Go.Ab
end

section
namespace Go.Ab
set_option maxRecDepth 20000
end Go.Ab
end

section
namespace Go.Ab
set_option maxRecDepth 20000
theorem keep_Tape_One_ok {F:Nat} {t:Tape} (ht:TOk t) {n:Int} (h1:1≤n) (h2:n≤1099511627776) : ∃ t' b,keep_Tape_One F t n=some (t',b)∧TOk t' := by
 obtain ⟨t1,k,e1,o1,_,_⟩:=keep_Tape_Next_ok (F:=F) ht h1 h2
 refine ⟨t1,k==n-1, ?_,o1⟩
 unfold keep_Tape_One
 refine bd_ok e1 ?_
 refine gd_ok (i64_of (by omega) (by omega)) rfl
theorem tape_eta (t:Tape):(⟨t.l_,t.at_⟩ : Tape)=t:=rfl
theorem keep_Tape_Broken_ok {F:Nat} (hF:BIG≤F) {t:Tape} (ht:TOk t) {n:Nat} {most:Int} (h1:1≤n) (h2:n≤1000) (m1:0≤most) (m2:most≤100) : ∃ t' r,keep_Tape_Broken F t n most=some (t',r)∧TOk t' ∧ r.rects_.length≤n*((n+1) / 2)+1:=by
 obtain ⟨t1,a,e1,o1,ha⟩:=keep_Tape_Region_ok hF ht (n:=n) (most:=most) (by omega) (by omega) m1 m2
 have hlen:a.rects_.length≤n*((n+1) / 2):=ha.val.2.2.half ha.box
 have hval:=ha.val.1
 unfold keep_Tape_Broken
 simp only [e1,Option.bind_some]
 by_cases hz:a.rects_.length=0
 ·refine ⟨t1,a, ?_,o1,by omega⟩
  refine br_tt (by rw [hz]; rfl) ?_
  rfl
 ·obtain ⟨t2,b,e2,o2⟩:=keep_Tape_One_ok (F:=F) o1 (n:=6) (by omega) (by omega)
  have e0:((a.rects_.length:Int)==0)=false:=by rw [beq_eq_false_iff_ne]; omega
  rw [e0]
  simp only [br,e2,Option.bind_some]
  cases b with
  | false=>exact ⟨t2,a,rfl,o2,by omega⟩
  | true=>
   obtain ⟨t3,k,e3,o3,k1,k2⟩:=keep_Tape_Next_ok (F:=F) o2 (n:=(a.rects_.length:Int)) (by omega) (by omega)
   obtain ⟨t4,c,e4,o4,c1,c2⟩:=keep_Tape_Next_ok (F:=F) o3 (n:=5) (by omega) (by omega)
   have hkn:k.toNat<a.rects_.length:=by omega
   have hr:=(propB_iff _).1 (ha.val.2.1 _ (gl_mem hkn))
   have main:Ok (keep_Tape_Broken_k0 F (t1,a) (!true) t2.l_ t2.at_) fun z=>TOk z.1∧z.2.rects_.length≤n*((n+1) / 2)+1:=by
    unfold keep_Tape_Broken_k0
    refine ok_br (fun h=>by cases h) (fun _=>?_)
    simp only [List.nil_append,tape_eta]
    refine ok_gd (by simp only [LIM]; omega) ?_
    refine ok_bd e3 ?_
    refine ok_bd e4 ?_
    dsimp only
    refine ok_br (fun _=>?_) (fun _=>ok_br (fun _=>?_) (fun _=>ok_br (fun _=>?_) (fun _=>ok_br (fun _=>?_) (fun _=>?_))))
    ·refine ok_gd (by omega) (ok_gd (i64_of (by omega) (by omega)) (ok_gd (by omega) ?_))
     exact ok_some ⟨o4,by simp only [List.length_set]; omega⟩
    ·refine ok_gd (by omega) ?_
     exact ok_some ⟨o4,by simp only [List.length_set]; omega⟩
    ·refine ok_gd (by omega) (ok_gd (by simp only [LIM,List.length_cons,List.length_nil]; omega) ?_)
     exact ok_some ⟨o4,by simp only [List.length_append,List.length_cons,List.length_nil]; omega⟩
    ·refine ok_gd (by omega) (ok_gd (by omega) (ok_gd (by omega) (ok_gd (by simp only [List.length_set]; omega) ?_)))
     exact ok_some ⟨o4,by simp only [List.length_set]; omega⟩
    ·refine ok_gd (by omega) (ok_gd (by omega) ?_)
     exact ok_some ⟨o4,by simp only [List.length_set]; omega⟩
   obtain ⟨⟨t',r⟩,g1,g2,g3⟩:=main
   exact ⟨t',r,g1,g2,g3⟩
end Go.Ab
end

section
namespace Go.Ab
set_option maxRecDepth 20000
variable {F n:Nat} {L:List Feature} {d:Int}
end Go.Ab
end

section
namespace Go.Ab
set_option maxRecDepth 20000
variable {F n:Nat} {L:List Feature} {d:Int}
end Go.Ab
end

section
namespace Go.Ab
set_option maxRecDepth 20000
variable {F n:Nat} {L:List Feature} {d:Int}
theorem ref09_there_ok (F:Nat) (f:Feature) (d:Int):ref09_there F f d=some (thereB f d):=by
 unfold ref09_there thereB
 cases decide (f.from_≤d) <;> rfl
def btw (lo hi:Int) (k:Int):Bool:=decide (lo≤k)&&decide (k≤hi)
theorem rectsP_append (A B:List Feature) (d:Int) (p:Int→Bool):rectsP (A++B) d p=rectsP A d p++rectsP B d p:=by simp [rectsP]
end Go.Ab
end

section
namespace Go.Ab
set_option maxRecDepth 20000
variable {F n:Nat} {L:List Feature} {d:Int}
end Go.Ab
end

section
namespace Go.Ab
set_option maxRecDepth 20000
structure LF6 (L:List Feature):Prop where
 vl:VL L
 tot : ∀ (M:List Feature) d p,(∃ i,M=L.take i)→(rectsP M d p).length≤300
variable {F:Nat} {L:List Feature} {d:Int}
theorem asc_len : ∀ {l:List Int},Asc l→∀ {lo hi:Int},(∀ v ∈ l,lo≤v∧v≤hi)→lo≤hi+1→(l.length:Int)≤hi+1-lo
 | [],_,lo,hi,_,h=>by simp; omega
 | a::l,h,lo,hi,hb,h2=>by
  have h3:=List.pairwise_cons.1 h
  have h4:=hb a (by simp)
  have:=asc_len (l:=l) h3.2 (lo:=a+1) (hi:=hi) (fun v hv=>by have:=h3.1 v hv; have:=hb v (by simp [hv]); omega) (by omega)
  rw [List.length_cons]; omega
theorem ref04_Combine_grid (hF:BIG≤F) {a b:List Rect} {how:Int} (ha:a.length≤200000) (hb:b.length≤200000) (pa : ∀ r ∈ a,propB r=true) (pb : ∀ r ∈ b,propB r=true):ref04_Combine F a b how=some (cn fun x y=>keepB (inR a x y) (inR b x y) how):=by
 refine ref04_Combine_ok hF ha hb ?_ ?_
 ·have:=asc_len (cut_asc b (cut_asc a (f:=Rect.left_) (g:=Rect.right_) .nil)) (lo:=0) (hi:=16384) (fun v hv=>by
   rcases (cut_mem b _ _).1 hv with h | ⟨r,hr,h⟩
   ·rcases (cut_mem a _ _).1 h with h | ⟨r,hr,h⟩
    ·cases h
    ·have h:v=r.left_∨v=r.right_:=h
     have:=(propB_iff r).1 (pa r hr); omega
   ·have h:v=r.left_∨v=r.right_:=h
    have:=(propB_iff r).1 (pb r hr); omega) (by omega)
  unfold cutX
  omega
 ·have:=asc_len (cut_asc b (cut_asc a (f:=Rect.low_) (g:=Rect.high_) .nil)) (lo:=0) (hi:=16384) (fun v hv=>by
   rcases (cut_mem b _ _).1 hv with h | ⟨r,hr,h⟩
   ·rcases (cut_mem a _ _).1 h with h | ⟨r,hr,h⟩
    ·cases h
    ·have h:v=r.low_∨v=r.high_:=h
     have:=(propB_iff r).1 (pa r hr); omega
   ·have h:v=r.low_∨v=r.high_:=h
    have:=(propB_iff r).1 (pb r hr); omega) (by omega)
  unfold cutY
  omega
theorem grid_prop {l:List Rect} (hc:Canon l) {a:List Rect} (ha : ∀ r ∈ a,propB r=true) (hs : ∀ x y,inR l x y=true→inR a x y=true) : ∀ r ∈ l,propB r=true:=by
 have hb:Box (16384:Int) l:=hc.box fun x y h=>by
  obtain ⟨r,hr,h2⟩:=(inR_iff _ _ _).1 (hs x y h)
  have:=(propB_iff r).1 (ha r hr)
  rw [has_iff] at h2
  omega
 exact hb.prop (by omega)
theorem LF6.prop (h:VL L) (d:Int) (p:Int→Bool) : ∀ r ∈ rectsP L d p,propB r=true:=fun r hr=>by
 obtain ⟨f,hf,hr⟩:=mem_rectsP hr
 exact ((oneC_zero f).1 (h.one f hf)).2.2.2.2.2.2.2.2.2.1 r hr
theorem ref09_Squares_few (hF:BIG≤F) (hL:LF6 L) (lo hi d:Int):ref09_Squares F L lo hi d=some (cn (inR (rectsP L d (btw lo hi)))):=by
 have hF' := hF
 unfold BIG at hF
 have hlen:=hL.vl.len
 have hsm : ∀ i,(cn (inR (rectsP (L.take i) d (btw lo hi)))).length≤180000:=fun i=>by
  have h1:=hL.tot (L.take i) d (btw lo hi) ⟨i,rfl⟩
  have h2:=cn_rects_len (rectsP (L.take i) d (btw lo hi))
  have h3:2*(rectsP (L.take i) d (btw lo hi)).length*(rectsP (L.take i) d (btw lo hi)).length≤(2*300)*300:=Nat.mul_le_mul (by omega) (by omega)
  omega
 unfold ref09_Squares
 refine loopN_ok (fun z:List Rect×Int=>∃ i:Nat,z=(cn (inR (rectsP (L.take i) d (btw lo hi))),(i:Int))∧i≤L.length) (fun z=>L.length-z.2.toNat) (fun again z hz ih=>?_) ⟨0, ?_,Nat.zero_le _⟩ (by simp; omega)
 ·obtain ⟨i,rfl,hi2⟩:=hz
  simp only at ih ⊢
  unfold ref09_Squares_b0
  refine br_ok (fun h=>?_) (fun h=>?_)
  ·have h:i<L.length:=by simpa using h
   have hrl:=hL.vl.rlen (gl_mem h)
   have e:rectsP (L.take (i+1)) d (btw lo hi)=rectsP (L.take i) d (btw lo hi)++(if (thereB (gl L i) d&&btw lo hi (gl L i).kind_)=true then (gl L i).region_.rects_ else []):=by
    rw [take_gl h,rectsP_append,rectsP_cons]
    congr 1
    rw [show rectsP [] d (btw lo hi)=[] from rfl,List.append_nil]
   have hk : ∀ b,b=(thereB (gl L i) d&&btw lo hi (gl L i).kind_)→ref09_Squares_k1 F L (cn (inR (rectsP (L.take i) d (btw lo hi)))) (i:Int) again b=some (cn (inR (rectsP L d (btw lo hi)))):=fun b hb=>by
    have hnext : ∀ o,o=cn (inR (rectsP (L.take (i+1)) d (btw lo hi)))→ref09_Squares_k2 F (i:Int) again o=some (cn (inR (rectsP L d (btw lo hi)))):=fun o ho=>by
     unfold ref09_Squares_k2
     refine gd_G (k:=?_)
     exact ih _ ⟨i+1,by rw [ho]; simp,h⟩ (by simp only; omega)
    unfold ref09_Squares_k1
    refine br_ok (fun h2=>?_) (fun h2=>?_)
    ·simp only [Int.toNat_natCast]
     have:=hsm i
     refine bd_ok (ref04_Combine_grid hF' (by omega) (by omega) (grid_prop (a:=rectsP L d (btw lo hi)) (Canon.cn (fin_inR _)) (LF6.prop hL.vl d (btw lo hi)) fun x y h=>?_) ((oneC_zero _).1 (hL.vl.one _ (gl_mem h))).2.2.2.2.2.2.2.2.2.1) ?_
     ·rw [inR_cn (fin_inR _)] at h
      obtain ⟨r,hr,h3⟩:=(inR_iff _ _ _).1 h
      refine inR_mem ?_ h3
      unfold rectsP at hr ⊢
      obtain ⟨f,hf,hr⟩:=List.mem_flatMap.1 hr
      rw [List.mem_filter] at hf
      exact List.mem_flatMap.2 ⟨f,List.mem_filter.2 ⟨List.mem_of_mem_take hf.1,hf.2⟩,hr⟩
     refine hnext _ ?_
     rw [e, ← hb,h2,if_pos rfl]
     congr 1
     funext x y
     rw [inR_append,inR_cn (fin_inR _)]; rfl
    ·refine hnext _ ?_
     rw [e, ← hb,h2,if_neg (by simp),List.append_nil]
   refine gd_G (k:=?_)
   simp only [Int.toNat_natCast]
   refine bd_ok (ref09_there_ok F _ d) ?_
   refine br_ok (fun h1=>br_ok (fun h2=>hk _ ?_) (fun h2=>hk _ ?_)) (fun h1=>hk _ ?_)
   ·rw [h1]; unfold btw; rw [h2]; rfl
   ·rw [h1]; unfold btw; rw [h2]; rfl
   ·rw [h1]; rfl
  ·have h : ¬ i<L.length:=by simpa using h
   unfold ref09_Squares_k3
   rw [List.take_of_length_le (by omega)]
 ·have e2:rectsP (L.take 0) d (btw lo hi)=[]:=rfl
  rw [e2,(cn_nil_iff (fin_inR [])).2 fun x y=>rfl]; rfl
end Go.Ab
end

section
namespace Go.Ab
set_option maxRecDepth 20000
variable {F:Nat} {L:List Feature} {d:Int}
end Go.Ab
end

section
namespace Go.Ab
set_option maxRecDepth 20000
variable {F n:Nat} {L:List Feature} {d:Int}
end Go.Ab
end

section
namespace Go.Ab
set_option maxRecDepth 20000
variable {F:Nat} {L:List Feature} {d:Int}
end Go.Ab
end

section
namespace Go.Ab
set_option maxRecDepth 20000
variable {F:Nat} {L:List Feature} {d:Int}
end Go.Ab
end

section
namespace Go.Ab
set_option maxRecDepth 20000
variable {F:Nat} {L:List Feature} {d:Int}
end Go.Ab
end

section
namespace Go.Ab
set_option maxRecDepth 20000
theorem rectsP_lenk {k:Nat} : ∀ {L:List Feature},(∀ f ∈ L,f.region_.rects_.length≤k)→∀ (d:Int) (p:Int→Bool),(rectsP L d p).length≤L.length*k
 | [],_,_,_=>Nat.zero_le _
 | f::L,h,d,p=>by
  have h1:=rectsP_lenk (L:=L) (fun g hg=>h g (by simp [hg])) d p
  have h2:=h f (by simp)
  rw [rectsP_cons,List.length_append,List.length_cons,Nat.add_mul]
  split
  ·omega
  ·simp only [List.length_nil]; omega
theorem lf6_of {L:List Feature} {k:Nat} (hv:VL L) (h : ∀ f ∈ L,f.region_.rects_.length≤k) (hk:L.length*k≤300):LF6 L:=by
 refine ⟨hv,fun M d p hM=>?_⟩
 obtain ⟨i,rfl⟩:=hM
 have h1:=rectsP_lenk (L:=L.take i) (fun f hf=>h f (List.mem_of_mem_take hf)) d p
 have h2:(L.take i).length*k≤L.length*k:=Nat.mul_le_mul_right _ (by rw [List.length_take]; omega)
 omega
end Go.Ab
end
