/- Abstract states over the model. -/
import Derived.Test.YtdfbifjpedjljaaGreatSpA
import Derived.WalkKit
import Derived.Deep.RegionHeld3
import Derived.StillTactics
import Derived.Deep.RegionLaw
import Derived.Lib.Hide
set_option linter.unusedVariables false
set_option linter.unusedSimpArgs false
section
namespace Go.Proofs
open Go.Shelf Go.RowKit Go.Lib Go.Ab
set_option maxHeartbeats 2000000
abbrev noX:Nat→Prop:=fun _=>False
theorem Z2T {w:World} {b:Nat} {x y u v:Int} (h:w.heap[b]?=some (.cells #[.int .i64 x,.int .i64 y,.int .i64 u,.int .i64 v] 103 (0,0))) :
  DRep w noX (.slice (some ⟨b,0,none⟩) 1 1) (DL (α:=Rect) [⟨x,y,u,v⟩]):=by
 refine .lst b 0 1 1 _ _ _ _ 4 (fun h=>h) h (by omega) (by simp) (fun i hi=>rfl) (fun i j hi hj=>?_);have:i=0:=by omega
 subst this;have:j=0∨j=1∨j=2∨j=3:=by omega
 rcases this with rfl|rfl|rfl|rfl <;> exact .int _ _
theorem Z7p {w:World} {b:Nat} {s t:Value} {R1 R2:List Rect} {a c d e f g:Int} (h:w.heap[b]?=some (.cells #[.int .i64 a,s,.int .i64 c,.int .i64 d,.int .i64 e,t,.int .i64 f,.int .i64 g] 101 (0,0)))
  (hs:DRep w noX s (DL R1)) (ht:DRep w noX t (DL R2)):DRep w noX (.slice (some ⟨b,0,none⟩) 2 2) (DL (α:=Line) [⟨a,⟨R1⟩,c,d⟩,⟨e,⟨R2⟩,f,g⟩]):=by
 refine .lst b 0 2 2 _ _ _ _ 4 (fun h=>h) h (by omega) (by simp) (fun i hi=>?_) (fun i j hi hj=>?_)
 ·have:i=0∨i=1:=by omega
  rcases this with rfl|rfl <;> rfl
 ·have h1:i=0∨i=1:=by omega
  have h2:j=0∨j=1∨j=2∨j=3:=by omega
  rcases h1 with rfl|rfl <;> rcases h2 with rfl|rfl|rfl|rfl <;> first|exact .int _ _|exact hs|exact ht
theorem Z7q {w:World} {b:Nat} {s t:ByteArray} {a c d e:Int} (h:w.heap[b]?=some (.cells #[.string s,.int .i64 a,.int .i64 c,.string t,.int .i64 d,.int .i64 e] 49 (0,0))) :
  DRep w noX (.slice (some ⟨b,0,none⟩) 2 2) (DL (α:=Crop) [⟨s,a,c⟩,⟨t,d,e⟩]):=by
 refine .lst b 0 2 2 _ _ _ _ 3 (fun h=>h) h (by omega) (by simp) (fun i hi=>?_) (fun i j hi hj=>?_)
 ·have:i=0∨i=1:=by omega
  rcases this with rfl|rfl <;> rfl
 ·have h1:i=0∨i=1:=by omega
  have h2:j=0∨j=1∨j=2:=by omega
  rcases h1 with rfl|rfl <;> rcases h2 with rfl|rfl|rfl <;> first|exact .int _ _|exact .str _
theorem Y3N {w:World} {b:Nat} {a c d e:Int} (h:w.heap[b]?=some (.cells #[.int .i64 a,.int .i64 c,.int .i64 d,.int .i64 e] 54 (0,0))) :
  DRep w noX (.slice (some ⟨b,0,none⟩) 2 2) (DL (α:=A2_) [⟨a,c⟩,⟨d,e⟩]):=by
 refine .lst b 0 2 2 _ _ _ _ 2 (fun h=>h) h (by omega) (by simp) (fun i hi=>?_) (fun i j hi hj=>?_)
 ·have:i=0∨i=1:=by omega
  rcases this with rfl|rfl <;> rfl
 ·have h1:i=0∨i=1:=by omega
  have h2:j=0∨j=1:=by omega
  rcases h1 with rfl|rfl <;> rcases h2 with rfl|rfl <;> exact .int _ _
theorem Y0c {w:World} {η:Nat→Value} {C:Ctx} {v:Value} {x:DVal} (h:DRep w noX v x):ARep w noX η C v (.v (.c (.d x))):=.v _ _ (.c _ _ (.d _ _ h))
theorem Y1H {F:Nat} {L:List Line} {cs:List Crop} {a b:Int} {r:Bool×Int} (hr:J2 F L cs a b=some r) (w:World) {v1 v2:Value} (h1:DRep w noX v1 (DL L)) (h2:DRep w noX v2 (DL cs)) :
  Calls Tryz.prog 81 #[v1,v2,.int .i64 a,.int .i64 b] w fun e w'=>e=.returned (.tuple #[.bool r.1,.int .i64 r.2])∧Stp noX w w':=by
 refine (Q7a hr w noX (fun _=>undef) #[v1,v2,.int .i64 a,.int .i64 b] (fun b hb=>hb.elim) (fun b ⟨i,o,hi,_⟩=>by cases hi) (fun i o hi=>by cases hi) (fun i j b hi=>absurd rfl hi) rfl
  (fun j hj=>?_)).mono fun e w' hh=>?_
 ·have:j=0∨j=1∨j=2∨j=3:=by simp at hj;omega
  rcases this with rfl|rfl|rfl|rfl
  ·exact Y0c h1
  ·exact Y0c h2
  ·exact Y0c (.int _ _)
  ·exact Y0c (.int _ _)
 ·obtain ⟨v,η',he,hb⟩:=hh
  refine ⟨?_,hb.stp.mono fun b _ hM=>by obtain ⟨i,o,hi,_⟩:=hM;cases hi⟩;rw [he]
  have hres:=hb.res
  cases hres with
  | t us xs hsz hc=>
   have g0:=hc 0 (by simp);have g1:=hc 1 (by simp)
   have e0:us.getD 0 undef=.bool r.1:=by
    revert g0;generalize us.getD 0 undef=u
    intro g0;cases g0 with|c _ _ h=>cases h with|d _ _ h=>cases h;rfl
   have e1:us.getD 1 undef=.int .i64 r.2:=by
    revert g1;generalize us.getD 1 undef=u
    intro g1;cases g1 with|c _ _ h=>cases h with|d _ _ h=>cases h;rfl
   congr 2
   simp at hsz
   apply Array.ext
   ·simp [hsz]
   ·intro i h3 h4
    have:i=0∨i=1:=by simp at h4;omega
    rcases this with rfl|rfl
    ·simpa [Array.getD,h3] using e0
    ·simpa [Array.getD,h3] using e1
theorem Y3I {F:Nat} {L:List Line} {cs:List Crop} {r:List A2_×Int} (hr:K2 F L cs=some r) (w:World) {v1 v2:Value} (h1:DRep w noX v1 (DL L)) (h2:DRep w noX v2 (DL cs)) :
  Calls Tryz.prog 80 #[v1,v2] w fun e w'=>∃ v,e=.returned (.tuple #[v,.int .i64 r.2])∧DRep w' noX v (DL r.1)∧Stp noX w w':=by
 refine (Q2N hr w noX (fun _=>undef) #[v1,v2] (fun b hb=>hb.elim) (fun b ⟨i,o,hi,_⟩=>by cases hi) (fun i o hi=>by cases hi) (fun i j b hi=>absurd rfl hi) rfl
  (fun j hj=>?_)).mono fun e w' hh=>?_
 ·have:j=0∨j=1:=by simp at hj;omega
  rcases this with rfl|rfl
  ·exact Y0c h1
  ·exact Y0c h2
 ·obtain ⟨v,η',he,hb⟩:=hh
  have hX:XS (W9 [] w noX (fun _=>undef)) (ls []) η'=noX:=by
   funext b
   apply propext;constructor
   ·rintro (⟨h,_⟩|⟨i,o,h,_⟩)
    ·exact h
    ·cases h
   ·intro h;exact h.elim
  have hres:=hb.res;rw [hX] at hres
  cases hres with
  | t us xs hsz hc=>
   have g0:=hc 0 (by simp);have g1:=hc 1 (by simp)
   have e0:DRep w' noX (us.getD 0 undef) (DL r.1):=by
    revert g0;generalize us.getD 0 undef=u
    intro g0;cases g0 with|c _ _ h=>cases h with|d _ _ h=>exact h
   have e1:us.getD 1 undef=.int .i64 r.2:=by
    revert g1;generalize us.getD 1 undef=u
    intro g1;cases g1 with|c _ _ h=>cases h with|d _ _ h=>cases h;rfl
   refine ⟨us.getD 0 undef,?_,e0,hb.stp.mono fun b _ hM=>by obtain ⟨i,o,hi,_⟩:=hM;cases hi⟩;rw [he]
   congr 2
   simp at hsz
   apply Array.ext
   ·simp [hsz]
   ·intro i h3 h4
    have:i=0∨i=1:=by simp at h4;omega
    rcases this with rfl|rfl
    ·simp [Array.getD,h3]
    ·simpa [Array.getD,h3] using e1
theorem Y0E {F:Nat} {P Q:List A2_} {r:Bool} (hr:Q2I F P Q=some r) (w:World) {v1 v2:Value} (h1:DRep w noX v1 (DL P)) (h2:DRep w noX v2 (DL Q)) :
  Calls Tryz.prog 82 #[v1,v2] w fun e w'=>e=.returned (.bool r)∧Stp noX w w':=by
 refine (Q7h hr w noX (fun _=>undef) #[v1,v2] (fun b hb=>hb.elim) (fun b ⟨i,o,hi,_⟩=>by cases hi) (fun i o hi=>by cases hi) (fun i j b hi=>absurd rfl hi) rfl
  (fun j hj=>?_)).mono fun e w' hh=>?_
 ·have:j=0∨j=1:=by simp at hj;omega
  rcases this with rfl|rfl
  ·exact Y0c h1
  ·exact Y0c h2
 ·obtain ⟨v,η',he,hb⟩:=hh
  refine ⟨?_,hb.stp.mono fun b _ hM=>by obtain ⟨i,o,hi,_⟩:=hM;cases hi⟩;rw [he]
  have hres:=hb.res
  cases hres with|v _ _ h=>cases h with|c _ _ h=>cases h with|d _ _ h=>cases h;rfl
theorem Y5U (W:World) (o0 o1 o2 o3:Go.Obj):((((W.alloc o0).alloc o1).alloc o2).alloc o3).heap[W.heap.size]?=some o0∧((((W.alloc o0).alloc o1).alloc o2).alloc o3).heap[W.heap.size+1]?=some o1 ∧
  ((((W.alloc o0).alloc o1).alloc o2).alloc o3).heap[W.heap.size+1+1]?=some o2∧((((W.alloc o0).alloc o1).alloc o2).alloc o3).heap[W.heap.size+1+1+1]?=some o3∧Stp noX W ((((W.alloc o0).alloc o1).alloc o2).alloc o3):=by
 refine ⟨?_,?_,?_,?_,?_⟩
 ·show ((((W.heap.push o0).push o1).push o2).push o3)[W.heap.size]?=_
  simp only [Array.getElem?_push,Array.size_push];rw [if_neg (by omega),if_neg (by omega),if_neg (by omega),if_pos trivial]
 ·show ((((W.heap.push o0).push o1).push o2).push o3)[W.heap.size+1]?=_
  simp only [Array.getElem?_push,Array.size_push];rw [if_neg (by omega),if_neg (by omega),if_pos trivial]
 ·show ((((W.heap.push o0).push o1).push o2).push o3)[W.heap.size+1+1]?=_
  simp only [Array.getElem?_push,Array.size_push];rw [if_neg (by omega),if_pos trivial]
 ·show ((((W.heap.push o0).push o1).push o2).push o3)[W.heap.size+1+1+1]?=_
  simp only [Array.getElem?_push,Array.size_push];rw [if_pos trivial]
 ·refine (((Stp.alloc noX W o0).trans (Stp.alloc _ _ o1)).trans (Stp.alloc _ _ o2)).trans (Stp.alloc _ _ o3)
abbrev oC:Go.Obj:=.cells #[.string ⟨#[114,121,101]⟩,.int .i64 1,.int .i64 0,.string ⟨#[119,104,101,97,116]⟩,.int .i64 2,.int .i64 0] 49
abbrev oR (a c:Int):Go.Obj:=.cells #[.int .i64 a,.int .i64 0,.int .i64 c,.int .i64 1] 103
abbrev oL (n:Nat):Go.Obj:=.cells #[.int .i64 0,.slice (some ⟨n+1,0,none⟩) 1 1,.int .i64 1,.int .i64 0,.int .i64 0,.slice (some ⟨n+1+1,0,none⟩) 1 1,.int .i64 0,.int .i64 0] 101
theorem Y6x {W w2:World} (st:Stp noX W w2) (e:w2.heap[W.heap.size]?=some oC∧w2.heap[W.heap.size+1]?=some (oR 0 80)∧w2.heap[W.heap.size+1+1]?=some (oR 80 100)∧w2.heap[W.heap.size+1+1+1]?=some (oL W.heap.size)) {w3:World}
  (hw:((w2.setCell ⟨W.heap.size+1,2,none⟩ (.int .i64 75)).setCell ⟨W.heap.size+1+1,0,none⟩ (.int .i64 75)).drew=w3) :
  (w3.heap[W.heap.size]?=some oC∧w3.heap[W.heap.size+1]?=some (oR 0 75)∧w3.heap[W.heap.size+1+1]?=some (oR 75 100)∧w3.heap[W.heap.size+1+1+1]?=some (oL W.heap.size))∧Stp noX W w3:=by
 subst hw;obtain ⟨e0,e1,e2,e3⟩:=e
 refine ⟨⟨?_,?_,?_,?_⟩,st.os,st.tape,st.output,?_,fun b hb _=>?_,Nat.le_succ_of_le st.dr⟩
 ·simp only [World.drew,World.setCell,Array.getElem?_modify]
  rw [if_neg (by omega),if_neg (by omega),e0]
 ·simp only [World.drew,World.setCell,Array.getElem?_modify]
  rw [if_neg (by omega),if_pos trivial,e1];rfl
 ·simp only [World.drew,World.setCell,Array.getElem?_modify]
  rw [if_pos trivial,if_neg (by omega),e2];rfl
 ·simp only [World.drew,World.setCell,Array.getElem?_modify]
  rw [if_neg (by omega),if_neg (by omega),e3]
 ·simp only [World.drew,World.setCell,Array.size_modify]
  exact st.size
 ·simp only [World.drew,World.setCell,Array.getElem?_modify]
  rw [if_neg (by omega),if_neg (by omega)];exact st.block b hb fun h=>h
theorem Z6A {a b c:World} (h:Stp noX a b) (k:Stp noX b c):Stp noX a c:=h.trans (k.mono fun _ _ h=>h.elim)
theorem Z9Z {F:Nat} {P:List A2_} (h1:J2 F Z0J Q0n 10 200=some (false,0)) (h2:J2 F Q7S Q0n 10 200=some (true,0)) (h3:K2 F Q7S Q0n=some (P,0)) (h4:Q2I F P [⟨1,25⟩,⟨2,75⟩]=some true) (W:World):Calls Tryz.prog 83 #[] W fun e w'=>e=.returned (.bool true)∧Stp noX W w':=by
 have H1:=Lib.hid h1;have H2:=Lib.hid h2
 have H3:=Lib.hid h3;have H4:=Lib.hid h4
 clear h1 h2 h3 h4
 go_enter Tryz.func83,Tryz.ntmps83
 go_wp2_with (fail)
 have A:=Lib.hid (Y5U W oC (oR 0 80) (oR 80 100) (oL W.heap.size));generalize ((((W.alloc oC).alloc (oR 0 80)).alloc (oR 80 100)).alloc (oL W.heap.size))=w1 at A ⊢
 refine (Y1H H1.out w1 (Z7p A.out.2.2.2.1 (Z2T A.out.2.1) (Z2T A.out.2.2.1)) (Z7q A.out.1)).mono ?_;rintro e w2 ⟨rfl,st⟩
 have B:=Lib.hid st
 clear st
 have hb:∀ b,b<w1.heap.size→w2.heap[b]?=w1.heap[b]?:=fun b hb=>B.out.block b hb fun h=>h
 have e0:w2.heap[W.heap.size]?=some oC:=(hb _ (W5 A.out.1)).trans A.out.1;have e1:w2.heap[W.heap.size+1]?=some (oR 0 80):=(hb _ (W5 A.out.2.1)).trans A.out.2.1
 have e2:w2.heap[W.heap.size+1+1]?=some (oR 80 100):=(hb _ (W5 A.out.2.2.1)).trans A.out.2.2.1;have e3:w2.heap[W.heap.size+1+1+1]?=some (oL W.heap.size):=(hb _ (W5 A.out.2.2.2.1)).trans A.out.2.2.2.1
 clear hb
 have D:=Lib.hid (And.intro e0 (And.intro e1 (And.intro e2 e3)))
 clear e0 e1 e2 e3
 have c1:w2.cell? ⟨W.heap.size+1+1+1,1,none⟩=some (.slice (some ⟨W.heap.size+1,0,none⟩) 1 1):=by simp [World.cell?,D.out.2.2.2,oL]
 have c2:w2.cell? ⟨W.heap.size+1+1+1,5,none⟩=some (.slice (some ⟨W.heap.size+1+1,0,none⟩) 1 1):=by simp [World.cell?,D.out.2.2.2,oL]
 have c3:w2.cell? ⟨W.heap.size+1,2,none⟩=some (.int .i64 80):=by simp [World.cell?,D.out.2.1,oR]
 have c4:w2.cell? ⟨W.heap.size+1+1,0,none⟩=some (.int .i64 80):=by simp [World.cell?,D.out.2.2.1,oR]
 have f3:w2.frozen? ⟨W.heap.size+1,2,none⟩=false:=by simp [World.frozen?,D.out.2.1,oR]
 have f4:w2.frozen? ⟨W.heap.size+1+1,0,none⟩=false:=by simp [World.frozen?,D.out.2.2.1,oR]
 go_wp2_with (fail)
 go_region
 have G:=Lib.hid (Y6x (Z6A A.out.2.2.2.2 B.out) D.out rfl)
 clear c1 c2 c3 c4 f3 f4
 generalize ((w2.setCell ⟨W.heap.size+1,2,none⟩ (.int .i64 75)).setCell ⟨W.heap.size+1+1,0,none⟩ (.int .i64 75)).drew=w3 at G ⊢
 go_wp2_with (fail)
 refine (Y1H H2.out w3 (Z7p G.out.1.2.2.2 (Z2T G.out.1.2.1) (Z2T G.out.1.2.2.1)) (Z7q G.out.1.1)).mono ?_;rintro e w4 ⟨rfl,st4⟩
 have B4:=Lib.hid st4
 clear st4
 have hb:∀ b,b<w3.heap.size→w4.heap[b]?=w3.heap[b]?:=fun b hb=>B4.out.block b hb fun h=>h
 have e0:w4.heap[W.heap.size]?=some oC:=(hb _ (W5 G.out.1.1)).trans G.out.1.1;have e1:w4.heap[W.heap.size+1]?=some (oR 0 75):=(hb _ (W5 G.out.1.2.1)).trans G.out.1.2.1
 have e2:w4.heap[W.heap.size+1+1]?=some (oR 75 100):=(hb _ (W5 G.out.1.2.2.1)).trans G.out.1.2.2.1;have e3:w4.heap[W.heap.size+1+1+1]?=some (oL W.heap.size):=(hb _ (W5 G.out.1.2.2.2)).trans G.out.1.2.2.2
 clear hb
 have D4:=Lib.hid (And.intro e0 (And.intro e1 (And.intro e2 e3)))
 clear e0 e1 e2 e3
 go_wp2_with (fail)
 refine (Y3I H3.out w4 (Z7p D4.out.2.2.2 (Z2T D4.out.2.1) (Z2T D4.out.2.2.1)) (Z7q D4.out.1)).mono ?_;rintro e w5 ⟨v,rfl,dv,st5⟩
 have DV:=Lib.hid dv;have B5:=Lib.hid st5
 clear dv st5
 go_wp2_with (fail)
 refine (Y0E H4.out _ (DV.out.mono (fun b hb _=>⟨by show (w5.heap.push _)[b]?=_;rw [Array.getElem?_push,if_neg (by omega)],fun h=>h⟩)) (Y3N (by show (w5.heap.push _)[w5.heap.size]?=_;rw [Array.getElem?_push,if_pos rfl]))).mono ?_;rintro e w7 ⟨rfl,st7⟩
 have B7:=Lib.hid st7
 clear st7
 go_wp2_with (fail)
 go_ret
 exact ⟨rfl,Z6A (Z6A (Z6A (Z6A G.out.2 B4.out) B5.out) (Stp.alloc noX w5 _)) B7.out⟩
theorem Z5q {F:Nat} {r:Bool} (h:Q7R F=some r):Z6 Tryz.prog 83 [] [] (vb r) []:=by
 unfold Q7R at h;obtain ⟨z1,h1,h⟩:=Option.bind_eq_some_iff.1 h
 obtain ⟨z2,h2,h⟩:=Option.bind_eq_some_iff.1 h;obtain ⟨⟨P,n⟩,h3,h⟩:=Option.bind_eq_some_iff.1 h
 obtain ⟨c1,h⟩:=Q5E h;obtain ⟨c2,h⟩:=Q5E h
 obtain ⟨c3,h⟩:=Q5E h;obtain ⟨z4,h4,h⟩:=Option.bind_eq_some_iff.1 h
 obtain ⟨c4,h⟩:=Q5E h;obtain rfl:=Option.some.inj h
 subst c1 c2 c4;simp only at c3
 subst c3;intro w X η vs hX hown hobj hdist hsz hargs
 obtain rfl:vs=#[]:=Array.eq_empty_of_size_eq_zero (by simpa using hsz);refine (Z9Z h1 h2 h3 h4 w).mono fun e w' hh=>?_
 obtain ⟨rfl,st⟩:=hh;refine ⟨.bool true,η,rfl,⟨st.mono fun _ _ h=>h.elim,.v _ _ (.c _ _ (.d _ _ (.bool true))),(fun i o h=>by cases h),(fun i j b h=>absurd rfl h),(fun i o b h=>by cases h),fun i v h=>?_⟩⟩
 simp [W9] at h
end Go.Proofs
end
