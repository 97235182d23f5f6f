/- Abstract states over the model. -/
import Derived.Test.YtdfbifjpedjljaaGreatBaB
import Derived.Test.YtdfbifjpedjljaaGreatAbD
import Derived.Test.YtdfbifjpedjljaaGreatAbC
set_option linter.unusedVariables false
set_option linter.unusedSimpArgs false
section
namespace Go.Proofs
open Go.Shelf
noncomputable def Tryz.svT:TypeInfo:=(Tryz.prog.info? 55).get (by kernel_rfl)
noncomputable def Tryz.svE:TypeInfo:=(Tryz.prog.info? 54).get (by kernel_rfl)
theorem Tryz.svK (n:Nat) (h2:2≤n):Lib.swapperK n Tryz.svE 17=9:=by
 have a:Tryz.svE.hasPointers=false:=by kernel_rfl
 have b:Tryz.svE.bytes=16:=by kernel_rfl
 have c:(n==0)=false:=by simp;omega
 have d:(n==1)=false:=by simp;omega
 simp [Lib.swapperK,a,b,c,d]
end Go.Proofs
namespace Go.Ab
open Go.Proofs Go.Sort Go.Shelf Go.RowKit Go.Lib
def Z4S (p:A2_):List Value:=[.int .i64 p.e0_,.int .i64 p.e1_]
def ltP (a b:A2_):Bool:=decide (a.e0_<b.e0_)
theorem Y4v:SWO ltP where
 irrefl:=fun x=>by simp [ltP]
 trans:=fun x y z h1 h2=>by simp [ltP] at *;omega
 ntrans:=fun x y z h1 h2=>by simp [ltP] at *;omega
theorem Z8i {α:Type} {le:α→α→Prop}:∀ {l m:List α},l.Perm m→l.Pairwise le→m.Pairwise le→(∀ a ∈ l,∀ b ∈ l,le a b→le b a→a=b)→l=m
 | [],m,hp,_,_,_=>(List.nil_perm.1 hp).symm
 | a::l,[],hp,_,_,_=>absurd hp.length_eq (by simp)
 | a::l,b::m,hp,h1,h2,ha=>by
  have hab:a=b:=by
   by_cases h:a=b
   ·exact h
   ·have m1:a ∈ m:=by
     have:=hp.mem_iff.1 (List.mem_cons_self (a:=a) (l:=l))
     rcases List.mem_cons.1 this with h5|h5
     ·exact absurd h5 h
     ·exact h5
    have m2:b ∈ l:=by
     have:=hp.mem_iff.2 (List.mem_cons_self (a:=b) (l:=m))
     rcases List.mem_cons.1 this with h5|h5
     ·exact absurd h5.symm h
     ·exact h5
    exact ha a List.mem_cons_self b (List.mem_cons_of_mem _ m2) ((List.pairwise_cons.1 h1).1 b m2) ((List.pairwise_cons.1 h2).1 a m1)
  subst hab;rw [Z8i (List.perm_cons a |>.1 hp) (List.pairwise_cons.1 h1).2 (List.pairwise_cons.1 h2).2 fun x hx y hy=>ha x (List.mem_cons_of_mem _ hx) y (List.mem_cons_of_mem _ hy)]
theorem Y2P {x:List A2_} (hnd:(x.map A2_.e0_).Nodup) {d:Array A2_} [Inhabited A2_] (hp:PermIn 0 x.toArray.size x.toArray d) (hs:SortedIn ltP 0 x.toArray.size d):d.toList=x.mergeSort fun a b=>decide (a.e0_≤b.e0_):=by
 obtain ⟨h1,_,h2⟩:=hp;have hsz:d.size=x.length:=by simpa using h1
 have hperm:d.toList.Perm x:=by
  have e1:d.extract 0 x.toArray.size=d:=by rw [show x.toArray.size=d.size by simp [hsz]];exact Array.extract_size
  have e2:x.toArray.extract 0 x.toArray.size=x.toArray:=Array.extract_size;rw [e1,e2] at h2
  exact h2
 have inj:∀ a ∈ x,∀ b ∈ x,a.e0_=b.e0_→a=b:=fun a ha b hb hab=>by
  obtain ⟨i,hi,rfl⟩:=List.getElem_of_mem ha;obtain ⟨j,hj,rfl⟩:=List.getElem_of_mem hb
  have:=(List.getElem_inj (h₀:=by simpa using hi) (h₁:=by simpa using hj) hnd).1 (by simpa using hab)
  simp only [this]
 refine Z8i (le:=fun a b=>a.e0_≤b.e0_) (hperm.trans (List.mergeSort_perm x _).symm) ?_ ?_ fun a ha b hb h5 h6=>inj a (hperm.mem_iff.1 ha) b (hperm.mem_iff.1 hb) (by omega)
 ·rw [List.pairwise_iff_getElem]
  intro i j hi hj hij;have hi' : i<d.size:=by simpa using hi
  have hj' : j<d.size:=by simpa using hj
  have h5:ltP d[j]! d[i]! = false:=hs i j (Nat.zero_le _) hij (by simp;omega);rw [getElem!_pos d i hi',getElem!_pos d j hj'] at h5
  simp only [Array.getElem_toList];have:=of_decide_eq_false h5
  omega
 ·have:=List.pairwise_mergeSort (le:=fun a b:A2_=>decide (a.e0_≤b.e0_)) (fun a b c h5 h6=>by simp at *;omega) (fun a b=>by simp;omega) x
  exact this.imp fun h=>by simpa using h
theorem Y0m {x r:List A2_} (h:Z9m A2_.e0_ x=some r):Z6 Tryz.prog 170 [.v (.c (.cp 1 0)),.v (.c (.clo 171 [50]))] [(0,AO (α:=A2_) x),(1,.exr [0] (Z8Q 55)),(50,bx [.own 0])] .any [(0,AO (α:=A2_) r),(50,bx [.own 0])]:=by
 obtain ⟨hnd,hlim,hr⟩:=Y0n h;have hrl:r.length=x.length:=by rw [hr,List.length_mergeSort]
 intro w X η vs hX hown hobj hds hlen hargs;have hlen:vs.size=2:=hlen
 let S:List (Nat×Obj):=[(0,AO (α:=A2_) x),(1,.exr [0] (Z8Q 55)),(50,bx [.own 0])]
 have l0:ls S 0=some (AO x):=rfl;have l1:ls S 1=some (.exr [0] (Z8Q 55)):=rfl
 have l50:ls S 50=some (bx [.own 0]):=rfl;have hifc:η 1=.agg #[.iface 55 (η 0)]:=by
  have:=hobj 1 _ l1
  generalize η 1=u at this
  cases this with|exr _ _ _ hp _ _=>
  obtain ⟨u',hu,hv⟩:=hp;simp at hu
  rw [hv,hu]
 have hv0:vs.getD 0 undef=.iface 55 (η 0):=by
  have:=hargs 0 (by simp)
  change ARep w X η _ (vs.getD 0 undef) (.v (.c (.cp 1 0))) at this;generalize vs.getD 0 undef=u at this
  cases this with|v _ _ hh=>cases hh with|c _ _ hh=>cases hh with|cp _ _ _ ws q1 q2 _=>
  rw [hifc] at q1;cases q1
  simpa using q2.symm
 have hv1:vs.getD 1 undef=.func (.func 171) #[] #[η 50]:=by
  have:=hargs 1 (by simp)
  change ARep w X η _ (vs.getD 1 undef) (.v (.c (.clo 171 [50]))) at this;generalize vs.getD 1 undef=u at this
  cases this with|v _ _ hh=>cases hh with|c _ _ hh=>cases hh with|clo _ _ ws q1=>
  rw [q1];rfl
 obtain ⟨Bs,cb,eb,hη50,hBs,hcb⟩:∃ Bs cb eb,η 50=.pointer (some ⟨Bs,0,none⟩)∧w.heap[Bs]?=some (.cells cb eb (0,0))∧z6 w X η (W9 S w X η) cb [.own 0]:=by
  have:=hobj 50 _ l50
  change ORep w X η _ (η 50) (.box false [.own 0]) at this;generalize η 50=u at this
  cases this with|box b _ c e _ h1 h2=>exact ⟨b,c,e,rfl,h1,h2⟩
 have hcb0:cb[0]?=some (η 0)∧cb.size=1:=by
  have h1:cb.size=1:=hcb.1;have h2:=hcb.2 0 (by simp)
  have h3:cb.getD 0 undef=η 0:=by
   change CRep w X η _ (cb.getD 0 undef) (.own 0) at h2;generalize cb.getD 0 undef=u at h2
   cases h2 with|own _ _ h5 _=>exact h5
  refine ⟨?_,h1⟩;rw [Array.getElem?_eq_getElem (by omega)]
  congr 1
  rw [← h3];simp [h1]
 rw [Y0i hlen,hv0,hv1,hη50];have ho:=hobj 0 _ l0
 have hXb:∀ b,b ∈ Y2 (η 0)→X b:=fun b hb=>hown b ⟨0,_,l0,hb⟩
 have hb50:Bs ∈ Y2 (η 50):=by rw [hη50];simp [Y2]
 have hXBs:X Bs:=hown Bs ⟨50,_,l50,hb50⟩;have hBlt:Bs<w.heap.size:=W5 hBs
 have fin:∀ (w' : World),Stp (fun y=>y ∈ Y2 (η 0)) w w' → ORep w' X η (W9 S w X η) (η 0) (AO r)→Behind (W9 S w X η) .any [(0,AO (α:=A2_) r),(50,bx [.own 0])] (.tuple #[]) η w':=by
  intro w' hst hob;have hl:∀ i o,ls [(0,AO (α:=A2_) r),(50,bx [.own 0])] i=some o→(i=0∧o=AO r)∨(i=50∧o=bx [.own 0]):=by
   intro i o hi;rw [V6] at hi
   by_cases h0:i=0
   ·rw [if_pos h0] at hi;cases hi;exact .inl ⟨h0,rfl⟩
   ·rw [if_neg h0,V6] at hi
    by_cases h5:i=50
    ·rw [if_pos h5] at hi;cases hi;exact .inr ⟨h5,rfl⟩
    ·rw [if_neg h5] at hi;cases hi
  have hXS:XS (W9 S w X η) (ls [(0,AO (α:=A2_) r),(50,bx [.own 0])]) η=X:=by
   funext y
   apply propext;constructor
   ·rintro (⟨hx,_⟩|⟨i,o,hi,hib⟩)
    ·exact hx
    ·rcases hl i o hi with ⟨rfl,_⟩|⟨rfl,_⟩
     ·exact hXb y hib
     ·exact hown y ⟨50,_,l50,hib⟩
   ·intro hx
    rcases Classical.em (Own (ls S) η y) with hy|hy
    ·obtain ⟨i,o,hi,hib⟩:=hy
     have:i=0∨i=1∨i=50:=by
      change List.lookup i S=some o at hi;have hm:=List.mem_map_of_mem (f:=(·.1)) (U6 (S:=S) hi)
      simpa [S] using hm
     rcases this with rfl|rfl|rfl
     ·exact .inr ⟨0,_,rfl,hib⟩
     ·rw [hifc] at hib;simp [Y2,Z4V] at hib
     ·exact .inr ⟨50,_,rfl,hib⟩
    ·exact .inl ⟨hx,hy⟩
  have hne:Bs ∉ Y2 (η 0):=fun hb=>by
   have:=hds 0 50 Bs (by rw [l0];simp) (by rw [l50];simp) hb hb50
   cases this
  refine ⟨hst.mono fun y _ hy=>⟨0,_,l0,rfl,hy⟩,.any _,fun i o hi=>?_,fun i j y hi hj hyi hyj=>?_,fun i o y hi hy=>?_,fun i v hi=>?_⟩
  ·rw [hXS]
   rcases hl i o hi with ⟨rfl,rfl⟩|⟨rfl,rfl⟩
   ·exact hob
   ·rw [hη50]
    have hh:w'.heap[Bs]?=some (.cells cb eb (0,0)):=(hst.block Bs hBlt hne).trans hBs;refine .box Bs false cb eb _ hh ⟨hcb.1,fun j hj=>?_⟩
    have hj0:j=0:=by simp at hj;omega
    subst hj0;have h2:=hcb.2 0 (by simp)
    change CRep w X η _ (cb.getD 0 undef) (.own 0) at h2;change CRep w' X η _ (cb.getD 0 undef) (.own 0)
    generalize cb.getD 0 undef=u at h2 ⊢
    cases h2 with|own _ _ h5 h6=>exact .own _ _ h5 h6
  ·obtain ⟨oi,hi⟩:=Option.ne_none_iff_exists'.1 hi
   obtain ⟨oj,hj⟩:=Option.ne_none_iff_exists'.1 hj;refine hds i j y ?_ ?_ hyi hyj
   ·rcases hl i oi hi with ⟨rfl,_⟩|⟨rfl,_⟩
    ·rw [l0];simp
    ·rw [l50];simp
   ·rcases hl j oj hj with ⟨rfl,_⟩|⟨rfl,_⟩
    ·rw [l0];simp
    ·rw [l50];simp
  ·rcases hl i o hi with ⟨rfl,_⟩|⟨rfl,_⟩
   ·exact .inr (.inl ⟨0,_,l0,rfl,hy⟩)
   ·exact .inr (.inl ⟨50,_,l50,rfl,hy⟩)
  ·change (if ((List.lookup i S).isSome=true) then some (η i) else none)=some v at hi
   split at hi
   ·cases hi;rfl
   ·cases hi
 have hgrow:∀ os:Array Go.Obj,∀ y,y<w.heap.size→(grow w os).heap[y]?=w.heap[y]?:=fun os y hy=>by
  simp only [grow];exact Array.getElem?_append_left hy
 have fin0:x.length≤1→∀ os,Behind (W9 S w X η) .any [(0,AO (α:=A2_) r),(50,bx [.own 0])] (.tuple #[]) η (grow w os):=by
  intro hx1 os;have hrx:r=x:=by
   rw [hr]
   match x,hx1 with
   | [],_=>simp
   | [a],_=>simp
  have hst:Stp (fun y=>y ∈ Y2 (η 0)) w (grow w os):=by
   exact ⟨rfl,rfl,rfl,by rw [size_grow];omega,fun y hy _=>hgrow os y hy,Nat.le_refl _⟩
  refine fin _ hst ?_;rw [hrx]
  exact ho.mono (fun y hy hn=>⟨hgrow os y hy,hn⟩) (fun _ _=>rfl) fun y hy=>hgrow os y (hX y (hXb y hy))
 have hx:∀ n args W,(callFunc n args).run Tryz.prog W=(callFunc n args).run Tryz.prog W:=fun _ _ _=>rfl
 generalize hu:η 0=u at ho;unfold AO at ho
 generalize hn:x.length=n at ho
 cases ho with
 | nil ad=>
  refine (Any.sort_Slice_tiny Tryz.lay170 55 54 Tryz.svT Tryz.svE (by kernel_rfl) (by kernel_rfl) (by kernel_rfl) (by kernel_rfl) 17 (fun _=>by kernel_rfl) ad 0 0 (by omega) 267 (by kernel_rfl) (.func 171) #[] _ w).mono fun e w' hh=>?_
  obtain ⟨he,os,hw⟩:=hh;refine ⟨_,η,he,?_⟩
  rw [hw];exact fin0 (by omega) os
 | arr b _ cap _ c e _ g1 g2 g3 g4 g5 g6 g7=>
  rename_i n
  have hblk:b ∈ Y2 (η 0):=by rw [hu];simp [Y2];omega
  have hes:Emb.es A2_=2:=rfl;rcases Nat.lt_or_ge n 2 with hn2|hn2
  ·have:n=0∨n=1:=by omega
   rcases this with h0|h0
   ·refine (Any.sort_Slice_tiny Tryz.lay170 55 54 Tryz.svT Tryz.svE (by kernel_rfl) (by kernel_rfl) (by kernel_rfl) (by kernel_rfl) 17 (fun _=>by kernel_rfl) (some ⟨b,0,none⟩) n cap (by omega) 267 (by rw [h0];kernel_rfl) (.func 171) #[] _ w).mono fun e w' hh=>?_
    obtain ⟨he,os,hw⟩:=hh
    refine ⟨_,η,he,?_⟩
    rw [hw]
    exact fin0 (by omega) os
   ·refine (Any.sort_Slice_tiny Tryz.lay170 55 54 Tryz.svT Tryz.svE (by kernel_rfl) (by kernel_rfl) (by kernel_rfl) (by kernel_rfl) 17 (fun _=>by kernel_rfl) (some ⟨b,0,none⟩) n cap (by omega) 268 (by rw [h0];kernel_rfl) (.func 171) #[] _ w).mono fun e w' hh=>?_
    obtain ⟨he,os,hw⟩:=hh
    refine ⟨_,η,he,?_⟩
    rw [hw]
    exact fin0 (by omega) os
  letI inst:Inhabited A2_:=⟨⟨0,0⟩⟩
  have hcell:∀ i,i<n→c.getD (i*2) undef=.int .i64 (x.getD i ⟨0,0⟩).e0_∧c.getD (i*2+1) undef=.int .i64 (x.getD i ⟨0,0⟩).e1_:=by
   intro i hi;have h0:=g7 i 0 hi (by rw [hes];omega)
   have h1:=g7 i 1 hi (by rw [hes];omega);rw [hes] at h0 h1
   rw [Nat.add_zero] at h0;change DRep w X (c.getD (i*2) undef) (.int .i64 (x.getD i ⟨0,0⟩).e0_) at h0
   change DRep w X (c.getD (i*2+1) undef) (.int .i64 (x.getD i ⟨0,0⟩).e1_) at h1;generalize c.getD (i*2) undef=u0 at h0
   generalize c.getD (i*2+1) undef=u1 at h1
   cases h0;cases h1;exact ⟨rfl,rfl⟩
  have hsz:c.size=cap*2:=by rw [g2,hes]
  have hbang:∀ i,i<n→x.toArray[i]! = x.getD i ⟨0,0⟩:=fun i hi=>by
   rw [getElem!_pos x.toArray i (by simp;omega)];simp [List.getD_eq_getElem?_getD,show i<x.length by omega]
  have hget:∀ (y:Array A2_) t,t<y.size*2→(flatK Z4S 2 y)[t]! = if t % 2=0 then .int .i64 (y[t / 2]!).e0_ else .int .i64 (y[t / 2]!).e1_:=by
   intro y t ht;rw [get_flatK _ _ _ _ ht]
   have:t % 2=0∨t % 2=1:=by omega
   rcases this with h|h <;> rw [h] <;> simp [Z4S]
  have hH:HoldsK Z4S 2 w b 0 x.toArray:=by
   intro t ht;have ht' : t<n*2:=by simpa [hn] using ht
   have htc:t<c.size:=by rw [hsz];have:=Nat.mul_le_mul_right 2 g3;omega
   refine ⟨?_,by simp [World.frozen?,g1]⟩;simp only [Nat.zero_add,World.cell?,g1,Option.isSome_none,Bool.false_eq_true,if_false,id]
   rw [Array.getElem?_eq_getElem htc];congr 1
   rw [hget _ _ (by simpa [hn] using ht'),hbang _ (by omega)];obtain ⟨h1,h2⟩:=hcell (t / 2) (by omega)
   have e1:c[t]=c.getD t undef:=by simp [htc]
   rw [e1];have:t % 2=0∨t % 2=1:=by omega
   rcases this with h|h
   ·rw [if_pos h, ← h1];congr 1;omega
   ·rw [if_neg (by omega), ← h2];congr 1;omega
  have hne:Bs≠b:=fun hb=>by
   have:=hds 0 50 Bs (by rw [l0];simp) (by rw [l50];simp) (by rw [hb];exact hblk) hb50
   cases this
  have hcellB:w.cell? ⟨Bs,0,none⟩=some (.slice (some ⟨b,0,none⟩) x.toArray.size cap):=by
   simp only [World.cell?,hBs,Option.isSome_none,Bool.false_eq_true,if_false];rw [hcb0.1,hu]
   simp [hn]
  have hblt:b<w.heap.size:=W5 g1;have hlim2:x.toArray.size<4611686018427387904:=by simp only [List.size_toArray];simp only [LIM] at hlim;omega
  have hless:LessReadsK Tryz.prog 171 #[.pointer (some ⟨Bs,0,none⟩)] Z4S 2 ltP b 0 x.toArray.size w:=by
   intro m os dk hs i j hi hj;have e:sortWorldK Z4S 2 w b 0 m dk os=putRowK Z4S 2 (grow (Go.Sort.ahead w m) os) b 0 dk:=by
    unfold sortWorldK;rw [putRowK_grow _ _ (Go.Sort.ahead w m) _ b 0 _ hblt]
   have hHg:HoldsK Z4S 2 (grow (Go.Sort.ahead w m) os) b 0 x.toArray:=holdsK_grow _ _ _ _ b 0 x.toArray hblt (holdsK_ahead _ _ _ _ _ _ _ hH);refine Tryz.less171 b 0 cap Bs x.toArray.size _ (fun t=>dk[t]!.e0_) ?_ (fun t ht=>?_) i j hi hj hlim2
   ·rw [e,cell?_putRowK_other _ _ _ b 0 dk _ (by exact hne),cell?_grow _ _ _ (by exact hBlt)];exact hcellB
   ·rw [e];exact ((holdsK_putRowK _ _ _ b 0 x.toArray dk hHg hs).cell (i:=t) (c:=0) (by omega) (by omega)).1
  have hmain:=Any.sort_Slice_cells_sorted Tryz.lay170 55 54 Tryz.svT Tryz.svE (by kernel_rfl) (by kernel_rfl) (by kernel_rfl) (by kernel_rfl) 17 (fun _=>by kernel_rfl) Z4S 2 (fun _=>rfl) (by kernel_rfl) (fun _=>by kernel_rfl)
   (fun p v hv=>by simp [Z4S] at hv;rcases hv with rfl|rfl <;> rfl) ltP Y4v 171 _
   (enters_of Tryz.func171 (by kernel_rfl) rfl) b 0 cap x.toArray (by simp;omega) hlim2 275 (by rw [Tryz.svK _ (by simp;omega)];kernel_rfl) false
   (fun args W=>run_callFunc_extern Tryz.func275 (by kernel_rfl) (by kernel_rfl) (by kernel_rfl) (e:=Extern.ReflectliteSwapper.swap false) (by kernel_rfl) args W) w hless hH hblt
  rw [show x.toArray.size=n by simp [hn]] at hmain;refine hmain.mono fun e' w' hh=>?_
  obtain ⟨he,d,nn,os,hp,hso,hw⟩:=hh;refine ⟨_,η,he,?_⟩
  have hdl:d.toList=r:=by
   rw [hr];exact Y2P hnd (by rw [show x.toArray.size=n by simp [hn]];exact hp) (by rw [show x.toArray.size=n by simp [hn]];exact hso)
  have hds2:d.size=n:=by rw [← Array.length_toList,hdl,hrl,hn]
  have hw2:w'=grow (putRow id (Go.Sort.ahead w nn) b 0 (flatK Z4S 2 d)) os:=hw;rw [hw2]
  have hst:=Z1f id w b 0 nn (flatK Z4S 2 d) os;refine fin _ (hst.mono fun y _ hy=>by rw [hy];exact hblk) ?_
  rw [hu];have hfs:(flatK Z4S 2 d).size=n*2:=by simp [hds2]
  unfold AO;rw [show r.length=n by rw [hrl,hn]]
  refine .arr b n cap _ (putCells id 0 (flatK Z4S 2 d) c) e _ (Z2v _ _ _ _ _ _ _ g1) (by rw [Q8H];exact g2) g3 g4 g5 (fun i hi=>Emb.len _) fun i j hi hj=>?_
  rw [hes] at hj ⊢;have hlt2:i*2+j<n*2:=by omega
  rw [Z0c _ _ _ _ (by rw [hfs];exact hlt2) (by rw [hfs,hsz];exact Nat.mul_le_mul_right _ g3)];have e4:d[i]! = r.getD i ⟨0,0⟩:=by
   rw [getElem!_pos d i (by omega)];simp [← hdl,List.getD_eq_getElem?_getD,show i<d.size by omega]
  show DRep _ X (id (flatK Z4S 2 d)[i*2+j]!) _;rw [id,hget _ _ (by rw [hds2];exact hlt2)]
  have:j=0∨j=1:=by omega
  rcases this with rfl|rfl
  ·rw [if_pos (by omega),show (i*2+0) / 2=i by omega,e4];exact .int _ _
  ·rw [if_neg (by omega),show (i*2+1) / 2=i by omega,e4];exact .int _ _
end Go.Ab
end
