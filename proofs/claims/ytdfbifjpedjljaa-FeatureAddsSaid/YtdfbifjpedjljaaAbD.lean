/- Abstract states over the model: every lemma holds of any program of the form that it names. -/
import Derived.Test.YtdfbifjpedjljaaAbC
import Derived.Test.YtdfbifjpedjljaaPuB
import Derived.Laws.IdiomCopy
import Derived.Laws.Append
set_option linter.unusedVariables false
set_option linter.unusedSimpArgs false
section
namespace Go.Ab
open Go.Proofs Go.Shelf
def insP (F:Nat) (l:List Feature) (i:Int) (m:List Feature):Option (List Feature):=
 gd (0≤i∧i≤((l.length:Nat):Int)) <| gd (m.length=1) <| gd (l.length+1≤LIM) <| some (l.take i.toNat++m++l.drop i.toNat)
theorem setCells_spec (b:Nat) (e:TypeId) (fz:Nat×Nat) : ∀ (vs:List Value) (o:Nat) (w:World) (c:Array Value),w.heap[b]? = some (.cells c e fz) →
  ∃ c',(w.setCells b o vs).heap[b]? = some (.cells c' e fz)∧c'.size=c.size∧(∀ k,k<c.size→c'.getD k undef=if o≤k∧k<o+vs.length then vs.getD (k-o) undef else c.getD k undef)∧Stp (fun x=>x=b) w (w.setCells b o vs):=by
 intro vs
 induction vs with
 | nil=>
  intro o w c h
  refine ⟨c,h,rfl,fun k hk=>?_,Stp.refl _ _⟩
  rw [if_neg (by rw [List.length_nil]; omega)]
 | cons v vs ih=>
  intro o w c h
  have h1:(w.setCell ⟨b,o,none⟩ v).heap[b]? = some (.cells (c.setIfInBounds o v) e fz):=by
   simp only [World.setCell,Array.getElem?_modify,if_pos,h,Option.map_some]; rfl
  have hst:Stp (fun x=>x=b) w (w.setCell ⟨b,o,none⟩ v):=by
   refine ⟨rfl,rfl,rfl, ?_,fun x hx hn=>?_,Nat.le_refl _⟩
   ·simp only [World.setCell,Array.size_modify]; exact Nat.le_refl _
   ·simp only [World.setCell,Array.getElem?_modify]
    rw [if_neg (fun hh=>hn hh.symm)]
  obtain ⟨c',g1,g2,g3,g4⟩:=ih (o+1) (w.setCell ⟨b,o,none⟩ v) (c.setIfInBounds o v) h1
  refine ⟨c',g1,by rw [g2]; simp,fun k hk=>?_, ?_⟩
  ·rw [g3 k (by simpa using hk)]
   have hset:(c.setIfInBounds o v).getD k undef=if o=k then v else c.getD k undef:=by
    simp only [Array.getD_eq_getD_getElem?,Array.getElem?_setIfInBounds]
    by_cases ho:o=k
    ·subst ho; rw [if_pos rfl,if_pos hk,if_pos rfl]; rfl
    ·rw [if_neg ho,if_neg ho]
   by_cases hin:o+1≤k∧k<o+1+vs.length
   ·rw [if_pos hin,if_pos (by rw [List.length_cons]; omega)]
    have:k-o=(k-(o+1))+1:=by omega
    rw [this,List.getD_cons_succ]
   ·rw [if_neg hin,hset]
    by_cases ho:o=k
    ·subst ho
     rw [if_pos rfl,if_pos (by rw [List.length_cons]; omega),Nat.sub_self]; rfl
    ·rw [if_neg ho,if_neg (by rw [List.length_cons]; omega)]
  ·exact hst.trans (g4.mono fun x _ hx=>.inl hx)
theorem row_cells {w:World} {b cap:Nat} {c:Array Value} {e:TypeId} (h:w.heap[b]? = some (.cells c e (0,0))) (hs:c.size=cap*5) {n:Nat} (hn:n≤cap) :
  (c.toList.take (n*5)).length=n*5∧(∀ j v,(c.toList.take (n*5))[j]? = some v→w.cell? ⟨b,j,none⟩=some v)∧(∀ j,j<cap*5→(w.cell? ⟨b,j,none⟩).isSome=true)∧(∀ j,w.frozen? ⟨b,j,none⟩=false) ∧
   (∀ k,k<n*5→(c.toList.take (n*5)).getD k undef=c.getD k undef)∧w.shape? b=some (e,c.size):=by
 have hl:n*5≤c.size:=by omega
 refine ⟨by rw [List.length_take,Array.length_toList]; omega,fun j v hv=>?_,fun j hj=>?_,fun j=>?_,fun k hk=>?_, ?_⟩
 ·rw [List.getElem?_take] at hv
  split at hv
  ·simp only [World.cell?,h,Option.isSome_none]
   rw [Array.getElem?_toList] at hv
   simpa using hv
  ·cases hv
 ·simp only [World.cell?,h,Option.isSome_none]
  simp
  omega
 ·simp [World.frozen?,h]
 ·rw [List.getD_eq_getElem?_getD,List.getElem?_take,if_pos hk,Array.getElem?_toList,Array.getD_eq_getD_getElem?]
 ·simp [World.shape?,h]
section
variable {w w' : World} {X:Nat→Prop} {η:Nat→Value} {l m r:List Feature}
theorem ls_two {A B:Obj} {i:Nat} {o:Obj} (h:ls [(0,A),(2,B)] i=some o):(i=0∧o=A)∨(i=2∧o=B):=by
 rw [ls_cons] at h
 by_cases h0:i=0
 ·rw [if_pos h0] at h; cases h; exact .inl ⟨h0,rfl⟩
 ·rw [if_neg h0,ls_cons] at h
  by_cases h2:i=2
  ·rw [if_pos h2] at h; cases h; exact .inr ⟨h2,rfl⟩
  ·rw [if_neg h2] at h; cases h
theorem ls_one {A:Obj} {k i:Nat} {o:Obj} (h:ls [(k,A)] i=some o):i=k∧o=A:=by
 rw [ls_cons] at h
 by_cases h0:i=k
 ·rw [if_pos h0] at h; cases h; exact ⟨h0,rfl⟩
 ·rw [if_neg h0] at h; cases h
theorem behind_ins {B cap' : Nat} {c' : Array Value} {e:TypeId} (hX : ∀ b,X b→b<w.heap.size) (hown : ∀ b,Own (ls [(0,AO l),(2,AO m)]) η b→X b)
  (hst:Stp (fun x=>Own (ls [(0,AO l),(2,AO m)]) η x) w w') (hh:w'.heap[B]? = some (.cells c' e (0,0))) (hs:c'.size=cap' * 5) (hn:r.length≤cap') (hm:cap' ≤ maxLen) (h0:0<cap')
  (hB:Own (ls [(0,AO l),(2,AO m)]) η B∨B=w.heap.size) (hd : ∀ i j,i<r.length→j<5→DRep w X (c'.getD (i*5+j) undef) ((LF r i).getD j .any)) :
  Behind (callCtx [(0,AO l),(2,AO m)] w X η) (.v (.c (.own 100))) [(100,AO r)] (.slice (some ⟨B,0,none⟩) r.length cap') (fun t=>if t=100 then .slice (some ⟨B,0,none⟩) r.length cap' else η t) w' := by
 have hblk : ∀ x,x ∈ blks (.slice (some ⟨B,0,none⟩) r.length cap')↔x=B:=by intro x; simp [blks]; omega
 have hM : ∀ x,Own (ls [(0,AO l),(2,AO m)]) η x→(callCtx [(0,AO l),(2,AO m)] w X η).M x:=by
  rintro x ⟨i,o,hi,hb⟩
  refine ⟨i,o,hi, ?_,hb⟩
  rcases ls_two hi with ⟨_,rfl⟩|⟨_,rfl⟩ <;> rfl
 have hXS : ∀ b,b<w.heap.size→¬ X b→w'.heap[b]? = w.heap[b]? ∧ ¬ XS (callCtx [(0,AO l),(2,AO m)] w X η) (ls [(100,AO r)]) (fun t=>if t=100 then .slice (some ⟨B,0,none⟩) r.length cap' else η t) b:=by
  intro b hb hx
  refine ⟨hst.block b hb fun ho=>hx (hown b ho), ?_⟩
  rintro (⟨hx',_⟩|⟨i,o,hi,hib⟩)
  ·exact hx hx'
  ·obtain ⟨rfl,_⟩:=ls_one hi
   simp only [↓reduceIte] at hib
   rw [hblk] at hib
   subst hib
   rcases hB with hB | hB
   ·exact hx (hown _ hB)
   ·omega
 refine ⟨hst.mono fun x _ hx=>hM x hx,.v _ _ (.c _ _ (.own _ _ (by rw [if_pos rfl]) rfl)),fun i o hi=>?_,fun i j x hi hj _ _=>?_,fun i o x hi hb=>?_,fun i v hi=>?_⟩
 ·obtain ⟨rfl,rfl⟩:=ls_one hi
  rw [if_pos rfl]
  exact .arr B _ cap' _ c' e _ hh hs hn hm h0 (Is.refl r).len fun i j hi hj=>(hd i j hi hj).mono hXS
 ·obtain ⟨oi,hi⟩:=Option.ne_none_iff_exists'.1 hi
  obtain ⟨oj,hj⟩:=Option.ne_none_iff_exists'.1 hj
  rw [(ls_one hi).1,(ls_one hj).1]
 ·obtain ⟨rfl,rfl⟩:=ls_one hi
  rw [if_pos rfl,hblk] at hb
  subst hb
  rcases hB with hB | hB
  ·exact .inr (.inl (hM _ hB))
  ·exact .inr (.inr (by rw [hB]; exact Nat.le_refl _))
 ·change (if ((List.lookup i [(0,AO (α:=Feature) l),(2,AO m)]).isSome=true) then some (η i) else none)=some v at hi
  split at hi
  ·rename_i hs
   cases hi
   have:i≠100:=fun hi=>by subst hi; simp [List.lookup] at hs
   show (if i=100 then _ else η i)=η i
   rw [if_neg this]
  ·cases hi
end
theorem LF_ins {l m:List Feature} (hm:m.length=1) {k p:Nat} (hk:k≤l.length):LF (l.take k++m++l.drop k) p=if p<k then LF l p else if p=k then LF m 0 else LF l (p-1):=by
 have hlt:(l.take k).length=k:=by rw [List.length_take]; omega
 unfold LF
 simp only [List.getD_eq_getElem?_getD]
 by_cases h1:p<k
 ·rw [if_pos h1,List.append_assoc,List.getElem?_append_left (by omega),List.getElem?_take,if_pos h1]
 ·rw [if_neg h1]
  by_cases h2:p=k
  ·rw [if_pos h2,List.append_assoc,List.getElem?_append_right (by omega),hlt,h2,Nat.sub_self,List.getElem?_append_left (by omega)]
  ·rw [if_neg h2,List.getElem?_append_right (by rw [List.length_append]; omega),List.length_append,hlt,hm,List.getElem?_drop]
   congr 3
   omega
theorem stp_drew_alloc (Z:Nat→Prop) (w:World) (o:Go.Obj):Stp Z w (w.drew.alloc o):=
 (Stp.drew Z w).trans (Stp.alloc _ w.drew o)
theorem getD_list (a:List Value) (k:Nat):a.toArray.getD k undef=a.getD k undef:=by
 rw [Array.getD_eq_getD_getElem?,List.getElem?_toArray,List.getD_eq_getElem?_getD]
theorem getD_app (a b:Array Value) (k:Nat) (h:k<a.size):(a++b).getD k undef=a.getD k undef:=by
 rw [Array.getD_eq_getD_getElem?,Array.getD_eq_getD_getElem?,Array.getElem?_append_left h]
theorem FSpec.raw2 {P:Program} {f:Nat} {args:List AVal} {A B B0:Obj} {r:AVal} {S' : List (Nat×Obj)} (h:FSpec P f args [(0,A),(2,B)] r S') (hb:OLe B0 B):FSpec P f args [(0,A),(2,B0)] r S' := by
 have l0:ls [(0,A),(2,B)] 0=some A:=by rw [ls_cons,if_pos rfl]
 have l2:ls [(0,A),(2,B)] 2=some B:=by rw [ls_cons,if_neg (by decide),ls_cons,if_pos rfl]
 have k0:ls [(0,A),(2,B0)] 0=some A:=by rw [ls_cons,if_pos rfl]
 have k2:ls [(0,A),(2,B0)] 2=some B0:=by rw [ls_cons,if_neg (by decide),ls_cons,if_pos rfl]
 intro w X η vs hX hown hobj hds hlen hargs
 have hO : ∀ b,Own (ls [(0,A),(2,B)]) η b↔Own (ls [(0,A),(2,B0)]) η b:=fun b=>by
  constructor
  ·rintro ⟨i,o,hi,hib⟩
   rcases ls_two hi with ⟨rfl,rfl⟩|⟨rfl,rfl⟩
   ·exact ⟨0,_,k0,hib⟩
   ·exact ⟨2,_,k2,hib⟩
  ·rintro ⟨i,o,hi,hib⟩
   rcases ls_two hi with ⟨rfl,rfl⟩|⟨rfl,rfl⟩
   ·exact ⟨0,_,l0,hib⟩
   ·exact ⟨2,_,l2,hib⟩
 have hc:callCtx [(0,A),(2,B0)] w X η=callCtx [(0,A),(2,B)] w X η:=by
  unfold callCtx
  congr 1
  ·funext b; exact propext (hO b).symm
  ·funext b
   apply propext
   constructor
   ·rintro ⟨i,o,hi,hr,hib⟩
    rcases ls_two hi with ⟨rfl,rfl⟩|⟨rfl,rfl⟩
    ·exact ⟨0,_,l0,hr,hib⟩
    ·exact ⟨2,_,l2,by rw [hb.2.1]; exact hr,hib⟩
   ·rintro ⟨i,o,hi,hr,hib⟩
    rcases ls_two hi with ⟨rfl,rfl⟩|⟨rfl,rfl⟩
    ·exact ⟨0,_,k0,hr,hib⟩
    ·exact ⟨2,_,k2,by rw [← hb.2.1]; exact hr,hib⟩
  ·funext i
   have:(List.lookup i [(0,A),(2,B0)]).isSome=(List.lookup i [(0,A),(2,B)]).isSome:=by
    rw [List.lookup_cons,List.lookup_cons,List.lookup_cons,List.lookup_cons]
    cases i==0 <;> cases i==2 <;> rfl
   rw [this]
 rw [hc] at hobj hargs ⊢
 have hne : ∀ i,ls [(0,A),(2,B)] i≠none→ls [(0,A),(2,B0)] i≠none:=fun i hi=>by
  obtain ⟨o,ho⟩:=Option.ne_none_iff_exists'.1 hi
  rcases ls_two ho with ⟨rfl,_⟩|⟨rfl,_⟩
  ·rw [k0]; simp
  ·rw [k2]; simp
 refine h w X η vs hX (fun b hb' => hown b ((hO b).1 hb')) (fun i o hi=>?_) (fun i j b hi hj=>hds i j b (hne i hi) (hne j hj)) hlen hargs
 rcases ls_two hi with ⟨rfl,rfl⟩|⟨rfl,rfl⟩
 ·exact hobj 0 _ k0
 ·exact hb.1 _ _ _ _ _ (hobj 2 _ k2)
end Go.Ab
end
