/- Abstract states over the model. -/
import Derived.Test.YtjafnaffdfaokaaGreatDoorAbE
import Derived.Test.YtjafnaffdfaokaaGreatDoorLwD
import Derived.Test.YtjafnaffdfaokaaGreatDoorAbD
set_option linter.unusedVariables false
set_option linter.unusedSimpArgs false
set_option maxRecDepth 20000
namespace Go.Ab
noncomputable section
section
section
variable {F:Nat} {rs:List Re_} {l:List Line} {ps:List Re_} {L:List Scheme} {w:World}
end
end
section
def CJ(A:List Rect)(S:Sq):Prop:=∃ b:Bool,∀ u v,S u v=(Q4 A u v&&b)
structure FlatT (A:List Rect) (s:TS):Prop where
 y:CJ A s.Y
 n:CJ A s.N
variable {A:List Rect}
theorem FlatT.o{s:TS}(h:FlatT A s):CJ A (s.O A):=by
 obtain ⟨⟨b,d⟩,c,a⟩:=h;refine ⟨!b && !c,fun u v=>?_⟩
 unfold TS.O;rw [d,a]
 cases Q4 A u v <;> cases b <;> cases c <;> rfl
variable {w:World} (hw:WT w) (h9:∀ u v,Q4 A u v=true->9<=u)
include hw h9
end
section
structure SelOk (sel:Line->TS->Sq):Prop where
 fin:∀ x P,TIn x.g_.t_ P->Fin (sel x P)
 sub:∀ x P,TIn x.g_.t_ P->∀ u v,sel x P u v=true->Q4 x.g_.t_ u v=true
 flat:∀ x P,FlatT x.g_.t_ P->CJ x.g_.t_ (sel x P)
def Wl(_:Line)(P:TS):Sq:=P.Y
def GU(_:Line)(P:TS):Sq:=P.N
def Jl(x:Line)(P:TS):Sq:=P.O x.g_.t_
theorem MH:SelOk Wl:=⟨fun _ _ h=>h.fY,fun _ _ h=>h.sY,fun _ _ h=>h.y⟩
theorem Q6w:SelOk GU:=⟨fun _ _ h=>h.fN,fun _ _ h=>h.sN,fun _ _ h=>h.n⟩
theorem Q6u(x:Line)(P:TS)(u v:Int)(hx:Jl x P u v=true):Q4 x.g_.t_ u v=true:=by
 unfold Jl TS.O at hx
 cases hA:Q4 x.g_.t_ u v with
 | true=>rfl
 | false=>rw [hA] at hx;cases hx
theorem Q6v:SelOk Jl:=⟨fun _ _ h=>h.fO,fun x P _=>Q6u x P,fun _ _ h=>h.o⟩
def ZJ(rs:List Re_)(x:Line):Re_:=gl rs (x.p_-1).toNat
section
variable (w:World) (rs:List Re_) (s:Scheme) (sel:Line->TS->Sq)
def Qu(m:List Line):List Rect:=m.flatMap fun x=>if ZG x.s_ s.N_=true then cn (sel x (Yn w x (ZJ rs x) s)) else []
theorem Ge(a b:List Line):Qu w rs s sel (a++b)=Qu w rs s sel a++Qu w rs s sel b:=List.flatMap_append
theorem XN(x:Line):Qu w rs s sel [x]=if ZG x.s_ s.N_=true then cn (sel x (Yn w x (ZJ rs x) s)) else []:=by
 unfold Qu;rw [List.flatMap_cons,List.flatMap_nil,List.append_nil]
end
section
variable {w:World} {rs:List Re_} {s:Scheme} {sel:Line->TS->Sq}
theorem Q0o(hs:SelOk sel){x:Line}(hA:TR x.g_.t_):J2 (Qu w rs s sel [x]):=by
 rw [XN];split
 .exact hA.sub (hs.fin x _ (KU w x (ZJ rs x) s)) (hs.sub x _ (KU w x (ZJ rs x) s))
 .exact J2.nil
theorem Ty(hs:SelOk sel):∀ {m:List Line},(∀ x ∈ m,TR x.g_.t_)->(Qu w rs s sel m).length<=120*m.length
 | [],_=>Nat.zero_le _
 | x::m,h=>by
  have e:Qu w rs s sel (x::m)=Qu w rs s sel [x]++Qu w rs s sel m:=Ge w rs s sel [x] m;have b:=(Q0o (w:=w) (rs:=rs) (s:=s) hs (h x (by simp))).1
  have c:=Ty hs (m:=m) fun y a=>h y (by simp [a])
  rw [e,List.length_append,List.length_cons];omega
theorem Q0n(hs:SelOk sel):∀ {m:List Line},(∀ x ∈ m,TR x.g_.t_)->∀ r ∈ Qu w rs s sel m,QP r=true/\r.L_<r.R_
 | [],_,r,a=>(List.not_mem_nil a).elim
 | x::m,h,r,a=>by
  have e:Qu w rs s sel (x::m)=Qu w rs s sel [x]++Qu w rs s sel m:=Ge w rs s sel [x] m;rw [e] at a
  have b:=Q0o (w:=w) (rs:=rs) (s:=s) hs (h x (by simp));rcases List.mem_append.1 a with a|a
  .exact ⟨b.2.1 r a,b.pos r a⟩
  .exact Q0n hs (m:=m) (fun y c=>h y (by simp [c])) r a
theorem vm(a b:List Rect):area (a++b)=area a+area b:=by
 unfold area;rw [List.map_append,List.sum_append]
end
section
variable {F:Nat} {rs:List Re_} {l:List Line} {ps:List Re_} {L:List Scheme} {w:World}
def Ya(w:World)(rs:List Re_)(l:List Line)(s:Scheme):Int:=if area (Qu w rs s Wl l)<s.least_ then 0 else area (Qu w rs s Wl l)
end
end
end
end Go.Ab
