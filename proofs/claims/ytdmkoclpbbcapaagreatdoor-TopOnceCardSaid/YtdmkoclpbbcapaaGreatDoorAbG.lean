/- Abstract states over the model. -/
import Derived.Test.YtdmkoclpbbcapaaGreatDoorAbF
import Derived.Test.YtdmkoclpbbcapaaGreatDoorLwD
import Derived.Test.YtdmkoclpbbcapaaGreatDoorAbD
set_option linter.unusedVariables false
set_option linter.unusedSimpArgs false
set_option maxRecDepth 20000
namespace Go.Ab
noncomputable section
section
section
variable {F:Nat} {rs:List Re_} {l:List Line} {ps:List Re_} {L:List Scheme} {w:World}
end
end
section
def La(A:List Rect)(S:Sq):Prop:=∃b:Bool,∀u v,S u v=(Q2 A u v&&b)
structure FlatT (A:List Rect) (s:TS):Prop where
 y:La A s.Y
 n:La A s.N
variable {A:List Rect}
theorem FlatT.o{s:TS}(h:FlatT A s):La A (s.O A):=by
 obtain⟨⟨b,d⟩,c,a⟩:=h;refine⟨!b && !c,λu v=>?_⟩
 unfold TS.O;rw[d,a]
 cases Q2 A u v<;>cases b<;>cases c<;>rfl
variable {w:World} (hw:WT w) (h9:∀u v,Q2 A u v=true->9<=u)
include hw h9
end
section
structure SelOk (sel:Line->TS->Sq):Prop where
 fin:∀x P,TIn x.g_.t_ P->Fin (sel x P)
 sub:∀x P,TIn x.g_.t_ P->∀u v,sel x P u v=true->Q2 x.g_.t_ u v=true
 flat:∀x P,FlatT x.g_.t_ P->La x.g_.t_ (sel x P)
def Um(_:Line)(P:TS):Sq:=P.Y
def KP(_:Line)(P:TS):Sq:=P.N
def UZ(x:Line)(P:TS):Sq:=P.O x.g_.t_
theorem Xz:SelOk Um:=⟨λ_ _ h=>h.fY,λ_ _ h=>h.sY,λ_ _ h=>h.y⟩
theorem jL:SelOk KP:=⟨λ_ _ h=>h.fN,λ_ _ h=>h.sN,λ_ _ h=>h.n⟩
theorem Q8k(x:Line)(P:TS)(u v:Int)(hx:UZ x P u v=true):Q2 x.g_.t_ u v=true:=by
 unfold UZ TS.O at hx
 grind
theorem jK:SelOk UZ:=⟨λ_ _ h=>h.fO,λx P _=>Q8k x P,λ_ _ h=>h.o⟩
def VP(rs:List Re_)(x:Line):Re_:=gl rs (x.p_-1).toNat
section
variable (w:World) (rs:List Re_) (s:Scheme) (sel:Line->TS->Sq)
def Hk(x:Line):Sq:=λu v=>ZR x.s_ s.N_&&sel x (Ji w x (VP rs x) s) u v
def Qj(m:List Line):List Rect:=m.flatMap λx=>if ZR x.s_ s.N_=true then cn (sel x (Ji w x (VP rs x) s))else[]
theorem Hl(a b:List Line):Qj w rs s sel (a++b)=Qj w rs s sel a++Qj w rs s sel b:=Qs7
theorem Cz(x:Line):Qj w rs s sel [x]=if ZR x.s_ s.N_=true then cn (sel x (Ji w x (VP rs x) s))else[]:=by
 unfold Qj
 grind
end
section
variable {w:World} {rs:List Re_} {s:Scheme} {sel:Line->TS->Sq}
theorem Q1M(hs:SelOk sel)(x:Line)(u v:Int)(h:Hk w rs s sel x u v=true):Q2 x.g_.t_ u v=true:=by
 unfold Hk at h;rw[Qa4]at h
 exact hs.sub x _ (DR w x (VP rs x) s) u v h.2
theorem Z3k(hs:SelOk sel)(x:Line)(u v:Int):Q2 (Qj w rs s sel [x]) u v=Hk w rs s sel x u v:=by
 rw[Cz];unfold Hk
 cases ZR x.s_ s.N_ with
 |false=>rfl
 |true=>rw[Qa2 rfl,QN (hs.fin x _ (DR w x (VP rs x) s))];rfl
theorem vr(hs:SelOk sel)(u v:Int):∀m:List Line,Q2 (Qj w rs s sel m) u v=m.any λx=>Hk w rs s sel x u v
 |[]=>rfl
 |x::m=>by
  have:Qj w rs s sel (x::m)=Qj w rs s sel [x]++Qj w rs s sel m:=Hl w rs s sel [x] m
  rw[this,Jk,vr hs u v m,Z3k hs];rfl
theorem Q1O(hs:SelOk sel){x:Line}(hA:TR x.g_.t_):J1 (Qj w rs s sel [x]):=by
 rw[Cz];split
 .exact hA.sub (hs.fin x _ (DR w x (VP rs x) s)) (hs.sub x _ (DR w x (VP rs x) s))
 .exact J1.nil
theorem vq(hs:SelOk sel):∀{m:List Line},(∀x∈m,TR x.g_.t_)->(Qj w rs s sel m).length<=120*m.length
 |[],_=>Qc3 _
 |x::m,h=>by
  have e:Qj w rs s sel (x::m)=Qj w rs s sel [x]++Qj w rs s sel m:=Hl w rs s sel [x] m;have c:=(Q1O (w:=w) (rs:=rs) (s:=s) hs (h x (by simp))).1
  have b:=vq hs (m:=m) λy a=>h y (by simp[a])
  grind
theorem Q1N(hs:SelOk sel):∀{m:List Line},(∀x∈m,TR x.g_.t_)->∀r∈Qj w rs s sel m,QQ r=true/\r.L_<r.R_
 |[],_,r,a=>(Qe7 a).elim
 |x::m,h,r,a=>by
  have e:Qj w rs s sel (x::m)=Qj w rs s sel [x]++Qj w rs s sel m:=Hl w rs s sel [x] m;rw[e]at a
  have b:=Q1O (w:=w) (rs:=rs) (s:=s) hs (h x (by simp));rcases Qa9.1 a with a|a
  .exact ⟨b.2.1 r a,b.pos r a⟩
  .exact Q1N hs (m:=m) (λy c=>h y (by simp[c])) r a
end
section
variable {F:Nat} {rs:List Re_} {l:List Line} {ps:List Re_} {L:List Scheme} {w:World}
end
end
end
end Go.Ab
