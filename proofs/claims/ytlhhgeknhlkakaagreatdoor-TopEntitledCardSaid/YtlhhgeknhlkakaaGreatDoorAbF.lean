/- Abstract states over the model. -/
import Derived.Test.YtlhhgeknhlkakaaGreatDoorAbE
import Derived.Test.YtlhhgeknhlkakaaGreatDoorLwD
import Derived.Test.YtlhhgeknhlkakaaGreatDoorAbD
set_option linter.unusedVariables false
set_option linter.unusedSimpArgs false
set_option maxRecDepth 20000
namespace Go.Ab
noncomputable section
section
section
variable {F:Nat} {rs:List Re_} {l:List Line} {ps:List Re_} {L:List Scheme} {w:World}
end
end
section
def FV(A:List Rect)(S:Sq):Prop:=∃b:Bool,∀u v,S u v=(Q8 A u v&&b)
structure FlatT (A:List Rect) (s:TS):Prop where
 y:FV A s.Y
 n:FV A s.N
variable {A:List Rect}
theorem FlatT.o{s:TS}(h:FlatT A s):FV A (s.O A):=by
 obtain⟨⟨b,d⟩,c,a⟩:=h;refine⟨!b && !c,λu v=>?_⟩
 unfold TS.O;rw[d,a]
 cases Q8 A u v<;>cases b<;>cases c<;>rfl
variable {w:World} (hw:WT w) (h9:∀u v,Q8 A u v=true->9<=u)
include hw h9
end
section
structure SelOk (sel:Line->TS->Sq):Prop where
 fin:∀x P,TIn x.g_.t_ P->Fin (sel x P)
 sub:∀x P,TIn x.g_.t_ P->∀u v,sel x P u v=true->Q8 x.g_.t_ u v=true
 flat:∀x P,FlatT x.g_.t_ P->FV x.g_.t_ (sel x P)
def Vs(_:Line)(P:TS):Sq:=P.Y
def GN(_:Line)(P:TS):Sq:=P.N
def Jj(x:Line)(P:TS):Sq:=P.O x.g_.t_
theorem Ri:SelOk Vs:=⟨λ_ _ h=>h.fY,λ_ _ h=>h.sY,λ_ _ h=>h.y⟩
theorem Q7y:SelOk GN:=⟨λ_ _ h=>h.fN,λ_ _ h=>h.sN,λ_ _ h=>h.n⟩
theorem Q7w(x:Line)(P:TS)(u v:Int)(hx:Jj x P u v=true):Q8 x.g_.t_ u v=true:=by
 unfold Jj TS.O at hx
 cases hA:Q8 x.g_.t_ u v with
 |true=>rfl
 |false=>rw[hA]at hx;cases hx
theorem Q7x:SelOk Jj:=⟨λ_ _ h=>h.fO,λx P _=>Q7w x P,λ_ _ h=>h.o⟩
def Uz(rs:List Re_)(x:Line):Re_:=gl rs (x.p_-1).toNat
section
variable (w:World) (rs:List Re_) (s:Scheme) (sel:Line->TS->Sq)
def QL(m:List Line):List Rect:=m.flatMap λx=>if ZS x.s_ s.N_=true then cn (sel x (UE w x (Uz rs x) s))else[]
theorem Cw(a b:List Line):QL w rs s sel (a++b)=QL w rs s sel a++QL w rs s sel b:=Qr9
theorem vF(x:Line):QL w rs s sel [x]=if ZS x.s_ s.N_=true then cn (sel x (UE w x (Uz rs x) s))else[]:=by
 unfold QL;rw[Qm7,List.flatMap_nil,Qi2]
end
section
variable {w:World} {rs:List Re_} {s:Scheme} {sel:Line->TS->Sq}
theorem Q1z(hs:SelOk sel){x:Line}(hA:TR x.g_.t_):K7 (QL w rs s sel [x]):=by
 rw[vF];split
 .exact hA.sub (hs.fin x _ (Tw w x (Uz rs x) s)) (hs.sub x _ (Tw w x (Uz rs x) s))
 .exact K7.nil
theorem Cv(hs:SelOk sel):∀{m:List Line},(∀x∈m,TR x.g_.t_)->(QL w rs s sel m).length<=120*m.length
 |[],_=>Qc2 _
 |x::m,h=>by
  have e:QL w rs s sel (x::m)=QL w rs s sel [x]++QL w rs s sel m:=Cw w rs s sel [x] m;have c:=(Q1z (w:=w) (rs:=rs) (s:=s) hs (h x (by simp))).1
  have b:=Cv hs (m:=m) λy a=>h y (by simp[a])
  rw[e,Qb5,Qb0];omega
theorem Q1y(hs:SelOk sel):∀{m:List Line},(∀x∈m,TR x.g_.t_)->∀r∈QL w rs s sel m,QS r=true/\r.L_<r.R_
 |[],_,r,a=>(Qg0 a).elim
 |x::m,h,r,a=>by
  have e:QL w rs s sel (x::m)=QL w rs s sel [x]++QL w rs s sel m:=Cw w rs s sel [x] m;rw[e]at a
  have b:=Q1z (w:=w) (rs:=rs) (s:=s) hs (h x (by simp));rcases Qb2.1 a with a|a
  .exact ⟨b.2.1 r a,b.pos r a⟩
  .exact Q1y hs (m:=m) (λy c=>h y (by simp[c])) r a
end
section
variable {F:Nat} {rs:List Re_} {l:List Line} {ps:List Re_} {L:List Scheme} {w:World}
def YX(w:World)(rs:List Re_)(l:List Line)(s:Scheme):Int:=if Wn (QL w rs s Vs l)<s.least_ then 0 else Wn (QL w rs s Vs l)
end
end
end
end Go.Ab
