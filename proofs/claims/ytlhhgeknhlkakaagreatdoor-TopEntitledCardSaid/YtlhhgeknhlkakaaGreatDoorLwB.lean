/- What the plain programs compute, up to the law itself. -/
import Derived.Test.YtlhhgeknhlkakaaGreatDoorLwA
set_option linter.unusedVariables false
set_option linter.unusedSimpArgs false
set_option maxRecDepth 20000
namespace Go.Ab
noncomputable section
theorem Z4U(l:List Rg_)(y c:Int)(a:List Rect):(YU l y c a).length<=l.length+1:=by
 rw[<-(xX l y c a).length_eq];have b:=Qh7 Zg (QP l y c a++[(⟨y,c,⟨vA l y c a⟩⟩:Rg_)])
 have d:=co l y c a;simp only[Qb5,Qb0,Qb6]at b
 omega
theorem HisT.addH_len{K:Int}{l:List Rg_}(h:HisT K l){y c:Int}(hy:0<=y/\y<=100)(hc:0<=c/\c<40){a:Re_}(ha:RegT 9 a):(Go.Ab.addH l y c a).1.length<=l.length+1:=by
 rw[Q3w h.hl hy hc ha.val];split
 .simp
 .exact Z4U l y c a.t_
theorem Z1G{F:Nat}(hF:Q7<=F){t:Tape}(ht:TOk t){cs:List Crop}(hcs:CropT cs){most:Int}(m1:0<=most)(m2:most<=50):∃t' l,TP F t cs 4 most=some (t',l)/\TOk t' /\ HisT (cs.length:Nat) l/\(l.length:Int)<=most:=by
 have b:=hF;unfold Q7 at hF
 obtain⟨N,o⟩:=hcs.len;obtain⟨G,c,E,D,C,q⟩:=Qz (F:=F) ht (n:=most+1) (by omega) (by omega)
 have h:∀(k f:Nat) (t:Tape) (l:List Rg_),k<f->k<=60->(l.length:Int)+k<=most->TOk t->HisT (cs.length:Nat) l->∃t' l',Y3 (λagain (z:List Rg_×Int×List Int×Int)=>TO F cs 4 again z.1 z.2.1 z.2.2.1 z.2.2.2) f (l,(k:Int),t.l_,t.at_)=some (t',l')/\TOk t' /\ HisT (cs.length:Nat) l' /\ (l'.length:Int)<=most:=by
  intro k
  induction k with
  |zero=>
   intro f t l u _ i ht e
   cases f with
   |zero=>omega
   |succ f=>exact⟨⟨t.l_,t.at_⟩,l,rfl,ht,e,by omega⟩
  |succ k ih=>
   intro f t l u p i ht e
   cases f with
   |zero=>omega
   |succ f=>
    obtain⟨L,y,x,J,M,K⟩:=Qz (F:=F) ht (n:=5) (by omega) (by omega);obtain⟨O,c,H,A,C,q⟩:=Qz (F:=F) J (n:=(cs.length:Nat)) (by omega) (by omega)
    obtain⟨I,a,r,w,m⟩:=Q0T b A (n:=9) (most:=2) (by omega) (by omega) (by omega) (by omega);have B:=e.addH_len (y:=y) (c:=c) (by omega) (by omega) m
    obtain⟨v,o,d,j,g⟩:=ih f I (addH l y c a).1 (by omega) (by omega) (by omega) w (e.addH (by omega) (by omega) q m);refine⟨v,o,?_,j,g⟩
    show TO F cs 4 _ l ((k+1:Nat):Int) t.l_ t.at_=_;unfold TO
    refine U3 (by simp) ?_;refine Z4 (k:=?_)
    refine Q4 x (Q4 H (Q4 r (Q4 (Q9x b _ _ _ _) ?_)));refine Z4 (k:=?_)
    have s:((k+1:Nat):Int)-1=(k:Int):=by omega
    rw[s];exact d
 obtain⟨t',l,d,j,g⟩:=h c.toNat F G [] (by omega) (by omega) (by simp;omega) D (HisT.nil _);refine⟨t',l,?_,j,g⟩
 unfold TP;refine Z4 (k:=?_)
 refine Q4 E ?_;have:(c.toNat:Int)=c:=by omega
 rw[this]at d;exact d
def VE(cs:List Crop)(c m:Int):Bool:=decide (0<=c)&&(decide (c<(cs.length:Nat))&&((m != 0)&&(QK .i64 (gl cs c.toNat).m_ m==m)))
theorem xC(F:Nat)(cs:List Crop)(c m:Int):XT F cs c m=some (VE cs c m):=by
 unfold XT VE;refine Z9 (λa=>?_) (λa=>?_)
 .rw [a,Qc6]
  refine Z9 (λb=>?_) (λb=>?_)
  .rw [b,Qc6]
   have a:=Qa6 a;have b:=Qa6 b
   refine Z9 (λd=>?_) (λd=>?_)
   .rw [d,Qc6];exact Q9 ⟨a,b⟩ rfl
   .rw [d];rfl
  .rw [b];rfl
 .rw [a];rfl
theorem Q4j{K:Int}{l:List Rg_}(h:HisT K l)(y:Int)(p:Int->Bool):∀i,i<=l.length->(Zj (l.take i) y p).length<=45*i:=by
 intro i
 induction i with
 |zero=>intro _;rw[Qn7];exact Qb3 _
 |succ i ih=>
  intro c;have a:=J9 (show i<l.length by omega)
  rw[QB (show i<l.length by omega),Lh,Qb5];have:=ih (by omega)
  have b:=YC.half (h.hl.val a).2.2 (n:=9) (h.box _ a);split
  .omega
  .simp only[Qb6];omega
structure FewR (l:List Rg_):Prop where
 hl:HL l
 few:∀y p i,i<l.length->(Zj (l.take i) y p).length<=300
end
end Go.Ab
