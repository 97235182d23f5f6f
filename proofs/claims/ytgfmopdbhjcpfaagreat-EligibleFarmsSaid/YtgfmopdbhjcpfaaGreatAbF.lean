/- Abstract states over the model. -/
import Derived.Test.YtgfmopdbhjcpfaaGreatAbE
import Derived.Test.YtgfmopdbhjcpfaaGreatLwD
set_option linter.unusedVariables false
set_option linter.unusedSimpArgs false
set_option maxRecDepth 20000
namespace Go.Ab
noncomputable section
section
structure TB (rs:List Re_) (l:List Line) (ps:List Re_) (L:List Scheme) (w:World):Prop where
 par:ParT rs
 lin:LinT (w.crops_.length:Nat) rs l
 prc:PrT rs l ps
 lt:LT L
 good:L=[]\/GoodL 3 L
 w:WT w
section
variable {F:Nat} {rs:List Re_} {l:List Line} {ps:List Re_} {L:List Scheme} {w:World}
theorem TB.tr (h:TB rs l ps L w) {i:Nat} (hi:i<l.length):TR (gl l i).g_.t_:=by
 have a:=h.lin.one _ (W9 hi);have b:=a.par
 have c:=h.par.len;exact TR.of_pl a.val (d:=10*((gl l i).p_-1)) (by omega) (a.pl h.par)
theorem TB.ptr (h:TB rs l ps L w) {i:Nat} (hi:i<l.length):TR (gl ps i).t_:=by
 have b:=(h.lin.one _ (W9 hi)).par;have c:=h.par.len
 rw [h.prc.at_ i hi];have a:((gl l i).p_-1).toNat<rs.length:=by omega
 exact TR.of_pl (h.par.val a) (d:=10*(((gl l i).p_-1).toNat:Nat)) (by omega) (h.par.pl a)
theorem TB.sub (h:TB rs l ps L w) {i:Nat} (hi:i<l.length):∀ u v,inR (gl l i).g_.t_ u v=true->inR (gl ps i).t_ u v=true:=by
 rw [h.prc.at_ i hi];exact (h.lin.one _ (W9 hi)).sub
theorem TB.one (h:TB rs l ps L w) {k:Nat} (hk:k<L.length):Q7t 3 (gl L k)=0:=by
 rcases h.good with a|a
 ·rw [a] at hk;exact absurd hk (Nat.not_lt_zero k)
 ·exact a.one k hk
theorem TB.line (hF:BIG+3<=F) (h:TB rs l ps L w) {i:Nat} (hi:i<l.length) {k:Nat} (hk:k<L.length):Q1e F (gl l i) (gl ps i) (gl L k) w=some ((lnT w (gl l i) (gl ps i) (gl L k)).t3 (gl l i).g_.t_,0):=
 Y8S hF h.w (h.tr hi) (h.lin.one _ (W9 hi)).crop (h.lt.st _ (W9 hk)).sd (h.one hk) (h.ptr hi) (h.sub hi)
theorem Y9V {x:Line} {parcel:Re_} {s:Scheme} (hq:Q6E x.s_ s.N_=false):(lnT w x parcel s).Y=(fun _ _=>false)/\(lnT w x parcel s).O x.g_.t_=fun _ _=>false:=by
 unfold lnT;rw [if_pos hq]
 exact ⟨rfl,Y8w _ _⟩
end
theorem W1m {F:Nat} (hF:BIG+3<=F) (tape:List Int) {most:Int} (m0:0<=most) (m1:most<=3):∃ t0 t1 t2 t4 t5 cs l ns rs ps L w,Z6u F tape=some t0/\Q4h F t0=some (t1,cs)/\Q4g F t1 cs most=some (t2,l,ns,rs)/\Q8j F l rs=some ps/\Q6w F t2 2=some (t4,L)/\Q4f F t4 cs=some (t5,w)/\TB rs l ps L w/\w.most_<=4/\(l.length:Int)<=most:=by
 have b:BIG<=F:=by omega
 obtain ⟨t0,p,k⟩:=Y5Q F tape;obtain ⟨t1,cs,n,u,a⟩:=Z8y b k
 have v:=a.len;obtain ⟨t2,l,ns,rs,t,m,g,f,r⟩:=Z8u b u (cs:=cs) (by omega) m0 (by omega)
 obtain ⟨ps,j,c⟩:=Y1A b g f (by omega);obtain ⟨t4,L,x,s,i,q⟩:=Y0x hF m (most:=2) (by omega) (by omega)
 obtain ⟨t5,w,h,y,o,d,e⟩:=Z8t b s a;exact ⟨t0,t1,t2,t4,t5,cs,l,ns,rs,ps,L,w,p,n,t,j,x,h,⟨g,by rw [d];exact f,c,i,q,o⟩,e,r⟩
end
end
end Go.Ab
