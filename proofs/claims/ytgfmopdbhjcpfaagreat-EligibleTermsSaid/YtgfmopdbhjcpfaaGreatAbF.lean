/- Abstract states over the model. -/
import Derived.Test.YtgfmopdbhjcpfaaGreatAbE
import Derived.Test.YtgfmopdbhjcpfaaGreatLwD
set_option linter.unusedVariables false
set_option linter.unusedSimpArgs false
set_option maxRecDepth 20000
namespace Go.Ab
noncomputable section
section
structure TB (rs:List Re_) (l:List Line) (ps:List Re_) (L:List Scheme) (w:World):Prop where
 par:ParT rs
 lin:LinT (w.crops_.length:Nat) rs l
 prc:PrT rs l ps
 lt:LT L
 good:L=[]\/GoodL 3 L
 w:WT w
section
variable {F:Nat} {rs:List Re_} {l:List Line} {ps:List Re_} {L:List Scheme} {w:World}
theorem TB.tr(h:TB rs l ps L w){i:Nat}(hi:i<l.length):TR (gl l i).g_.t_:=by
 have a:=h.lin.one _ (V4 hi);have c:=a.par
 have b:=h.par.len;exact TR.of_pl a.val (d:=10*((gl l i).p_-1)) (by omega) (a.pl h.par)
theorem TB.ptr(h:TB rs l ps L w){i:Nat}(hi:i<l.length):TR (gl ps i).t_:=by
 have c:=(h.lin.one _ (V4 hi)).par;have b:=h.par.len
 rw [h.prc.at_ i hi];have a:((gl l i).p_-1).toNat<rs.length:=by omega
 exact TR.of_pl (h.par.val a) (d:=10*(((gl l i).p_-1).toNat:Nat)) (by omega) (h.par.pl a)
theorem TB.sub(h:TB rs l ps L w){i:Nat}(hi:i<l.length):∀ u v,inR (gl l i).g_.t_ u v=true->inR (gl ps i).t_ u v=true:=by
 rw [h.prc.at_ i hi];exact (h.lin.one _ (V4 hi)).sub
theorem TB.one(h:TB rs l ps L w){k:Nat}(hk:k<L.length):Q9Y 3 (gl L k)=0:=by
 rcases h.good with a|a
 .rw [a] at hk;exact absurd hk (Nat.not_lt_zero k)
 .exact a.one k hk
theorem TB.line(hF:BIG+3<=F)(h:TB rs l ps L w){i:Nat}(hi:i<l.length){k:Nat}(hk:k<L.length):Q1M F (gl l i) (gl ps i) (gl L k) w=some ((lnT w (gl l i) (gl ps i) (gl L k)).t3 (gl l i).g_.t_,0):=
 Y8O hF h.w (h.tr hi) (h.lin.one _ (V4 hi)).crop (h.lt.st _ (V4 hk)).sd (h.one hk) (h.ptr hi) (h.sub hi)
end
theorem W1j{F:Nat}(hF:BIG+3<=F)(tape:List Int){most:Int}(m0:0<=most)(m1:most<=3):∃ t0 t1 t2 t4 t5 cs l ns rs ps L w,Z6o F tape=some t0/\Q4l F t0=some (t1,cs)/\Q4k F t1 cs most=some (t2,l,ns,rs)/\Q8i F l rs=some ps/\Q6y F t2 2=some (t4,L)/\Q4j F t4 cs=some (t5,w)/\TB rs l ps L w/\w.most_<=4/\(l.length:Int)<=most:=by
 have b:BIG<=F:=by omega
 obtain ⟨t0,i,s⟩:=Y5Q F tape;obtain ⟨t1,cs,v,r,a⟩:=Z8s b s
 have q:=a.len;obtain ⟨t2,l,ns,rs,o,k,g,f,j⟩:=Z8o b r (cs:=cs) (by omega) m0 (by omega)
 obtain ⟨ps,h,d⟩:=Y1t b g f (by omega);obtain ⟨t4,L,n,u,x,t⟩:=Y0q hF k (most:=2) (by omega) (by omega)
 obtain ⟨t5,w,p,y,m,e,c⟩:=Z8n b u a;exact ⟨t0,t1,t2,t4,t5,cs,l,ns,rs,ps,L,w,i,v,o,h,n,p,⟨g,by rw [e];exact f,d,x,t,m⟩,c,j⟩
end
end
end Go.Ab
