/- Abstract states over the model. -/
import Derived.Test.YtaipicdihcmjkaaGreatAbE
import Derived.Test.YtaipicdihcmjkaaGreatLwD
import Derived.Test.YtaipicdihcmjkaaGreatAbD
set_option linter.unusedVariables false
set_option linter.unusedSimpArgs false
set_option maxRecDepth 20000
namespace Go.Ab
noncomputable section
section
section
variable {F:Nat} {rs:List Re_} {l:List Line} {ps:List Re_} {L:List Scheme} {w:World}
end
end
section
variable {A:List Rect}
variable {w:World} (hw:WT w) (h9:∀ u v,Q2 A u v=true->9<=u)
include hw h9
end
section
section
variable (w:World) (rs:List Re_) (s:Scheme) (sel:Line->TS->Sq)
end
section
variable {w:World} {rs:List Re_} {s:Scheme} {sel:Line->TS->Sq}
theorem Z2J(a b:List Rect):area (a++b)=area a+area b:=by
 unfold area;rw [List.map_append,List.sum_append]
end
section
variable {F:Nat} {rs:List Re_} {l:List Line} {ps:List Re_} {L:List Scheme} {w:World}
end
end
section
structure GA (l:List Line) (L:List Scheme) (w:World):Prop where
 len:l.length<=6
 reg:∀ x ∈ l,W6 x.g_.t_->TR x.g_.t_/\∀ u v,Q2 x.g_.t_ u v=true->0<=u/\u<29/\0<=v/\v<10
 sd:∀ s ∈ L,SD 3 s
 llen:L.length<=10
 crops:CropT w.crops_
 his:HisT (w.crops_.length:Nat) w.history_
 hlen:w.history_.length<=5
 zon:LayT w.zones_
 zlen:w.zones_.length<=3
theorem GA.lf6{l:List Line}{L:List Scheme}{w:World}(h:GA l L w):LF6 w.zones_:=Q9r h.zon.vl (k:=45) (fun f b=>by
 have a:=(h.zon.fea f b).1.reg;exact a.val.2.2.half a.box) (by have:=h.zlen;omega)
theorem Q2Q{e:Nat}{t:Term}{cs:List Crop}{c:Int}{hs:List Rg_}{y:Int}{zs:List A2_}{d:Int}{A:List Rect}(h:QT e t cs c hs y zs d A=0):(0<=c/\c<(cs.length:Nat))/\(0<=y/\y<=100)/\W6 A:=by
 unfold QT at h;split at h
 .rename_i q;exact absurd h q
 split at h
 .rename_i q;exact absurd h q
 split at h
 .cases h
 rename_i a
 split at h
 .rename_i q;exact absurd h q
 split at h
 .cases h
 rename_i g
 split at h
 .rename_i q;exact absurd h q
 split at h
 .cases h
 split at h
 rotate_left
 .cases h
 rename_i f
 refine ⟨?_,by omega,(Yc _).1 f⟩;rw [Bool.or_eq_true] at a
 have a:¬ ZB cs c=true:=fun b=>a (.inl b)
 unfold ZB at a;simp only [Bool.or_eq_true,decide_eq_true_eq] at a
 omega
theorem GA.ev{l:List Line}{L:List Scheme}{w:World}(h:GA l L w){x:Line}(hx:x ∈ l){e:Nat}{t:Term}(hk:QT e t w.crops_ x.c_ w.history_ w.y_ w.zones_ w.day_ x.g_.t_=0):EV w.y_ w.crops_ w.history_ w.zones_ x.c_ x.g_.t_:=by
 obtain ⟨b,d,c⟩:=Q2Q hk;have hk:=h.crops.one x.c_.toNat (by omega)
 exact ⟨(h.reg x hx c).1,b,hk.2.1,⟨hk.2.2.2.1,hk.2.2.2.2⟩,h.his.few5 h.hlen,fun f a=>(h.his.box f a).up (by omega),fun f a=>⟨((UP f).1 (h.his.hl.one f a)).2.2.1,h.his.crop f a⟩,d,⟨h.zon.vl,fun f a=>(h.zon.lb.box f a).up (by omega),by omega⟩⟩
def y5(F:Nat)(w:World)(x:Line)(a:Re_)(s:Scheme):Truth×Int:=Zz 3 x a s w ((VN F a w.zones_ w.day_ w.most_).getD (⟨[]⟩,0))
section
variable {F:Nat} {l:List Line} {L:List Scheme} {w:World}
theorem GA.both(hF:Q8+3<=F)(h:GA l L w){x:Line}(hx:x ∈ l)(a:Re_){s:Scheme}(hs:SD 3 s):Ki F x a s w=some (y5 F w x a s)/\Gb F x a s w=some (y5 F w x a s)/\KZ F x a s w=some (Hh (y5 F w x a s).1,(y5 F w x a s).2):=by
 have f:Q8<=F:=by omega
 have g:=h.hlen;obtain ⟨v,d,e,_,c⟩:=Z1G f (fun _=>h.lf6) w.day_ w.most_ a
 unfold y5;rw [d]
 exact ⟨Q2v (by omega) hF hs (by omega) h.crops.nm (fun b=>h.ev hx b) d c,Q7y (by omega) hF hs (by omega) (fun b=>h.ev hx b) e c,cd (by omega) hF hs (by omega) (fun b=>h.ev hx b) e c⟩
def GZ(A:List Rect):Prop:=∀ u v,Q2 A u v=true->0<=u/\u<29/\0<=v/\v<10
theorem GA.zero(h:GA l L w){x:Line}(hx:x ∈ l){a:Re_}{s:Scheme}(hz:(y5 F w x a s).2=0):
  Za 3 s=0/\(W6 (y5 F w x a s).1.true_.t_/\W6 (y5 F w x a s).1.false_.t_/\W6 (y5 F w x a s).1.unknown_.t_)/\(GZ (y5 F w x a s).1.true_.t_/\GZ (y5 F w x a s).1.false_.t_/\GZ (y5 F w x a s).1.unknown_.t_)/\(QM x.s_ s.N_=false->(y5 F w x a s).1.true_.t_=[]):=by
 have k:=Q0P (e:=3) (fun r=>h.ev hx r) hz;unfold y5 at hz k ⊢
 generalize (VN F a w.zones_ w.day_ w.most_).getD (⟨[]⟩,0)=v at hz k ⊢;have j:∀ u y,Q2 x.g_.t_ u y=true->W6 x.g_.t_->0<=u/\u<29/\0<=y/\y<10:=fun u y b f=>(h.reg x hx f).2 u y b
 unfold Zz at hz;split at hz
 .cases hz
 rename_i t
 split at hz
 .rename_i q;exact absurd hz q
 rename_i m
 split at hz
 .cases hz
 rename_i n
 split at hz
 .rename_i q;exact absurd hz q
 rename_i z
 split at hz
 .cases hz
 rename_i p
 have hE:=(Fi (Classical.byContradiction fun i=>m i)).1;have f:=(Q2Q hE).2.2
 have o:=(h.reg x hx f).1;refine ⟨Classical.byContradiction fun i=>n i,k,?_⟩
 unfold Zz;rw [if_neg t,if_neg m,if_neg n,if_neg z,if_neg p]
 by_cases q6:QM x.s_ s.N_=false
 .rw [if_pos q6]
  exact ⟨⟨fun u y b=>(by cases b),fun u y b=>j u y b f,fun u y b=>(by cases b)⟩,fun _=>rfl⟩
 .rw [if_neg q6]
  have g:=Hm (WP (y:=w.y_) (cs:=w.crops_) (hs:=w.history_) (zs:=w.zones_) (d:=w.day_) (c:=x.c_) (A:=x.g_.t_) 3 s.cond_) (V8 v.1.t_);refine ⟨⟨fun u y b=>?_,fun u y b=>?_,fun u y b=>?_⟩,fun i=>absurd i q6⟩
  .have b:Q2 (cn (ZO x.g_.t_ _ _).Y) u y=true:=b
   rw [y8 g.fY] at b;exact j u y (g.sY u y b) f
  .have b:Q2 (cn (ZO x.g_.t_ _ _).N) u y=true:=b
   rw [y8 g.fN] at b;exact j u y (g.sN u y b) f
  .have b:Q2 (cn ((ZO x.g_.t_ _ _).O x.g_.t_)) u y=true:=b
   rw [y8 g.fO] at b;refine j u y ?_ f
   unfold TS.O at b
   cases o:Q2 x.g_.t_ u y with
   | true=>rfl
   | false=>rw [o] at b;cases b
end
end
section
def VT(k:Nat)(t:Truth):List Rect:=if k=0 then t.true_.t_ else if k=1 then t.false_.t_ else t.unknown_.t_
section
variable (F:Nat) (w:World) (l:List Line) (ps:List Re_) (s:Scheme)
def WL(i:Nat):Bool:=(y5 F w (gl l i) (gl ps i) s).2 != 0
def Qj(k:Nat):Nat->List Rect
 | 0=>[]
 | i+1=>Qj k i++if QM (gl l i).s_ s.N_=true then VT k (y5 F w (gl l i) (gl ps i) s).1 else []
def UZ:Option Nat:=(List.range l.length).find? (WL F w l ps s)
def Zq:Arr3ListRect×Int:=match UZ F w l ps s with
 | some i=>(⟨[],[],[]⟩,(y5 F w (gl l i) (gl ps i) s).2)
 | none=>(⟨Qj F w l ps s 0 l.length,Qj F w l ps s 1 l.length,Qj F w l ps s 2 l.length⟩,0)
end
def Jg(a b c:List Rect):Truth×Int:=if 120<a.length\/120<b.length\/120<c.length then (Yv,1) else (⟨⟨a⟩,⟨b⟩,⟨c⟩⟩,0)
theorem Q7x(F:Nat)(a b c:List Rect):Ga F ⟨a,b,c⟩=some (Jg a b c):=by
 unfold Ga Jg;refine Q6 (fun h=>?_) (fun h=>Q6 (fun e=>?_) (fun e=>?_))
 .rw [if_pos (.inl (by have:=of_decide_eq_true h;simp only at this;omega))];rfl
 .rw [if_pos (.inr (.inl (by have:=of_decide_eq_true e;simp only at this;omega)))];rfl
 .unfold Xz
  have h:=of_decide_eq_false h;have e:=of_decide_eq_false e
  simp only at h e;refine Q6 (fun d=>?_) (fun d=>?_)
  .rw [if_pos (.inr (.inr (by have:=of_decide_eq_true d;simp only at this;omega)))];rfl
  .have d:=of_decide_eq_false d
   simp only at d;rw [if_neg (by omega)]
theorem Q4v{F:Nat}(hF:Q8<=F){a b c:List Rect}(la:a.length<=32768)(lb:b.length<=32768)(lc:c.length<=32768)(pa:∀ r ∈ a,r.L_<r.R_)(pb:∀ r ∈ b,r.L_<r.R_)(pc:∀ r ∈ c,r.L_<r.R_):Kh F ⟨a,b,c⟩=some (Jg (cn (Q2 a)) (cn (Q2 b)) (cn (Q2 c))):=by
 unfold Kh Jg;refine Q4 (JE hF la pa) ?_
 by_cases h:120<(cn (Q2 a)).length
 .rw [if_pos h,if_pos (.inl h)];exact Z9 rfl rfl
 rw [if_neg h];refine Z3 rfl (Q7 (W2 (by omega) (by omega)) (Q4 (JE hF lb pb) ?_))
 by_cases h2:120<(cn (Q2 b)).length
 .rw [if_pos h2,if_pos (.inr (.inl h2))];exact Z9 rfl rfl
 rw [if_neg h2];refine Z3 rfl (Q7 (W2 (by omega) (by omega)) (Q4 (JE hF lc pc) ?_))
 by_cases h3:120<(cn (Q2 c)).length
 .rw [if_pos h3,if_pos (.inr (.inr h3))];exact Z9 rfl rfl
 rw [if_neg h3,if_neg (by omega)];exact Z3 rfl (Q7 (W2 (by omega) (by omega)) rfl)
theorem Z0i{l:List Rect}(h:GZ l):(cn (Q2 l)).length<=150:=by
 have c:=V8 l;have e:=G3.cn c
 have:=e.half2 (x0:=0) (w:=29) (h:=10) fun r d=>by
  obtain ⟨g,f⟩:=e.pos d;have a:=h r.L_ r.w_ (by rw [<-y8 c];exact Wy d ((Qh _ _ _).2 (by omega)))
  have b:=h (r.R_-1) (r.H_-1) (by rw [<-y8 c];exact Wy d ((Qh _ _ _).2 (by omega)));omega
 omega
section
variable {F:Nat} {l:List Line} {L:List Scheme} {w:World} {ps:List Re_} {s:Scheme}
theorem GA.sel(h:GA l L w){x:Line}(hx:x ∈ l){a:Re_}(hz:(y5 F w x a s).2=0)(k:Nat):W6 (VT k (y5 F w x a s).1)/\GZ (VT k (y5 F w x a s).1):=by
 obtain ⟨_,⟨d,g,e⟩,⟨f,b,c⟩,_⟩:=h.zero hx hz;unfold VT
 split
 .exact ⟨d,f⟩
 split
 .exact ⟨g,b⟩
 .exact ⟨e,c⟩
theorem HG(k i:Nat):Qj F w l ps s k (i+1)=Qj F w l ps s k i++if QM (gl l i).s_ s.N_=true then VT k (y5 F w (gl l i) (gl ps i) s).1 else []:=rfl
theorem yA{i:Nat}(h:WL F w l ps s i=false):(y5 F w (gl l i) (gl ps i) s).2=0:=by
 unfold WL at h;simpa using h
theorem GA.fr(h:GA l L w)(k:Nat):∀ i,i<=l.length->(∀ j,j<i->WL F w l ps s j=false)->(Qj F w l ps s k i).length<=120*i/\(∀ r ∈ Qj F w l ps s k i,Qg r=true/\r.L_<r.R_)/\GZ (Qj F w l ps s k i)
 | 0,_,_=>⟨Nat.zero_le _,fun r a=>(List.not_mem_nil a).elim,fun u v b=>by cases b⟩
 | i+1,hi,hn=>by
  obtain ⟨n,d,e⟩:=GA.fr h k i (by omega) fun j g=>hn j (by omega)
  obtain ⟨c,f⟩:=h.sel (V4 (l:=l) (i:=i) (by omega)) (yA (hn i (by omega))) k;have m:=c.1
  show (Qj F w l ps s k i++if QM (gl l i).s_ s.N_=true then VT k (y5 F w (gl l i) (gl ps i) s).1 else []).length<=_/\(∀ r ∈ Qj F w l ps s k i++if QM (gl l i).s_ s.N_=true then VT k (y5 F w (gl l i) (gl ps i) s).1 else [],_)/\GZ (Qj F w l ps s k i++if QM (gl l i).s_ s.N_=true then VT k (y5 F w (gl l i) (gl ps i) s).1 else []);split
  .refine ⟨by rw [List.length_append];omega,fun r a=>?_,fun u v b=>?_⟩
   .rcases List.mem_append.1 a with a|a
    .exact d r a
    .exact ⟨c.2.1 r a,c.pos r a⟩
   .rw [YN,Bool.or_eq_true] at b
    exact b.elim (e u v) (f u v)
  .rw [List.append_nil]
   exact ⟨by omega,d,e⟩
theorem Q2n(hF:Q8+3<=F)(h:GA l L w)(hs:SD 3 s)(hp:ps.length=l.length):HT F l ps s w=some (Zq F w l ps s):=by
 have E:Q8<=F:=by omega
 have n:=E;unfold Q8 at n
 have G:=h.len;unfold HT
 refine J4 (fun z:Int×(List Rect)×(List Rect)×(List Rect)=>∃ i:Nat,i<=l.length/\z=((i:Int),Qj F w l ps s 0 i,Qj F w l ps s 1 i,Qj F w l ps s 2 i)/\∀ j,j<i->WL F w l ps s j=false) (fun z=>l.length-z.1.toNat) (fun d z k D=>?_) ⟨0,Nat.zero_le _,rfl,fun j f=>absurd f (Nat.not_lt_zero j)⟩ (by simp;omega);obtain ⟨i,m,rfl,e⟩:=k
 show vM F l ps s w d (i:Int) _ _ _=_;unfold vM
 refine Q6 (fun q=>?_) (fun q=>?_)
 .have q:i<l.length:=by have:=of_decide_eq_true q;omega
  have o:=V4 (l:=l) (i:=i) q;refine Q7 (by omega) (Q7 (by omega) ?_)
  rw [Int.toNat_natCast];refine Q4 (h.both hF o (gl ps i) hs).1 (Q6 (fun b=>?_) (fun b=>?_))
  .have hE:UZ F w l ps s=some i:=List.find?_range_eq_some.2 ⟨b,List.mem_range.2 q,fun j f=>by simp [e j f]⟩
   unfold Zq;rw [hE]
  .have k:(y5 F w (gl l i) (gl ps i) s).2=0:=by simpa using b
   have p:∀ j,j<i+1->WL F w l ps s j=false:=fun j f=>by
    by_cases hji:j=i
    .subst hji;exact b
    .exact e j (by omega)
   refine Q7 (RK (h.zero o k).1) ?_;have g:∀ a b c,a=Qj F w l ps s 0 (i+1)->b=Qj F w l ps s 1 (i+1)->c=Qj F w l ps s 2 (i+1)->HS F (i:Int) d a b c=some (Zq F w l ps s):=fun a b c y r t=>by
    unfold HS;refine Q7 (W2 (by omega) (by omega)) (D _ ⟨i+1,q,?_,p⟩ (by simp only;omega))
    rw [y,r,t];rfl
   have M:=(h.fr 0 i m e).1;have I:=(h.fr 1 i m e).1
   have J:=(h.fr 2 i m e).1;obtain ⟨_,⟨C,B,x⟩,_⟩:=h.zero o k
   have H:=C.1;have K:=B.1
   have N:=x.1;refine Q6 (fun b=>?_) (fun b=>?_)
   .rw [WR] at b
    have b:QM (gl l i).s_ s.N_=false:=by simpa using b
    refine g _ _ _ ?_ ?_ ?_ <;> (rw [HG,if_neg (by rw [b];simp),List.append_nil])
   .rw [WR] at b
    have b:QM (gl l i).s_ s.N_=true:=by simpa using b
    refine Q7 ?_ (Q7 (W2 (by omega) (by omega)) (Q7 ?_ (Q7 (W2 (by omega) (by omega)) (Q7 ?_ (Q7 (W2 (by omega) (by omega)) (g _ _ _ ?_ ?_ ?_))))))
    .simp only;unfold Y5;omega
    .simp only;unfold Y5;omega
    .simp only;unfold Y5;omega
    all_goals
     rw [HG,if_pos b];rfl
 .have q:i=l.length:=by have:=of_decide_eq_false q;omega
  have hE:UZ F w l ps s=none:=List.find?_eq_none.2 fun j f=>by
   have:=List.mem_range.1 f
   simp [e j (by omega)]
  unfold Zq;rw [hE,q]
  rfl
end
end
end
end Go.Ab
