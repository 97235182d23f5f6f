/- Abstract states over the model. -/
import Derived.Test.YtgfmopdbhjcpfaaGreatAbF
import Derived.Test.YtgfmopdbhjcpfaaGreatLwE
import Derived.Test.YtgfmopdbhjcpfaaGreatAbD
import Derived.Test.YtgfmopdbhjcpfaaGreatAbE
set_option linter.unusedVariables false
set_option linter.unusedSimpArgs false
set_option maxRecDepth 20000
namespace Go.Ab
noncomputable section
section
section
variable {A:List Rect} {hs:List Rg_} {cs:List Crop} {zs:List A2_} {y c d:Int}
end
end
section
section
variable {A B:List Rect} {h:Sq} (hB:∀ u v,inR B u v=(inR A u v&&h u v)) {hs:List Rg_} {cs:List Crop} {zs:List A2_} {y c d:Int}
include hB
end
end
theorem Runs.at_mem {α:Type} {d:α}:∀ {l:List (Rn α)},Runs l->∀ {c:Rn α},c ∈ l->atR d l c.lo=c.v
 | [],_,_,b=>(List.not_mem_nil b).elim
 | a::l,h,c,b=>by
  rw [atR];rcases List.mem_cons.1 b with rfl|b
  ·rw [if_pos ⟨Int.le_refl _,h.pos _ (by simp)⟩]
  ·have e:=(h.head c b).1
   have f:=h.pos a (by simp);rw [if_neg (by omega)]
   exact Runs.at_mem h.tail b
theorem SpOk.two {l:List Span} (h:SpOk l) {s q:Span} (hs:s ∈ l) (hq:q ∈ l):s=q\/s.R_<q.L_\/q.R_<s.L_:=by
 obtain ⟨i,e,rfl⟩:=List.mem_iff_getElem.1 hs;obtain ⟨j,f,rfl⟩:=List.mem_iff_getElem.1 hq
 have b:=List.pairwise_iff_getElem.1 h.ch;rcases Nat.lt_trichotomy i j with a|rfl|a
 ·exact .inr (.inl (b i j e f a))
 ·exact .inl rfl
 ·exact .inr (.inr (b j i f e a))
theorem Y4U (l:List Span) (x:Int):inS l x=true↔∃ s ∈ l,s.L_<=x/\x<s.R_:=by
 unfold inS;rw [List.any_eq_true]
 constructor
 ·rintro ⟨s,hs,h⟩
  unfold Span.has at h;simp at h
  exact ⟨s,hs,h⟩
 ·rintro ⟨s,hs,h⟩
  refine ⟨s,hs,?_⟩;unfold Span.has
  simp;exact h
theorem SpOk.start {l:List Span} (h:SpOk l) {s:Span} (hs:s ∈ l):inS l s.L_=true/\inS l (s.L_-1)=false:=by
 have f:=h.pos s hs;refine ⟨(Y4U _ _).2 ⟨s,hs,by omega,by omega⟩,?_⟩
 rw [<-Bool.not_eq_true,Y4U];rintro ⟨q,a,g,e⟩
 have b:=h.pos q a;rcases h.two hs a with rfl|h3|h3 <;> omega
theorem SpOk.filt {l:List Span} (h:SpOk l) (p:Span->Bool):SpOk (l.filter p):=⟨fun s hs=>h.pos s (List.mem_filter.1 hs).1,h.ch.filter p⟩
theorem SpOk.few2 {l:List Span} (h:SpOk l) {a b:Int} (hl:∀ s ∈ l,s.L_=a\/s.L_=b):l.length<=2:=by
 match l,h,hl with
 | [],_,_=>simp
 | [_],_,_=>simp
 | [_,_],_,_=>simp
 | x::y::z::r,h,hl=>
  have f:=h.pos x (by simp);have e:=h.pos y (by simp)
  have g:=(List.pairwise_cons.1 h.ch).1 y (by simp);have k:=(List.pairwise_cons.1 (List.pairwise_cons.1 h.ch).2).1 z (by simp)
  have m:=hl x (by simp);have i:=hl y (by simp)
  have j:=hl z (by simp);omega
theorem W3l {α:Type} (p q r:α->Bool):∀ l:List α,(∀ s ∈ l,p s=true\/q s=true\/r s=true)->l.length<=(l.filter p).length+(l.filter q).length+(l.filter r).length
 | [],_=>by simp
 | a::l,h=>by
  have e:=W3l p q r l fun s hs=>h s (by simp [hs])
  have b:=h a (by simp);simp only [List.filter_cons,List.length_cons]
  rcases b with b|b|b <;> rw [if_pos b] <;> (repeat' split) <;> simp only [List.length_cons] <;> omega
def Z2h (k u:Int):Prop:=10*k<=u/\u<10*k+9
theorem SpOk.places {l:List Span} (h:SpOk l) {S:Int->Bool} (hS:∀ x,inS l x=S x) (blk:∀ x,S x=true->Z2h 0 x\/Z2h 1 x\/Z2h 2 x) {k:Int} (hk:k=0\/k=1\/k=2)
  {a b:Int} (two:∀ x,Z2h k x->S x=true->S (x-1)=false->x=a\/x=b):l.length<=12:=by
 have f:∀ s ∈ l,S s.L_=true/\S (s.L_-1)=false:=fun s hs=>by
  rw [<-hS, <-hS];exact h.start hs
 let p:Int->Span->Bool:=fun j s=>decide (10*j<=s.L_)&&decide (s.L_<10*j+9)
 have g:∀ j s,p j s=true↔Z2h j s.L_:=fun j s=>by simp [p,Z2h]
 have o:∀ j:Int,(j=0\/j=1\/j=2)->2*((l.filter (p j)).length:Int)<=10:=fun j z=>by
  have:=(h.filt (p j)).half (n:=10*j+9) (a:=10*j) (by omega) fun s hs=>by
   obtain ⟨q,e⟩:=List.mem_filter.1 hs;rw [g] at e
   unfold Z2h at e;refine ⟨e.1,?_⟩
   apply Int.not_lt.1;intro i
   have m:=(Y4U l (10*j+9)).2 ⟨s,q,by omega,i⟩;rw [hS] at m
   have:=blk _ m
   unfold Z2h at this;omega
  omega
 have e:(l.filter (p k)).length<=2:=(h.filt (p k)).few2 (a:=a) (b:=b) fun s hs=>by
  obtain ⟨q,e⟩:=List.mem_filter.1 hs;obtain ⟨i,m⟩:=f s q
  exact two _ ((g _ _).1 e) i m
 have i:=W3l (p 0) (p 1) (p 2) l fun s hs=>by
  rw [g,g,g];exact blk _ (f s hs).1
 have w:=o 0 (by simp);have r:=o 1 (by simp)
 have t:=o 2 (by simp);rcases hk with rfl|rfl|rfl <;> omega
theorem W0o {S:Int->Int->Bool} (hf:Fin S) (hb:∀ u v,S u v=true->0<=v/\v<9/\(Z2h 0 u\/Z2h 1 u\/Z2h 2 u)) {k:Int} (hk:k=0\/k=1\/k=2)
  (two:∀ v,∃ a b,∀ x,Z2h k x->S x v=true->S (x-1) v=false->x=a\/x=b):Val (cn S):=by
 have f:=Q2l.cn hf;obtain ⟨b,hB,e,hS⟩:=Y6m hf
 have g:∀ r ∈ cn S,0<=r.L_/\r.R_<=29/\0<=r.w_/\r.H_<=9:=by
  intro r g;obtain ⟨l,j⟩:=f.pos g
  have a:=hb r.L_ r.w_ (by rw [<-Q1w hf];exact Z1p g ((J2 _ _ _).2 (by omega)));have b:=hb (r.R_-1) (r.H_-1) (by rw [<-Q1w hf];exact Z1p g ((J2 _ _ _).2 (by omega)))
  unfold Z2h at a b;omega
 have i:∀ c ∈ b,∀ s ∈ c.v,(⟨s.L_,c.lo,s.R_,c.hi⟩:Rect) ∈ cn S:=fun c f s hs=>by
  rw [e];exact List.mem_flatMap.2 ⟨c,f,List.mem_map.2 ⟨s,hs,rfl⟩⟩
 have l:(b.length:Int)<=9-0:=hB.runs.len (by omega) fun c f=>by
  obtain ⟨s,hs⟩:=List.exists_mem_of_ne_nil _ (hB.ne c f);have:=g _ (i c f s hs)
  simp only at this;omega
 have j:∀ c ∈ b,c.v.length<=12:=fun c f=>by
  obtain ⟨a,p,o⟩:=two c.lo;exact (hB.sp c f).places (S:=fun x=>S x c.lo) (fun x=>by rw [<-hS,Runs.at_mem hB.runs f]) (fun x m=>(hb _ _ m).2.2) hk o
 have q:=Y4Y j;have n:(cn S).length<=120:=by rw [e];omega
 refine ⟨n,fun r h=>?_,f⟩;obtain ⟨l,j⟩:=f.pos h
 have:=g r h
 rw [Q0f];omega
section
def Y1F (A:List Rect) (S:Sq):Prop:=∃ b:Bool,∀ u v,S u v=(inR A u v&&b)
structure FlatT (A:List Rect) (s:TS):Prop where
 y:Y1F A s.Y
 n:Y1F A s.N
variable {A:List Rect}
theorem Y7l:Y1F A fun _ _=>false:=⟨false,fun u v=>by simp⟩
theorem Y7m:Y1F A (inR A):=⟨true,fun u v=>by simp⟩
theorem FlatT.o {s:TS} (h:FlatT A s):Y1F A (s.O A):=by
 obtain ⟨⟨b,a⟩,c,e⟩:=h;refine ⟨!b && !c,fun u v=>?_⟩
 unfold TS.O;rw [a,e]
 cases inR A u v <;> cases b <;> cases c <;> rfl
theorem Y2V {α:Type} {f:α->Sq}:∀ {l:List α},(∀ k ∈ l,Y1F A (f k))->Y1F A fun u v=>inR A u v&&l.all fun k=>f k u v
 | [],_=>⟨true,fun u v=>by simp⟩
 | a::l,h=>by
  obtain ⟨b,e⟩:=h a (by simp);obtain ⟨c,i⟩:=Y2V (l:=l) fun k g=>h k (by simp [g])
  refine ⟨b&&c,fun u v=>?_⟩;have:=i u v
  simp only at this;simp only [List.all_cons]
  rw [e]
  cases hA:inR A u v with
  | false=>rfl
  | true=>
   rw [hA] at this;simp only [Bool.true_and] at this ⊢
   rw [this]
theorem Y2U {α:Type} {f:α->Sq}:∀ {l:List α},(∀ k ∈ l,Y1F A (f k))->Y1F A fun u v=>l.any fun k=>f k u v
 | [],_=>⟨false,fun u v=>by simp⟩
 | a::l,h=>by
  obtain ⟨b,e⟩:=h a (by simp);obtain ⟨c,i⟩:=Y2U (l:=l) fun k g=>h k (by simp [g])
  refine ⟨b||c,fun u v=>?_⟩;have:=i u v
  simp only at this;simp only [List.any_cons]
  rw [e,this]
  cases inR A u v <;> cases b <;> cases c <;> rfl
theorem Z1v (b:Bool):FlatT A (Z8J A b):=by
 cases b
 ·exact ⟨Y7l,Y7m⟩
 ·exact ⟨Y7m,Y7l⟩
theorem Y6a {S:Sq} (h:∀ u v,inR A u v=true->S u v=false):FlatT A (Y1C A S):=by
 refine ⟨⟨false,fun u v=>?_⟩,⟨true,fun u v=>?_⟩⟩
 all_goals
  simp only [Y1C]
  cases hA:inR A u v with
  | false=>rfl
  | true=>simp [h u v hA]
theorem Y2T {S:Sq} (h:∀ u v,S u v=false):Y1F A S:=⟨false,fun u v=>by rw [h,Bool.and_false]⟩
variable {w:World} (hw:WT w) (h9:∀ u v,inR A u v=true->9<=u)
include hw h9
theorem Y7G {y:Int} {p:Int->Bool} {u v:Int} (h:inR A u v=true):inR (yrs w.history_ y p) u v=false:=by
 cases hh:inR (yrs w.history_ y p) u v with
 | false=>rfl
 | true=>
  obtain ⟨r,a,b⟩:=(Q2I _ _ _).1 hh;unfold yrs at a
  obtain ⟨f,e,g⟩:=List.mem_flatMap.1 a;have:=hw.his.box f (List.mem_filter.1 e).1 r g
  have:=h9 u v h
  rw [J2] at b;omega
theorem Y9l {d:Int} {p:Int->Bool} {u v:Int} (h:inR A u v=true):inR (Q0q w.zones_ d p) u v=false:=by
 cases hh:inR (Q0q w.zones_ d p) u v with
 | false=>rfl
 | true=>
  obtain ⟨r,a,b⟩:=(Q2I _ _ _).1 hh;have:=hw.lb.rbox d p r a
  have:=h9 u v h
  rw [J2] at b;omega
theorem Y4S {y:Int} {p:Int->Bool} (u v:Int):knS A w.history_ y p u v=false:=by
 unfold knS
 cases hA:inR A u v with
 | false=>rfl
 | true=>rw [Y7G hw h9 hA];rfl
theorem Y8c (y f:Int):∀ k,FlatT A (smS A w.history_ w.crops_ y f k)
 | 0=>⟨Y7m,Y7l⟩
 | k+1=>by
  have b:=Y8c y f k;refine ⟨Y2T fun u v=>?_,?_⟩
  ·show (_&&knS A w.history_ _ _ u v)=false
   rw [Y4S hw h9,Bool.and_false]
  ·obtain ⟨c,a⟩:=b.n
   refine ⟨c,fun u v=>?_⟩;show (_||knS A w.history_ _ _ u v)=_
   rw [Y4S hw h9,Bool.or_false];exact a u v
theorem W1R (c:Int) (t:Term):FlatT A (atS w.y_ w.crops_ w.history_ w.zones_ w.day_ c A t):=by
 unfold atS
 repeat' split
 ·exact Z1v _
 ·exact Z1v _
 ·exact Z1v _
 ·exact Y6a fun u v h=>Y9l hw h9 h
 ·exact Y8c hw h9 _ _ _
 ·exact ⟨Y2T fun u v=>Y4S hw h9 u v,Y2T fun u v=>Y4S hw h9 u v⟩
 ·exact Y6a fun u v h=>Y7G hw h9 h
 ·exact Z1v _
theorem Z4D (c:Int):∀ (e:Nat) (t:Term),FlatT A (evS w.y_ w.crops_ w.history_ w.zones_ w.day_ c A e t)
 | 0,_=>Z1v _
 | e+1,t=>by
  unfold evS;split
  ·exact ⟨Y2V fun k _=>(Z4D c e k).y,Y2U fun k _=>(Z4D c e k).n⟩
  split
  ·exact ⟨Y2U fun k _=>(Z4D c e k).y,Y2V fun k _=>(Z4D c e k).n⟩
  split
  ·exact ⟨(Z4D c e _).n,(Z4D c e _).y⟩
  ·exact W1R hw h9 c t
theorem W0s {m:Int} {a:List Rect} (hs:∀ u v,inR A u v=true->inR a u v=true) {u v:Int} (h:inR A u v=true):elS w.zones_ w.day_ m a u v=true:=by
 unfold elS;have b:inR (Z1C w.zones_ w.day_ m a) u v=false:=by
  cases hh:inR (Z1C w.zones_ w.day_ m a) u v with
  | false=>rfl
  | true=>
   obtain ⟨r,e,b⟩:=(Q2I _ _ _).1 hh;have:=Y0e hw.lb w.day_ m a r e
   have:=h9 u v h
   rw [J2] at b;omega
 rw [hs u v h,Y9l hw h9 h,b];rfl
omit hw h9
theorem W1Q (hw:WT w) {x:Line} (h9:∀ u v,inR x.g_.t_ u v=true->9<=u) {parcel:Re_} (hs:∀ u v,inR x.g_.t_ u v=true->inR parcel.t_ u v=true) (s:Scheme):FlatT x.g_.t_ (lnT w x parcel s):=by
 unfold lnT;split
 ·exact Z1v _
 ·have h:=Z4D hw h9 x.c_ 3 s.cond_
  have e:=h.o;obtain ⟨b,a⟩:=h.y
  obtain ⟨c,f⟩:=e;refine ⟨⟨b,fun u v=>?_⟩,⟨!(b||c),fun u v=>?_⟩⟩
  ·simp only [Z7n]
   rw [a]
   cases hA:inR x.g_.t_ u v with
   | false=>rfl
   | true=>rw [W0s hw h9 hs hA];simp
  ·simp only [Z7n]
   rw [a,f]
   cases hA:inR x.g_.t_ u v with
   | false=>rfl
   | true=>rw [W0s hw h9 hs hA];simp
theorem W0p {K:Int} {rs:List Re_} (hp:ParT rs) {l:List Line} (hl:LinT K rs l) (h3:l.length<=3) (f:Line->Sq) (hf:∀ x ∈ l,Fin (f x)) (hs:∀ x ∈ l,∀ u v,f x u v=true->inR x.g_.t_ u v=true) (hfl:∀ x ∈ l,x.p_=3->Y1F x.g_.t_ (f x)):Val (cn fun u v=>l.any fun x=>f x u v):=by
 have E:∀ x ∈ l,∀ u v,f x u v=true->(1<=x.p_/\x.p_<=3)/\Z2h (x.p_-1) u/\0<=v/\v<9:=fun x o u v h=>by
  have g:=(hl.one x o).pl hp u v (hs x o u v h);have z:=(hl.one x o).par
  have h3:=hp.len;unfold Z2h
  omega
 have C:=Y5a f l hf;have X:∀ u v,(l.any fun x=>f x u v)=true->0<=v/\v<9/\(Z2h 0 u\/Z2h 1 u\/Z2h 2 u):=fun u v h=>by
  obtain ⟨x,o,h⟩:=List.any_eq_true.1 h;have:=E x o u v h
  unfold Z2h at this ⊢;omega
 by_cases hA:∃ j:Int,(j=0\/j=1\/j=2)/\∀ x ∈ l,x.p_≠j+1
 ·obtain ⟨j,U,o⟩:=hA
  refine W0o C X U fun v=>⟨0,0,fun u t h=>?_⟩
  obtain ⟨x,M,h⟩:=List.any_eq_true.1 h;have g:=E x M u v h
  have z:=o x M;unfold Z2h at g t
  omega
 ·
  have D:∀ j:Int,(j=0\/j=1\/j=2)->∃ i,i<l.length/\(gl l i).p_=j+1:=fun j U=>by
   by_cases h:∃ x ∈ l,x.p_=j+1
   ·obtain ⟨x,o,e⟩:=h
    obtain ⟨i,F,rfl⟩:=List.mem_iff_getElem.1 o;exact ⟨i,F,by rw [Z5i l i F];exact e⟩
   ·exact (hA ⟨j,U,fun x o e=>h ⟨x,o,e⟩⟩).elim
  obtain ⟨P,Z,e0⟩:=D 0 (by simp);obtain ⟨Q,a3,e1⟩:=D 1 (by simp)
  obtain ⟨i,F,e2⟩:=D 2 (by simp);have a4:P≠Q:=fun h=>by subst h;omega
  have a1:P≠i:=fun h=>by subst h;omega
  have a6:Q≠i:=fun h=>by subst h;omega
  have p:∀ k,k<l.length->k≠i->(gl l k).p_≠3:=fun k S L=>by
   have:k=P\/k=Q:=by omega
   rcases this with rfl|rfl <;> omega
  obtain ⟨R,r1,W⟩:=hl.two i F;obtain ⟨b,T⟩:=hfl (gl l i) (W9 F) (by omega)
  have n:∀ v u,Z2h 2 u->(l.any fun x=>f x u v)=true->(l.any fun x=>f x (u-1) v)=false->∃ r ∈ R,u=r.L_:=fun v u t g z=>by
   obtain ⟨x,o,g⟩:=List.any_eq_true.1 g;have G:=E x o u v g
   obtain ⟨k,S,rfl⟩:=List.mem_iff_getElem.1 o;rw [<-Z5i l k S] at G g
   have L:k=i:=by
    apply Classical.byContradiction;intro H
    have:=p k S H
    unfold Z2h at G t;omega
   subst L;have h3:=List.any_eq_false.1 z _ (W9 F)
   rw [T] at g h3;rw [Bool.and_eq_true] at g
   rw [g.2,Bool.and_true] at h3;have Y:=g.1
   rw [W,Bool.and_eq_true] at Y;obtain ⟨r,O,h5⟩:=(Q2I _ _ _).1 Y.1
   refine ⟨r,O,?_⟩;rw [J2] at h5
   apply Classical.byContradiction;intro H
   refine h3 ?_;rw [W,Bool.and_eq_true]
   refine ⟨Z1p O ((J2 _ _ _).2 (by omega)),?_⟩;rw [Bool.not_eq_true',List.any_eq_false]
   intro y V I;obtain ⟨m,hm,e⟩:=List.mem_take_iff_getElem.1 V
   have N:y ∈ l:=List.mem_of_mem_take V;have h6:=(hl.one y N).pl hp _ _ I
   have h7:=p m (by omega) (by omega);rw [Z5i l m (by omega),e] at h7
   have h8:=(hl.one y N).par;have h9:=hp.len
   unfold Z2h at t;omega
  refine W0o C X (k:=2) (by simp) fun v=>?_
  match R,r1,n v with
  | [],_,n=>exact ⟨0,0,fun u t g z=>by obtain ⟨r,O,_⟩:=n u t g z;exact (List.not_mem_nil O).elim⟩
  | [r],_,n=>exact ⟨r.L_,r.L_,fun u t g z=>by
    obtain ⟨q,J,e⟩:=n u t g z;rw [List.mem_singleton] at J
    subst J;exact .inl e⟩
  | [r,s],_,n=>exact ⟨r.L_,s.L_,fun u t g z=>by
    obtain ⟨q,J,e⟩:=n u t g z;simp only [List.mem_cons,List.not_mem_nil,or_false] at J
    rcases J with rfl|rfl
    ·exact .inl e
    ·exact .inr e⟩
  | _::_::_::_,h,_=>simp at h
end
section
structure SelOk (sel:Line->TS->Sq):Prop where
 fin:∀ x P,TIn x.g_.t_ P->Fin (sel x P)
 sub:∀ x P,TIn x.g_.t_ P->∀ u v,sel x P u v=true->inR x.g_.t_ u v=true
 flat:∀ x P,FlatT x.g_.t_ P->Y1F x.g_.t_ (sel x P)
def Z4p (_:Line) (P:TS):Sq:=P.Y
def Y5B (_:Line) (P:TS):Sq:=P.N
def Y3y (x:Line) (P:TS):Sq:=P.O x.g_.t_
theorem Z2v:SelOk Z4p:=⟨fun _ _ h=>h.fY,fun _ _ h=>h.sY,fun _ _ h=>h.y⟩
theorem Y7N:SelOk Y5B:=⟨fun _ _ h=>h.fN,fun _ _ h=>h.sN,fun _ _ h=>h.n⟩
theorem Y9D (x:Line) (P:TS) (u v:Int) (hx:Y3y x P u v=true):inR x.g_.t_ u v=true:=by
 unfold Y3y TS.O at hx
 cases hA:inR x.g_.t_ u v with
 | true=>rfl
 | false=>rw [hA] at hx;cases hx
theorem Y7M:SelOk Y3y:=⟨fun _ _ h=>h.fO,fun x P _=>Y9D x P,fun _ _ h=>h.o⟩
def pcl (rs:List Re_) (x:Line):Re_:=gl rs (x.p_-1).toNat
section
variable (w:World) (rs:List Re_) (s:Scheme) (sel:Line->TS->Sq)
def frS (x:Line):Sq:=fun u v=>Q6E x.s_ s.N_&&sel x (lnT w x (pcl rs x) s) u v
def frL (m:List Line):List Rect:=m.flatMap fun x=>if Q6E x.s_ s.N_=true then cn (sel x (lnT w x (pcl rs x) s)) else []
theorem Z4C (a b:List Line):frL w rs s sel (a++b)=frL w rs s sel a++frL w rs s sel b:=List.flatMap_append
theorem Z9E (x:Line):frL w rs s sel [x]=if Q6E x.s_ s.N_=true then cn (sel x (lnT w x (pcl rs x) s)) else []:=by
 unfold frL;rw [List.flatMap_cons,List.flatMap_nil,List.append_nil]
end
section
variable {w:World} {rs:List Re_} {s:Scheme} {sel:Line->TS->Sq}
theorem W1N (hs:SelOk sel) (x:Line):Fin (frS w rs s sel x):=by
 unfold frS
 cases Q6E x.s_ s.N_ with
 | false=>simpa using Y6c
 | true=>simpa using hs.fin x _ (Y1b w x (pcl rs x) s)
theorem Y4W (hs:SelOk sel) (x:Line) (u v:Int) (h:frS w rs s sel x u v=true):inR x.g_.t_ u v=true:=by
 unfold frS at h;rw [Bool.and_eq_true] at h
 exact hs.sub x _ (Y1b w x (pcl rs x) s) u v h.2
theorem Y8b (hs:SelOk sel) (x:Line) (u v:Int):inR (frL w rs s sel [x]) u v=frS w rs s sel x u v:=by
 rw [Z9E];unfold frS
 cases Q6E x.s_ s.N_ with
 | false=>rfl
 | true=>rw [if_pos rfl,Q1w (hs.fin x _ (Y1b w x (pcl rs x) s))];rfl
theorem Y4X (hs:SelOk sel) (u v:Int):∀ m:List Line,inR (frL w rs s sel m) u v=m.any fun x=>frS w rs s sel x u v
 | []=>rfl
 | x::m=>by
  have:frL w rs s sel (x::m)=frL w rs s sel [x]++frL w rs s sel m:=Z4C w rs s sel [x] m
  rw [this,Z2g,Y4X hs u v m,Y8b hs];rfl
theorem Y2R (hs:SelOk sel) {x:Line} (hA:TR x.g_.t_):Val (frL w rs s sel [x]):=by
 rw [Z9E];split
 ·exact hA.sub (hs.fin x _ (Y1b w x (pcl rs x) s)) (hs.sub x _ (Y1b w x (pcl rs x) s))
 ·exact Val.nil
theorem Z9F (hs:SelOk sel):∀ {m:List Line},(∀ x ∈ m,TR x.g_.t_)->(frL w rs s sel m).length<=120*m.length
 | [],_=>Nat.zero_le _
 | x::m,h=>by
  have e:frL w rs s sel (x::m)=frL w rs s sel [x]++frL w rs s sel m:=Z4C w rs s sel [x] m;have f:=(Y2R (w:=w) (rs:=rs) (s:=s) hs (h x (by simp))).1
  have b:=Z9F hs (m:=m) fun y a=>h y (by simp [a])
  rw [e,List.length_append,List.length_cons];omega
theorem Z9D (hs:SelOk sel):∀ {m:List Line},(∀ x ∈ m,TR x.g_.t_)->∀ r ∈ frL w rs s sel m,Q2F r=true/\r.L_<r.R_
 | [],_,r,a=>(List.not_mem_nil a).elim
 | x::m,h,r,a=>by
  have e:frL w rs s sel (x::m)=frL w rs s sel [x]++frL w rs s sel m:=Z4C w rs s sel [x] m;rw [e] at a
  have b:=Y2R (w:=w) (rs:=rs) (s:=s) hs (h x (by simp));rcases List.mem_append.1 a with a|a
  ·exact ⟨b.2.1 r a,b.pos r a⟩
  ·exact Z9D hs (m:=m) (fun y f=>h y (by simp [f])) r a
theorem Y8a (hs:SelOk sel):∀ {m:List Line},(∀ x ∈ m,TR x.g_.t_)->m.Pairwise W2A->(frL w rs s sel m).Pairwise Apt
 | [],_,_=>.nil
 | x::m,h,ha=>by
  have e:frL w rs s sel (x::m)=frL w rs s sel [x]++frL w rs s sel m:=Z4C w rs s sel [x] m;obtain ⟨g,i⟩:=List.pairwise_cons.1 ha
  rw [e,List.pairwise_append];refine ⟨(Y2R hs (h x (by simp))).2.2.apt,Y8a hs (m:=m) (fun y b=>h y (by simp [b])) i,fun r k q l u v n j=>?_⟩
  have f:=Z1p k n;have a:=Z1p l j
  rw [Y8b hs] at f;rw [Y4X hs] at a
  obtain ⟨y,b,a⟩:=List.any_eq_true.1 a;exact g y b u v (Y4W hs x u v f) (Y4W hs y u v a)
theorem W0O (a b:List Rect):area (a++b)=area a+area b:=by
 unfold area;rw [List.map_append,List.sum_append]
end
section
variable {F:Nat} {rs:List Re_} {l:List Line} {ps:List Re_} {L:List Scheme} {w:World}
theorem TB.trm (h:TB rs l ps L w):∀ x ∈ l,TR x.g_.t_:=fun x b=>by
 obtain ⟨i,a,rfl⟩:=List.mem_iff_getElem.1 b;rw [<-Z5i l i a]
 exact h.tr a
theorem TB.pc (h:TB rs l ps L w) {i:Nat} (hi:i<l.length):gl ps i=pcl rs (gl l i):=h.prc.at_ i hi
theorem TB.goodL (h:TB rs l ps L w):GoodL 3 L:=by
 rcases h.good with b|b
 ·rw [b]
  exact ⟨by simp,fun i a=>absurd a (Nat.not_lt_zero i),fun i _ a=>absurd a (Nat.not_lt_zero i),fun i a=>absurd a (Nat.not_lt_zero i),fun i a=>absurd a (Nat.not_lt_zero i)⟩
 ·exact b
theorem TB.check (hF:BIG+3<=F) (h:TB rs l ps L w) (h3:l.length<=3):Q5v F l ps L=some 0:=by
 have a:=h.prc.len;unfold Q5v
 refine Q8 (by rw [bne_eq_false_iff_eq];omega) (Q8 (decide_eq_false (by omega)) (Q3 (Y1n (d:=3) (by omega) hF fun s hs=>(h.lt.st s hs).sd) ?_));rw [Y6n h.goodL]
theorem TB.apart (hF:BIG<=F) (h:TB rs l ps L w) (h3:l.length<=3):Q5w F l=some 0:=by
 have f:=hF;unfold BIG at f
 unfold Q5w;refine Y7k l.length (fun q i a b=>?_) (fun q=>?_) (by omega)
 ·unfold Q8p
  have o:Q0h F (l.take i) (fun p=>Q5Z F p (gl l i))=some false:=by
   rw [Z1a hF (fun y=>Q3G (gl l i).g_ y.g_) (by simp;omega) fun y _=>by
    unfold Q5Z;exact Q3 (Z4X hF _ _) rfl]
   congr 1
   rw [List.any_eq_false];intro y j
   obtain ⟨k,r,e⟩:=List.mem_take_iff_getElem.1 j;have g:=List.pairwise_iff_getElem.1 h.lin.apart k i (by omega) a (by omega)
   rw [Y5M (h.tr a).val (h.trm y (List.mem_of_mem_take j)).val fun u v n m=>by
    rw [Z5i l i a] at n;rw [<-e] at m
    exact g u v m n]
   exact Bool.noConfusion
  refine Z5 (decide_eq_true (by omega)) (Q7 (by omega) (Q7 (by omega) ?_));rw [Int.toNat_natCast]
  exact Q3 o (Q8 rfl (Q7 (Z7 (by omega) (by omega)) b))
 ·unfold Q8p
  exact Q8 (decide_eq_false (by omega)) rfl
theorem TB.farm (hF:BIG+3<=F) (h:TB rs l ps L w) (h3:l.length<=3) {k:Nat} (hk:k<L.length):Q6C F l ps (gl L k) w=some (⟨frL w rs (gl L k) Z4p l,frL w rs (gl L k) Y5B l,frL w rs (gl L k) Y3y l⟩,0):=by
 have hB:BIG<=F:=by omega
 have p:=hB;unfold BIG at p
 have O:=h.prc.len;unfold Q6C
 refine Y7 (fun z:Int×(List Rect)×(List Rect)×(List Rect)=>∃ i:Nat,i<=l.length/\z=((i:Int),frL w rs (gl L k) Z4p (l.take i),frL w rs (gl L k) Y5B (l.take i),frL w rs (gl L k) Y3y (l.take i))) (fun z=>l.length-z.1.toNat) (fun g z D t=>?_) ⟨0,Nat.zero_le _,rfl⟩ (by simp;omega);obtain ⟨i,I,rfl⟩:=D
 have f:∀ sel,SelOk sel->(frL w rs (gl L k) sel (l.take i)).length<=360:=fun sel hs=>by
  have:=Z9F (w:=w) (rs:=rs) (s:=gl L k) hs (m:=l.take i) fun x r=>h.trm x (List.mem_of_mem_take r)
  have e:(l.take i).length<=3:=by rw [List.length_take];omega
  omega
 show Q9l F l ps (gl L k) w g (i:Int) _ _ _=_;unfold Q9l
 refine Q9 (fun q=>?_) (fun q=>?_)
 ·have q:i<l.length:=by have:=of_decide_eq_true q;omega
  refine Q7 (by omega) (Q7 (by omega) ?_);rw [Int.toNat_natCast]
  refine Q3 (h.line hF q hk) (Q8 rfl (Q7 (Y2k (h.one hk)) ?_));have o:=h.tr q
  have j:=Y1b w (gl l i) (gl ps i) (gl L k);have n:∀ a b c,a=frL w rs (gl L k) Z4p (l.take (i+1))->b=frL w rs (gl L k) Y5B (l.take (i+1))->c=frL w rs (gl L k) Y3y (l.take (i+1))->Q3y F (i:Int) g a b c=some (⟨frL w rs (gl L k) Z4p l,frL w rs (gl L k) Y5B l,frL w rs (gl L k) Y3y l⟩,0):=fun a b c E C h3=>by
   unfold Q3y;refine Q7 (Z7 (by omega) (by omega)) (t _ ⟨i+1,q,?_⟩ (by simp only;omega))
   rw [E,C,h3];rfl
  have K:=f Z4p Z2v;have N:=f Y5B Y7N
  have G:=f Y3y Y7M;have H:=(j.vY o).1
  have J:=(j.vN o).1;have M:=(j.vO o).1
  refine Q9 (fun b=>?_) (fun b=>?_)
  ·rw [Q4j] at b
   have b:Q6E (gl l i).s_ (gl L k).N_=false:=by simpa using b
   refine n _ _ _ ?_ ?_ ?_ <;> rw [J8 q,Z4C,Z9E,if_neg (by rw [b];simp),List.append_nil]
  ·rw [Q4j] at b
   have b:Q6E (gl l i).s_ (gl L k).N_=true:=by simpa using b
   refine Q7 ?_ (Q7 (Z7 (by omega) (by omega)) (Q7 ?_ (Q7 (Z7 (by omega) (by omega)) (Q7 ?_ (Q7 (Z7 (by omega) (by omega)) (n _ _ _ ?_ ?_ ?_))))))
   ·simp only [TS.t3];unfold LIM;omega
   ·simp only [TS.t3];unfold LIM;omega
   ·simp only [TS.t3];unfold LIM;omega
   all_goals
    rw [J8 q,Z4C,Z9E,if_pos b, <-h.pc q];rfl
 ·have q:i=l.length:=by have:=of_decide_eq_false q;omega
  rw [q,List.take_length];rfl
theorem TB.join (hF:BIG<=F) (h:TB rs l ps L w) (h3:l.length<=3) {k:Nat} {sel:Line->TS->Sq} (hs:SelOk sel):Val (cn (inR (frL w rs (gl L k) sel l)))/\Q0z F (frL w rs (gl L k) sel l)=some (⟨cn (inR (frL w rs (gl L k) sel l))⟩,0):=by
 have e:inR (frL w rs (gl L k) sel l)=fun u v=>l.any fun x=>frS w rs (gl L k) sel x u v:=by
  funext u v;exact Y4X hs u v l
 have m:Val (cn (inR (frL w rs (gl L k) sel l))):=by
  rw [e];refine W0p h.par h.lin h3 _ (fun x _=>W1N hs x) (fun x _=>Y4W hs x) fun x j h3=>?_
  have f:=(h.lin.one x j).pl h.par;have a:=W1Q h.w (x:=x) (fun u v g=>by have:=f u v g;omega) (parcel:=pcl rs x) (h.lin.one x j).sub (gl L k)
  obtain ⟨b,n⟩:=hs.flat x _ a;refine ⟨Q6E x.s_ (gl L k).N_&&b,fun u v=>?_⟩
  unfold frS;rw [n]
  cases Q6E x.s_ (gl L k).N_ <;> cases inR x.g_.t_ u v <;> rfl
 have i:=Z9F (w:=w) (rs:=rs) (s:=gl L k) hs h.trm;refine ⟨m,?_⟩
 have:=m.1
 rw [Q5G hF (by omega) fun r o=>(Z9D hs h.trm r o).2,if_neg (by omega)]
theorem TB.area (h:TB rs l ps L w) {s:Scheme} {sel:Line->TS->Sq} (hs:SelOk sel) (hv:Val (cn (inR (frL w rs s sel l)))):area (cn (inR (frL w rs s sel l)))=area (frL w rs s sel l):=by
 rw [hv.area,Q0n (K2 _),Y5i (Y8a hs h.trm h.lin.apart) fun r a=>(Z9D hs h.trm r a).1]
theorem TB.Farm (hF:BIG+3<=F) (h:TB rs l ps L w) (h3:l.length<=3) {k:Nat} (hk:k<L.length):Q9E F l ps L (gl L k).N_ w=some (⟨⟨cn (inR (frL w rs (gl L k) Z4p l))⟩,⟨cn (inR (frL w rs (gl L k) Y5B l))⟩,⟨cn (inR (frL w rs (gl L k) Y3y l))⟩⟩,0):=by
 have hB:BIG<=F:=by omega
 have r:=h.lt.len;have z:=h.goodL
 have b:Q4i (Q6x (gl L k).N_) L=(k:Int):=by
  obtain ⟨p,E,t⟩:=Z9z (Q6x (gl L k).N_) L;have m:L.any (Q6x (gl L k).N_)=true:=List.any_eq_true.2 ⟨_,W9 hk,by unfold Q6x;simp⟩
  have n:0<=Q4i (Q6x (gl L k).N_) L:=by
   unfold Q4i;rw [if_pos m];omega
  have g:=(t n).1;have a:∀ d i,i+d<L.length->0<d->(gl L i).N_<(gl L (i+d)).N_:=fun d=>by
   induction d with
   | zero=>intro i _ n;omega
   | succ d ih=>
    intro i q _;have f:=z.asc (i+(d+1)) (by omega) q
    rw [show i+(d+1)-1=i+d by omega] at f
    by_cases hd:0<d
    ·have:=ih i (by omega) hd;omega
    ·have:d=0:=by omega
     subst this;exact f
  unfold Q6x at g;have g:=eq_of_beq g
  obtain ⟨j,hj⟩:∃ j:Nat,Q4i (Q6x (gl L k).N_) L=j:=⟨_,(Int.toNat_of_nonneg n).symm⟩;have G:(fun x:Scheme=>x.N_==(gl L k).N_)=Q6x (gl L k).N_:=rfl
  rw [hj] at p ⊢;have g:(gl L j).N_=(gl L k).N_:=by
   have e:(Q4i (Q6x (gl L k).N_) L).toNat=j:=by omega
   rw [<-e];exact g
  rcases Nat.lt_trichotomy j k with f|f|f
  ·have:=a (k-j) j (by omega) (by omega)
   rw [show j+(k-j)=k by omega] at this;omega
  ·rw [f]
  ·have:=a (j-k) k (by omega) (by omega)
   rw [show k+(j-k)=j by omega] at this;omega
 have o:=h.join hB h3 (k:=k) Z2v;have D:=h.join hB h3 (k:=k) Y7N
 have C:=h.join hB h3 (k:=k) Y7M;unfold Q9E
 refine Q3 (h.check hF h3) (Q8 rfl (Q3 (Z1I hB (by omega) _) ?_));rw [b]
 refine Q8 (decide_eq_false (by omega)) (Q7 (by omega) ?_);rw [Int.toNat_natCast]
 refine Q3 (h.farm hF h3 hk) (Q8 rfl (Q3 (h.apart hB h3) (Q8 rfl ?_)));unfold z8
 exact Q3 (Q3 o.2 (Q8 rfl (Q7 (Z7 (by omega) (by omega)) (Q3 D.2 (Q8 rfl (Q7 (Z7 (by omega) (by omega)) (Q3 C.2 (Q8 rfl (Q7 (Z7 (by omega) (by omega)) rfl))))))))) rfl
def Q7v (w:World) (rs:List Re_) (l:List Line) (s:Scheme):Int:=if area (frL w rs s Z4p l)<s.least_ then 0 else area (frL w rs s Z4p l)
theorem TB.Areas (hF:BIG+3<=F) (h:TB rs l ps L w) (h3:l.length<=3):Q8s F l ps L w=some (L.map (Q7v w rs l),0):=by
 have hB:BIG<=F:=by omega
 have e:=hB;unfold BIG at e
 have j:=h.lt.len;unfold Q8s
 refine Q3 (h.check hF h3) (Q8 rfl ?_);refine Y7 (fun z:Int×(List Int)=>∃ i:Nat,i<=L.length/\z=((i:Int),(L.take i).map (Q7v w rs l))) (fun z=>L.length-z.1.toNat) (fun a z k g=>?_) ⟨0,Nat.zero_le _,rfl⟩ (by simp;omega)
 obtain ⟨i,p,rfl⟩:=k;show Q8r F l ps L w a (i:Int) _=_
 unfold Q8r;refine Q9 (fun q=>?_) (fun q=>?_)
 ·have q:i<L.length:=by have:=of_decide_eq_true q;omega
  refine Q7 (by omega) ?_;rw [Int.toNat_natCast]
  have f:=Z9F (w:=w) (rs:=rs) (s:=gl L i) Z2v h.trm;have k1:∀ n,n=Q7v w rs l (gl L i)->Q2M F (i:Int) ((L.take i).map (Q7v w rs l)) a n=some (L.map (Q7v w rs l),0):=fun n o=>by
   unfold Q2M;refine Q7 (by simp only [List.length_map,List.length_take,List.length_cons,List.length_nil];unfold LIM;omega) (Q7 (Z7 (by omega) (by omega)) (g _ ⟨i+1,q,?_⟩ (by simp only;omega)))
   rw [J8 q,List.map_append,o];rfl
  refine Q3 (h.farm hF h3 q) (Q8 rfl (Q3 (Z5Q hB (by simp only;omega) fun r m=>(Z9D Z2v h.trm r m).1) (Q9 (fun b=>?_) fun b=>?_)))
  ·exact k1 _ (by unfold Q7v;rw [if_pos (of_decide_eq_true b)])
  ·exact k1 _ (by unfold Q7v;rw [if_neg (of_decide_eq_false b)])
 ·have q:i=L.length:=by have:=of_decide_eq_false q;omega
  rw [q,List.take_length];unfold Q8q
  exact Q3 (h.apart hB h3) (Q8 rfl rfl)
end
theorem Z4y {F:Nat} (hF:BIG+3<=F) (tape:List Int):Q3d F tape=some true:=by
 have hB:BIG<=F:=by omega
 have I:=hB;unfold BIG at I
 obtain ⟨t0,t1,t,x,J,cs,l,D,rs,ps,L,w,Z,Q,T,W,e4,U,e,_,h3⟩:=W1m hF tape (most:=3) (by omega) (by omega);have a1:=e.lt.len
 have a0:=e.prc.len;have g:l.length<=3:=by omega
 unfold Q3d;refine Q3 Z (Q3 Q (Q3 T (Q3 W (Q3 e4 (Q3 U (Q3 (e.Areas hF g) (Q8 rfl ?_)))))))
 have C:(((List.length (L.map (Q7v w rs l)):Nat):Int) != (L.length:Int))=false:=by simp
 rw [C];unfold Q1E
 refine Q8 rfl ?_;refine Y7k L.length (fun j k o H=>?_) (fun j=>?_) (by omega)
 ·show Q0C F (t,l,D,rs) ps (x,L) (J,w) (L.map (Q7v w rs l),0) j (k:Int)=_
  unfold Q0C;refine Z5 (decide_eq_true (by simp only;omega)) (Q7 (by simp only;omega) ?_)
  simp only [Int.toNat_natCast];refine Q3 (e.Farm hF g o) ?_
  have p:=(e.join hB g (k:=k) Z2v).1;have P:=Z9F (w:=w) (rs:=rs) (s:=gl L k) Z2v e.trm
  have K:=e.area (s:=gl L k) Z2v p;have a2:=Y8t p
  refine Y7 (fun z:Int×Int=>∃ i:Nat,i<=l.length/\z=(area (frL w rs (gl L k) Z4p (l.take i)),(i:Int))/\0<=z.1/\z.1<=40000000000*i) (fun z=>l.length-z.2.toNat) (fun f z hz S=>?_) ⟨0,Nat.zero_le _,rfl,by simp,by simp⟩ (by simp;omega);obtain ⟨i,hi,rfl,M,O⟩:=hz
  simp only at M O;show Q3T F (t,l,D,rs) ps (x,L) (J,w) (L.map (Q7v w rs l),0) (k:Int) _ j f _ (i:Int)=_
  unfold Q3T;refine Q9 (fun q=>?_) (fun q=>?_)
  ·have q:i<l.length:=by have:=of_decide_eq_true q;simp only at this;omega
   refine Q7 (by simp only;omega) (Q7 (by omega) ?_);simp only [Int.toNat_natCast]
   have V:=e.tr q;have m:=Y1b w (gl l i) (gl ps i) (gl L k)
   have E:=m.vY V;have G:∀ u v,(lnT w (gl l i) (gl ps i) (gl L k)).Y u v=true->inR (frL w rs (gl L k) Z4p l) u v=true:=fun u v h=>by
    rw [Y4X Z2v,List.any_eq_true];refine ⟨_,W9 q,?_⟩
    unfold frS
    by_cases b:Q6E (gl l i).s_ (gl L k).N_=false
    ·rw [(Y9V b).1] at h;cases h
    ·rw [Bool.not_eq_false] at b
     rw [b, <-e.pc q];exact h
   have r:Z7B ⟨cn (lnT w (gl l i) (gl ps i) (gl L k)).Y⟩ ⟨cn (inR (frL w rs (gl L k) Z4p l))⟩=true:=(Y3O (a:=⟨cn (lnT w (gl l i) (gl ps i) (gl L k)).Y⟩) (b:=⟨cn (inR (frL w rs (gl L k) Z4p l))⟩) E p).2 fun u v h=>by
    have h:inR (cn (lnT w (gl l i) (gl ps i) (gl L k)).Y) u v=true:=h;show inR (cn (inR (frL w rs (gl L k) Z4p l))) u v=true
    rw [Q1w m.fY] at h;rw [Q1w (K2 _)]
    exact G u v h
   have ha:=Y8t E;refine Q3 (e.line hF q o) (Q8 rfl (Q3 (Y1v hB _ _) ?_))
   have r:Z7B ((lnT w (gl l i) (gl ps i) (gl L k)).t3 (gl l i).g_.t_).true_ ⟨cn (inR (frL w rs (gl L k) Z4p l))⟩=true:=r;simp only
   rw [r];unfold Q1D
   have X:area (frL w rs (gl L k) Z4p (l.take (i+1)))=area (frL w rs (gl L k) Z4p (l.take i))+area (cn (lnT w (gl l i) (gl ps i) (gl L k)).Y):=by
    rw [J8 q,Z4C,W0O,Z9E]
    by_cases b:Q6E (gl l i).s_ (gl L k).N_=false
    ·rw [(Y9V b).1,Y3h,if_neg (by rw [b];simp)]
    ·rw [Bool.not_eq_false] at b
     rw [if_pos b, <-e.pc q];rfl
   refine Q8 rfl (Q3 (Q9y hB E) (Q7 (Z7 (by simp only [TS.t3];omega) (by simp only [TS.t3];omega)) (Q7 (Z7 (by omega) (by omega)) (S _ ⟨i+1,q,?_,?_,?_⟩ (by simp only;omega)))))
   ·rw [X];rfl
   ·simp only [TS.t3];omega
   ·simp only [TS.t3];omega
  ·have q:i=l.length:=by have:=of_decide_eq_false q;simp only at this;omega
   subst q;rw [List.take_length] at M O ⊢
   have R:y8 F (k:Int) j false=some true:=by
    unfold y8;refine Q8 rfl ?_
    unfold Q3R;exact Q7 (Z7 (by omega) (by omega)) H
   have hw:gl (L.map (Q7v w rs l)) k=Q7v w rs l (gl L k):=by
    rw [Z5i _ k (by simpa using o),Z5i L k o];simp
   have N:∀ n,n=Q7v w rs l (gl L k)->Q0B F (L.map (Q7v w rs l),0) (k:Int) (⟨⟨cn (inR (frL w rs (gl L k) Z4p l))⟩,⟨cn (inR (frL w rs (gl L k) Y5B l))⟩,⟨cn (inR (frL w rs (gl L k) Y3y l))⟩⟩,0) (area (frL w rs (gl L k) Z4p l)) j n=some true:=fun n hn=>by
    unfold Q0B;refine Q8 rfl (Q3 (Q9y hB p) (Q8 (by rw [bne_eq_false_iff_eq];exact K) (Q7 (by simp only [List.length_map];omega) ?_)))
    simp only [Int.toNat_natCast];rw [hw,hn,show (Q7v w rs l (gl L k) != Q7v w rs l (gl L k))=false by simp]
    exact R
   unfold Q3S;simp only [Int.toNat_natCast]
   refine Q9 (fun b=>?_) fun b=>?_
   ·exact N _ (by unfold Q7v;rw [if_pos (of_decide_eq_true b)])
   ·exact N _ (by unfold Q7v;rw [if_neg (of_decide_eq_false b)])
 ·show Q0C F (t,l,D,rs) ps (x,L) (J,w) (L.map (Q7v w rs l),0) j (L.length:Int)=_
  unfold Q0C;refine Q8 (decide_eq_false (by simp only;omega)) ?_
  unfold Q3Q;exact Q3 (Y2K hF) rfl
end
end
end Go.Ab
