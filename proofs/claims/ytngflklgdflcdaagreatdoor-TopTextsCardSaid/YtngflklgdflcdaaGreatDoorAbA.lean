/- Abstract states over the model. -/
import Derived.Test.YtngflklgdflcdaaGreatDoorAl
set_option linter.all false
noncomputable section
namespace Go.Ab
variable {a:Act}{K:Act->World->Prop}{b2:Addr}{ps:Array (Nat×Operand)}{listed:Array Bool}{tys:Array TypeId}{cells vs:Ξ}{draw:Bool}{bi:Builtin}{Q:Exit->Act->World->Prop}{fn:Func}{n':Int}{k':IntKind}{acc h h1 h2 pins:υ}{news olds:List Value}{cy ft gc idx nt:Nat}{ρ:Nat->Nat}{R' X X' Z Z':ξ}{η η':Nat->Value}{hx mx y:Operand}{ad base:Option Addr}{u:φ}{hi lo:Option Operand}{P:Program}{c0:Prop}{e' ety t':TypeId}{i2:TypeInfo}{z2:Value}{w w':World}
section
variable {v z:Value}{b j d n k off id es el:Nat}{c:Ξ}{t:TypeId}{i:TypeInfo}{o:Oper}{x:Operand}{m:Bool}{del:υ}{ops:List Oper}
def Wf:Nat:=3
def AV:Ξ:=(Lib.pow10Tab.map λz=>Value.int .u64 z).toArray
inductive aH where
 |any
 |int (k:IntKind) (n:Int)
 |bool (b:Bool)
 |str (s:ByteArray)
 |lst (n:Nat) (f:Nat->List aH)
 |mp (n:Nat) (ks:Nat->Int) (vs:Nat->aH)
abbrev Ψ:=List aH
abbrev Δ:=Nat->Ψ
variable {ds zd:Ψ}{f:Δ}
inductive CV where
 |d (x:aH)
 |fl (n:Nat) (f:Δ)
 |own (id:Nat)
 |ptr (id off:Nat)
 |pte (id es idx off:Nat)
 |sub (id es lo n:Nat)
 |elm (cs:Ψ)
 |clo (f:Nat) (ids:υ)
 |sem (p:World->ξ->ξ->Value->Prop)
 |ap (id:Nat)
 |bnd (f:Nat) (cs:Ψ)
 |cp (id j:Nat)
inductive TV where
 |c (x:CV)
 |g (xs:List CV)
inductive ai where
 |any
 |v (x:TV)
 |t (xs:List TV)
abbrev Γ:=List (Nat×ai)
variable {E E':Γ}{args:List ai}
inductive Obj where
 |box (ro:Bool) (cs:List CV)
 |arr (es n:Nat) (f:Δ)
 |ext (p:World->ξ->Value->Prop)
 |exr (refs:υ) (p:World->ξ->List Value->Value->Prop)
abbrev ι:=List (Nat×Obj)
variable {S S':ι}
abbrev U5:=Nat->ai
variable {e e0:U5}
abbrev U8:=Nat->Option Obj
variable {s s' s0:U8}
def GL(w:World)(X:ξ):Prop:=¬X Wf/\∃e fz,w.heap[Wf]?=some (.cells AV e fz)
structure XL (w:World) (X:ξ):Prop where
 lt:∀b,X b->b<w.heap.size
 gl:GL w X
theorem XL.sub(h:XL w X)(k:∀b,X' b->X b):XL w X':=⟨λb c=>h.lt b (k b c),λa=>h.gl.1 (k _ a),h.gl.2⟩
structure da where
 w0:World
 D:Nat->Prop
 M:Nat->Prop
 X:Nat->Prop
 pin:Nat->Option Value
variable {C:da}
inductive aA (w:World) (X:ξ):Value->aH->Prop
 |any (v:Value):v.oneCell'=true->aA w X v .any
 |int (k:IntKind) (n:Int):aA w X (.int k n) (.int k n)
 |bool (b:Bool):aA w X (.bool b) (.bool b)
 |str (s:ByteArray):aA w X (.string s) (.str s)
 |nil (a:Option Addr) (cap:Nat) (f:Δ):aA w X (.slice a 0 cap) (.lst 0 f)
 | lst (b off n cap:Nat) (c:Ξ) (e:TypeId) (fz:Nat×Nat) (f:Δ) (es:Nat) :
   ¬X b->w.heap[b]?=some (.cells c e fz)->n<=cap->off+n*es<=c.size->(∀i,i<n->(f i).length=es) ->
   (∀i j,i<n->j<es->aA w X (c.getD (off+(i*es+j)) undef) ((f i).getD j .any)) ->
   aA w X (.slice (some ⟨b,off,none⟩) n cap) (.lst n f)
 | mp (b:Nat) (es:Array MapEntry) (clock n:Nat) (ks:Nat->Int) (Zx:Nat->Value) (vs:Nat->aH):¬ X b->w.heap[b]?=some (.map es clock)->MapKept.Stamped es clock->es.size=n ->
   (∀i,i<n->∃bo,es[i]?=some ⟨.int .i64 (ks i),Zx i,bo⟩)->(∀i,i<n->aA w X (Zx i) (vs i))->aA w X (.map (some b)) (.mp n ks vs)
theorem aA.one{x:aH}(h:aA w X v x):v.oneCell'=true:=by
 cases h<;>first|assumption|rfl
theorem J4{o:Go.Obj}(h:w.heap[b]?=some o):b<w.heap.size:=
 (lD.1 h).1
structure aM (Z:ξ) (w w' : World):Prop where
 os:w'.os=w.os
 tape:w'.tape=w.tape
 output:w'.output=w.output
 size:w.heap.size<=w'.heap.size
 block:∀b,b<w.heap.size->¬Z b->w'.heap[b]?=w.heap[b]?
 dr:w.drawn<=w'.drawn
theorem aM.refl(Z:ξ)(w:World):aM Z w w:=⟨rfl,rfl,rfl,di _,λ_ _ _=>rfl,di _⟩
theorem aM.mono(h:aM Z w w')(hz:∀b,b<w.heap.size->Z b->Z' b):aM Z' w w' :=
 ⟨h.os,h.tape,h.output,h.size,λb a d=>h.block b a λc=>d (hz b a c),h.dr⟩
theorem aM.trans{a b c:World}(h:aM Z a b)(k:aM (λx=>Z x\/a.heap.size<=x) b c):aM Z a c:=
 ⟨k.os.trans h.os,k.tape.trans h.tape,k.output.trans h.output,dP h.size k.size,
  λx f e=>(k.block x (fH f h.size) λd=>by rcases d with d|d;exact e d;omega).trans (h.block x f e),dP h.dr k.dr⟩
theorem aM.drew(Z:ξ)(w:World):aM Z w {w with drawn:=w.drawn+1}:=⟨rfl,rfl,rfl,di _,λ_ _ _=>rfl,iA _⟩
theorem aM.alloc(Z:ξ)(w:World)(o:Go.Obj):aM Z w {w with heap:=w.heap.push o} :=
 ⟨rfl,rfl,rfl,by simp,λb a _=>by show(w.heap.push o)[b]?=_;rw[nV,an (by omega)],di _⟩
theorem aA.mono{x:aH}(h:aA w X v x)(hk:∀b,b<w.heap.size->¬X b->w'.heap[b]?=w.heap[b]? /\ ¬X' b):aA w' X' v x:=by
 induction h with
 |any v hv=>exact .any v hv
 |int k n=>exact .int k n
 |bool b=>exact .bool b
 |str s=>exact .str s
 |nil a cap f=>exact .nil a cap f
 |lst b off n cap c e fz f es hX hb hn ho hf _ ih=>
  have d:=hk b (J4 hb) hX;exact .lst b off n cap c e fz f es d.2 (d.1.trans hb) hn ho hf ih
 |mp b es clock n ks Zx vs hX hb h1 h2 h3 _ ih=>
  have d:=hk b (J4 hb) hX;exact .mp b es clock n ks Zx vs d.2 (d.1.trans hb) h1 h2 h3 ih
def BL:Value->υ
 |.pointer (some a)=>[a.block]
 |.slice (some a) _ cap=>if cap=0 then[]else[a.block]
 |.map (some b)=>[b]
 |_=>[]
def Y9:Value->υ
 |.pointer (some a)=>[a.block]
 |.slice (some a) _ cap=>if cap=0 then[]else[a.block]
 |.map (some b)=>[b]
 |.agg vs=>vs.toList.flatMap BL
 |_=>[]
def QP(w w' : World)(X X' : Nat->Prop):Prop:=∀b,b<w.heap.size->¬X b->w'.heap[b]?=w.heap[b]? /\ ¬X' b
theorem GL.mono(h:GL w X)(hk:QP w w' X X'):GL w' X':=by
 obtain⟨b,e,fz,a⟩:=h;have:=hk Wf (J4 a) b
 exact⟨this.2,e,fz,this.1.trans a⟩
def BS(p:World->ξ->Value->Prop)(v:Value):Prop:=∀w w' X X',QP w w' X X' -> (∀b∈Y9 v,w'.heap[b]?=w.heap[b]?)->p w X v->p w' X' v
section
variable (w:World)(X:ξ)(η:Nat->Value)(C:da)
inductive aX:Value->CV->Prop
 |d (v:Value) (x:aH):aA w X v x->aX v (.d x)
 |fl (a:Option Addr) (n:Nat) (f:Δ):aA w X (.slice a n n) (.lst n f)->aX (.slice a n n) (.fl n f)
 |own (v:Value) (id:Nat):v=η id->v.oneCell'=true->aX v (.own id)
 |ptr (b id off:Nat):η id=.pointer (some ⟨b,0,none⟩)->aX (.pointer (some ⟨b,off,none⟩)) (.ptr id off)
 |pte (b n cap id es idx off:Nat):η id=.slice (some ⟨b,0,none⟩) n cap->aX (.pointer (some ⟨b,idx*es+off,none⟩)) (.pte id es idx off)
 |sub (b N cap id es lo n:Nat):η id=.slice (some ⟨b,0,none⟩) N cap->lo+n<=N->lo<cap->aX (.slice (some ⟨b,lo*es,none⟩) n (cap-lo)) (.sub id es lo n)
 |subN (ad ad' : Option Addr) (N id es:Nat):η id=.slice ad N N->aX (.slice ad' 0 0) (.sub id es N 0)
 | elm (b off:Nat) (c:Ξ) (e:TypeId) (fz:Nat×Nat) (cs:Ψ):¬ X b->w.heap[b]?=some (.cells c e fz)->off+cs.length<=c.size ->
   (∀j,j<cs.length->aA w X (c.getD (off+j) undef) (cs.getD j .any))->aX (.pointer (some ⟨b,off,none⟩)) (.elm cs)
 |clo (f:Nat) (ids:υ) (vs:Ξ):vs=(ids.map η).toArray->aX (.func (.func f) #[] vs) (.clo f ids)
 |sem (v:Value) (p:World->ξ->ξ->Value->Prop):p C.w0 C.D C.X v->v.oneCell'=true->aX v (.sem p)
 |ap (v:Value) (id:Nat):(η id=v\/η id=.tuple #[v]\/∃l,η id=.agg (v::l).toArray)->v.oneCell'=true->aX v (.ap id)
 |bnd (f:Nat) (vs:Ξ) (cs:Ψ):vs.size=cs.length->(∀j,j<cs.length->aA w X (vs.getD j undef) (cs.getD j .any))->aX (.func (.func f) #[.agg vs] #[]) (.bnd f cs)
 |cp (v:Value) (id j:Nat) (vs:Ξ):η id=.agg vs->vs[j]?=some v->v.oneCell'=true->aX v (.cp id j)
def Qj(vs:Ξ)(cs:List CV):Prop:=vs.size=cs.length/\∀j,j<cs.length->aX w X η C (vs.getD j undef) (cs.getD j (.d .any))
inductive dy:Value->TV->Prop
 |c (v:Value) (x:CV):aX w X η C v x->dy v (.c x)
 |g (vs:Ξ) (xs:List CV):Qj w X η C vs xs->dy (.agg vs) (.g xs)
inductive aQ:Value->ai->Prop
 |any (v:Value):aQ v .any
 |v (u:Value) (x:TV):dy w X η C u x->aQ u (.v x)
 |t (us:Ξ) (xs:List TV):us.size=xs.length->(∀j,j<xs.length->dy w X η C (us.getD j undef) (xs.getD j (.c (.d .any))))->aQ (.tuple us) (.t xs)
inductive db:Value->Obj->Prop
 | box (b:Nat) (ro:Bool) (c:Ξ) (e:TypeId) (cs:List CV):w.heap[b]?=some (.cells c e (0,0))->Qj w X η C c cs ->
   db (.pointer (some ⟨b,0,none⟩)) (.box ro cs)
 |nil (ad:Option Addr) (es:Nat) (f:Δ):db (.slice ad 0 0) (.arr es 0 f)
 | arr (b n cap es:Nat) (c:Ξ) (e:TypeId) (f:Δ):w.heap[b]?=some (.cells c e (0,0))->c.size=cap*es->n<=cap->cap<=maxLen->0<cap ->
   (∀i,i<n->(f i).length=es)->(∀i j,i<n->j<es->aA w X (c.getD (i*es+j) undef) ((f i).getD j .any)) ->
   db (.slice (some ⟨b,0,none⟩) n cap) (.arr es n f)
 |ext (v:Value) (p:World->ξ->Value->Prop):p w X v->BS p v->(∀b∈Y9 v,b<w.heap.size)->db v (.ext p)
 |exr (v:Value) (refs:υ) (p:World->ξ->List Value->Value->Prop):p w X (refs.map η) v->BS (λw X v=>p w X (refs.map η) v) v->(∀b∈Y9 v,b<w.heap.size)->db v (.exr refs p)
end
theorem aX.one{x:CV}(h:aX w X η C v x):v.oneCell'=true:=by
 cases h with
 |d _ _ h=>exact h.one
 |own _ _ _ h=>exact h
 |sem _ _ _ h=>exact h
 |ap _ _ _ h=>exact h
 |cp _ _ _ _ _ _ h=>exact h
 |_=>rfl
def CV.refs:CV->υ
 |.own id=>[id]
 |.ptr id _=>[id]
 |.pte id _ _ _=>[id]
 |.sub id _ _ _=>[id]
 |.clo _ ids=>ids
 |.ap id=>[id]
 |.cp id _=>[id]
 |_=>[]
def TV.refs:TV->υ
 |.c x=>x.refs
 |.g xs=>xs.flatMap CV.refs
def ai.refs:ai->υ
 |.any=>[]
 |.v x=>x.refs
 |.t xs=>xs.flatMap TV.refs
def Obj.refs:Obj->υ
 |.box _ cs=>cs.flatMap CV.refs
 |.arr _ _ _=>[]
 |.ext _=>[]
 |.exr refs _=>refs
def Obj.ro:Obj->Bool
 |.box ro _=>ro
 |.arr _ _ _=>false
 |.ext _=>false
 |.exr _ _=>false
theorem aX.mono{x:CV}(h:aX w X η C v x)(hk:QP w w' X X')(hη:∀i∈x.refs,η' i=η i):aX w' X' η' C v x:=by
 cases h with
 |d _ _ h=>exact .d _ _ (h.mono hk)
 |fl a n f h=>exact .fl a n f (h.mono hk)
 |own _ id h h1=>exact .own _ id (by rw[hη id (by simp[CV.refs])];exact h) h1
 |ptr b id off h=>exact .ptr b id off (by rw[hη id (by simp[CV.refs])];exact h)
 |pte b n cap id es idx off h=>exact .pte b n cap id es idx off (by rw[hη id (by simp[CV.refs])];exact h)
 |sub b N cap id es lo n h h1 h2=>exact .sub b N cap id es lo n (by rw[hη id (by simp[CV.refs])];exact h) h1 h2
 |subN ad ad' N id es h=>exact .subN ad ad' N id es (by rw[hη id (by simp[CV.refs])];exact h)
 |elm b off c e fz cs hX hb ho hc=>
  have k:=hk b (J4 hb) hX;exact .elm b off c e fz cs k.2 (k.1.trans hb) ho λj g=>(hc j g).mono hk
 |clo f ids vs h=>
  refine .clo f ids vs ?_;rw[h]
  congr 1
  exact iT λi l=>(hη i (by simpa[CV.refs]using l)).symm
 |sem _ p h h1=>exact .sem _ p h h1
 |ap _ id h h1=>exact .ap _ id (by rw[hη id (by simp[CV.refs])];exact h) h1
 |bnd f vs cs h1 h2=>exact .bnd f vs cs h1 λj g=>(h2 j g).mono hk
 |cp _ id j vs h h1 h2=>exact .cp _ id j vs (by rw[hη id (by simp[CV.refs])];exact h) h1 h2
theorem YN{α:Type}{l:List α}{d:α}(h:j<l.length):l.getD j d∈l:=by
 grind
theorem Qj.mono{cs:List CV}(h:Qj w X η C vs cs)(hk:QP w w' X X')(hη:∀i∈cs.flatMap CV.refs,η' i=η i):Qj w' X' η' C vs cs:=
 ⟨h.1,λj a=>(h.2 j a).mono hk λi b=>hη i (eE.2 ⟨_,YN a,b⟩)⟩
theorem dy.mono{x:TV}(h:dy w X η C v x)(hk:QP w w' X X')(hη:∀i∈x.refs,η' i=η i):dy w' X' η' C v x:=by
 cases h with
 |c _ x h=>exact .c _ x (h.mono hk hη)
 |g vs xs h=>exact .g vs xs (h.mono hk hη)
theorem aQ.mono{x:ai}(h:aQ w X η C v x)(hk:QP w w' X X')(hη:∀i∈x.refs,η' i=η i):aQ w' X' η' C v x:=by
 cases h with
 |any=>exact .any v
 |v _ x h=>exact .v _ x (h.mono hk hη)
 |t us xs hs h=>exact .t us xs hs λj a=>(h j a).mono hk λi b=>hη i (eE.2 ⟨_,YN a,b⟩)
theorem db.mono{o:Obj}(h:db w X η C v o)(hk:QP w w' X X')(hη:∀i∈o.refs,η' i=η i)(hb:∀b,b∈Y9 v->w'.heap[b]?=w.heap[b]?):db w' X' η' C v o:=by
 cases h with
 |box b ro c e cs hh hc=>exact .box b ro c e cs ((hb b (by simp[Y9])).trans hh) (hc.mono hk hη)
 |nil ad es f=>exact .nil ad es f
 |arr b n cap es c e f hh hs hn hm hc hl he=>
  exact .arr b n cap es c e f ((hb b (by simp[Y9];omega)).trans hh) hs hn hm hc hl λi j d k=>(he i j d k).mono hk
 |ext _ p h h1 h2=>
  refine .ext _ p (h1 w w' X X' hk hb h) h1 λb a=>?_
  grind
 |exr _ refs p h h1 h2=>
  have g:refs.map η'=refs.map η:=iT λi d=>hη i d
  refine .exr _ refs p (by rw[g];exact h1 w w' X X' hk hb h) (by rw[g];exact h1) λb a=>?_
  grind
theorem db.lt{o:Obj}(h:db w X η C v o)(hb:b∈Y9 v):b<w.heap.size:=by
 cases h with
 |box b' ro c e cs hh hc=>simp[Y9]at hb;subst hb;exact J4 hh
 |nil ad es f=>cases ad<;>simp[Y9]at hb
 |arr b' n cap es c e f hh hs hn hm hc hl he=>simp[Y9]at hb;obtain⟨_,rfl⟩:=hb;exact J4 hh
 |ext _ p h h1 h2=>exact h2 b hb
 |exr _ refs p h h1 h2=>exact h2 b hb
def dV(s:U8)(η:Nat->Value)(b:Nat):Prop:=∃i o,s i=some o/\b∈Y9 (η i)
def XS(C:da)(s:U8)(η:Nat->Value)(b:Nat):Prop:=(C.X b/\¬C.D b)\/dV s η b
structure da.Ok (C:da):Prop where
 md:∀b,C.M b->C.D b
 dx:∀b,C.D b->C.X b
 lt:∀b,C.X b->b<C.w0.heap.size
 gl:GL C.w0 C.X
structure aK (C:da) (nt:Nat) (R:ξ) (η:Nat->Value) (e:U5) (s:U8) (a:Act) (w:World):Prop where
 ok:C.Ok
 df:a.defers=[]
 sz:a.tmps.size=nt
 ev:∀t,aQ w (XS C s η) η C (a.tmps.getD t undef) (e t)
 er:∀t i,i∈(e t).refs->R i
 st:∀i o,s i=some o->db w (XS C s η) η C (η i) o
 sr:∀i o,s i=some o->R i/\∀j∈o.refs,R j
 ds:∀i j b,s i≠none->s j≠none->b∈Y9 (η i)->b∈Y9 (η j)->i=j
 ow:∀i o b,s i=some o->b∈Y9 (η i)->(o.ro=true/\C.D b)\/C.M b\/C.w0.heap.size<=b
 fr:aM C.M C.w0 w
 pn:∀i v,C.pin i=some v->η i=v/\R i
variable {cs xs:List CV}{g:Δ}
structure SR where
 v:ai:=.any
 del:υ:=[]
 upd:Option (Nat×Obj):=none
 new:Option Obj:=none
 cond:Prop:=True
def SR.env(r:SR)(d:Option Tmp)(e:U5):U5:=
 match d with
 |some d=>λt=>if t=d then r.v else e t
 |none=>e
def SR.sto(r:SR)(d:Option Tmp)(s:U8):U8:=λi=>
 match r.new,d with
 |some o,some d=>if i=d then some o else
  match r.upd with
  |some (k,o')=>if i=k then some o' else if r.del.contains i then none else s i
  |none=>if r.del.contains i then none else s i
 |_,_=>
  match r.upd with
  |some (k,o')=>if i=k then some o' else if r.del.contains i then none else s i
  |none=>if r.del.contains i then none else s i
def SR.eta(r:SR)(d:Option Tmp)(v:Value)(η:Nat->Value):Nat->Value:=λi=>
 match r.new,d with
 |some _,some d=>if i=d then v else η i
 |_,_=>η i
def SR.rng(r:SR)(d:Option Tmp)(R:ξ):Nat->Prop:=λi=>R i\/(r.new≠none/\d=some i)
theorem CP(a:Act)(d:Option Tmp)(v:Value)(t:Nat)(hd:∀ x,d=some x->x<a.tmps.size):
  (a.put d v).tmps.getD t undef=if d=some t then v else a.tmps.getD t undef:=by
 cases d with
 |none=>simp[Act.put]
 |some x=>
  have b:=hd x rfl;simp only[Act.put,ld]
  by_cases h:x=t
  .subst h;simp[b]
  .simp [h]
theorem tA(a:Act)(d:Option Tmp)(v:Value):(a.put d v).tmps.size=a.tmps.size:=by cases d<;>simp[Act.put]
theorem rV(a:Act)(d:Option Tmp)(v:Value):(a.put d v).defers=a.defers:=by cases d<;>rfl
section
variable {R:ξ}
theorem aK.lt(h:aK C nt R η e s a w)(hb:dV s η b):b<w.heap.size:=by
 obtain⟨i,o,c,hb⟩:=hb;exact(h.st i o c).lt hb
theorem zE(r:SR)(d:Option Tmp):∀i o,r.sto d s i=some o->(r.new=some o/\d=some i)\/(r.upd=some (i,o)/\(r.new=none\/d≠some i))\/(s i=some o/\i∉r.del/\(∀o',r.upd≠some (i,o'))/\(r.new=none\/d≠some i)):=by
 intro i o c;have b:(match r.upd with|some (k,o')=>if i=k then some o' else if r.del.contains i then none else s i|none=>if r.del.contains i then none else s i)=some o ->
   r.upd=some (i,o)\/(s i=some o/\i∉r.del/\∀o',r.upd≠some (i,o')):=by
  intro f
  cases hu:r.upd with
  |none=>
   grind
  |some ko=>
   grind
 unfold SR.sto at c
 cases hn:r.new with
 |none=>
  grind
 |some on=>
  grind
theorem Ls(r:SR)(d:Option Tmp)(v:Value):∀i,(r.new=none\/d≠some i)->r.eta d v η i=η i:=by
 intro i b;unfold SR.eta
 grind
theorem O4(r:SR)(d:Option Tmp)(v:Value)(N:ξ)(hnew:∀o dd,r.new=some o->d=some dd->∀b,b∈Y9 v->N b\/dV s η b)(hupd:∀k o,r.upd=some (k,o)->s k≠none):∀b,dV (r.sto d s) (r.eta d v η) b->N b\/dV s η b:=by
 rintro b ⟨i,o,p,c⟩;rcases zE r d i o p with ⟨h,f⟩|⟨m,g⟩|⟨l,_,_,g⟩
 .rw [show r.eta d v η i=v from by simp[SR.eta,h,f]]at c
  exact hnew o i h f b c
 .rw [Ls r d v i g]at c
  obtain⟨j,n⟩:=dS.1 (hupd i o m);exact .inr ⟨i,j,n,c⟩
 .rw [Ls r d v i g]at c
  exact .inr ⟨i,o,l,c⟩
theorem JA(r:SR)(d:Option Tmp)(v:Value)(Z:ξ)(hstep:aM Z w w')(hZ:∀b,Z b->dV s η b)(hnew:∀o dd,r.new=some o->d=some dd->∀b,b∈Y9 v->w.heap.size<=b\/dV s η b)(hupd:∀k o,r.upd=some (k,o)->s k≠none):QP w w' (XS C s η) (XS C (r.sto d s) (r.eta d v η)):=by
 intro b j i;have c:¬dV s η b:=λf=>i (.inr f)
 refine⟨hstep.block b j λl=>c (hZ b l),λg=>?_⟩;rcases g with f|f
 .exact i (.inl f)
 .rcases O4 r d v _ hnew hupd b f with h|h
  .omega
  .exact c h
theorem Z6J{R:ξ}(r:SR)(d:Option Tmp)(v:Value)(hR:∀o dd,r.new=some o->d=some dd->¬R dd):∀i,R i->r.eta d v η i=η i:=by
 intro i c;refine Ls r d v i ?_
 cases hn:r.new with
 |none=>exact .inl rfl
 |some o=>right;intro b;exact hR o i hn b c
theorem aK.stepG(h:aK C nt R η e s a w)(d:Option Tmp)(hd:∀ x,d=some x->x<nt)(r:SR)(v u:Value)(w' : World)(Z:ξ)(hstep:aM Z w w')(hZ:∀ b,Z b->(∃ i,(i ∈ r.del\/∃ o,r.upd=some (i,o))/\s i≠none/\b ∈ Y9 (η i))/\(C.M b\/C.w0.heap.size<=b))(hnew:∀ o dd,r.new=some o->d=some dd->¬ R dd/\o.ro=false/\(∀ j ∈ o.refs,R j)/\db w' (XS C (r.sto d s) (r.eta d u η)) (r.eta d u η) C u o /\
   (∀b,b∈Y9 u->w.heap.size<=b\/((∃i∈r.del,s i≠none/\b∈Y9 (η i))/\(C.M b\/C.w0.heap.size<=b))))(hupd:∀k o,r.upd=some (k,o)->(∃o0,s k=some o0/\o0.ro=false)/\o.ro=false/\k∉r.del/\(∀j∈o.refs,R j)/\db w' (XS C (r.sto d s) (r.eta d u η)) (r.eta d u η) C (η k) o)(hv:d≠none->aQ w' (XS C (r.sto d s) (r.eta d u η)) (r.eta d u η) C v r.v/\∀j∈r.v.refs,r.rng d R j):
  aK C nt (r.rng d R) (r.eta d u η) (r.env d e) (r.sto d s) (a.put d v) w':=by
 have Y:=zE (s:=s) r d;have g:=Ls (η:=η) r d u
 have l:∀o i,r.new=some o->d=some i->r.eta d u η i=u:=by
  intro o i K h2;simp[SR.eta,K,h2]
 have y:∀i,R i->r.eta d u η i=η i:=by
  intro i f;refine g i ?_
  cases p:r.new with
  |none=>exact .inl rfl
  |some o=>right;intro c;exact(hnew o i p c).1 f
 have b5:∀b,dV (r.sto d s) (r.eta d u η) b->w.heap.size<=b\/dV s η b:=by
  rintro b ⟨i,o,f,m⟩;rcases Y i o f with ⟨p,c⟩|⟨L,B⟩|⟨D,_,_,B⟩
  .rw [l o i p c]at m
   rcases(hnew o i p c).2.2.2.2 b m with W|⟨⟨j,_,n,P⟩,_⟩
   .exact .inl W
   .obtain ⟨F,q⟩:=dS.1 n
    exact .inr ⟨j,F,q,P⟩
  .rw [g i B]at m
   obtain⟨o0,V,_⟩:=(hupd i o L).1;exact .inr ⟨i,o0,V,m⟩
  .rw [g i B]at m
   exact .inr ⟨i,o,D,m⟩
 have J:QP w w' (XS C s η) (XS C (r.sto d s) (r.eta d u η)):=by
  intro b m hX;have a2:¬dV s η b:=λN=>hX (.inr N)
  refine⟨hstep.block b m λU=>?_,λa7=>?_⟩
  .obtain ⟨⟨i,_,f,a4⟩,_⟩:=hZ b U
   obtain⟨O,E⟩:=dS.1 f;exact a2 ⟨i,O,E,a4⟩
  .rcases a7 with N|N
   .exact hX (.inl N)
   all_goals grind
 refine⟨h.ok,by rw[rV];exact h.df,by rw[tA];exact h.sz,?_,?_,?_,?_,?_,?_,?_,λi u' f=>⟨(y i (h.pn i u' f).2).trans (h.pn i u' f).1,.inl (h.pn i u' f).2⟩⟩
 .intro t
  rw[CP a d v t (by rw[h.sz];exact hd)]
  by_cases ht:d=some t
  .subst ht
   simp only[fJ,SR.env];exact(hv (by simp)).1
  .rw [an ht]
   have:r.env d e t=e t:=by
    unfold SR.env
    cases d with
    |none=>rfl
    |some x=>simp only[];rw[an];intro N;subst N;exact ht rfl
   rw[this];exact(h.ev t).mono J λi f=>y i (h.er t i f)
 .intro t i f
  by_cases ht:d=some t
  .subst ht
   simp only[SR.env,fJ]at f;exact(hv (by simp)).2 i f
  .have:r.env d e t=e t:=by
    unfold SR.env
    cases d with
    |none=>rfl
    |some x=>simp only[];rw[an];intro N;subst N;exact ht rfl
   rw[this]at f;exact .inl (h.er t i f)
 .intro i o f
  rcases Y i o f with ⟨p,c⟩|⟨L,B⟩|⟨D,G,Q,B⟩
  .rw [l o i p c];exact(hnew o i p c).2.2.2.1
  .rw [g i B];exact(hupd i o L).2.2.2.2
  .rw [g i B]
   refine(h.st i o D).mono J (λj n=>y j ((h.sr i o D).2 j n)) λb m=>?_
   refine hstep.block b ((h.st i o D).lt m) λU=>?_
   obtain⟨⟨j,n,b2,P⟩,_⟩:=hZ b U;have a6:i=j:=h.ds i j b (by rw[D];simp) b2 m P
   subst a6;rcases n with n|⟨S,b4⟩
   .exact G n
   .exact Q S b4
 .intro i o f
  rcases Y i o f with ⟨p,c⟩|⟨L,B⟩|⟨D,G,Q,B⟩
  .exact ⟨.inr ⟨by rw[p];simp,c⟩,λj n=>.inl ((hnew o i p c).2.2.1 j n)⟩
  .obtain ⟨o0,V,_⟩:=(hupd i o L).1
   exact⟨.inl (h.sr i o0 V).1,λj n=>.inl ((hupd i o L).2.2.2.1 j n)⟩
  .exact ⟨.inl (h.sr i o D).1,λj n=>.inl ((h.sr i o D).2 j n)⟩
 .
  have I:∀i o,r.sto d s i=some o->¬(r.new=some o/\d=some i)->s i≠none/\i∉r.del/\r.eta d u η i=η i:=by
   grind
  have H:∀i o j S,r.sto d s j=some S -> (r.new=some o/\d=some i)->¬(r.new=some S /\ d=some j)->∀b,b∈Y9 u->b∈Y9 (η j)->False:=by
   intro i o j S n p a5 b m T;obtain⟨K,h2,_⟩:=I j S n a5
   obtain⟨F,q⟩:=dS.1 K;rcases(hnew o i p.1 p.2).2.2.2.2 b m with W|⟨⟨k,hk,b0,a9⟩,_⟩
   .have:=(h.st j F q).lt T;omega
   .have:j=k:=h.ds j k b K b0 T a9
    grind
  intro i j b f n z A;obtain⟨O,E⟩:=dS.1 f
  obtain⟨F,q⟩:=dS.1 n
  by_cases ni:r.new=some O/\d=some i
  .by_cases nj:r.new=some F/\d=some j
   .have:=ni.2.symm.trans nj.2;simpa using this
   .exfalso
    rw[l O i ni.1 ni.2]at z;rw[(I j F q nj).2.2]at A
    exact H i O j F q ni nj b z A
  .by_cases nj:r.new=some F/\d=some j
   .exfalso
    rw[l F j nj.1 nj.2]at A;rw[(I i O E ni).2.2]at z
    exact H j F i O E nj ni b A z
   .obtain ⟨a1,_,a3⟩:=I i O E ni
    obtain⟨b1,_,b3⟩:=I j F q nj;rw[a3]at z;rw[b3]at A
    exact h.ds i j b a1 b1 z A
 .intro i o b f m
  rcases Y i o f with ⟨p,c⟩|⟨L,B⟩|⟨D,G,Q,B⟩
  .rw [l o i p c]at m
   rcases(hnew o i p c).2.2.2.2 b m with W|⟨_,hm⟩
   .exact .inr (.inr (dP h.fr.size W))
   .exact .inr hm
  .rw [g i B]at m
   obtain⟨o0,V,a0⟩:=(hupd i o L).1;rcases h.ow i o0 b V m with ⟨K,_⟩|K
   .rw [a0]at K;cases K
   .exact .inr K
  .rw [g i B]at m
   exact h.ow i o b D m
 .refine h.fr.trans (hstep.mono λb _ U=>?_)
  exact(hZ b U).2
theorem aK.step(h:aK C nt R η e s a w)(d:Option Tmp)(hd:∀ x,d=some x->x<nt)(r:SR)(v:Value)(w' : World)(Z:ξ)(hstep:aM Z w w')(hZ:∀ b,Z b->(∃ i,(i ∈ r.del\/∃ o,r.upd=some (i,o))/\s i≠none/\b ∈ Y9 (η i))/\(C.M b\/C.w0.heap.size<=b))(hnew:∀ o dd,r.new=some o->d=some dd->¬ R dd/\o.ro=false/\(∀ j ∈ o.refs,R j)/\db w' (XS C (r.sto d s) (r.eta d v η)) (r.eta d v η) C v o /\
   (∀b,b∈Y9 v->w.heap.size<=b\/((∃i∈r.del,s i≠none/\b∈Y9 (η i))/\(C.M b\/C.w0.heap.size<=b))))(hupd:∀k o,r.upd=some (k,o)->(∃o0,s k=some o0/\o0.ro=false)/\o.ro=false/\k∉r.del/\(∀j∈o.refs,R j)/\db w' (XS C (r.sto d s) (r.eta d v η)) (r.eta d v η) C (η k) o)(hv:d≠none->aQ w' (XS C (r.sto d s) (r.eta d v η)) (r.eta d v η) C v r.v/\∀j∈r.v.refs,r.rng d R j):
  aK C nt (r.rng d R) (r.eta d v η) (r.env d e) (r.sto d s) (a.put d v) w' :=
 h.stepG d hd r v v w' Z hstep hZ hnew hupd hv
theorem aK.val(h:aK C nt R η e s a w)(d:Option Tmp)(hd:∀ x,d=some x->x<nt)(x:ai)(v:Value)(hv:d≠none->aQ w (XS C s η) η C v x/\∀ j ∈ x.refs,R j):
  aK C nt R η (SR.env {v:=x} d e) s (a.put d v) w:=by
 have l:SR.sto {v:=x} d s=s:=by funext i;simp[SR.sto]
 have g:SR.eta {v:=x} d v η=η:=by funext i;simp[SR.eta]
 have f:SR.rng {v:=x} d R=R:=by funext i;simp[SR.rng]
 have:=h.step d hd {v:=x} v w (λ_=>False) (aM.refl _ _) (λb n=>n.elim) (λo dd c=>by cases c) (λk o c=>by cases c)
  (λm=>by rw[l,g,f];exact hv m)
 rwa [l,g,f]at this
theorem aK.drew(h:aK C nt R η e s a w):aK C nt R η e s a {w with drawn:=w.drawn+1}:=by
 have c:QP w {w with drawn:=w.drawn+1} (XS C s η) (XS C s η):=λb _ f=>⟨rfl,f⟩
 exact⟨h.ok,h.df,h.sz,λt=>(h.ev t).mono c λ_ _=>rfl,h.er,λi o d=>(h.st i o d).mono c (λ_ _=>rfl) λ_ _=>rfl,h.sr,h.ds,h.ow,
  ⟨h.fr.os,h.fr.tape,h.fr.output,h.fr.size,h.fr.block,Nat.le_succ_of_le h.fr.dr⟩,h.pn⟩
end
variable {r:SR}
inductive TK where
 |int (k:IntKind)
 |bool
 |str
 |slice (e:Nat)
 |struct (fs:List (Nat×Nat))
 |array (n e:Nat)
 |other
def TK.agg:TK->Bool
 |.struct _=>true
 |.array _ _=>true
 |_=>false
structure TI where
 kind:TK
 size:Nat
 bytes:Nat
 zero:List CV
variable {T:List (Nat×TI)}{te tf ti:TI}
abbrev dj:=Nat->Option TI
variable {L:dj}
def Q7(n:Int):Prop:= -9223372036854775808<=n/\n<=9223372036854775807
def Y2:Nat:=4294967296
def vi(n:Int):ai:=.v (.c (.d (.int .i64 n)))
def vb(b:Bool):ai:=.v (.c (.d (.bool b)))
def qr:Value->ai
 |.int k n=>.v (.c (.d (.int k n)))
 |.bool b=>.v (.c (.d (.bool b)))
 |.string s=>.v (.c (.d (.str s)))
 |.slice none 0 0=>.v (.c (.fl 0 λ_=>[]))
 |_=>.any
def Y3(e:U5):Operand->ai
 |.tmp t=>e t
 |.const v=>qr v
 |.func f=>.v (.c (.clo f []))
 |.global _=>.any
def XJ:ai->Option (List CV)
 |.v (.c x)=>some [x]
 |.v (.g xs)=>some xs
 |_=>none
def VJ(agg:Bool)(cs:List CV):Option ai:=
 match agg with
 |true=>some (.v (.g cs))
 |false=>match cs with
  |[x]=>some (.v (.c x))
  |_=>none
def qZ:CV->Option aH
 |.d x=>some x
 |.fl n f=>some (.lst n f)
 |_=>none
def Uc:List CV->Option (Ψ)
 |[]=>some []
 |x::xs=>match qZ x,Uc xs with
  |some a,some b=>some (a::b)
  |_,_=>none
def rd(s:U8)(n:Nat):ai->Option (List CV×Prop)
 |.v (.c (.ptr id off))=>match s id with
  |some (.box _ cs)=>if off+n<=cs.length then some ((cs.drop off).take n,True)else none
  |_=>none
 |.v (.c (.elm cs))=>if n<=cs.length then some ((cs.take n).map .d,True)else none
 |.v (.c (.pte id es idx off))=>match s id with
  |some (.arr es' k f)=>if es=es' /\ off+n<=es/\(f idx).length=es then some ((((f idx).drop off).take n).map .d,idx<k)else none
  |_=>none
 |_=>none
def YH{α:Type}(cs:List α)(off:Nat)(xs:List α):List α:=cs.take off++(xs++cs.drop (off+xs.length))
def wr(s:U8)(xs:List CV):ai->Option SR
 |.v (.c (.ptr id off))=>match s id with
  |some (.box false cs)=>if off+xs.length<=cs.length then some {upd:=some (id,.box false (YH cs off xs))}else none
  |_=>none
 |.v (.c (.pte id es idx off))=>match s id with
  |some (.arr es' k f)=>match Uc xs with
   | some ds=>if es=es' /\ off+ds.length<=es/\(f idx).length=es then
     some {upd:=some (id,.arr es k λj=>if j=idx then YH (f idx) off ds else f j),cond:=idx<k}else none
   |none=>none
  |_=>none
 |_=>none
def Je(m:Bool)(k:IntKind)(n:Int)(c:Prop):SR:=
 match k,m with
 |.i64,false=> {v:=vi n,cond:=Q7 n/\c}
 |k,_=> {v:=.v (.c (.d (.int k (k.wrap n)))),cond:=c}
def QO(k:IntKind)(x y:Int):Int:=k.wrap (BitVec.ofInt k.bits x &&& BitVec.ofInt k.bits y).toNat
def K4(k:IntKind)(x y:Int):Int:=k.wrap (BitVec.ofInt k.bits x ||| BitVec.ofInt k.bits y).toNat
def gu(k:IntKind)(x y:Int):Int:=k.wrap (BitVec.ofInt k.bits x ^^^ BitVec.ofInt k.bits y).toNat
def XK(m:Bool)(op:BinOp)(x y:ai):Option SR:=
 match x,y with
 |.v (.c (.d (.int k a))),.v (.c (.d (.int k' b)))=>
  match op with
  |.shl=>some (Je m k (a*2 ^ (min b.toNat k.bits)) (0<=b))
  |.shr=>some {v:=.v (.c (.d (.int k (a.fdiv (2 ^ (min b.toNat k.bits)))))),cond:=0<=b}
  |op=>if k=k' then match op with
   |.add=>some (Je m k (a+b) True)
   |.sub=>some (Je m k (a-b) True)
   |.mul=>some (Je m k (a*b) True)
   |.quo=>some (Je m k (a.tdiv b) (b≠0))
   |.rem=>some {v:=.v (.c (.d (.int k (a.tmod b)))),cond:=b≠0}
   |.and=>some {v:=.v (.c (.d (.int k (QO k a b))))}
   |.or=>some {v:=.v (.c (.d (.int k (K4 k a b))))}
   |.xor=>some {v:=.v (.c (.d (.int k (gu k a b))))}
   |.eql=>some {v:=vb (a==b)}
   |.neq=>some {v:=vb (a != b)}
   |.lss=>some {v:=vb (a<b)}
   |.leq=>some {v:=vb (a<=b)}
   |.gtr=>some {v:=vb (b<a)}
   |.geq=>some {v:=vb (b<=a)}
   |_=>none else none
 |_,_=>none
def qi(m:Bool)(op:UnOp)(x:ai):Option SR:=
 match op,x with
 |.not,.v (.c (.d (.bool b)))=>some {v:=vb (!b)}
 |.neg,.v (.c (.d (.int k n)))=>some (Je m k (0-n) True)
 |_,_=>none
def QL(a b:Int):Int:=if b<a then b else a
def y9(a b:Int):Int:=if a<b then b else a
def ZY:ai->φ
 |.v (.c (.d (.int _ n)))=>some n
 |_=>none
def WM(s:U8):ai->Option (Nat×Δ)
 |.v (.c (.d (.lst n f)))=>some (n,f)
 |.v (.c (.fl n f))=>some (n,f)
 |.v (.c (.own id))=>match s id with
  |some (.arr _ n f)=>some (n,f)
  |_=>none
 |.v (.c (.sub id es lo n))=>match s id with
  |some (.arr es' _ f)=>if es=es' then some (n,λj=>f (lo+j))else none
  |_=>none
 |_=>none
def Qu(n:Nat)(f g:Δ):Nat->Ψ:=λi=>if i<n then f i else g (i-n)
def VV(s:U8)(es m:Nat):ai->Option (υ×Nat×Δ×Prop)
 |.v (.c (.own id))=>match s id with
  |some (.arr es' n f)=>if es=es' then some ([id],n,f,True)else none
  |_=>none
 |.v (.c (.fl n f))=>if n=0\/0<m then some ([],n,f,∀j,j<n->(f j).length=es)else none
 |_=>none
def UV(pl:Nat->Option (Nat×Nat))(cells:List CV):Γ->Option (List CV)
 |[]=>some cells
 |(i,x)::rest=>match pl i,XJ x with
  |some (off,size),some xs=>if xs.length=size/\off+size<=cells.length then UV pl (YH cells off xs) rest else none
  |_,_=>none
def Bu(L:dj):List (Nat×Nat)->Option (List (Nat×Nat))
 |[]=>some []
 |(off,t)::r=>match L t,Bu L r with
  |some ti,some l=>some ((off,ti.size)::l)
  |_,_=>none
def Uj{α:Type}(n:Nat)(xs:List α):List α:=match n with|0=>[]|n+1=>xs++Uj n xs
def KX(L:dj)(s:U8)(b:Builtin)(tys:Array TypeId)(xs:List ai):Option SR:=
 match b,xs with
 |.len,[x]=>match tys.toList with
  |[t]=>match L t with
   |some {kind:=.slice _,..}=>match WM s x with
    |some (n,_)=>some {v:=vi n}
    |none=>none
   |some {kind:=.array n _,..}=>some {v:=vi n}
   |some {kind:=.str,..}=>match x with
    |.v (.c (.d (.str b)))=>some {v:=vi b.size}
    |_=>none
   |_=>none
  |_=>none
 |.min,[.v (.c (.d (.int k a))),.v (.c (.d (.int _ b)))]=>some {v:=.v (.c (.d (.int k (QL a b))))}
 |.max,[.v (.c (.d (.int k a))),.v (.c (.d (.int _ b)))]=>some {v:=.v (.c (.d (.int k (y9 a b))))}
 |.append,[x,y]=>match tys.toList with
  |[t,t']=>if t=t' then match L t with
   |some {kind:=.slice el,..}=>match L el with
    |some te=>match WM s y with
     |some (k,g)=>match VV s te.size k x with
      | some (del,n,f,c)=>if 0<te.size/\te.bytes<=8192/\te.zero.length=te.size then
        some {v:=.any,del:=del,new:=some (.arr te.size (n+k) (Qu n f g)),cond:=n+k<=Y2/\(∀j,j<k->(g j).length=te.size)/\c}else none
      |none=>none
     |none=>none
    |none=>none
   |_=>none else none
  |_=>none
 |_,_=>none
def sl(n:Nat)(f:Δ)(lo hi:φ):(Nat×Δ)×Prop:=
 match lo,hi with
 |none,none=>((n,f),True)
 |some l,none=>((n-l.toNat,λi=>f (l.toNat+i)),0<=l/\l<=n)
 |none,some h=>((h.toNat,f),0<=h/\h<=n)
 |some l,some h=>((h.toNat-l.toNat,λi=>f (l.toNat+i)),0<=l/\l<=h/\h<=n)
def oI(e:U5):Option Operand->Option (φ)
 |none=>some none
 |some x=>match ZY (Y3 e x)with
  |some n=>some (some n)
  |none=>none
def ZD(L:dj)(m:Bool)(e:U5)(s:U8)(o:Oper):Option SR:=
 match o.op with
 |.move x=>some {v:=Y3 e x}
 |.assign x=>match m,Y3 e x,o.dst with
  |false,x,_=>some {v:=x}
  |true,.v (.c (.fl 0 f)),some d=>match L o.type with
   |some {kind:=.slice el,..}=>match L el with
    |some te=>some {v:=.v (.c (.own d)),new:=some (.arr te.size 0 f)}
    |none=>none
   |_=>none
  |_,_,_=>none
 |.pick c x y=>match Y3 e c with
  |.v (.c (.d (.bool true)))=>some {v:=Y3 e x}
  |.v (.c (.d (.bool false)))=>some {v:=Y3 e y}
  |_=>none
 |.alloc t=>match L t,o.dst with
  |some ti,some d=>some {v:=.v (.c (.ptr d 0)),new:=some (.box false ti.zero)}
  |_,_=>none
 |.box _ x=>match XJ (Y3 e x),o.dst with
  |some xs,some d=>some {v:=.v (.c (.ptr d 0)),new:=some (.box false xs)}
  |_,_=>none
 |.build t ps=>match L t with
  |some {kind:=.struct fs,zero:=z,..}=>match Bu L fs with
   |some pl=>match UV (λi=>pl[i]?) z (ps.toList.map λp=>(p.1,Y3 e p.2))with
    |some cs=>some {v:=.v (.g cs)}
    |none=>none
   |none=>none
  |some {kind:=.array _ el,zero:=z,..}=>match L el with
   |some te=>match UV (λi=>some (i*te.size,te.size)) z (ps.toList.map λp=>(p.1,Y3 e p.2))with
    |some cs=>some {v:=.v (.g cs)}
    |none=>none
   |none=>none
  |_=>none
 |.buildSlice t len ps=>match L t with
  |some {kind:=.slice el,..}=>match L el with
   | some te=>if len*te.size<=16777216/\te.zero.length=te.size/\0<te.size then
     match UV (λi=>some (i*te.size,te.size)) (Uj len te.zero) (ps.toList.map λp=>(p.1,Y3 e p.2))with
     |some cs=>match Uc cs with
      |some ds=>match m,o.dst with
       |false,_=>some {v:=.v (.c (.d (.lst len λi=>(ds.drop (i*te.size)).take te.size)))}
       |true,some d=>some {v:=.v (.c (.own d)),new:=some (.arr te.size len λi=>(ds.drop (i*te.size)).take te.size)}
       |_,_=>none
      |none=>none
     |none=>none else none
   |none=>none
  |_=>none
 |.load t x=>match L t with
  |some ti=>match rd s ti.size (Y3 e x)with
   |some (cs,c)=>match VJ ti.kind.agg cs with
    |some v=>some {v:=v,cond:=c}
    |none=>none
   |none=>none
  |none=>none
 |.store t x y=>match L t,XJ (Y3 e y)with
  |some ti,some xs=>if xs.length=ti.size then wr s xs (Y3 e x)else none
  |_,_=>none
 |.nilCheck x=>match Y3 e x with
  |.v (.c (.ptr id off))=>some {v:=.v (.c (.ptr id off))}
  |.v (.c (.pte id es idx off))=>some {v:=.v (.c (.pte id es idx off))}
  |.v (.c (.elm cs))=>some {v:=.v (.c (.elm cs))}
  |_=>none
 |.binOp op _ x y _=>XK m op (Y3 e x) (Y3 e y)
 |.unOp op _ x=>qi m op (Y3 e x)
 |.convert src dst x=>match L src,L dst,Y3 e x with
  |some {kind:=.int _,..},some {kind:=.int k,..},.v (.c (.d (.int _ n)))=>some (Je m k n True)
  |some {kind:=.str,..},some {kind:=.str,..},.v (.c (.d (.str b)))=>some {v:=.v (.c (.d (.str b)))}
  |_,_,_=>none
 | .makeFunc (.func f) first caps=>if first.size=0 then match cloIds (caps.toList.map (Y3 e)) with
   |some ids=>some {v:=.v (.c (.clo f ids))}
   |none=>none else none
 |.slice t x lo hi none=>match L t with
  |some {kind:=.slice el,..}=>match L el with
   |some te=>match m,Y3 e x,oI e lo,oI e hi with
    |false,x,some lo,some hi=>match asF x with
     |some (n,f)=>some {v:=.v (.c (.d (.lst (sl n f lo hi).1.1 (sl n f lo hi).1.2))),cond:=(sl n f lo hi).2/\∀j,j<n->(f j).length=te.size}
     |none=>none
    |true,.v (.c (.own id)),some none,some (some h)=>match s id,o.dst with
     |some (.arr es n f),some d=>some {v:=.v (.c (.own d)),del:=[id],new:=some (.arr es h.toNat f),cond:=0<=h/\h<=n}
     |_,_=>none
    |_,_,_,_=>none
   |none=>none
  |_=>none
 |.slice t x none (some h) (some mx)=>match L t with
  |some {kind:=.slice el,..}=>match L el,asF (Y3 e x),ZY (Y3 e h),ZY (Y3 e mx)with
   | some te,some (n,f),some h,some mx=>if h=mx/\0<h then
     some {v:=.v (.c (.fl h.toNat f)),cond:=h<=n/\∀j,j<n->(f j).length=te.size}else none
   |_,_,_,_=>none
  |_=>none
 |.fieldAddr t x k=>match L t with
  |some {kind:=.struct fs,..}=>match fs[k]? with
   |some (off,ft)=>match L ft with
    |some tf=>if tf.size=0 then none else match Y3 e x with
     |.v (.c (.ptr id o))=>some {v:=.v (.c (.ptr id (o+off)))}
     |.v (.c (.pte id es idx o))=>some {v:=.v (.c (.pte id es idx (o+off)))}
     |.v (.c (.elm cs))=>if off<=cs.length then some {v:=.v (.c (.elm (cs.drop off)))}else none
     |_=>none
    |none=>none
   |none=>none
  |_=>none
 |.field t x k=>match L t with
  |some {kind:=.struct fs,..}=>match fs[k]?,Y3 e x with
   |some (off,ft),.v (.g cs)=>match L ft with
    | some tf=>if off+tf.size<=cs.length then match VJ tf.kind.agg ((cs.drop off).take tf.size) with
      |some v=>some {v:=v}
      |none=>none else none
    |none=>none
   |_,_=>none
  |_=>none
 |.indexAddr t x i=>match L t,ZY (Y3 e i)with
  |some {kind:=.slice el,..},some i=>match L el with
   |some te=>match Y3 e x with
    |.v (.c (.own id))=>match s id with
     |some (.arr es n _)=>if es=te.size then some {v:=.v (.c (.pte id es i.toNat 0)),cond:=0<=i/\i<n}else none
     |_=>none
    |x=>match asF x with
     |some (n,f)=>if(f i.toNat).length=te.size then some {v:=.v (.c (.elm (f i.toNat))),cond:=0<=i/\i<n}else none
     |none=>none
   |none=>none
  |some {kind:=.array n el,..},some i=>match L el,Y3 e x with
   |some te,.v (.c (.ptr id off))=>if 0<=i/\i<n then some {v:=.v (.c (.ptr id (off+i.toNat*te.size)))}else none
   |_,_=>none
  |_,_=>none
 |.index t x i=>match L t,ZY (Y3 e i),Y3 e x with
  |some {kind:=.array n el,..},some i,.v (.g cs)=>match L el with
   | some te=>if 0<=i/\i<n/\i.toNat*te.size+te.size<=cs.length then match VJ te.kind.agg ((cs.drop (i.toNat*te.size)).take te.size) with
     |some v=>some {v:=v}
     |none=>none else none
   |none=>none
  |_,_,_=>none
 |.makeSlice t l c=>match L t,ZY (Y3 e l),ZY (Y3 e c),o.dst with
  |some {kind:=.slice el,..},some l,some c,some d=>match L el with
   |some te=>match Uc te.zero with
    |some z=>if 0<te.size/\te.bytes<=8192/\te.zero.length=te.size then some {v:=.v (.c (.own d)),new:=some (.arr te.size l.toNat λ_=>z),cond:=0<=l/\l=c/\l<=Y2}else none
    |none=>none
   |none=>none
  |_,_,_,_=>none
 |.extract x k=>match Y3 e x with
  |.t xs=>match xs[k]? with
   |some v=>some {v:=.v v}
   |none=>none
  |_=>none
 |.call {callee:=.builtin b,args,argTypes}=>match KX L s b argTypes (args.toList.map (Y3 e)),o.dst with
  |some r,d=>match r.new,d with
   |some _,some d=>some {r with v:=.v (.c (.own d))}
   |some _,none=>none
   |none,_=>some r
  |none,_=>none
 |_=>none
where
 cloIds:List ai->Option (υ)
  |[]=>some []
  |.v (.c (.ptr id 0))::r=>match cloIds r with
   |some ids=>some (id::ids)
   |none=>none
  |_::_=>none
 asF:ai->Option (Nat×Δ)
  |.v (.c (.d (.lst n f)))=>some (n,f)
  |.v (.c (.fl n f))=>some (n,f)
  |_=>none
def ZZ(d:TypeDesc):TK->Prop
 |.int k=>d=.int k
 |.bool=>d=.bool
 |.str=>d=.string
 |.slice e=>d=.slice e
 |.struct fs=>∃fields,d=.struct fields/\fields.toList.map (λf=>(f.offset,f.type))=fs
 |.array n e=>d=.array n e
 |.other=>(∀fs,d≠.struct fs)/\∀n e,d≠.array n e
structure ij (P:Program) (t:Nat) (ti:TI) (i:TypeInfo) (d:TypeDesc) (z:Value):Prop where
 info:P.info? t=some i
 und:P.underlying t=some d
 size:i.size=ti.size
 bytes:i.bytes=ti.bytes
 zero:i.zero=some z
 zrep:∀w X η C,Qj w X η C z.cells ti.zero
 zrefs:ti.zero.flatMap CV.refs=[]
 kind:ZZ d ti.kind
def Qa(P:Program)(L:dj):Prop:=∀t ti,L t=some ti->∃i d z,ij P t ti i d z
theorem To{t:Nat}{d:TypeDesc}(h:ij P t ti i d z)(w:World):(isAgg t).run P w=.ok ti.kind.agg w:=by
 have b:=h.kind;simp only[isAgg,eX,ef h.und,fh]
 cases hkk:ti.kind<;>simp only[hkk,ZZ]at b
 all_goals first
  |(subst b;rfl)
  |(obtain⟨f,rfl,_⟩:=b;rfl)
  |skip
 split
 .grind
 .grind
 .rfl
theorem YV{t:Nat}{d:TypeDesc}(h:ij P t ti i d z)(w:World):(sizeOf t).run P w=.ok ti.size w:=by
 simp[sizeOf,typeInfo,h.info,h.size]
theorem Tn{t:Nat}{d:TypeDesc}(h:ij P t ti i d z)(w:World):(zeroValue t).run P w=.ok z w:=by
 simp[zeroValue,typeInfo,h.info,h.zero]
theorem add_lit(b o n:Nat):(⟨b,o,none⟩:Addr).add n=⟨b,o+n,none⟩:=by unfold Addr.add;split<;>simp_all
theorem MY{e:TypeId}{fz:Nat×Nat}(h:w.heap[b]?=some (.cells c e fz))(j:Nat)(hj:j<c.size):
  w.cell? ⟨b,j,none⟩=some (c.getD j undef):=by
 rw[cell_of_row w b j c e fz h];simp[hj]
def Zx(c:Ξ)(off n:Nat):List Value:=(List.range n).map λj=>c.getD (off+j) undef
theorem pU{t:Nat}{ti:TI}{i:TypeInfo}{d:TypeDesc}{z:Value}(h:ij P t ti i d z){w:World}{b off:Nat}{c:Ξ}{e:TypeId}{fz:Nat×Nat}(hb:w.heap[b]?=some (.cells c e fz))(ho:off+ti.size<=c.size)(h1:ti.kind.agg=false->ti.size=1):
  (loadVar t ⟨b,off,none⟩).run P w=.ok (if ti.kind.agg then .agg (Zx c off ti.size).toArray else c.getD off undef) w:=by
 simp only[loadVar,eX,To h,fh]
 cases ha:ti.kind.agg with
 |true=>
  have:=run_loadCells (P:=P) w ⟨b,off,none⟩ ti.size (λj=>c.getD (off+j) undef) (λj f=>by rw[add_lit];exact MY hb _ (by omega))
  simp only[eX,YV h,fh,this,fJ,fB,Zx]
 |false=>
  have:=h1 ha
  simp only[iS,fC];rw[run_load,MY hb off (by omega)]
theorem Dd(h:(execOp a.eval o).run P w=.ok (.value v) w')(hK:K (a.put o.dst v) w'):o.wp P a w K Q:=by
 unfold Oper.wp;rw[h];exact hK
theorem jz(h:(execOp a.eval o).run P w=.ok .skip w')(hK:K (a.put o.dst undef) w'):o.wp P a w K Q:=by
 unfold Oper.wp;rw[h];exact hK
section
variable {R:ξ}
def Qe(P:Program)(C:da)(nt:Nat)(R:ξ)(η:Nat->Value)(e:U5)(s:U8)(a:Act)(w:World)(o:Oper)(r:SR):Prop:=
 ∃v w',((execOp a.eval o).run P w=.ok (.value v) w' \/ ((execOp a.eval o).run P w=.ok .skip w' /\ v=undef)) /\
  aK C nt (r.rng o.dst R) (r.eta o.dst v η) (r.env o.dst e) (r.sto o.dst s) (a.put o.dst v) w'
theorem Qe.wp(h:Qe P C nt R η e s a w o r)(hK:∀η' a' w',aK C nt (r.rng o.dst R) η' (r.env o.dst e) (r.sto o.dst s) a' w' -> K a' w'):o.wp P a w K Q:=by
 obtain⟨v,w',b|⟨b,rfl⟩,c⟩:=h
 .exact Dd b (hK _ _ _ c)
 .exact jz b (hK _ _ _ c)
theorem Z1q(d:Option Tmp)(x:ai)(c:Prop):SR.rng {v:=x,cond:=c} d R=R:=by funext i;simp[SR.rng]
theorem L9(d:Option Tmp)(x:ai)(c:Prop):SR.sto {v:=x,cond:=c} d s=s:=by funext i;simp[SR.sto]
theorem P9(d:Option Tmp)(x:ai)(c:Prop)(v:Value):SR.eta {v:=x,cond:=c} d v η=η:=by funext i;simp[SR.eta]
theorem Nb(d:Option Tmp)(x:ai)(c:Prop):SR.env {v:=x,cond:=c} d e=SR.env {v:=x} d e:=rfl
theorem Zm(h:aK C nt R η e s a w)(hd:∀x,o.dst=some x->x<nt){x:ai}{c:Prop}(hr:(execOp a.eval o).run P w=.ok (.value v) w)(hv:aQ w (XS C s η) η C v x)(hx:∀j∈x.refs,R j):Qe P C nt R η e s a w o {v:=x,cond:=c}:=by
 refine⟨v,w,.inl hr,?_⟩;rw[Z1q,L9,P9,Nb]
 exact h.val o.dst hd x v λ_=>⟨hv,hx⟩
theorem Z8w(v:Value)(X:ξ):aQ w X η C v (qr v)/\(qr v).refs=[]:=by
 unfold qr;split
 .exact ⟨.v _ _ (.c _ _ (.d _ _ (.int _ _))),rfl⟩
 .exact ⟨.v _ _ (.c _ _ (.d _ _ (.bool _))),rfl⟩
 .exact ⟨.v _ _ (.c _ _ (.d _ _ (.str _))),rfl⟩
 .exact ⟨.v _ _ (.c _ _ (.fl _ _ _ (.nil _ _ _))),rfl⟩
 .exact ⟨.any _,rfl⟩
theorem K3(h:aK C nt R η e s a w)(x:Operand):aQ w (XS C s η) η C (a.eval x) (Y3 e x)/\∀j∈(Y3 e x).refs,R j:=by
 cases x with
 |tmp t=>exact⟨h.ev t,h.er t⟩
 |const v=>
  obtain⟨b,d⟩:=Z8w (w:=w) (η:=η) (C:=C) v (XS C s η);exact⟨b,by simp only[Y3];rw[d];simp⟩
 |global g=>exact⟨.any _,by simp[Y3,ai.refs]⟩
 |func f=>exact⟨.v _ _ (.c _ _ (.clo f [] #[] rfl)),by simp[Y3,ai.refs,TV.refs,CV.refs]⟩
theorem kl{α β:Type}(f:α->List β)(l:List α)(n:Nat):∀j∈(l.take n).flatMap f,j∈l.flatMap f:=by
 grind
theorem km{α β:Type}(f:α->List β)(l:List α)(n:Nat):∀j∈(l.drop n).flatMap f,j∈l.flatMap f:=by
 grind
theorem Ax(ds:Ψ):(ds.map CV.d).flatMap CV.refs=[]:=by
 induction ds with
 |nil=>rfl
 |cons x r ih=>simp[CV.refs]
theorem xZ{α:Type}(l:List α)(off n j:Nat)(x:α)(hj:j<n):((l.drop off).take n).getD j x=l.getD (off+j) x:=by
 grind
theorem uU(h:aK C nt R η e s a w){x:ai}{c:Prop}(hr:rd s n x=some (cs,c))(hc:c)(hv:aQ w (XS C s η) η C v x):
  ∃b off c' e' fz,v=.pointer (some ⟨b,off,none⟩)/\w.heap[b]?=some (.cells c' e' fz)/\off+n<=c'.size/\cs.length=n /\
   (∀j,j<n->aX w (XS C s η) η C (c'.getD (off+j) undef) (cs.getD j (.d .any)))/\∀j∈cs.flatMap CV.refs,R j:=by
 unfold rd at hr;split at hr
 .rename_i r off
  split at hr
  .rename_i A bs q
   split at hr
   .rename_i m
    cases hr
    have l:=h.st r _ q
    cases hv with
    |v _ _ hv=>
    cases hv with
    |c _ _ hv=>
    cases hv with
    |ptr b _ _ he=>
    rw[he]at l
    cases l with
    |box _ _ c' e' _ hb hcs=>
    have t:=hcs.1;refine⟨b,off,c',e',(0,0),rfl,hb,by omega,by simp;omega,λj i=>?_,λj i=>?_⟩
    .rw [xZ _ _ _ _ _ i];exact hcs.2 (off+j) (by omega)
    .exact (h.sr r _ q).2 j (km _ _ _ j (kl _ _ _ j i))
   .cases hr
  .cases hr
 .rename_i u
  split at hr
  .rename_i m
   cases hr
   cases hv with
   |v _ _ hv=>
   cases hv with
   |c _ _ hv=>
   cases hv with
   |elm b off c' e' fz _ hX hb p hd=>
   refine⟨b,off,c',e',fz,rfl,hb,by omega,by simp;omega,λj i=>?_,λj i=>?_⟩
   .have:((u.take n).map CV.d).getD j (.d .any)=.d (u.getD j .any):=by
     grind
    rw[this];exact .d _ _ (hd j (by omega))
   .rw [Ax]at i;cases i
  .cases hr
 .rename_i r o g off
  split at hr
  .rename_i z k f q
   split at hr
   .rename_i m
    obtain⟨rfl,m,p⟩:=m;cases hr
    have l:=h.st r _ q
    cases hv with
    |v _ _ hv=>
    cases hv with
    |c _ _ hv=>
    cases hv with
    |pte b n' cap _ _ _ _ he=>
    rw[he]at l
    cases l with
    |nil=>exact absurd hc (by omega)
    |arr _ _ _ _ c' e' _ hb t hn hm hc0 hl hel=>
    have y:g*o+o<=cap*o:=by
     have:(g+1)*o<=cap*o:=eu _ (by omega)
     grind
    refine⟨b,g*o+off,c',e',(0,0),rfl,hb,by omega,by simp;omega,λj i=>?_,λj i=>?_⟩
    .have:(((((f g).drop off).take n).map CV.d)).getD j (.d .any)=.d ((f g).getD (off+j) .any):=by
      grind
     rw[this];have:=hel g (off+j) hc (by omega)
     rw[me];exact .d _ _ this
    .rw [Ax]at i;cases i
   .cases hr
  .cases hr
 .cases hr
end
section
variable {R:ξ}
theorem qJ{n:Int}(h:Q7 n):IntKind.i64.wrap n=n:=by
  obtain ⟨b,c⟩:=h;have e:IntKind.i64.wrap n=if n % 18446744073709551616 ≥ 9223372036854775808 then n % 18446744073709551616-18446744073709551616 else n % 18446744073709551616:=by
    simp[IntKind.wrap,IntKind.bits,IntKind.signed]
  grind
theorem Vr{k:IntKind}{n:Int}(h:aQ w (XS C s η) η C v (.v (.c (.d (.int k n))))):v=.int k n:=by
  cases h with|v _ _ h=>cases h with|c _ _ h=>cases h with|d _ _ h=>cases h;rfl
theorem BK{b:Bool}(h:aQ w (XS C s η) η C v (.v (.c (.d (.bool b))))):v=.bool b:=by
  cases h with|v _ _ h=>cases h with|c _ _ h=>cases h with|d _ _ h=>cases h;rfl
theorem Gl{b:ByteArray}(h:aQ w (XS C s η) η C v (.v (.c (.d (.str b))))):v=.string b:=by
  cases h with|v _ _ h=>cases h with|c _ _ h=>cases h with|d _ _ h=>cases h;rfl
theorem WY(X:ξ)(k:IntKind)(n:Int):aQ w X η C (.int k n) (.v (.c (.d (.int k n)))):=.v _ _ (.c _ _ (.d _ _ (.int _ _)))
theorem Rc(X:ξ)(b:Bool):aQ w X η C (.bool b) (.v (.c (.d (.bool b)))):=.v _ _ (.c _ _ (.d _ _ (.bool _)))
def vZ(r:SR)(v:Value):Prop:=∃x c,r={v:=x,cond:=c} /\ (c->∀(w:World) (X:ξ) (η:Nat->Value) (C:da),aQ w X η C v x)/\x.refs=[]
theorem qn(m:Bool)(k:IntKind)(n:Int)(c:Prop):(Je m k n c).cond->vZ (Je m k n c) (.int k (k.wrap n))/\c:=by
  unfold Je;split
  . intro h
    refine⟨⟨_,_,rfl,λ_ w X η C=>?_,rfl⟩,h.2⟩;rw[qJ h.1];exact WY _ _ _
  . intro h
    exact⟨⟨_,_,rfl,λ_ w X η C=>WY _ _ _,rfl⟩,h⟩
theorem Z8y(op:BinOp)(t:TypeId)(m:Bool){k k' : IntKind}{n: Int}(w:World)(hr:XK m op (.v (.c (.d (.int k n)))) (.v (.c (.d (.int k' n'))))=some r)(hc:r.cond):
    ∃v,(binOp op t (.int k n) (.int k' n')).run P w=.ok v w/\vZ r v:=by
  simp only[XK]at hr;split at hr
  . cases hr
    obtain⟨b,h⟩:=qn m k _ _ hc;refine⟨_,?_,b⟩
    have:¬n' < 0:=by omega
    simp[binOp,Op.shift,this]
  . cases hr
    have:¬n' < 0:=by have:(0:Int)<=n':=hc;omega
    exact⟨.int k (n.fdiv (2 ^ min n'.toNat k.bits)),by simp[binOp,Op.shift,this],_,_,rfl,λ_ _ _ _ _=>WY _ _ _,rfl⟩
  . rename_i i g
    split at hr
    . rename_i j
      subst j;split at hr <;> first
        |(cases hr;done)
        | (cases hr
           obtain⟨b,h⟩:=qn m k _ _ hc;refine⟨_,?_,b⟩
           first
             |(simp[binOp,Op.intArith];done)
             |(simp[binOp,Op.intDiv,h];done))
        | (cases hr
           have f : n' ≠ 0:=hc;exact⟨.int k (n.tmod n'),by simp[binOp,Op.intDiv,f],_,_,rfl,λ_ _ _ _ _=>WY _ _ _,rfl⟩)
        |(cases hr;refine⟨.int k (QO k n n'),?_,_,_,rfl,λ_ _ _ _ _=>WY _ _ _,rfl⟩;simp[binOp,Op.intBits,QO];done)
        |(cases hr;refine⟨.int k (K4 k n n'),?_,_,_,rfl,λ_ _ _ _ _=>WY _ _ _,rfl⟩;simp[binOp,Op.intBits,K4];done)
        |(cases hr;refine⟨.int k (gu k n n'),?_,_,_,rfl,λ_ _ _ _ _=>WY _ _ _,rfl⟩;simp[binOp,Op.intBits,gu];done)
        |(cases hr;refine⟨.bool _,?_,_,_,rfl,λ_ _ _ _ _=>Rc _ _,rfl⟩;simp[binOp,Op.intCmp];done)
    . cases hr
theorem Ik(op:BinOp)(t:TypeId)(x y:Operand)(k k' : IntKind)(n n' : Int)(w:World):(eqGuard op t x y (.int k n) (.int k' n')).run P w=.ok () w:=by
  unfold eqGuard;split<;>rfl
theorem Sy(h:aK C nt R η e s a w)(hd:∀ x,o.dst=some x->x<nt)(hn:vZ r v)(hc:r.cond)(hr:(execOp a.eval o).run P w=.ok (.value v) w):Qe P C nt R η e s a w o r:=by
  obtain⟨x,c,rfl,b,d⟩:=hn;exact Zm h hd hr (b hc _ _ _ _) (by rw[d];simp)
theorem Io(h:aK C nt R η e s a w)(hd:∀ x,o.dst=some x->x<nt){op:BinOp}(hop:o.op=.binOp op t x y t')(hr:XK m op (Y3 e x) (Y3 e y)=some r)(hc:r.cond):Qe P C nt R η e s a w o r:=by
  have b:=(K3 h x).1;have f:=(K3 h y).1
  unfold XK at hr;split at hr
  . rename_i k n u j q p
    rw[q]at b;rw[p]at f
    have z:=Vr b;have i:=Vr f
    obtain⟨v,l,g⟩:=Z8y (P:=P) op t m w (show XK m op (.v (.c (.d (.int k n)))) (.v (.c (.d (.int u j))))=some r from hr) hc;refine Sy h hd g hc ?_
    simp only[execOp,hop,eX,z,i,Ik,l,fh,fB]
  . cases hr
theorem R9(h:aK C nt R η e s a w)(hd:∀ x,o.dst=some x->x<nt){op:UnOp}(hop:o.op=.unOp op t x)(hr:qi m op (Y3 e x)=some r)(hc:r.cond):Qe P C nt R η e s a w o r:=by
  have c:=(K3 h x).1;unfold qi at hr
  split at hr
  . rename_i b d
    cases hr
    rw[d]at c;have f:=BK c
    exact Sy h hd ⟨_,_,rfl,λ_ _ _ _ _=>Rc _ _,rfl⟩ hc (by simp[execOp,hop,f,Op.unary])
  . rename_i k n d
    cases hr
    rw[d]at c;have f:=Vr c
    obtain⟨g,_⟩:=qn m k (0-n) _ hc;exact Sy h hd g hc (by simp[execOp,hop,f,Op.unary,Op.intArith])
  . cases hr
theorem bB(h:aK C nt R η e s a w)(hd:∀ x,o.dst=some x->x<nt)(hop:o.op=.move x\/o.op=.assign x):Qe P C nt R η e s a w o { v:=Y3 e x }:=by
  obtain⟨b,c⟩:=K3 h x;refine Zm h hd ?_ b c
  rcases hop with hop|hop<;>simp[execOp,hop]
theorem bw(h:aK C nt R η e s a w)(hd:∀ x,o.dst=some x->x<nt){c:Operand}(hop:o.op=.pick c x y){b:Bool}(hb:Y3 e c=.v (.c (.d (.bool b)))):
    Qe P C nt R η e s a w o {v:=Y3 e (if b then x else y)}:=by
  have f:=(K3 h c).1;rw[hb]at f
  have i:=BK f;obtain⟨g,j⟩:=K3 h (if b then x else y)
  refine Zm h hd ?_ g j
  cases b<;>simp[execOp,hop,i,asBool]
theorem Q9I(hL:Qa P L)(h:aK C nt R η e s a w)(hd:∀ x,o.dst=some x->x<nt)(hop:o.op=.load t x)(ht:L t=some ti){c:Prop}(hr:rd s ti.size (Y3 e x)=some (cs,c)){v:ai}(hv:VJ ti.kind.agg cs=some v)(hc:c):Qe P C nt R η e s a w o { v:=v,cond:=c }:=by
  obtain⟨i,d,z,r⟩:=hL t ti ht;obtain⟨b,f,q,F,fz,E,D,B,A,n,l⟩:=uU h hr hc (K3 h x).1
  have u:ti.kind.agg=false->ti.size=1:=by
    intro k;rw[k]at hv
    simp only[VJ]at hv
    grind
  have p:=pU r D B u;refine Zm h hd (v:=if ti.kind.agg then .agg (Zx q f ti.size).toArray else q.getD f undef) ?_ ?_ ?_
  . simp only[execOp,hop,eX,Instr.loadAt,E,Instr.sureAddr,fB,fh,p]
  . unfold VJ at hv
    split at hv
    . rename_i k
      cases hv
      simp only[k,fJ];refine .v _ _ (.g _ _ ⟨by simp[Zx,A],λj m=>?_⟩)
      rw[A]at m;have:(Zx q f ti.size).toArray.getD j undef=q.getD (f+j) undef:=by simp[Zx,m]
      rw[this];exact n j m
    . rename_i k
      split at hv
      . cases hv
        rename_i y
        simp only[k,iS,fC];have:=n 0 (by rw[u k];exact lm)
        exact .v _ _ (.c _ _ (by simpa using this))
      . cases hv
  . unfold VJ at hv
    split at hv
    . cases hv;exact l
    . split at hv
      . cases hv;intro j m;exact l j (by simpa[ai.refs,TV.refs]using m)
      . cases hv
theorem Q9P(hL:Qa P L)(h:aK C nt R η e s a w)(hd:∀ x,o.dst=some x->x<nt)(hop:o.op=.fieldAddr t x k)(ht:L t=some ti){fs:List (Nat×Nat)}(hk:ti.kind=.struct fs)(hf:fs[k]?=some (off,ft))(hft:L ft=some tf)(hz:tf.size≠0){v:ai}(hv:∀ b o',a.eval x=.pointer (some ⟨b,o',none⟩)->aQ w (XS C s η) η C (.pointer (some ⟨b,o' + off,none⟩)) v)(hx:∀ j ∈ v.refs,R j)(hp:∃ b o',a.eval x=.pointer (some ⟨b,o',none⟩)):Qe P C nt R η e s a w o { v:=v }:=by
  obtain⟨i,d,z,l⟩:=hL t ti ht;obtain⟨A,u,y,n⟩:=hL ft tf hft
  have g:=l.kind;rw[hk]at g
  obtain⟨c,rfl,r⟩:=g;obtain⟨b,o',q⟩:=hp
  have m : ∃ f,c[k]?=some f/\f.offset=off/\f.type=ft:=by
    grind
  obtain⟨f,p,rfl,rfl⟩:=m;refine Zm h hd ?_ (hv b o' q) hx
  simp only[execOp,hop,eX,Instr.fieldAt,ef l.und,fh,p,q,Instr.sureAddr,fB,fieldPlace,YV n,hz,fC,add_lit]
theorem vJ(X:ξ)(h:η id=.pointer (some ⟨b,0,none⟩)):aQ w X η C (.pointer (some ⟨b,off,none⟩)) (.v (.c (.ptr id off))):=.v _ _ (.c _ _ (.ptr _ _ _ h))
theorem HX(h:aQ w (XS C s η) η C v (.v (.c (.ptr id off)))):∃ b,v=.pointer (some ⟨b,off,none⟩)/\η id=.pointer (some ⟨b,0,none⟩):=by
  cases h with|v _ _ h=>cases h with|c _ _ h=>cases h with|ptr b _ _ h=>exact⟨b,rfl,h⟩
theorem vK(h:aQ w (XS C s η) η C v (.v (.c (.pte id es idx off)))):∃ b n cap,v=.pointer (some ⟨b,idx*es+off,none⟩)/\η id=.slice (some ⟨b,0,none⟩) n cap:=by
  cases h with|v _ _ h=>cases h with|c _ _ h=>cases h with|pte b n cap _ _ _ _ h=>exact⟨b,n,cap,rfl,h⟩
theorem uM{cs:Ψ}(h:aQ w (XS C s η) η C v (.v (.c (.elm cs)))):∃ b off c e' fz,v=.pointer (some ⟨b,off,none⟩)/\¬ XS C s η b/\w.heap[b]?=some (.cells c e' fz) /\
    off+cs.length<=c.size/\∀j,j<cs.length->aA w (XS C s η) (c.getD (off+j) undef) (cs.getD j .any):=by
  cases h with|v _ _ h=>cases h with|c _ _ h=>cases h with|elm b off c e' fz _ hX hb ho hc=>exact⟨b,off,c,e',fz,rfl,hX,hb,ho,hc⟩
theorem Vm(h:aQ w (XS C s η) η C v (.v (.c (.own id)))):v=η id:=by
  cases h with|v _ _ h=>cases h with|c _ _ h=>cases h with|own _ _ h _=>exact h
theorem NU{fz:Nat×Nat}{cs:Ψ}(X:ξ)(hX:¬ X b)(hb:w.heap[b]?=some (.cells c e' fz))(ho:off+cs.length<=c.size)(hc:∀ j,j<cs.length->aA w X (c.getD (off+j) undef) (cs.getD j .any))(k:Nat)(hk:k<=cs.length):
    aQ w X η C (.pointer (some ⟨b,off+k,none⟩)) (.v (.c (.elm (cs.drop k)))):=by
  refine .v _ _ (.c _ _ (.elm b (off+k) c e' fz _ hX hb (by simp;omega) λj g=>?_));have d : k+j<cs.length:=by simp at g;omega
  have:=hc (k+j) d
  have f:(cs.drop k).getD j .any=cs.getD (k+j) .any:=by simp[aY]
  rw[f,me];exact this
theorem gG{x:ai}(h:aQ w (XS C s η) η C v x)(hx:ZD.asF x=some (n,f)):
    ∃ad cap,v=.slice ad n cap/\aA w (XS C s η) v (.lst n f):=by
  unfold ZD.asF at hx;split at hx
  . cases hx
    cases h with|v _ _ h=>cases h with|c _ _ h=>cases h with|d _ _ h=>
    cases h with
    |nil ad cap _=>exact⟨ad,cap,rfl,.nil _ _ _⟩
    |lst b off _ cap c e' fz _ es h1 h2 h3 h4 h5 h6=>exact⟨_,cap,rfl,.lst b off _ cap c e' fz _ es h1 h2 h3 h4 h5 h6⟩
  . cases hx
    cases h with|v _ _ h=>cases h with|c _ _ h=>cases h with|fl ad _ _ h=>exact⟨ad,_,rfl,h⟩
  . cases hx
end
theorem Z8z(h:v.oneCell'=true):v.cells=#[v]:=by
 cases v<;>first|rfl|(simp[Value.oneCell']at h)
section
variable {R:ξ}
theorem gm{x:ai}(h:aQ w X η C v x)(hx:XJ x=some xs):Qj w X η C v.cells xs/\∀j∈xs.flatMap CV.refs,j∈x.refs:=by
 unfold XJ at hx;split at hx
 .cases hx
  cases h with|v _ _ h=>cases h with|c _ _ h=>
  rw[Z8z h.one];exact⟨⟨rfl,λj b=>by
   have:j=0:=by simp at b;omega
   subst this;simpa using h⟩,λj b=>by simpa[ai.refs,TV.refs]using b⟩
 .cases hx
  cases h with|v _ _ h=>cases h with|g vs _ h=>
  exact⟨h,λj b=>b⟩
 .cases hx
theorem Gn{α:Type}(cs xs:List α)(off:Nat)(h:off+xs.length<=cs.length):(YH cs off xs).length=cs.length:=by
 simp[YH];omega
theorem Sx{α:Type}(cs xs:List α)(off t:Nat)(d:α)(h:off+xs.length<=cs.length):
  (YH cs off xs).getD t d=if off<=t/\t<off+xs.length then xs.getD (t-off) d else cs.getD t d:=by
 unfold YH;simp only[aY,iq,fE,lx,m6]
 have b:min off cs.length=off:=by omega
 rw[b]
 by_cases h1:t<off
 .rw [av h1,av h1,an (by omega)]
 .rw [an h1]
  by_cases h2:t<off+xs.length
  .rw [av (by omega),av (by omega)]
  .rw [an (by omega),an (by omega)]
   congr 2;omega
theorem cX{α:Type}(cs xs:List α)(off:Nat):∀x∈YH cs off xs,x∈cs\/x∈xs:=by
 intro x b;unfold YH at b
 grind
theorem Z6c(off:Nat)(vs:List Value):∀ (k:Nat) (cs:Ξ),off+k+vs.length<=cs.size ->
  ((vs.zipIdx k).foldl (λcs p=>cs.setIfInBounds (off+p.2) p.1) cs).size=cs.size /\
  ∀t,((vs.zipIdx k).foldl (λcs p=>cs.setIfInBounds (off+p.2) p.1) cs).getD t undef=if off+k<=t/\t<off+k+vs.length then vs.getD (t-off-k) undef else cs.getD t undef:=by
 induction vs with
 |nil=>intro k cs _;refine⟨rfl,λt=>?_⟩;rw[an (by simp)];rfl
 |cons v r ih=>
  intro k cs h;simp only[dz]at h
  obtain⟨c,b⟩:=ih (k+1) (cs.setIfInBounds (off+k) v) (by simp;omega);refine⟨by simpa[mC]using c,λt=>?_⟩
  simp only[mC,mm,dz];rw[b t]
  by_cases h3:off+(k+1)<=t/\t<off+(k+1)+r.length
  .grind
  .rw [an h3]
   by_cases h4:t=off+k
   .subst h4
    rw[av (by omega)];have:off+k<cs.size:=by omega
    simp[this]
   .rw [an (by omega)]
    simp[Ne.symm h4]
theorem wR{X:ξ}{pl:Nat->Option (Nat×Nat)}:∀ (ps:Γ) (vs:List (Nat×Value)) (cells:List CV) (vc:Ξ) (cs:List CV),
  UV pl cells ps=some cs->Qj w X η C vc cells->vs.map (·.1)=ps.map (·.1)->(∀(j:Nat) x v,ps[j]?=some x->vs[j]?=some v->aQ w X η C v.2 x.2) ->
  ∃vc',Instr.fill pl vc vs=some vc' /\ Qj w X η C vc' cs/\∀j∈cs.flatMap CV.refs,j∈cells.flatMap CV.refs\/∃x∈ps,j∈x.2.refs:=by
 intro ps
 induction ps with
 |nil=>
  intro vs cells vc cs h u g _;cases h
  have:vs=[]:=by simpa using g
  subst this;exact⟨vc,rfl,u,λj f=>.inl f⟩
 |cons p ps ih=>
  intro vs cells vc cs h u g G;obtain⟨i,x⟩:=p
  cases vs with
  |nil=>simp at g
  |cons v vs=>
   obtain⟨O,v⟩:=v;simp only[eP,lB]at g
   obtain⟨rfl,g⟩:=g;simp only[UV]at h
   split at h
   .rename_i b d J B F
    split at h
    .rename_i n
     obtain⟨c,n⟩:=n;have A:aQ w X η C v x:=G 0 _ _ rfl rfl
     obtain⟨q,D⟩:=gm A F;have m:v.cells.size=d:=by rw[q.1,c]
     have E:vc.size=cells.length:=u.1;have I:=Z6c b v.cells.toList 0 vc (by simp[m];omega)
     have k:v.cells.zipIdx.foldl (λcs (p:Value×Nat)=>cs.setIfInBounds (b+p.2) p.1) vc=(v.cells.toList.zipIdx 0).foldl (λcs p=>cs.setIfInBounds (b+p.2) p.1) vc:=by
      rw[<-Array.foldl_toList,Array.toList_zipIdx]
     have o:Qj w X η C (v.cells.zipIdx.foldl (λcs (p:Value×Nat)=>cs.setIfInBounds (b+p.2) p.1) vc) (YH cells b J):=by
      rw[k];refine⟨by rw[I.1,Gn _ _ _ (by omega)];exact E,λt H=>?_⟩
      rw[I.2 t,Sx _ _ _ _ _ (by omega)];rw[Gn _ _ _ (by omega)]at H
      simp only[fU,mb,mn,m,c]
      by_cases l:b<=t/\t<b+d
      .rw [av l,av l]
       have:=q.2 (t-b) (by omega)
       simpa[aY]using this
      .rw [an l,an l]
       exact u.2 t H
     obtain⟨vc',N,K,l⟩:=ih vs (YH cells b J) _ cs h o g (λj x v M A=>G (j+1) x v (by simpa using M) (by simpa using A));refine⟨vc',?_,K,λj f=>?_⟩
     .simp only[Instr.fill,B]
      grind
     .rcases l j f with f|⟨y,Q,f⟩
      .obtain ⟨z,r,f⟩:=eE.1 f
       rcases cX _ _ _ z r with r|r
       .grind
       .exact .inr ⟨_,dZ,D j (eE.2 ⟨z,r,f⟩)⟩
      all_goals grind
    .cases h
   .cases h
theorem Z1e(hL:Qa P L):∀ (fields:List Field) (fs:List (Nat×Nat)) (pl:List (Nat×Nat)),fields.map (fun f=>(f.offset,f.type))=fs->Bu L fs=some pl ->
  fields.mapM (λf=>(P.info? f.type).map λi=>(f.offset,i.size))=some pl:=by
 intro fields
 induction fields with
 |nil=>intro fs pl g b;subst g;simpa[Bu]using b
 |cons f r ih=>
  intro fs pl g b;subst g
  simp only[eP,Bu]at b;split at b
  .rename_i k l j h
   cases b
   obtain⟨i,d,z,c⟩:=hL _ _ j;have:=ih _ l rfl h
   simp[List.mapM_cons,c.info,this,c.size]
  .cases b
theorem ur(h:aK C nt R η e s a w)(ps:Array (Nat×Operand)):
  ((ps.map λ(p:Nat×Operand)=>(p.1,a.eval p.2)).toList).map (·.1)=(ps.toList.map λp=>(p.1,Y3 e p.2)).map (·.1) /\
  (∀(j:Nat) x v,(ps.toList.map λp=>(p.1,Y3 e p.2))[j]?=some x->((ps.map λ(p:Nat×Operand)=>(p.1,a.eval p.2)).toList)[j]?=some v->aQ w (XS C s η) η C v.2 x.2) /\
  ∀x∈(ps.toList.map λp=>(p.1,Y3 e p.2)),∀j∈x.2.refs,R j:=by
 refine⟨by simp,λj x v b c=>?_,λx b j d=>?_⟩
 .rw [lN]at b
  simp only[Array.toList_map,lN]at c
  cases hp:ps.toList[j]? with
  |none=>rw[hp]at b;cases b
  |some p=>
   rw[hp]at b c
   cases b;cases c
   exact(K3 h p.2).1
 .obtain ⟨p,_,rfl⟩:=eF.1 b
  exact(K3 h p.2).2 j d
theorem bE(hL:Qa P L)(h:aK C nt R η e s a w)(hd:∀x,o.dst=some x->x<nt)(hop:o.op=.build t ps)(ht:L t=some ti){pl:Nat->Option (Nat×Nat)}(hpl:(∃fs l,ti.kind=.struct fs/\Bu L fs=some l/\pl=λi=>l[i]?)\/(∃n el te,ti.kind=.array n el/\L el=some te/\pl=λi=>some (i*te.size,te.size)))(hf:UV pl ti.zero (ps.toList.map λp=>(p.1,Y3 e p.2))=some cs):Qe P C nt R η e s a w o {v:=.v (.g cs)}:=by
 obtain⟨i,d,z,b⟩:=hL t ti ht;obtain⟨G,H,F⟩:=ur h ps
 obtain⟨D,c,r,A⟩:=wR _ _ _ _ _ hf (b.zrep w (XS C s η) η C) G H;refine Zm h hd (v:=.agg D) ?_ (.v _ _ (.g _ _ r)) λj m=>?_
 .have I:P.built t (ps.map fun (p:Nat×Operand)=>(p.1,a.eval p.2)).toList=some D:=by
   have q:=b.kind;rcases hpl with ⟨fs,l,k,E,rfl⟩|⟨n,el,te,k,B,rfl⟩
   .rw [k]at q
    obtain⟨u,rfl,y⟩:=q;have:=Z1e hL _ _ _ y E
    simp only[Program.built,b.info,b.und,b.zero,this];simpa using c
   .rw [k]at q
    simp only[ZZ]at q;subst q
    obtain⟨N,K,M,f⟩:=hL el te B;simp only[Program.built,b.info,b.und,b.zero,f.info,f.size]
    exact c
  simp only[execOp,hop,eX];rw[run_build w t _ D I];rfl
 .rcases A j m with m|⟨x,J,m⟩
  .rw [b.zrefs]at m;cases m
  .exact F x J j m
theorem bz(h:aK C nt R η e s a w)(hd:o.dst=some d)(hdn:d<nt)(hR:¬ R d)(hrun:(execOp a.eval o).run P w=.ok (.value (.pointer (some ⟨w.heap.size,0,none⟩))) { w with heap:=w.heap.push (.cells vs ety) })(hcs:Qj w (XS C s η) η C vs cs)(hrf:∀ j ∈ cs.flatMap CV.refs,R j):
  Qe P C nt R η e s a w o {v:=.v (.c (.ptr d 0)),new:=some (.box false cs)}:=by
 refine⟨_,_,.inl hrun,?_⟩;have i:∀b,b∈Y9 (.pointer (some (⟨w.heap.size,0,none⟩:Addr)))->w.heap.size<=b:=by intro b g;simp[Y9]at g;omega
 have r:=JA (C:=C) (s:=s) (η:=η) {v:=.v (.c (.ptr d 0)),new:=some (.box false cs)} o.dst (.pointer (some ⟨w.heap.size,0,none⟩)) (λ_=>False) (aM.alloc _ w (.cells vs ety)) (λb g=>g.elim)
  (λ_ _ _ _ b g=>.inl (i b g)) (λk o m=>by cases m)
 have n:=Z6J (η:=η) (R:=R) {v:=.v (.c (.ptr d 0)),new:=some (.box false cs)} o.dst (.pointer (some ⟨w.heap.size,0,none⟩)) (λ_ dd _ f=>by rw[hd]at f;cases f;exact hR);refine h.step o.dst (λx q=>by rw[hd]at q;cases q;exact hdn) _ _ _ (λ_=>False) (aM.alloc _ w _) (λb g=>g.elim) ?_ (λk o m=>by cases m) ?_
 .intro t dd p f
  cases p
  rw[hd]at f;cases f
  exact⟨hR,rfl,hrf,.box _ _ vs ety cs (by simp) (hcs.mono r λj l=>n j (hrf j l)),λb g=>.inl (i b g)⟩
 .intro _
  refine⟨vJ _ (by simp[SR.eta,hd]),λj l=>?_⟩;simp[ai.refs,TV.refs,CV.refs]at l
  exact .inr ⟨by simp,by rw[hd,l]⟩
theorem Ew(hL:Qa P L)(h:aK C nt R η e s a w)(hd:o.dst=some d)(hdn:d<nt)(hR:¬ R d)(hop:o.op=.alloc t)(ht:L t=some ti):
  Qe P C nt R η e s a w o {v:=.v (.c (.ptr d 0)),new:=some (.box false ti.zero)}:=by
 obtain⟨i,dd,z,b⟩:=hL t ti ht;refine bz h hd hdn hR (vs:=z.cells) (ety:=t) ?_ (b.zrep _ _ _ _) (by rw[b.zrefs];simp)
 simp[execOp,hop,Instr.alloc,Tn b,newVar,newRow]
theorem Q9R(h:aK C nt R η e s a w)(hd:o.dst=some d)(hdn:d<nt)(hR:¬ R d)(hop:o.op=.box t x)(hx:XJ (Y3 e x)=some xs):
  Qe P C nt R η e s a w o {v:=.v (.c (.ptr d 0)),new:=some (.box false xs)}:=by
 obtain⟨f,b⟩:=K3 h x;obtain⟨k,g⟩:=gm f hx
 refine bz h hd hdn hR (vs:=(a.eval x).cells) (ety:=t) ?_ k λj i=>b j (g j i)
 simp[execOp,hop,Instr.box,newVar,newRow]
end
section
variable {R:ξ}
theorem NY{x:CV}{y:aH}(h:aX w X η C v x)(hx:qZ x=some y):aA w X v y:=by
 unfold qZ at hx;split at hx
 .cases hx;cases h with|d _ _ h=>exact h
 .cases hx;cases h with|fl _ _ _ h=>exact h
 .cases hx
theorem jO{X:ξ}:∀ (cs:List CV) (ds:Ψ) (c:Ξ) (off:Nat),Uc cs=some ds->(∀ j,j<cs.length->aX w X η C (c.getD (off+j) undef) (cs.getD j (.d .any))) ->
  ds.length=cs.length/\∀j,j<ds.length->aA w X (c.getD (off+j) undef) (ds.getD j .any):=by
 intro cs
 induction cs with
 |nil=>intro ds c off h _;cases h;exact⟨rfl,λj b=>by simp at b⟩
 |cons x r ih=>
  intro ds c off h g;simp only[Uc]at h
  split at h
  .rename_i y l m f
   cases h
   obtain⟨i,k⟩:=ih l c (off+1) f (λj b=>by have:=g (j+1) (by simp;omega);rwa [me,ln 1 j]);refine⟨by simp[i],λj b=>?_⟩
   cases j with
   |zero=>exact NY (g 0 (by simp)) m
   |succ j=>have:=k j (by simpa using b);rw[me,ln 1 j]at this;simpa using this
  .cases h
theorem setRow_stp(w:World)(b:Nat)(cs:Ξ):aM (λx=>x=b) w (w.setRow b cs):=
 ⟨rfl,rfl,rfl,by simp,λx _ c=>setRow_other w b x cs c,di _⟩
theorem SY(c:Ξ)(off:Nat)(vs:List Value)(h:off+vs.length<=c.size):
  (c.toList.take off++vs++c.toList.drop (off+vs.length)).toArray.size=c.size /\
  ∀t,(c.toList.take off++vs++c.toList.drop (off+vs.length)).toArray.getD t undef=if off<=t/\t<off+vs.length then vs.getD (t-off) undef else c.getD t undef:=by
 have b:off+vs.length<=c.toList.length:=by simpa using h
 have d:c.toList.take off++vs++c.toList.drop (off+vs.length)=YH c.toList off vs:=by simp[YH]
 rw[d];refine⟨by simp[Gn _ _ _ b],λt=>?_⟩
 have:=Sx c.toList vs off t undef b
 simpa[aY,hU]using this
theorem bu(h:aK C nt R η e s a w)(hd:o.dst=none){ob ob' : Obj}(hs:s id=some ob)(hro:ob.ro=false)(hro' : ob'.ro=false)(hrf:∀j∈ob'.refs,R j){cs:Ξ}{c:Prop}(hb:b∈Y9 (η id))(hrun:(execOp a.eval o).run P w=.ok .skip (w.setRow b cs))(hob:∀X',QP w (w.setRow b cs) (XS C s η) X' -> db (w.setRow b cs) X' η C (η id) ob'):Qe P C nt R η e s a w o {upd:=some (id,ob'),cond:=c}:=by
 have l:dV s η b:=⟨id,ob,hs,hb⟩;have n:=JA (C:=C) (s:=s) (η:=η) {upd:=some (id,ob'),cond:=c} o.dst undef (λx=>x=b) (setRow_stp w b cs) (λx g=>by subst g;exact l) (λ_ _ d=>by cases d)
  (λk o d=>by cases d;rw[hs];simp)
 have f:SR.eta {upd:=some (id,ob'),cond:=c} o.dst undef η=η:=by funext i;simp[SR.eta]
 refine⟨undef,_,.inr ⟨hrun,rfl⟩,?_⟩;refine h.step o.dst (λx g=>by rw[hd]at g;cases g) _ _ _ (λx=>x=b) (setRow_stp w b cs) ?_ (λ_ _ d=>by cases d) ?_ (λd=>absurd hd d)
 .intro x g
  subst g;refine⟨⟨id,.inr ⟨ob',rfl⟩,by rw[hs];simp,hb⟩,?_⟩
  rcases h.ow id ob _ hs hb with ⟨m,_⟩|m
  .rw [hro]at m;cases m
  .exact m
 .intro k p d
  cases d
  refine⟨⟨ob,hs,hro⟩,hro',by simp,hrf,?_⟩;rw[f]
  rw[f]at n;exact hob _ n
theorem Q9C(hL:Qa P L)(h:aK C nt R η e s a w)(hd:o.dst=none)(hop:o.op=.store t x y)(ht:L t=some ti)(hy:XJ (Y3 e y)=some xs)(hsz:xs.length=ti.size)(hr:wr s xs (Y3 e x)=some r)(hc:r.cond):Qe P C nt R η e s a w o r:=by
 obtain⟨i,dd,z,W⟩:=hL t ti ht;obtain⟨a5,a1⟩:=K3 h y
 obtain⟨E,a6⟩:=gm a5 hy;have G:=(K3 h x).1
 have S:∀v∈(a.eval y).cells.toList,v.oneCell'=true:=by
  intro v hv;obtain⟨j,p,rfl⟩:=eZ hv
  have T : j<(a.eval y).cells.size:=by simpa using p
  have:=(E.2 j (by rw[<-E.1];exact T)).one
  simpa[T]using this
 have g:(a.eval y).cells.toList.length=xs.length:=by simpa using E.1
 have Q:∀ (b d:Nat) (c:Ξ) (D : TypeId),a.eval x=.pointer (some ⟨b,d,none⟩)->w.heap[b]?=some (.cells c D (0,0))->d+xs.length<=c.size ->
   (execOp a.eval o).run P w=.ok .skip (w.setRow b (c.toList.take d++(a.eval y).cells.toList++c.toList.drop (d+(a.eval y).cells.toList.length)).toArray):=by
  intro b d c D N J ho;have:=lZ P b d D (a.eval y).cells.toList 0 c w J (by rw[g];omega) S
  simp only[fU]at this;have n : (a.eval y).cells.size=ti.size:=by rw[<-mn,g,hsz]
  simp only[execOp,hop,eX,Instr.storeAt,N,Instr.sureAddr,fB,fh,storeVar,YV W,n,ne_eq,not_true,fC,Sem.run_ite,this]
 unfold wr at hr;split at hr
 .rename_i V d Y
  rw[Y]at G;obtain⟨b,N,K⟩:=HX G
  split at hr
  .rename_i bs M
   split at hr
   .rename_i q
    cases hr
    have B:=h.st V _ M;rw[K]at B
    cases B with
    |box _ _ c D _ J hbs=>
    have A:=SY c d (a.eval y).cells.toList (by rw[g,hbs.1];omega);refine bu h hd M rfl rfl (λj p=>?_) (b:=b) (by rw[K];simp[Y9]) (Q b d c D N J (by rw[hbs.1];omega)) λX' I=>?_
    .obtain ⟨u,O,p⟩:=eE.1 p
     rcases cX _ _ _ u O with O|O
     .exact (h.sr V _ M).2 j (eE.2 ⟨u,O,p⟩)
     .exact a1 j (a6 j (eE.2 ⟨u,O,p⟩))
    .rw [K]
     refine .box b false _ D _ (mR w b c _ D _ J) ⟨by rw[A.1,Gn _ _ _ q];exact hbs.1,λj p=>?_⟩;rw[Gn _ _ _ q]at p
     rw[A.2 j,Sx _ _ _ _ _ q]
     by_cases h3:d<=j/\j<d+xs.length
     .rw [av (by rw[g];exact h3),av h3]
      have:=(E.2 (j-d) (by omega)).mono I (λ_ _=>rfl)
      simpa[aY]using this
     .rw [an (by rw[g];exact h3),an h3]
      exact(hbs.2 j p).mono I (λ_ _=>rfl)
   .cases hr
  .cases hr
 .rename_i V m l d Y
  rw[Y]at G;obtain⟨b,n0,F,N,K⟩:=vK G
  split at hr
  .rename_i a9 k f M
   split at hr
   .rename_i ds Z
    split at hr
    .rename_i q
     obtain⟨rfl,q,a4⟩:=q;cases hr
     have B:=h.st V _ M;rw[K]at B
     cases B with
     |nil=>exact absurd hc (by simp)
     |arr _ _ _ _ c D _ J n hn hm hc0 hl hel=>
     have b3:l*m+m<=F*m:=by
      have I:l<n0:=hc;have:(l+1)*m<=F*m:=eu _ (by omega)
      grind
     obtain⟨b1,a3⟩:=jO (w:=w) (η:=η) (C:=C) (X:=XS C s η) xs ds (a.eval y).cells 0 Z (λj p=>by rw[eH];exact E.2 j p);have H:l*m+d+xs.length<=c.size:=by rw[n];omega
     have A:=SY c (l*m+d) (a.eval y).cells.toList (by rw[g];exact H);refine bu h hd M rfl rfl (by simp[Obj.refs]) (b:=b) (by rw[K];simp[Y9];omega) (Q b _ c D N J H) λX' I=>?_
     rw[K];refine .arr b n0 F m _ D _ (mR w b c _ D _ J) (by rw[A.1];exact n) hn hm hc0 (λi U=>?_) λi j U p=>?_
     .by_cases hii:i=l
      .subst hii;simp only[fJ];rw[Gn _ _ _ (by omega)];exact a4
      .simp only[hii,fC];exact hl i U
     .rw [A.2]
      by_cases hii:i=l
      .subst hii
       simp only[fJ];rw[Sx _ _ _ _ _ (by omega)]
       by_cases h3:d<=j/\j<d+ds.length
       .rw [av (by rw[g];omega),av h3]
        have:=(a3 (j-d) (by omega)).mono I
        have e3:i*m+j-(i*m+d)=j-d:=by omega
        rw[e3];simpa[aY]using this
       .rw [an (by rw[g];omega),an h3]
        exact(hel i j U p).mono I
      .simp only[hii,fC]
       have a2:¬(l*m+d<=i*m+j/\i*m+j<l*m+d+xs.length):=by
        rintro⟨h4,h5⟩;rcases Nat.lt_or_gt_of_ne hii with h6|h6
        .have:(i+1)*m<=l*m:=eu _ h6
         grind
        .have:(l+1)*m<=i*m:=eu _ h6
         grind
       rw[an (by rw[g];exact a2)];exact(hel i j U p).mono I
    .cases hr
   .cases hr
  .cases hr
 .cases hr
end
section
variable {R:ξ}
theorem UL(h:aK C nt R η e s a w)(hd:o.dst=some d)(hdn:d<nt)(hR:¬ R d){c:Prop}(hrun:(execOp a.eval o).run P w=.ok (.value v) w')(hstep:aM Z w w')(hone:v.oneCell'=true)(hZ:∀ b,Z b->∃ i ∈ del,s i≠none/\b ∈ Y9 (η i))(hdel:∀ i ∈ del,∀ o',s i=some o' -> o'.ro=false)(hv:∀ b,b ∈ Y9 v->w.heap.size<=b\/∃ i ∈ del,s i≠none/\b ∈ Y9 (η i))(hob:∀ X',QP w w' (XS C s η) X' -> db w' X' (SR.eta { v:=.v (.c (.own d)),del:=del,new:=some (.arr es n f),cond:=c } o.dst v η) C v (.arr es n f)):
  Qe P C nt R η e s a w o {v:=.v (.c (.own d)),del:=del,new:=some (.arr es n f),cond:=c}:=by
 have q:∀i∈del,s i≠none->∀b,b∈Y9 (η i)->C.M b\/C.w0.heap.size<=b:=by
  intro i m r b p;obtain⟨o',l⟩:=dS.1 r
  rcases h.ow i o' b l p with ⟨u,_⟩|u
  all_goals grind
 have B:=JA (C:=C) (s:=s) (η:=η) {v:=.v (.c (.own d)),del:=del,new:=some (.arr es n f),cond:=c} o.dst v Z hstep
  (λb p=>by
   obtain⟨i,_,m,g⟩:=hZ b p;obtain⟨o',l⟩:=dS.1 m
   exact⟨i,o',l,g⟩)
  (λ_ _ _ _ b p=>(hv b p).imp id λ⟨i,_,m,g⟩=>by
   obtain⟨o',l⟩:=dS.1 m;exact⟨i,o',l,g⟩)
  (λk o y=>by cases y)
 refine⟨v,w',.inl hrun,h.step o.dst (λx A=>by rw[hd]at A;cases A;exact hdn) _ _ _ Z hstep ?_ ?_ (λk o y=>by cases y) ?_⟩
 .intro b p
  obtain⟨i,m,r,g⟩:=hZ b p;exact⟨⟨i,.inl m,r,g⟩,q i m r b g⟩
 .intro o' dd l t
  cases l
  rw[hd]at t;cases t
  refine⟨hR,rfl,by simp[Obj.refs],hob _ B,λb p=>?_⟩;rcases hv b p with u|⟨i,m,r,g⟩
  .exact .inl u
  .exact .inr ⟨⟨i,m,r,g⟩,q i m r b g⟩
 .intro _
  refine⟨.v _ _ (.c _ _ (.own _ _ (by simp[SR.eta,hd]) hone)),λj z=>?_⟩;simp[ai.refs,TV.refs,CV.refs]at z
  exact .inr ⟨by simp,by rw[hd,z]⟩
theorem v6(h:aK C nt R η e s a w){x:ai}(hv:aQ w (XS C s η) η C v x)(hx:WM s x=some (n,f)):
  ∃ad cap,v=.slice ad n cap/\n<=cap/\(n=0\/∃b off c e' fz es,ad=some ⟨b,off,none⟩/\w.heap[b]?=some (.cells c e' fz)/\off+n*es<=c.size/\(∀i,i<n->(f i).length=es) /\
   ∀i j,i<n->j<es->aA w (XS C s η) (c.getD (off+(i*es+j)) undef) ((f i).getD j .any)):=by
 have k:∀ {v:Value},aA w (XS C s η) v (.lst n f)->∃ ad cap,v=.slice ad n cap/\n<=cap/\(n=0\/∃ b off c e' fz es,ad=some ⟨b,off,none⟩/\w.heap[b]?=some (.cells c e' fz)/\off+n*es<=c.size/\(∀ i,i<n->(f i).length=es) /\
   ∀i j,i<n->j<es->aA w (XS C s η) (c.getD (off+(i*es+j)) undef) ((f i).getD j .any)):=by
  intro v y
  cases y with
  |nil ad cap _=>exact⟨ad,cap,rfl,dW _,.inl rfl⟩
  |lst b off _ cap c e' fz _ es h1 h2 h3 h4 h5 h6=>exact⟨_,cap,rfl,h3,.inr ⟨b,off,c,e',fz,es,rfl,h2,h4,h5,h6⟩⟩
 unfold WM at hx;split at hx
 .cases hx
  cases hv with|v _ _ hv=>cases hv with|c _ _ hv=>cases hv with|d _ _ hv=>exact k hv
 .cases hx
  cases hv with|v _ _ hv=>cases hv with|c _ _ hv=>cases hv with|fl _ _ _ hv=>exact k hv
 .split at hx
  .rename_i l _ es t z o
   cases hx
   have g:=h.st l _ o;have ev:=Vm hv
   rw[ev];generalize η l=u at g
   cases g with
   |nil _ es _=>exact⟨_,_,rfl,di _,.inl rfl⟩
   |arr b _ cap es c e' _ hb hsz hn hm hc hl hel=>
    exact⟨_,cap,rfl,hn,.inr ⟨b,0,c,e',(0,0),es,rfl,hb,by rw[eH,hsz];exact eu _ hn,hl,λi j p q=>by rw[eH];exact hel i j p q⟩⟩
  .cases hx
 .split at hx
  .rename_i l es r t _ A N z o
   split at hx
   .rename_i m
    subst m;cases hx
    have g:=h.st l _ o
    cases hv with|v _ _ hv=>cases hv with|c _ _ hv=>cases hv with
    |sub b N' cap _ _ _ _ hη h1 h2=>
     rw[hη]at g
     cases g with
     |nil=>exact absurd h2 (fy _)
     |arr b _ cap es c e' _ hb hsz hn hm hc hl hel=>
      refine⟨_,cap-r,rfl,by omega,.inr ⟨b,r*es,c,e',(0,0),es,rfl,hb,?_,λi p=>hl _ (by omega),λi j p q=>?_⟩⟩
      .rw [hsz, <-fQ];exact eu _ (by omega)
      all_goals grind
    |subN ad ad' N' _ _ hη=>exact⟨_,_,rfl,di _,.inl rfl⟩
   .cases hx
  .cases hx
 .cases hx
theorem Q9L(hL:Qa P L)(h:aK C nt R η e s a w)(hd:∀x,o.dst=some x->x<nt)(hop:o.op=.call {callee:=.builtin .len,args:= #[x],argTypes:= #[t]})(ht:L t=some ti)(hk:ti.kind=.slice el)(hx:WM s (Y3 e x)=some (n,f)):Qe P C nt R η e s a w o {v:=vi n}:=by
 obtain⟨i,dd,z,c⟩:=hL t ti ht;have b:=c.kind
 rw[hk]at b;simp only[ZZ]at b
 obtain⟨g,d,ev,_⟩:=v6 h (K3 h x).1 hx;refine Zm h hd (v:=.int .i64 n) ?_ (WY _ _ _) (by simp[vi,ai.refs,TV.refs,CV.refs])
 simp[execOp,hop,resolve,invoke,builtin,Builtin.len_,ef c.und,b,ev,goInt]
theorem Q9K(hL:Qa P L)(h:aK C nt R η e s a w)(hd:∀x,o.dst=some x->x<nt)(hop:o.op=.call {callee:=.builtin .len,args:= #[x],argTypes:= #[t]})(ht:L t=some ti)(hk:ti.kind=.array n el):Qe P C nt R η e s a w o {v:=vi n}:=by
 obtain⟨i,dd,z,c⟩:=hL t ti ht;have b:=c.kind
 rw[hk]at b;simp only[ZZ]at b
 refine Zm h hd (v:=.int .i64 n) ?_ (WY _ _ _) (by simp[vi,ai.refs,TV.refs,CV.refs]);simp[execOp,hop,resolve,invoke,builtin,Builtin.len_,ef c.und,b,goInt]
theorem Q9J(hL:Qa P L)(h:aK C nt R η e s a w)(hd:∀x,o.dst=some x->x<nt)(hop:o.op=.call {callee:=.builtin .len,args:= #[x],argTypes:= #[t]})(ht:L t=some ti)(hk:ti.kind=.str){b:ByteArray}(hx:Y3 e x=.v (.c (.d (.str b)))):Qe P C nt R η e s a w o {v:=vi b.size}:=by
 obtain⟨i,dd,z,g⟩:=hL t ti ht;have f:=g.kind
 rw[hk]at f;simp only[ZZ]at f
 have j:=(K3 h x).1;rw[hx]at j
 have ev:=Gl j;refine Zm h hd (v:=.int .i64 b.size) ?_ (WY _ _ _) (by simp[vi,ai.refs,TV.refs,CV.refs])
 simp[execOp,hop,resolve,invoke,builtin,Builtin.len_,ef g.und,f,ev,goInt]
theorem bC(h:aK C nt R η e s a w)(hd:∀ x,o.dst=some x->x<nt)(hop:o.op=.call { callee:=.builtin bi,args:= #[x,y],argTypes:=tys }){k:IntKind}{n: Int}(hx:Y3 e x=.v (.c (.d (.int k n))))(hy:Y3 e y=.v (.c (.d (.int k' n')))){u:Int}(hu:(bi=.min/\u=QL n n')\/(bi=.max/\u=y9 n n')):
  Qe P C nt R η e s a w o {v:=.v (.c (.d (.int k u)))}:=by
 have g:=(K3 h x).1;have f:=(K3 h y).1
 rw[hx]at g;rw[hy]at f
 have b:=Vr g;have i:=Vr f
 refine Zm h hd (v:=.int k u) ?_ (WY _ _ _) (by simp[ai.refs,TV.refs,CV.refs]);rcases hu with ⟨rfl,rfl⟩|⟨rfl,rfl⟩
 .simp [execOp,hop,resolve,invoke,builtin,Builtin.min_,Builtin.min2,b,i,QL]
 .simp [execOp,hop,resolve,invoke,builtin,Builtin.max_,Builtin.max2,b,i,y9]
theorem UM(v:Int)(m:Nat)(code:BoundsCode)(h:0<=v/\v<=m)(k:IntKind):(Instr.sliceBound (.int k v) m code).run P w=.ok v.toNat w:=by
 simp[Instr.sliceBound,asIntOf,h]
theorem CW(h:aK C nt R η e s a w){x:Option Operand}{n:φ}(hx:oI e x=some n):(x=none/\n=none)\/∃k m,x.map a.eval=some (.int k m)/\n=some m:=by
 unfold oI at hx;split at hx
 .grind
 .rename_i y
  split at hx
  .rename_i m b
   cases hx
   unfold ZY at b;split at b
   .rename_i k f d
    cases b
    have c:=(K3 h y).1;rw[d]at c
    exact .inr ⟨k,m,by simp[Vr c],rfl⟩
   .cases b
  .cases hx
theorem v4(h:aK C nt R η e s a w){l:φ}(hl:oI e lo=some l)(hu:oI e hi=some u)(n cap:Nat)(hn:n<=cap)(f:Δ)(hc:(sl n f l u).2):
  (Instr.sliceBounds true n cap (lo.map a.eval) (hi.map a.eval) none).run P w=.ok ((l.getD 0).toNat,(u.getD n).toNat,cap) w/\(l.getD 0).toNat<=(u.getD n).toNat/\(u.getD n).toNat<=n /\
   (sl n f l u).1.1=(u.getD n).toNat-(l.getD 0).toNat/\∀i,(sl n f l u).1.2 i=f ((l.getD 0).toNat+i):=by
 rcases CW h hl with ⟨h1,h2⟩|⟨k,m,h1,h2⟩<;>rcases CW h hu with ⟨h3,h4⟩|⟨k',m',h3,h4⟩<;>subst h2<;>subst h4<;>simp only[sl]at hc
 .subst h1;subst h3
  simp[Instr.sliceBounds,sl]
 .subst h1
  simp[Instr.sliceBounds,sl,h3,UM m' cap _ ⟨hc.1,by omega⟩];omega
 .subst h3
  simp[Instr.sliceBounds,sl,h1,UM m n _ hc];omega
 .have b:=UM (P:=P) (w:=w) m m'.toNat .sliceB ⟨hc.1,by omega⟩ k
  simp[Instr.sliceBounds,sl,h1,h3,UM m' cap _ ⟨by omega,by omega⟩,b];omega
theorem rD{X:ξ}{ad:Option Addr}{cap:Nat}(h:aA w X (.slice ad n cap) (.lst n f))(hes:∀ j,j<n->(f j).length=es)(l u:Nat)(hlu:l<=u)(hun:u<=n)(m:Nat)(hm:u-l<=m)(g:Δ)(hg:∀ i,g i=f (l+i)):
  aA w X (.slice (if cap=l then ad else ad.map (·.add (l*es))) (u-l) m) (.lst (u-l) g):=by
 by_cases h0:u-l=0
 .rw [h0];exact .nil _ _ _
 .cases h with
  |nil=>omega
  |lst b off _ _ c e' fz _ es' h1 h2 h3 h4 h5 h6=>
   have k:es'=es:=by rw[<-h5 l (by omega),hes l (by omega)]
   subst k;have o:¬cap=l:=by omega
   simp only[o,fC,iU,add_lit];have d:l*es' + (u-l)*es' <= n*es':=by rw[<-fQ];exact eu _ (by omega)
   refine .lst b (off+l*es') _ m c e' fz _ es' h1 h2 hm (by omega) (λi p=>by rw[hg];exact h5 _ (by omega)) λi j p q=>?_
   grind
theorem Q9E(hL:Qa P L)(h:aK C nt R η e s a w)(hd:∀ x,o.dst=some x->x<nt)(hop:o.op=.slice t x lo hi none)(ht:L t=some ti)(hk:ti.kind=.slice el)(hte:L el=some te){l:φ}(hl:oI e lo=some l)(hu:oI e hi=some u)(hx:ZD.asF (Y3 e x)=some (n,f)){c:Prop}(hc:(sl n f l u).2)(hes:∀ j,j<n->(f j).length=te.size):
  Qe P C nt R η e s a w o {v:=.v (.c (.d (.lst (sl n f l u).1.1 (sl n f l u).1.2))),cond:=c}:=by
 obtain⟨i,dd,z,q⟩:=hL t ti ht;obtain⟨I,F,H,p⟩:=hL el te hte
 have k:=q.kind;rw[hk]at k
 simp only[ZZ]at k;obtain⟨G,m,ev,b⟩:=gG (K3 h x).1 hx
 rw[ev]at b;have D:n<=m:=by cases b with|nil=>exact dW _|lst _ _ _ _ _ _ _ _ _ _ _ r=>exact r
 obtain⟨E,A,y,r,B⟩:=v4 (P:=P) h hl hu n m D f hc;have g:=rD b hes (l.getD 0).toNat (u.getD n).toNat A y (m-(l.getD 0).toNat) (by omega) (sl n f l u).1.2 B
 rw[<-r]at g;refine Zm h hd ?_ (.v _ _ (.c _ _ (.d _ _ g))) (by simp[ai.refs,TV.refs,CV.refs])
 simp only[execOp,hop,eX,Instr.sliceAt,ef q.und,fh,k,Instr.slice,ev,mX,E,YV p,fB,r]
theorem EW(hL:Qa P L)(h:aK C nt R η e s a w)(hd:∀ x,o.dst=some x->x<nt)(hop:o.op=.slice t x none (some hx) (some mx))(ht:L t=some ti)(hk:ti.kind=.slice el)(hte:L el=some te){u:Int}(hu:ZY (Y3 e hx)=some u)(hm:ZY (Y3 e mx)=some u)(h0:0<u)(hxx:ZD.asF (Y3 e x)=some (n,f)){c:Prop}(hc:u<=n)(hes:∀ j,j<n->(f j).length=te.size):
  Qe P C nt R η e s a w o {v:=.v (.c (.fl u.toNat f)),cond:=c}:=by
 obtain⟨i,dd,z,A⟩:=hL t ti ht;obtain⟨Q,K,O,r⟩:=hL el te hte
 have p:=A.kind;rw[hk]at p
 simp only[ZZ]at p;obtain⟨D,q,ev,g⟩:=gG (K3 h x).1 hxx
 rw[ev]at g;have M:n<=q:=by cases g with|nil=>exact dW _|lst _ _ _ _ _ _ _ _ _ _ _ h3=>exact h3
 have b:∀{y:Operand} {m:Int},ZY (Y3 e y)=some m->∃k,a.eval y=.int k m:=by
  intro y m hm;unfold ZY at hm
  split at hm
  .rename_i k N E
   cases hm
   have G:=(K3 h y).1;rw[E]at G
   exact⟨k,Vr G⟩
  .cases hm
 obtain⟨k1,E⟩:=b hu;obtain⟨k2,I⟩:=b hm
 have d:=rD g hes 0 u.toNat (dW _) (by omega) u.toNat (by omega) f (λi=>by rw[eH]);have B:¬q=0:=by omega
 simp only[B,fC,mz,mb]at d;have l:D.map (λx:Addr=>x.add 0)=D:=by cases D<;>simp[Addr.add]
 rw[l]at d;refine Zm h hd (v:=.slice D u.toNat u.toNat) ?_ (.v _ _ (.c _ _ (.fl _ _ _ d))) (by simp[ai.refs,TV.refs,CV.refs])
 have H:=UM (P:=P) (w:=w) u q .slice3Acap ⟨by omega,by omega⟩ k2;have J:=UM (P:=P) (w:=w) u u.toNat .slice3B ⟨by omega,by omega⟩ k1
 have F:¬u.toNat=0:=by omega
 simp only[execOp,hop,eX,Instr.sliceAt,ef A.und,fh,p,Instr.slice,ev,Instr.sliceBounds,iU,mX,fJ,E,I,H,J,fB,YV r,F,fC,mz,mb,l]
end
section
variable {R:ξ}
theorem sD(hn:n≠0)(h:n=0\/∃ b off c e' fz es',ad=some ⟨b,off,none⟩/\w.heap[b]?=some (.cells c e' fz)/\off+n*es' <= c.size/\(∀ i,i<n->(g i).length=es') /\
   ∀i j,i<n->j<es' -> aA w X (c.getD (off+(i*es' + j)) undef) ((g i).getD j .any))(hes:∀i,i<n->(g i).length=es):
  ∃b off,ad=some ⟨b,off,none⟩/\∃news:List Value,news.length=n*es/\(∀j u,news[j]?=some u->w.cell? ((⟨b,off,none⟩:Addr).add j)=some u)/\(∀u∈news,u.oneCell'=true) /\
   ∀i j,i<n->j<es->aA w X (news.getD (i*es+j) undef) ((g i).getD j .any):=by
 rcases h with h|⟨b,off,c,e',fz,es',rfl,x,y,v,p⟩
 .exact absurd h hn
 .have f:es'=es:=by rw[<-v 0 (by omega),hes 0 (by omega)]
  subst f;refine⟨b,off,rfl,Zx c off (n*es'),by simp[Zx],λj u d=>?_,λu d=>?_,λi j q o=>?_⟩
  .simp only[Zx,lN]at d
   by_cases o:j<n*es'
   .rw [m8 o]at d
    cases d
    rw[add_lit];exact MY x _ (by omega)
   .rw [iO (by simp;omega)]at d;cases d
  .simp only[Zx]at d
   obtain⟨k,l,rfl⟩:=eF.1 d;rw[fq]at l
   by_cases hz:es'=0
   .subst hz;simp at l
   .have t:k / es' < n:=Eb (by rw[mH];exact l)
    have r:k % es' < es':=mi _ (by omega);have:=(p (k / es') (k % es') t r).one
    rwa [show k / es' * es' + k % es'=k from by rw[mH];exact Nat.div_add_mod k es']at this
  .have m:i*es' + j<n*es':=by
    have:(i+1)*es' <= n*es':=eu _ q
    grind
   have:(Zx c off (n*es')).getD (i*es' + j) undef=c.getD (off+(i*es' + j)) undef:=by simp[Zx,aY,m]
   rw[this];exact p i j q o
theorem tS(h:n<=Y2)(hb:b<=8192):n*b<=140737488355328:=by
 have:=lM h hb
 simp only[Y2]at this;omega
theorem cJ{t:Nat}{xs:List Value}(h:c.toList.take k=xs)(ht:t<k):c.getD t undef=xs.getD t undef:=by
 rw[<-h];simp[aY,ht]
theorem Af(hc:c.toList.take ((n+k)*es)=olds++news)(ho:olds.length=n*es)(h1:∀ i j,i<n->j<es->aA w X (olds.getD (i*es+j) undef) ((f i).getD j .any))(h2:∀ i j,i<k->j<es->aA w X (news.getD (i*es+j) undef) ((g i).getD j .any)):
  ∀i j,i<n+k->j<es->aA w X (c.getD (i*es+j) undef) ((Qu n f g i).getD j .any):=by
 intro i j o l;have d:i*es+j<(n+k)*es:=by
  have:(i+1)*es<=(n+k)*es:=eu _ o
  grind
 rw[cJ hc d];unfold Qu
 by_cases h3:i<n
 .have b : i*es+j<olds.length:=by
   have:(i+1)*es<=n*es:=eu _ h3
   grind
  rw[av h3];have:(olds++news).getD (i*es+j) undef=olds.getD (i*es+j) undef:=by simp[aY,iq,b]
  rw[this];exact h1 i j h3 l
 .have m:n*es<=i*es:=eu _ (by omega)
  rw[an h3];have:(olds++news).getD (i*es+j) undef=news.getD ((i-n)*es+j) undef:=by
   have h:i*es+j-olds.length=(i-n)*es+j:=by rw[ho,Nat.sub_mul];omega
   grind
  rw[this];exact h2 (i-n) j (by omega) l
theorem A4(t ty:TypeId){el:TypeId}(hu:P.underlying t=some (.slice el))(hi:P.info? el=some i)(base:Option Addr)(n cap:Nat)(hn:n<=cap)(ad:Option Addr)(c:Nat):
  (Builtin.append_ #[t,t] ty #[.slice base n cap,.slice ad 0 c]).run P w=.ok (.slice base n cap) w:=by
 have b:(Builtin.firstCells i.size 0 (.slice ad 0 c)).run P w=.ok #[] w:=by cases ad<;>simp[Builtin.firstCells,loadCells,loadCellsFrom]
 cases base<;>simp[Builtin.append_,ef hu,sizeOf,typeInfo,hi,Builtin.lenOf,hn,b,storeCells]
theorem Z1j(t ty e e' : TypeId)(i:TypeInfo)(ht:P.underlying t=some (.slice e))(hi:P.info? e=some i)(g sLen sCap:Nat)(cur:Ξ)(hg:w.heap[g]?=some (.cells cur e' (0,0)))(a:Addr)(m c:Nat)(news:List Value)(hl:news.length=m*i.size)(hnews:∀ j u,news[j]?=some u->w.cell? (a.add j)=some u)(h1:∀ u ∈ news,u.oneCell'=true)(hroom:sLen+m<=sCap)(hfit:sLen*i.size+news.length<=cur.size):
  (Builtin.append_ #[t,t] ty #[.slice (some ⟨g,0,none⟩) sLen sCap,.slice (some a) m c]).run P w =
   .ok (.slice (some ⟨g,0,none⟩) (sLen+m) sCap) (w.setRow g (cur.toList.take (sLen*i.size)++news++cur.toList.drop (sLen*i.size+news.length)).toArray):=by
 have d:=run_firstCells_some (P:=P) w i.size m a m c news hl hnews;have b:=lZ P g (sLen*i.size) e' news 0 cur w hg (by simpa using hfit) h1
 simp only[fU]at b;simp[Builtin.append_,ef ht,sizeOf,typeInfo,hi,Builtin.lenOf,hroom,d,Addr.add_lit,b]
theorem Z7a(Z:ξ)(w:World)(o:Go.Obj):aM Z w (w.drew.alloc o):=
 ⟨rfl,rfl,rfl,by simp,λb c _=>by rw[heap_alloc_old w.drew o b c];rfl,iA _⟩
theorem bD(h:aK C nt R η e s a w)(hd:o.dst=some d)(hdn:d<nt)(hR:¬ R d)(hdel:∀ i ∈ del,∀ o',s i=some o' -> o'.ro=false){c:Prop}{z:Ξ}{el:TypeId}(hrun:(execOp a.eval o).run P w=.ok (.value (.slice (some ⟨w.heap.size,0,none⟩) (n+k) gc)) (w.drew.alloc (.cells (olds.toArray++news.toArray++Builtin.zeroCells z (gc-(n+k))) el)))(hz:z.size=es)(ho:olds.length=n*es)(hnl:news.length=k*es)(hgc:n+k<=gc)(hgm:gc<=maxLen)(hk:0<k)(hfl:∀ i,i<n->(f i).length=es)(hgl:∀ i,i<k->(g i).length=es)(h1:∀ i j,i<n->j<es->aA w (XS C s η) (olds.getD (i*es+j) undef) ((f i).getD j .any))(h2:∀ i j,i<k->j<es->aA w (XS C s η) (news.getD (i*es+j) undef) ((g i).getD j .any)):
  Qe P C nt R η e s a w o {v:=.v (.c (.own d)),del:=del,new:=some (.arr es (n+k) (Qu n f g)),cond:=c}:=by
 refine UL h hd hdn hR (Z:=λ_=>False) hrun (Z7a _ w _) rfl (λb q=>q.elim) hdel (λb q=>.inl (by simp[Y9]at q;omega)) λX' l=>?_
 refine .arr _ _ gc es _ el _ (heap_alloc_new w.drew _) ?_ hgc hgm (by omega) (λi p=>?_) ?_
 .simp only[oL,lP,oB,hz,ho,hnl, <-fQ]
  congr 1;omega
 .unfold Qu
  by_cases h3:i<n
  .rw [av h3];exact hfl i h3
  .rw [an h3];exact hgl _ (by omega)
 .refine Af (olds:=olds) (news:=news) ?_ ho (λi j p r=>(h1 i j p r).mono l) (λi j p r=>(h2 i j p r).mono l)
  have m:(olds++news).length=(n+k)*es:=by rw[dK,ho,hnl,fQ]
  simp only[mY,fR];rw[<-fR, <-m]
  exact oe
theorem DH(hL:Qa P L)(h:aK C nt R η e s a w){o:Oper}{d:Nat}(hd:o.dst=some d)(hdn:d<nt)(hR:¬ R d){t:TypeId}{x:Operand}(hop:o.op=.call { callee:=.builtin .append,args:= #[x,y],argTypes:= #[t,t] })(ht:L t=some ti){el:Nat}(hk:ti.kind=.slice el)(hte:L el=some te)(hby:te.bytes<=8192)(hzl:te.zero.length=te.size){del:υ}(hdel:∀ i ∈ del,∀ o',s i=some o' -> o'.ro=false){n k cap:Nat}{g:Δ}{c:Prop}(hlim:n+k<=Y2)(ex:a.eval x=.slice base n cap)(hcap:cap<n+k)(hb0:base=none->n=0/\cap=0)(holdl:olds.length=n*te.size)(holds:∀ b0,base=some b0->∀ j u,olds[j]?=some u->w.cell? (b0.add j)=some u)(ey:a.eval y=.slice (some b2) k cy)(hnl:news.length=k*te.size)(hncell:∀ j u,news[j]?=some u->w.cell? (b2.add j)=some u)(hk0:0<k)(hfl:∀ i,i<n->(f i).length=te.size)(hgl:∀ i,i<k->(g i).length=te.size)(h1:∀ i j,i<n->j<te.size->aA w (XS C s η) (olds.getD (i*te.size+j) undef) ((f i).getD j .any))(h2:∀ i j,i<k->j<te.size->aA w (XS C s η) (news.getD (i*te.size+j) undef) ((g i).getD j .any)):
  Qe P C nt R η e s a w o {v:=.v (.c (.own d)),del:=del,new:=some (.arr te.size (n+k) (Qu n f g)),cond:=c}:=by
 obtain⟨i,dd,z,q⟩:=hL t ti ht;obtain⟨E,G,A,b⟩:=hL el te hte
 have p:=q.kind;rw[hk]at p
 simp only[ZZ]at p;subst p
 have r:A.cells.size=te.size:=by rw[(b.zrep w (λ_=>False) η C).1,hzl]
 have l:∀{v:Value} {w' : World},(Builtin.append_ #[t,t] o.type #[a.eval x,a.eval y]).run P w=.ok v w' -> (execOp a.eval o).run P w=.ok (.value v) w':=by
  intro v w' F;simp[execOp,hop,resolve,invoke,builtin,F]
 cases base with
 |none=>
  obtain⟨rfl,rfl⟩:=hb0 rfl;have:olds=[]:=iH (by rw[holdl,mz])
  subst this;have B:=run_append_nil (P:=P) w t o.type el E A q.und b.info b.zero b2 k cy news (by rw[b.size];exact hnl) hncell (by omega) (by simp only[Y2]at hlim;omega)
   (by have:=tS (n:=k) (by omega) hby;rw[b.bytes];omega)
  have D:=l (by rw[ex,ey];exact B);have m : (execOp a.eval o).run P w=.ok (.value (.slice (some ⟨w.heap.size,0,none⟩) (0+k) (grownCap w k 0 el))) (w.drew.alloc (.cells (([]:List Value).toArray++news.toArray++Builtin.zeroCells A.cells (grownCap w k 0 el-(0+k))) el)):=by
   grind
  exact bD h hd hdn hR hdel m r (by simp) hnl (by have:=grownCap_ge w k 0 el;omega) (oN w k 0 el (by simp only[Y2]at hlim;simp only[maxLen];omega)) (by omega) hfl hgl h1 h2
 |some b0=>
  have B:=run_append_grow (P:=P) w t o.type el E A q.und b.info b.zero b0 n cap olds (by rw[b.size];exact holdl) (holds b0 rfl) b2 k cy news (by rw[b.size];exact hnl) hncell (by omega) (by simp only[Y2]at hlim;omega)
   (growslice_fits (by omega) (by rw[b.bytes];exact tS hlim hby))
  exact bD h hd hdn hR hdel (l (by rw[ex,ey];exact B)) r holdl hnl (grownCap_ge w (n+k) cap el) (oN w (n+k) cap el (by simp only[Y2]at hlim;simp only[maxLen];omega)) (by omega) hfl hgl h1 h2
theorem Sz(hL:Qa P L)(h:aK C nt R η e s a w)(hd:o.dst=some d)(hdn:d<nt)(hR:¬ R d)(hop:o.op=.call { callee:=.builtin .append,args:= #[x,y],argTypes:= #[t,t] })(ht:L t=some ti)(hk:ti.kind=.slice el)(hte:L el=some te)(hy:WM s (Y3 e y)=some (k,g))(hx:VV s te.size k (Y3 e x)=some (del,n,f,c0))(hc0:c0)(hby:te.bytes<=8192)(hzl:te.zero.length=te.size){c:Prop}(hlim:n+k<=Y2)(hgl:∀ j,j<k->(g j).length=te.size):
  Qe P C nt R η e s a w o {v:=.v (.c (.own d)),del:=del,new:=some (.arr te.size (n+k) (Qu n f g)),cond:=c}:=by
 obtain⟨i,dd,z,S⟩:=hL t ti ht;obtain⟨i2,d9,z2,B⟩:=hL el te hte
 have a4:=S.kind;rw[hk]at a4
 simp only[ZZ]at a4;subst a4
 obtain⟨ad,cy,V,d4,U⟩:=v6 h (K3 h y).1 hy;have e2:z2.cells.size=te.size:=by rw[(B.zrep w (λ_=>False) η C).1,hzl]
 have J:∀{v:Value} {w' : World},(Builtin.append_ #[t,t] o.type #[a.eval x,a.eval y]).run P w=.ok v w' -> (execOp a.eval o).run P w=.ok (.value v) w':=by
  intro v w' hh;simp[execOp,hop,resolve,invoke,builtin,hh]
 unfold VV at hx;split at hx
 .
  rename_i Q e1
  split at hx
  .rename_i b9 n' f' hs
   split at hx
   .rename_i c1
    cases hx
    subst c1;have A:=(K3 h x).1
    rw[e1]at A;have ex:=Vm A
    have N:=h.st Q _ hs
    by_cases hk0:k=0
    .
     subst hk0;have Y:=N
     generalize hu:η Q=u at N ex;have hn:∃l E,u=.slice l n E/\n<=E:=by
      cases N with
      |nil=>exact⟨_,_,rfl,di _⟩
      |arr b _ E _ c' e' _ _ _ hn _ _ _ _=>exact⟨_,_,rfl,hn⟩
     obtain⟨l,E,b7,hn⟩:=hn;refine UL h hd hdn hR (Z:=λ_=>False) (v:=u) (w':=w) (J (by rw[ex,V,b7];exact A4 t o.type S.und B.info l n E hn ad cy)) (aM.refl _ _) (by rw[b7];rfl) (λb M=>M.elim)
      (λi' p o' H=>by simp at p;subst p;rw[hs]at H;cases H;rfl) (λb M=>.inr ⟨Q,by simp,by rw[hs];simp,by rw[hu];exact M⟩) λX' G=>?_
     rw[hu]at Y;have c4 : ∀b,b∈Y9 u->w.heap[b]?=w.heap[b]?:=λ_ _=>rfl
     have:=Y.mono (η':=SR.eta {v:=.v (.c (.own d)),del:=[Q],new:=some (.arr te.size (n+0) (Qu n f g)),cond:=c} o.dst u η) G (by simp[Obj.refs]) c4
     cases this with
     |nil=>exact .nil _ _ _
     |arr b _ cap' _ c' e' _ q1 q2 q3 q4 q5 q6 q7=>
      refine .arr b n cap' _ c' e' _ q1 q2 q3 q4 q5 (λi D=>?_) λi j D r=>?_
      .simp only[Qu,av D];exact q6 i D
      .simp only[Qu,av D];exact q7 i j D r
    .obtain ⟨b2,a0,a8,news,F,m,K,q⟩:=sD hk0 U hgl
     subst a8;generalize hu:η Q=u at N ex
     cases N with
     |nil l _ _=>
      exact DH hL h hd hdn hR hop ht hk hte hby hzl (λi' p o' H=>by simp at p;subst p;rw[hs]at H;cases H;rfl) hlim ex (by omega) (λ_=>⟨rfl,rfl⟩) (olds:=[]) (by simp) (λ_ _ j u r=>by simp at r) V F m (by omega)
       (λi D=>by omega) hgl (λi j D=>by omega) q
     |arr b _ E _ c' e' _ M hsz hn hm hc hl hel=>
      have T:∀i'∈[Q],∀o',s i'=some o' -> o'.ro=false:=λi' p o' H=>by simp at p;subst p;rw[hs]at H;cases H;rfl
      have d6:n*te.size<=E*te.size:=eu _ hn;have I:(c'.toList.take (n*te.size)).length=n*te.size:=by simp;omega
      have W:∀i j,i<n->j<te.size->aA w (XS C s η) ((c'.toList.take (n*te.size)).getD (i*te.size+j) undef) ((f i).getD j .any):=by
       intro i j D r;have b5:i*te.size+j<n*te.size:=by
        have:(i+1)*te.size<=n*te.size:=eu _ D
        grind
       rw[<-cJ rfl b5];exact hel i j D r
      by_cases hroom:n+k<=E
      .have O:n*i2.size+news.length<=c'.size:=by rw[B.size,F,hsz, <-fQ];exact eu _ hroom
       have hr:=Z1j (P:=P) t o.type el e' i2 S.und B.info b n E c' M ⟨b2,a0,none⟩ k cy news (by rw[B.size];exact F) m K hroom O;rw[B.size]at hr O
       have b4:=J (by rw[ex,V];exact hr);have a2:b∈Y9 (η Q):=by rw[hu];simp[Y9];omega
       refine UL h hd hdn hR (Z:=λx=>x=b) b4 (setRow_stp w b _) rfl (λx hx=>⟨Q,by simp,by rw[hs];simp,by rw[hx];exact a2⟩) T (λx hx=>.inr ⟨Q,by simp,by rw[hs];simp,by simp[Y9]at hx;rw[hx.2];exact a2⟩) λX' G=>?_
       refine .arr b (n+k) E te.size _ e' _ (mR w b c' _ e' _ M) (by rw[(SY c' (n*te.size) news O).1];exact hsz) hroom hm hc (λi D=>?_) ?_
       .unfold Qu
        grind
       .refine Af (olds:=c'.toList.take (n*te.size)) (news:=news) ?_ I (λi j D r=>(W i j D r).mono G) (λi j D r=>(q i j D r).mono G)
        have c7:(c'.toList.take (n*te.size)++news).length=(n+k)*te.size:=by rw[dK,I,F,fQ]
        grind
      .have a3:∀ j u,(c'.toList.take (n*te.size))[j]?=some u->w.cell? ((⟨b,0,none⟩:Addr).add j)=some u:=by
        intro j u r;rw[lx]at r
        split at r
        .rw [add_lit,eH,cell_of_row w b j c' e' (0,0) M];simpa using r
        .cases r
       exact DH hL h hd hdn hR hop ht hk hte hby hzl T hlim ex (by omega) (λhh=>by cases hh) I (λb0 b1=>by cases b1;exact a3) V F m (by omega) hl hgl W q
   .cases hx
  .cases hx
 .
  rename_i n' f' e1
  split at hx
  .rename_i d7
   cases hx
   have A:=(K3 h x).1;rw[e1]at A
   generalize hex:a.eval x=u at A;have c6:∃l,u=.slice l n n/\aA w (XS C s η) (.slice l n n) (.lst n f):=by
    cases A with|v _ _ A=>cases A with|c _ _ A=>cases A with|fl l _ _ A=>exact⟨l,rfl,A⟩
   obtain⟨l,rfl,b6⟩:=c6
   by_cases hk0:k=0
   .subst hk0
    have a6:n=0:=by omega
    subst a6;exact UL h hd hdn hR (del:=[]) (Z:=λ_=>False) (v:=.slice l 0 0) (w':=w) (J (by rw[hex,V];exact A4 t o.type S.und B.info l 0 0 (di _) ad cy)) (aM.refl _ _) rfl (λb M=>M.elim)
     (λi' p=>by cases p) (λb M=>by cases l<;>simp[Y9]at M) λX' _=>.nil _ _ _
   .obtain ⟨b2,a0,a8,news,F,m,K,q⟩:=sD hk0 U hgl
    subst a8
    cases b6 with
    |nil _ _ _=>
     exact DH hL h hd hdn hR hop ht hk hte hby hzl (λi' p=>by cases p) hlim hex (by omega) (λ_=>⟨rfl,rfl⟩) (olds:=[]) (by simp) (λ_ _ j u r=>by simp at r) V F m (by omega)
      (λi D=>by omega) hgl (λi j D=>by omega) q
    |lst b off _ _ c' e' fz _ b9 q1 q2 q3 q4 q5 q6=>
     by_cases a6:n=0
     .subst a6
      exact DH hL h hd hdn hR hop ht hk hte hby hzl (λi' p=>by cases p) hlim hex (by omega) (λhh=>by cases hh) (olds:=[]) (by simp) (λ_ _ j u r=>by simp at r) V F m (by omega)
       (λi D=>by omega) hgl (λi j D=>by omega) q
     have c5:b9=te.size:=by rw[<-q5 0 (by omega),hc0 0 (by omega)]
     subst c5;have hv:∀j,j<n*te.size->(Zx c' off (n*te.size)).getD j undef=c'.getD (off+j) undef:=λj r=>by simp[Zx,aY,r]
     refine DH hL h hd hdn hR hop ht hk hte hby hzl (λi' p=>by cases p) hlim hex (by omega) (λhh=>by cases hh) (olds:=Zx c' off (n*te.size)) (by simp[Zx]) (λb0 b1 j u r=>?_) V F m (by omega)
      q5 hgl (λi j D r=>?_) q
     .cases b1
      simp only[Zx,lN]at r
      by_cases hjj:j<n*te.size
      .rw [m8 hjj]at r
       cases r
       rw[add_lit];exact MY q2 _ (by omega)
      all_goals grind
     .have b5:i*te.size+j<n*te.size:=by
       have:(i+1)*te.size<=n*te.size:=eu _ D
       grind
      grind
  .cases hx
 .cases hx
end
section
variable {R:ξ}
theorem yu{α:Type}(n:Nat)(xs:List α):(Uj n xs).length=n*xs.length:=by
 induction n with
 |zero=>simp[Uj]
 |succ n ih=>simp[Uj,ih,fQ];omega
theorem OA{α:Type}(n:Nat)(xs:List α)(d:α)(i:Nat)(h:i<n*xs.length):(Uj n xs).getD i d=xs.getD (i % xs.length) d:=by
 induction n generalizing i with
 |zero=>simp at h
 |succ n ih=>
  rw[fQ,Nat.one_mul]at h
  by_cases h1:i<xs.length
  .simp [Uj,aY,iq,h1,ml h1]
  .have:=ih (i-xs.length) (by omega)
   have b:(i-xs.length) % xs.length=i % xs.length:=by rw[<-Nat.mod_eq_sub_mod (by omega)]
   rw[b]at this;rw[<-this]
   simp[Uj,aY,iq,h1]
theorem vG(n:Nat)(f:Nat->Value)(j:Nat)(hj:j<n):((Array.range n).map f).getD j undef=f j:=by
 have h:j<((Array.range n).map f).size:=by simpa using hj
 have:((Array.range n).map f).getD j undef=((Array.range n).map f)[j]:=by simp only[Array.getD,h,dite_true];rfl
 grind
theorem vF(f:Nat->Value):(Array.range 0).map f=#[]:=AE (by simp)
theorem N5{z:Ξ}{zs:List CV}(h:Qj w X η C z zs)(len:Nat):Qj w X η C ((Array.range (len*zs.length)).map (z[· % z.size]!)) (Uj len zs):=by
 refine⟨by simp[yu],λj c=>?_⟩;rw[yu]at c
 rw[OA _ _ _ _ c];have b:0<zs.length:=by rcases lA zs.length with d|d;simp[d]at c;exact d
 have f:=mi j b;have:=h.2 _ f
 have g:((Array.range (len*zs.length)).map (z[· % z.size]!)).getD j undef=z.getD (j % zs.length) undef:=by
  have:j % z.size<z.size:=by rw[h.1];exact f
  rw[vG _ _ _ c, <-h.1];simp[this]
 grind
theorem Z1i{el:TypeId}(hti:ij P t ti i (.slice el) z){d2:TypeDesc}(hte:ij P el te i2 d2 z2)(len:Nat)(hl:len*te.size<=16777216){GX:Array (Nat×Value)}(hf:Instr.fill (fun i=>some (i*te.size,te.size)) ((Array.range (len*te.size)).map (z2.cells[· % z2.cells.size]!)) GX.toList=some cells):
  (Instr.buildSlice t len GX).run P w=.ok (.slice (some ⟨w.heap.size,0,none⟩) len len) {w with heap:=w.heap.push (.cells cells el)}:=by
 have b:¬(16777216<len*te.size):=by omega
 by_cases h0:len*te.size=0
 .rw [h0,vF]at hf
  simp only[Instr.buildSlice,eX,ef hti.und,fh,YV hte,gt_iff_lt,Nat.reducePow,h0,fJ,fB,Sem.run_ite,vF];rw[hf]
  simp[newRow]
 .simp only[Instr.buildSlice,eX,ef hti.und,fh,YV hte,b,gt_iff_lt,Nat.reducePow,fC,h0,fB,Sem.run_ite,Tn hte]
  rw[hf];simp[newRow]
theorem qY(h:Qj w X η C c cs)(hd:Uc cs=some ds):ds.length=c.size/\∀j,j<ds.length->aA w X (c.getD j undef) (ds.getD j .any):=by
 obtain⟨d,f⟩:=jO cs ds c 0 hd (λj b=>by rw[eH];exact h.2 j b);exact⟨by rw[d,h.1],λj b=>by have:=f j b;rwa [eH]at this⟩
theorem S4(hL:Qa P L)(h:aK C nt R η e s a w)(hdn:∀ x,o.dst=some x->x<nt){len:Nat}{ps:Array (Nat×Operand)}(hop:o.op=.buildSlice t len ps)(ht:L t=some ti)(hk:ti.kind=.slice el)(hte:L el=some te)(hle:len*te.size<=16777216)(hzl:te.zero.length=te.size)(hf:UV (fun i=>some (i*te.size,te.size)) (Uj len te.zero) (ps.toList.map fun p=>(p.1,Y3 e p.2))=some cs){ds:Ψ}(hds:Uc cs=some ds):
  Qe P C nt R η e s a w o {v:=.v (.c (.d (.lst len λi=>(ds.drop (i*te.size)).take te.size)))} /\
  ∀d,o.dst=some d->¬R d->0<te.size->Qe P C nt R η e s a w o {v:=.v (.c (.own d)),new:=some (.arr te.size len λi=>(ds.drop (i*te.size)).take te.size)}:=by
 obtain⟨i,dd,z,D⟩:=hL t ti ht;obtain⟨i2,d2,z2,l⟩:=hL el te hte
 have u:=D.kind;rw[hk]at u
 simp only[ZZ]at u;subst u
 obtain⟨m1,m2,_⟩:=ur h ps;have hz:=l.zrep w (XS C s η) η C
 have a8:z2.cells.size=te.size:=by rw[hz.1,hzl]
 have N:=N5 hz len;rw[hzl]at N
 obtain⟨G,y,m,_⟩:=wR _ _ _ _ _ hf N m1 m2;have I:=Z1i (w:=w) D l len hle y
 have f:(execOp a.eval o).run P w=.ok (.value (.slice (some ⟨w.heap.size,0,none⟩) len len)) {w with heap:=w.heap.push (.cells G el)}:=by
  simp only[execOp,hop,eX];rw[I];rfl
 obtain⟨q,a3⟩:=qY m hds;have k:ds.length=len*te.size:=by
  have:=m.1
  have S:cs.length=(Uj len te.zero).length:=by
   have U:∀(ps:Γ) (pl:Nat->Option (Nat×Nat)) (Q cs:List CV),UV pl Q ps=some cs->cs.length=Q.length:=by
    intro ps pl
    induction ps with
    |nil=>intro Q cs h;cases h;rfl
    |cons p r ih=>
     intro Q cs h;obtain⟨i,x⟩:=p
     simp only[UV]at h;split at h
     .split at h
      .rename_i Y;rw[ih _ _ h,Gn _ _ _ (by omega)]
      .cases h
     .cases h
   exact U _ _ _ _ hf
  rw[q,this,S,yu,hzl]
 have E:∀i,i<len->((ds.drop (i*te.size)).take te.size).length=te.size:=by
  intro i F;have:(i+1)*te.size<=len*te.size:=eu _ F
  grind
 have M:∀i j,i<len->j<te.size->aA w (XS C s η) (G.getD (i*te.size+j) undef) (((ds.drop (i*te.size)).take te.size).getD j .any):=by
  grind
 have T:QP w {w with heap:=w.heap.push (.cells G el)} (XS C s η) (XS C s η):=λb g hX=>⟨by show(w.heap.push _)[b]?=_;rw[nV,an (by omega)],hX⟩
 have W:¬XS C s η w.heap.size:=by
  rintro(⟨hx,_⟩|hx)
  .have:=h.ok.lt _ hx;have:=h.fr.size;omega
  .have:=h.lt hx;omega
 refine⟨?_,λd O hR B=>?_⟩
 .refine ⟨_,_,.inl f,?_⟩
  have H:∀v,SR.eta {v:=.v (.c (.d (.lst len λi=>(ds.drop (i*te.size)).take te.size)))} o.dst v η=η:=λv=>by funext i;simp[SR.eta]
  have J:SR.sto {v:=.v (.c (.d (.lst len λi=>(ds.drop (i*te.size)).take te.size)))} o.dst s=s:=by funext i;simp[SR.sto]
  refine h.step o.dst hdn _ _ _ (λ_=>False) (aM.alloc _ w _) (λb g=>g.elim) (λ_ _ V=>by cases V) (λ_ _ V=>by cases V) λ_=>?_
  rw[H,J];refine⟨.v _ _ (.c _ _ (.d _ _ ?_)),λj K=>by simp[ai.refs,TV.refs,CV.refs]at K⟩
  refine .lst w.heap.size 0 len len G el (0,0) _ te.size W (by simp) (di _) (by rw[eH, <-q,k];exact di _) E λi j F K=>?_
  rw[eH];exact(M i j F K).mono T
 .by_cases hl0:len=0
  .subst hl0
   exact UL h O (hdn d O) hR (del:=[]) (Z:=λ_=>False) f (aM.alloc _ w _) rfl (λb g=>g.elim) (λi' n=>by cases n) (λb g=>by simp[Y9]at g) λX' _=>.nil _ _ _
  .refine UL h O (hdn d O) hR (del:=[]) (Z:=λ_=>False) f (aM.alloc _ w _) rfl (λb g=>g.elim) (λi' n=>by cases n) (λb g=>.inl (by simp[Y9]at g;omega)) λX' A=>?_
   refine .arr w.heap.size len len te.size G el _ (by simp) (by rw[<-q,k]) (di _) ?_ (by omega) E λi j F K=>(M i j F K).mono A
   have:len*1<=len*te.size:=Nat.mul_le_mul_left _ B
   simp only[maxLen];omega
theorem F5(hL:Qa P L)(h:aK C nt R η e s a w)(hd:o.dst=some d)(hdn:d<nt)(hR:¬R d){l c:Operand}(hop:o.op=.makeSlice t l c)(ht:L t=some ti)(hk:ti.kind=.slice el)(hte:L el=some te){n: Int}(hl:ZY (Y3 e l)=some n)(hc:ZY (Y3 e c)=some n')(h0:0<te.size)(hby:te.bytes<=8192)(hzl:te.zero.length=te.size)(hz:Uc te.zero=some zd)(hn:0<=n/\n=n' /\ n<=Y2):Qe P C nt R η e s a w o {v:=.v (.c (.own d)),new:=some (.arr te.size n.toNat λ_=>zd),cond:=c0}:=by
 obtain⟨i,dd,z,u⟩:=hL t ti ht;obtain⟨i2,d2,G,f⟩:=hL el te hte
 have A:=u.kind;rw[hk]at A
 simp only[ZZ]at A;subst A
 obtain⟨a2,rfl,D⟩:=hn;have p:∀{y:Operand} {m:Int},ZY (Y3 e y)=some m->∃k,a.eval y=.int k m:=by
  intro y m F;unfold ZY at F
  split at F
  .rename_i k m' M
   cases F
   have I:=(K3 h y).1;rw[M]at I
   exact⟨k,Vr I⟩
  .cases F
 obtain⟨k1,M⟩:=p hl;obtain⟨k2,W⟩:=p hc
 have hw:IntKind.i64.wrap n=n:=qJ ⟨by omega,by simp only[Y2]at D;omega⟩;have r:(te.bytes:Int)*n<=2 ^ 48:=by
  have hh:te.bytes*n.toNat<=8192*4294967296:=lM hby (by simp only[Y2]at D;omega)
  grind
 have q:G.cells.size=te.size:=by rw[(f.zrep w (XS C s η) η C).1,hzl]
 have U:(decide (n<0)||decide ((te.bytes:Int)*n > 2 ^ 48))=false:=by simp;omega
 have g:∃J,(execOp a.eval o).run P w=.ok (.value (.slice (some ⟨w.heap.size,0,none⟩) n.toNat n.toNat)) {w with heap:=w.heap.push (.cells J el)} /\ J.size=n.toNat*te.size/\∀j,j<n.toNat*te.size->J.getD j undef=G.cells.getD (j % te.size) undef:=by
  by_cases hz0:n.toNat*te.size=0
  .have V:n.toNat=0:=by rcases Nat.mul_eq_zero.1 hz0 with I|I;exact I;omega
   have Q:n=0:=by omega
   subst Q;refine⟨#[],?_,by simp,λj H=>by simp at H⟩
   simp[execOp,hop,Instr.makeSlice,M,W,asInt,asIntOf,ef u.und,typeInfo,f.info,newRow,IntKind.wrap,IntKind.bits,IntKind.signed,YV f,vF]
  .refine ⟨(Array.range (n.toNat*te.size)).map (G.cells[· % G.cells.size]!),?_,by simp,λj H=>?_⟩
   .have B:¬n<0:=by omega
    have O:¬(281474976710656:Int)<(te.bytes:Int)*n:=by omega
    simp[execOp,hop,Instr.makeSlice,M,W,asInt,asIntOf,ef u.und,typeInfo,f.info,f.bytes,newRow,hw,B,O,YV f,Tn f,hz0]
   .have:j % G.cells.size<G.cells.size:=by rw[q];exact mi _ h0
    rw[vG _ _ _ H, <-q];simp[this]
 obtain⟨J,g,S,T⟩:=g;obtain⟨K,N⟩:=qY (f.zrep w (XS C s η) η C) hz
 by_cases hl0:n.toNat=0
 .rw [hl0]at g⊢
  exact UL h hd hdn hR (del:=[]) (Z:=λ_=>False) g (aM.alloc _ w _) rfl (λb r=>r.elim) (λi' x=>by cases x) (λb r=>by simp[Y9]at r) λX' _=>.nil _ _ _
 .refine UL h hd hdn hR (del:=[]) (Z:=λ_=>False) g (aM.alloc _ w _) rfl (λb r=>r.elim) (λi' x=>by cases x) (λb r=>.inl (by simp[Y9]at r;omega)) λX' E=>?_
  refine .arr w.heap.size n.toNat n.toNat te.size J el _ (by simp) S (di _) (by simp only[maxLen];simp only[Y2]at D;omega) (by omega) (λi _=>by rw[K,q]) λi j Y H=>?_
  have B:i*te.size+j<n.toNat*te.size:=by
   have:(i+1)*te.size<=n.toNat*te.size:=eu _ Y
   grind
  rw[T _ B];have F:(i*te.size+j) % te.size=j:=by rw[ln,nQ,ml H]
  rw[F];exact(N j (by rw[K,q];exact H)).mono E
end
section
variable {R:ξ}
theorem BN(h:aK C nt R η e s a w){m:Int}(hm:ZY (Y3 e y)=some m):∃k,a.eval y=.int k m:=by
 unfold ZY at hm;split at hm
 .rename_i k d c
  cases hm
  have b:=(K3 h y).1;rw[c]at b
  exact⟨k,Vr b⟩
 .cases hm
theorem A8(hL:Qa P L)(h:Qj w X η C vs cs){t:Nat}(ht:L t=some ti)(ho:off+ti.size<=cs.length){v:ai}(hv:VJ ti.kind.agg ((cs.drop off).take ti.size)=some v):
  ∃u,(part t vs off).run P w=.ok u w/\aQ w X η C u v/\∀j∈v.refs,j∈cs.flatMap CV.refs:=by
 obtain⟨i,d,z,f⟩:=hL t ti ht;have r:=h.1
 unfold VJ at hv;split at hv
 .rename_i o
  cases hv
  refine⟨.agg (vs.extract off (off+ti.size)),?_,.v _ _ (.g _ _ ⟨by simp;omega,λj l=>?_⟩),λj l=>km _ _ _ j (kl _ _ _ j l)⟩
  .simp only[part,eX,To f,fh,o,fJ,YV f,fB]
  .have n : j<ti.size:=by simp at l;omega
   rw[xZ _ _ _ _ _ n];have k:off+j<vs.size:=by omega
   have:(vs.extract off (off+ti.size)).getD j undef=vs.getD (off+j) undef:=by
    have q:j<min (off+ti.size) vs.size-off:=by omega
    simp[k,q]
   rw[this];exact h.2 _ (by omega)
 .rename_i o
  split at hv
  .rename_i y p
   cases hv
   have b:((cs.drop off).take ti.size).length=ti.size:=by simp;omega
   rw[p]at b;have x:ti.size=1:=by simpa using b.symm
   have k:off<vs.size:=by omega
   refine⟨vs.getD off undef,?_,.v _ _ (.c _ _ ?_),λj l=>?_⟩
   .simp [part,To f,o,k]
   .have:=h.2 off (by omega)
    have m:cs.getD off (.d .any)=y:=by
     have A:=xZ cs off ti.size 0 (.d .any) (by omega)
     grind
    rwa [m]at this
   .refine km _ _ off j (kl _ _ ti.size j ?_)
    rw[p];simpa[ai.refs,TV.refs]using l
  .cases hv
theorem Z7L(h:aK C nt R η e s a w):∀(xs:List Operand) (ids:υ),ZD.cloIds (xs.map (Y3 e))=some ids->xs.map a.eval=ids.map η/\∀j∈ids,R j:=by
 intro xs
 induction xs with
 |nil=>intro ids c;cases c;exact⟨rfl,by simp⟩
 |cons x r ih=>
  intro ids c;obtain⟨m,l⟩:=K3 h x
  rw[eP]at c;unfold ZD.cloIds at c
  split at c
  .grind
  .rename_i q t k
   injection k with k e2
   subst e2;split at c
   .rename_i n d
    cases c
    obtain⟨p,o⟩:=ih _ d;rw[k]at m l
    obtain⟨b,g,i⟩:=HX m;refine⟨by rw[eP,eP,p,g,i],λj f=>?_⟩
    rcases dY.1 f with rfl|f
    .exact l _ (by simp[ai.refs,TV.refs,CV.refs])
    .exact o j f
   .cases c
  .cases c
theorem Z6j(h:aK C nt R η e s a w){v:ai}(hv:(match Y3 e x with
     |.v (.c (.ptr id o))=>some ({v:=.v (.c (.ptr id (o+off)))}:SR)
     |.v (.c (.pte id es idx o))=>some {v:=.v (.c (.pte id es idx (o+off)))}
     |.v (.c (.elm cs))=>if off<=cs.length then some {v:=.v (.c (.elm (cs.drop off)))}else none
     |_=>none)=some {v:=v}):
  (∀b o',a.eval x=.pointer (some ⟨b,o',none⟩)->aQ w (XS C s η) η C (.pointer (some ⟨b,o' + off,none⟩)) v)/\(∀j∈v.refs,R j)/\∃b o',a.eval x=.pointer (some ⟨b,o',none⟩):=by
 obtain⟨i,l⟩:=K3 h x;split at hv
 .rename_i id o k
  cases hv
  rw[k]at i l;obtain⟨b,d,g⟩:=HX i
  exact⟨λr o' f=>by rw[d]at f;cases f;exact vJ _ g,λj m=>l j (by simpa[ai.refs,TV.refs,CV.refs]using m),b,o,d⟩
 .rename_i id es idx o k
  cases hv
  rw[k]at i l;obtain⟨b,n,q,d,g⟩:=vK i
  exact⟨λr o' f=>by rw[d]at f;cases f;rw[me];exact .v _ _ (.c _ _ (.pte b n q _ _ _ _ g)),λj m=>l j (by simpa[ai.refs,TV.refs,CV.refs]using m),b,_,d⟩
 .rename_i cs k
  split at hv
  .rename_i p
   cases hv
   rw[k]at i;obtain⟨b,o,c,A,fz,d,z,y,t,u⟩:=uM i
   exact⟨λr o' f=>by rw[d]at f;cases f;exact NU _ z y t u off p,by simp[ai.refs,TV.refs,CV.refs],b,o,d⟩
  .cases hv
 .cases hv
theorem N8(hL:Qa P L)(h:aK C nt R η e s a w){o:Oper}(hd:∀ x,o.dst=some x->x<nt){t:TypeId}{x i:Operand}(hop:o.op=.indexAddr t x i){ti:TI}(ht:L t=some ti){el:Nat}(hk:ti.kind=.slice el){te:TI}(hte:L el=some te){m:Int}(hi:ZY (Y3 e i)=some m){n:Nat}{f:Δ}(hx:ZD.asF (Y3 e x)=some (n,f))(hf:(f m.toNat).length=te.size){c:Prop}(hc:0<=m/\m<n):
  Qe P C nt R η e s a w o {v:=.v (.c (.elm (f m.toNat))),cond:=c}:=by
 obtain⟨z,d1,A,p⟩:=hL t ti ht;obtain⟨G,E,F,l⟩:=hL el te hte
 have g:=p.kind;rw[hk]at g
 simp only[ZZ]at g;subst g
 obtain⟨k,y⟩:=BN h hi;obtain⟨B,u,ev,d⟩:=gG (K3 h x).1 hx
 rw[ev]at d
 cases d with
 |nil=>omega
 |lst b off _ _ c' e' fz _ es h1 h2 h3 h4 h5 h6=>
  have r:es=te.size:=by rw[<-h5 m.toNat (by omega),hf]
  subst r;have q:m.toNat*te.size+te.size<=n*te.size:=by
   have:(m.toNat+1)*te.size<=n*te.size:=eu _ (by omega)
   grind
  refine Zm h hd (v:=.pointer (some ⟨b,off+m.toNat*te.size,none⟩)) ?_ (.v _ _ (.c _ _ (.elm b _ c' e' fz _ h1 h2 (by rw[hf];omega) λj D=>?_))) (by simp[ai.refs,TV.refs,CV.refs])
  .simp [execOp,hop,Instr.indexAt,y,ev,asIntOf,ef p.und,hc,YV l,add_lit]
  all_goals grind
theorem Q9M(hL:Qa P L)(h:aK C nt R η e s a w){o:Oper}(hd:∀ x,o.dst=some x->x<nt){t:TypeId}{x i:Operand}(hop:o.op=.indexAddr t x i){ti:TI}(ht:L t=some ti){el:Nat}(hk:ti.kind=.slice el){te:TI}(hte:L el=some te){m:Int}(hi:ZY (Y3 e i)=some m){id:Nat}(hx:Y3 e x=.v (.c (.own id))){n:Nat}{f:Δ}(hs:s id=some (.arr te.size n f)){c:Prop}(hc:0<=m/\m<n):
  Qe P C nt R η e s a w o {v:=.v (.c (.pte id te.size m.toNat 0)),cond:=c}:=by
 obtain⟨A,d1,B,l⟩:=hL t ti ht;obtain⟨F,D,E,g⟩:=hL el te hte
 have d:=l.kind;rw[hk]at d
 simp only[ZZ]at d;subst d
 obtain⟨k,y⟩:=BN h hi;obtain⟨q,r⟩:=K3 h x
 rw[hx]at q r;have ev:=Vm q
 have p:=h.st id _ hs;generalize hu:η id=u at p ev
 cases p with
 |nil=>omega
 |arr b _ cap _ c' e' _ hb hsz hn hm hc0 hl hel=>
  refine Zm h hd (v:=.pointer (some ⟨b,m.toNat*te.size+0,none⟩)) ?_ (.v _ _ (.c _ _ (.pte b n cap _ _ _ _ hu))) (λj z=>r j (by simpa[ai.refs,TV.refs,CV.refs]using z));simp[execOp,hop,Instr.indexAt,y,ev,asIntOf,ef l.und,hc,YV g,add_lit]
theorem Q9O(hL:Qa P L)(h:aK C nt R η e s a w)(hd:∀ x,o.dst=some x->x<nt){i:Operand}(hop:o.op=.indexAddr t x i)(ht:L t=some ti)(hk:ti.kind=.array n el)(hte:L el=some te){m:Int}(hi:ZY (Y3 e i)=some m)(hx:Y3 e x=.v (.c (.ptr id off)))(hc:0<=m/\m<n):
  Qe P C nt R η e s a w o {v:=.v (.c (.ptr id (off+m.toNat*te.size)))}:=by
 obtain⟨y,d1,z,g⟩:=hL t ti ht;obtain⟨D,A,B,f⟩:=hL el te hte
 have d:=g.kind;rw[hk]at d
 simp only[ZZ]at d;subst d
 obtain⟨k,q⟩:=BN h hi;obtain⟨l,p⟩:=K3 h x
 rw[hx]at l p;obtain⟨b,ev,r⟩:=HX l
 refine Zm h hd (v:=.pointer (some ⟨b,off+m.toNat*te.size,none⟩)) ?_ (vJ _ r) (λj u=>p j (by simpa[ai.refs,TV.refs,CV.refs]using u));simp[execOp,hop,Instr.indexAt,q,ev,asIntOf,ef g.und,hc,YV f,add_lit,Instr.sureAddr]
end
section
variable {R:ξ}
theorem xh{α β:Type}{f:α->β}{l:List α}{u v:β}(h:l.map f=[u,v]):∃x y,l=[x,y]/\f x=u/\f y=v:=by
 match l,h with
 |[],h=>simp at h
 |[_],h=>simp at h
 |[x,y],h=>simp at h;exact⟨x,y,rfl,h.1,h.2⟩
 |_::_::_::_,h=>simp at h
theorem tM(hL:Qa P L)(h:aK C nt R η e s a w)(m:Bool)(o:Oper)(hd:∀x,o.dst=some x->x<nt)(hr:ZD L m e s o=some r)(hc:r.cond)(hR:∀d,o.dst=some d->r.new≠none->¬R d)(hst:∀t x y,o.op=.store t x y->o.dst=none):Qe P C nt R η e s a w o r:=by
 unfold ZD at hr;split at hr
 .
  rename_i x p
  cases hr
  exact bB h hd (.inl p)
 .
  rename_i x p
  split at hr
  .cases hr
   exact bB h hd (.inr p)
  .rename_i f d G A
   split at hr
   .rename_i el V H zz F
    split at hr
    .rename_i te D
     cases hr
     have N:=(K3 h x).1;rw[G]at N
     have f4:∃ad,a.eval x=.slice ad 0 0:=by
      generalize a.eval x=u at N
      cases N with|v _ _ N=>cases N with|c _ _ N=>cases N with|fl ad _ _ N=>exact⟨ad,rfl⟩
     obtain⟨ad,Y⟩:=f4;exact UL h A (hd d A) (hR d A (by simp)) (del:=[]) (v:=.slice ad 0 0) (Z:=λ_=>False) (by simp[execOp,p,Y]) (aM.refl _ _) rfl (λb J=>J.elim) (λi hi=>by cases hi) (λb J=>by cases ad<;>simp[Y9]at J) (λX' _=>.nil _ _ _)
    .cases hr
   .cases hr
  .cases hr
 .
  rename_i c x y p
  split at hr
  .rename_i J;cases hr;exact bw h hd p J
  .rename_i J;cases hr;exact bw h hd p J
  .cases hr
 .
  rename_i t p
  split at hr
  .rename_i ti d F A
   cases hr
   exact Ew hL h A (hd d A) (hR d A (by simp)) p F
  .cases hr
 .
  rename_i t x p
  split at hr
  .rename_i xs d G A
   cases hr
   exact Q9R h A (hd d A) (hR d A (by simp)) p G
  .cases hr
 .
  rename_i t ps p
  split at hr
  .rename_i fs V H z F
   split at hr
   .rename_i pl h4
    split at hr
    .rename_i cs hf
     cases hr
     exact bE hL h hd p F (.inl ⟨fs,pl,rfl,h4,rfl⟩) hf
    .cases hr
   .cases hr
  .rename_i n el V H z F
   split at hr
   .rename_i te D
    split at hr
    .rename_i cs hf
     cases hr
     exact bE hL h hd p F (.inr ⟨n,el,te,rfl,D,rfl⟩) hf
    .cases hr
   .cases hr
  .cases hr
 .
  rename_i t k5 ps p
  split at hr
  .rename_i el V H z F
   split at hr
   .rename_i te D
    split at hr
    .rename_i b4
     split at hr
     .rename_i cs hf
      split at hr
      .rename_i ds h5
       obtain⟨B,K⟩:=S4 hL h hd p F rfl D b4.1 b4.2.1 hf h5;split at hr
       .cases hr;exact B
       .rename_i d A
        cases hr
        exact K d A (hR d A (by simp)) b4.2.2
       .cases hr
      .cases hr
     .cases hr
    .cases hr
   .cases hr
  .cases hr
 .
  rename_i t x p
  split at hr
  .rename_i ti F
   split at hr
   .rename_i cs c j1
    split at hr
    .rename_i v N
     cases hr
     exact Q9I hL h hd p F j1 N hc
    .cases hr
   .cases hr
  .cases hr
 .
  rename_i t x y p
  split at hr
  .rename_i ti xs F hy
   split at hr
   .rename_i i0
    exact Q9C hL h (hst t x y p) p F hy i0 hr hc
   .cases hr
  .cases hr
 .
  rename_i x p
  obtain⟨B,K⟩:=K3 h x;split at hr
  .rename_i id a3 e1
   cases hr
   rw[e1]at B K;obtain⟨b,W,c6⟩:=HX B
   exact Zm h hd (v:=a.eval x) (by simp[execOp,p,W]) B K
  .rename_i id es l5 a3 e1
   cases hr
   rw[e1]at B K;obtain⟨b,n,I,W,c6⟩:=vK B
   exact Zm h hd (v:=a.eval x) (by simp[execOp,p,W]) B K
  .rename_i cs e1
   cases hr
   rw[e1]at B K;obtain⟨b,a3,c,e',fz,W,_⟩:=uM B
   exact Zm h hd (v:=a.eval x) (by simp[execOp,p,W]) B K
  .cases hr
 .
  rename_i op t x y t' p
  exact Io h hd p hr hc
 .
  rename_i op t x p
  exact R9 h hd p hr hc
 .
  rename_i l2 dst x p
  split at hr
  .rename_i k0 s1 b1 z1 k s2 b2 z2 k1 n c8 d0 G
   cases hr
   obtain⟨i1,d1,j5,S⟩:=hL _ _ c8;obtain⟨i2,d2,i6,O⟩:=hL _ _ d0
   have a6:=S.kind;have a8:=O.kind
   simp only[ZZ]at a6 a8;subst a6;subst a8
   have B:=(K3 h x).1;rw[G]at B
   have Y:=Vr B;obtain⟨g1,_⟩:=qn m k n _ hc
   refine Sy h hd g1 hc ?_;simp[execOp,p,convert,ef S.und,ef O.und,Y,Conv.intToInt]
  .rename_i s1 b1 z1 s2 b2 z2 b c8 d0 G
   cases hr
   obtain⟨i1,d1,j5,S⟩:=hL _ _ c8;obtain⟨i2,d2,i6,O⟩:=hL _ _ d0
   have a6:=S.kind;have a8:=O.kind
   simp only[ZZ]at a6 a8;subst a6;subst a8
   obtain⟨B,K⟩:=K3 h x;rw[G]at B
   have Y:=Gl B;refine Zm h hd (v:=.string b) ?_ (by rw[Y]at B;exact B) (by simp[ai.refs,TV.refs,CV.refs])
   simp[execOp,p,convert,ef S.und,ef O.und,Y]
  .cases hr
 .
  rename_i f first e8 p
  split at hr
  .rename_i h7
   split at hr
   .rename_i i5 f5
    cases hr
    obtain⟨g1,g2⟩:=Z7L h _ _ f5;have g7:first=#[]:=by simpa using h7
    subst g7;refine Zm h hd (v:=.func (.func f) #[] (e8.map a.eval)) (by simp[execOp,p,Instr.makeFunc]) (.v _ _ (.c _ _ (.clo f i5 _ ?_))) (λj hj=>g2 j (by simpa[ai.refs,TV.refs,CV.refs]using hj))
    rw[<-g1];exact m4 (by simp)
   .cases hr
  .cases hr
 .
  rename_i t x lo hi p
  split at hr
  .rename_i el V H z F
   split at hr
   .rename_i te D
    split at hr
    .rename_i y l u hl hu
     split at hr
     .rename_i n f G
      cases hr
      exact Q9E hL h hd p F rfl D hl hu G hc.1 hc.2
     .cases hr
    .rename_i id u G hl hu
     split at hr
     .rename_i es n f d hs A
      cases hr
      obtain⟨i1,d1,z1,T⟩:=hL _ _ F;obtain⟨i2,d2,z2,b0⟩:=hL _ _ D
      have U:=T.kind;simp only[ZZ]at U
      subst U;have B:=(K3 h x).1
      rw[G]at B;have Y:=Vm B
      have a0:=h.st id _ hs;have d7:0<=u/\u<=n:=hc
      have hn:∃E I,η id=.slice E n I/\n<=I:=by
       generalize η id=v at a0
       cases a0 with
       |nil=>exact⟨_,_,rfl,di _⟩
       |arr b _ I _ c' e' _ _ _ hn _ _ _ _=>exact⟨_,_,rfl,hn⟩
      obtain⟨E,I,c9,hn⟩:=hn;obtain⟨J,g1,g2,g3,g4⟩:=v4 (P:=P) h hl hu n I hn f (by simpa[sl]using d7)
      simp only[Option.getD_none,nB,Int.toNat_zero]at J g1 g2;have f2:E.map (λx:Addr=>x.add 0)=E:=by cases E<;>simp[Addr.add]
      have d4:(execOp a.eval o).run P w=.ok (.value (.slice E u.toNat I)) w:=by
       have c4:(if I=0 then E else E.map (λx:Addr=>x.add 0))=E:=by rw[f2];split<;>rfl
       simp only[execOp,p,eX,Instr.sliceAt,ef T.und,fh,Instr.slice,Y,c9,mX,J,YV b0,fB,mz,mb];rw[c4]
      have j4:Y9 (.slice E u.toNat I)=Y9 (.slice E n I):=by cases E<;>rfl
      refine UL h A (hd d A) (hR d A (by simp)) (Z:=λ_=>False) d4 (aM.refl _ _) rfl (λb J=>J.elim) (λi' e4 o' e7=>by simp at e4;subst e4;rw[hs]at e7;cases e7;rfl)
       (λb J=>.inr ⟨id,by simp,by rw[hs];simp,by rw[c9, <-j4];exact J⟩) λX' d5=>?_
      rw[c9]at a0;have:=a0.mono (η':=SR.eta {v:=.v (.c (.own d)),del:=[id],new:=some (.arr es u.toNat f),cond:=0<=u/\u<=n} o.dst (.slice E u.toNat I) η) d5 (by simp[Obj.refs]) (λ_ _=>rfl)
      cases this with
      |nil=>
       have h0:u.toNat=0:=by omega
       rw[h0];exact .nil _ _ _
      |arr b _ _ _ c' e' _ q1 q2 q3 q4 q5 q6 q7=>
       exact .arr b u.toNat I _ c' e' _ q1 q2 (by omega) q4 q5 (λi hi=>q6 i (by omega)) λi j hi hj=>q7 i j (by omega) hj
     .cases hr
    .cases hr
   .cases hr
  .cases hr
 .
  rename_i t x G mx p
  split at hr
  .rename_i el V H z F
   split at hr
   .rename_i te n f u u' D f9 hu hm
    split at hr
    .rename_i g6
     obtain⟨rfl,h0⟩:=g6;cases hr
     exact EW hL h hd p F rfl D hu hm h0 f9 hc.1 hc.2
    .cases hr
   .cases hr
  .cases hr
 .
  rename_i t x k p
  split at hr
  .rename_i fs V H z F
   split at hr
   .rename_i a3 ft hf
    split at hr
    .rename_i tf c7
     split at hr
     .cases hr
     .rename_i hz
      have e5:∃v,r={v:=v}:=by
       grind
      obtain⟨v,rfl⟩:=e5;obtain⟨g1,g2,g3⟩:=Z6j h hr
      exact Q9P hL h hd p F rfl hf c7 hz g1 g2 g3
    .cases hr
   .cases hr
  .cases hr
 .
  rename_i t x k p
  split at hr
  .rename_i fs V H z F
   split at hr
   .rename_i a3 ft cs hf G
    split at hr
    .rename_i tf c7
     split at hr
     .rename_i b4
      split at hr
      .rename_i v N
       cases hr
       obtain⟨i1,d1,z1,T⟩:=hL _ _ F;have U:=T.kind
       obtain⟨b9,rfl,l1⟩:=U;have i9 : ∃f,b9[k]?=some f/\f.offset=a3/\f.type=ft:=by
        grind
       obtain⟨f,i4,rfl,rfl⟩:=i9;obtain⟨B,K⟩:=K3 h x
       rw[G]at B K;have b3:∃vs,a.eval x=.agg vs/\Qj w (XS C s η) η C vs cs:=by
        generalize a.eval x=u at B
        cases B with|v _ _ B=>cases B with|g vs _ B=>exact⟨vs,rfl,B⟩
       obtain⟨vs,Y,c5⟩:=b3;obtain⟨u,g1,g2,g3⟩:=A8 (P:=P) hL c5 c7 b4 N
       refine Zm h hd (v:=u) ?_ g2 (λj hj=>K j (by simpa[ai.refs,TV.refs]using g3 j hj));simp only[execOp,p,eX,Instr.field,ef T.und,fh,i4,Y,asAgg,fB,g1]
      .cases hr
     .cases hr
    .cases hr
   .cases hr
  .cases hr
 .
  rename_i t x i p
  split at hr
  .rename_i el V H z m' F hi
   split at hr
   .rename_i te D
    split at hr
    .rename_i id G
     split at hr
     .rename_i es n f hs
      split at hr
      .rename_i i3
       subst i3;cases hr
       exact Q9M hL h hd p F rfl D hi G hs hc
      .cases hr
     .cases hr
    .split at hr
     .rename_i n f G
      split at hr
      .rename_i hf
       cases hr
       exact N8 hL h hd p F rfl D hi G hf hc
      .cases hr
     .cases hr
   .cases hr
  .rename_i n el V H z m' F hi
   split at hr
   .rename_i te id a3 D G
    split at hr
    .rename_i J
     cases hr
     exact Q9O hL h hd p F rfl D hi G J
    .cases hr
   .cases hr
  .cases hr
 .
  rename_i t x i p
  split at hr
  .rename_i n el V H z m' cs F hi G
   split at hr
   .rename_i te D
    split at hr
    .rename_i J
     obtain⟨W,c6,h8⟩:=J;split at hr
     .rename_i v N
      cases hr
      obtain⟨i1,d1,z1,T⟩:=hL _ _ F;obtain⟨i2,d2,z2,b0⟩:=hL _ _ D
      have U:=T.kind;simp only[ZZ]at U
      subst U;obtain⟨k,ei⟩:=BN h hi
      obtain⟨B,K⟩:=K3 h x;rw[G]at B K
      have b3:∃vs,a.eval x=.agg vs/\Qj w (XS C s η) η C vs cs:=by
       generalize a.eval x=u at B
       cases B with|v _ _ B=>cases B with|g vs _ B=>exact⟨vs,rfl,B⟩
      obtain⟨vs,Y,c5⟩:=b3;obtain⟨u,g1,g2,g3⟩:=A8 (P:=P) hL c5 D h8 N
      refine Zm h hd (v:=u) ?_ g2 (λj hj=>K j (by simpa[ai.refs,TV.refs]using g3 j hj));simp[execOp,p,Instr.index,ei,Y,asIntOf,ef T.und,W,c6,YV b0,g1]
     .cases hr
    .cases hr
   .cases hr
  .cases hr
 .
  rename_i t l c p
  split at hr
  .rename_i el V H z n n' d F hl d7 A
   split at hr
   .rename_i te D
    split at hr
    .rename_i zd hz
     split at hr
     .rename_i J
      cases hr
      exact F5 hL h A (hd d A) (hR d A (by simp)) p F rfl D hl d7 J.1 J.2.1 J.2.2 hz hc
     .cases hr
    .cases hr
   .cases hr
  .cases hr
 .
  rename_i x k p
  split at hr
  .rename_i xs G
   split at hr
   .rename_i v N
    cases hr
    obtain⟨B,K⟩:=K3 h x;rw[G]at B K
    have b3:∃us,a.eval x=.tuple us/\us.size=xs.length/\∀j,j<xs.length->dy w (XS C s η) η C (us.getD j undef) (xs.getD j (.c (.d .any))):=by
     generalize a.eval x=u at B
     cases B with|t us _ g1 g2=>exact⟨us,rfl,g1,g2⟩
    obtain⟨us,Y,g1,g2⟩:=b3;have hk:k<xs.length:=by
     grind
    have j2 : k<us.size:=by omega
    have h3:=g2 k hk;have i7 : xs.getD k (.c (.d .any))=v:=by rw[aY,N];rfl
    rw[i7]at h3;refine Zm h hd (v:=us.getD k undef) ?_ (.v _ _ h3) (λj hj=>K j ?_)
    .simp [execOp,p,Instr.extract,Y,j2]
    .exact eE.2 ⟨v,ii N,hj⟩
   .cases hr
  .cases hr
 .
  rename_i b Q e9 p
  split at hr
  .rename_i r' d q
   unfold KX at q;split at q
   .
    rename_i y M
    obtain⟨x,hargs,hy⟩:∃x,Q=#[x]/\y=Y3 e x:=by
     match hl:Q.toList,M with
     |[x],M=>simp at M;exact⟨x,m4 hl,M.symm⟩
    subst hargs;subst hy
    split at q
    .rename_i t a7
     have d6:e9=#[t]:=m4 a7;subst d6
     split at q
     .rename_i el V H z F
      split at q
      .rename_i n f G
       cases q
       simp only at hr;cases hr
       exact Q9L hL h hd p F rfl G
      .cases q
     .rename_i n el V H z F
      cases q
      simp only at hr;cases hr
      exact Q9K hL h hd p F rfl
     .rename_i V H z F
      split at q
      .rename_i bb G
       cases q
       simp only at hr;cases hr
       exact Q9J hL h hd p F rfl G
      .cases q
     .cases q
    .cases q
   .
    rename_i k n k' n' M
    obtain⟨x,y,hargs,G,hy⟩:∃x y,Q=#[x,y]/\Y3 e x=.v (.c (.d (.int k n)))/\Y3 e y=.v (.c (.d (.int k' n'))):=by
     obtain⟨x,y,hl,B,K⟩:=xh M
     grind
    subst hargs;cases q
    simp only at hr;cases hr
    exact bC h hd p G hy (.inl ⟨rfl,rfl⟩)
   .
    rename_i k n k' n' M
    obtain⟨x,y,hargs,G,hy⟩:∃x y,Q=#[x,y]/\Y3 e x=.v (.c (.d (.int k n)))/\Y3 e y=.v (.c (.d (.int k' n'))):=by
     obtain⟨x,y,hl,B,K⟩:=xh M
     grind
    subst hargs;cases q
    simp only at hr;cases hr
    exact bC h hd p G hy (.inr ⟨rfl,rfl⟩)
   .
    rename_i u1 u2 M
    obtain⟨x,y,hargs,G,hy⟩:∃x y,Q=#[x,y]/\Y3 e x=u1/\Y3 e y=u2:=by
     obtain⟨x,y,hl,B,K⟩:=xh M
     grind
    subst hargs;subst G;subst hy
    split at q
    .rename_i t t' a7
     split at q
     .rename_i e2
      subst e2;have d6:e9=#[t,t]:=m4 a7
      subst d6;split at q
      .rename_i el V H z F
       split at q
       .rename_i te D
        split at q
        .rename_i k g hy
         split at q
         .rename_i del n f c G
          split at q
          .rename_i J
           cases q
           simp only at hr;split at hr
           .rename_i dd j6 A
            cases hr
            exact Sz hL h A (hd _ A) (hR _ A (by simp)) p F rfl D hy G hc.2.2 J.2.1 J.2.2 hc.1 hc.2.1
           .cases hr
           .cases ‹some _=none›
          .cases q
         .cases q
        .cases q
       .cases q
      .cases q
     .cases q
    .cases q
   .cases q
  .cases hr
 .cases hr
end
def ZN(d:Option Tmp)(v:ai)(e:U5):U5:=
 match d with
 |some d=>λt=>if t=d then v else e t
 |none=>e
def ZR(l:List (Nat×Option Obj))(s:U8):U8:=λi=>
 match l.lookup i with
 |some o=>o
 |none=>s i
structure eJ where
 rd:υ
 ids:υ
 v:ai
 l:List (Nat×Option Obj)
 news:υ
variable {fs:List eJ}
section
variable (P:Program)(C:da)(nt:Nat)(ops:Array Oper)
def WE(o:Oper)(f:eJ)(e:U5)(s:U8):Prop:=
 ∀R η e0 s0 a w,(∀t∈f.rd,e0 t=e t)->(∀i∈f.ids,s0 i=s i)->(∀n∈f.news,¬R n)->aK C nt R η e0 s0 a w ->
  ∀(K:Act->World->Prop) (Q:Exit->Act->World->Prop),(∀η' a' w',aK C nt (λi=>R i\/i∈f.news) η' (ZN o.dst f.v e0) (ZR f.l s0) a' w' -> K a' w') ->
   if Region.wanted o (yielded ops a.tmps)then o.wp P a w K Q else K (a.put o.dst undef) w
def Ro:List Oper->List eJ->U5->U8->Prop
 |[],[],_,_=>True
 |o::os,f::fs,e,s=>WE P C nt ops o f e s/\Ro os fs (ZN o.dst f.v e) (ZR f.l s)
 |_,_,_,_=>False
end
def JH:List Oper->List eJ->U5->U5
 |o::os,f::fs,e=>JH os fs (ZN o.dst f.v e)
 |_,_,e=>e
def JG:List eJ->U8->U8
 |f::fs,s=>JG fs (ZR f.l s)
 |_,s=>s
def YY(fs:List eJ):υ:=fs.flatMap (·.news)
theorem aK.wider{R:ξ}(h:aK C nt R η e s a w)(hR:∀i,R i->R' i):aK C nt R' η e s a w:=
 ⟨h.ok,h.df,h.sz,h.ev,λt i b=>hR i (h.er t i b),h.st,λi o c=>⟨hR i (h.sr i o c).1,λj d=>hR j ((h.sr i o c).2 j d)⟩,h.ds,h.ow,h.fr,λi v b=>⟨(h.pn i v b).1,hR i (h.pn i v b).2⟩⟩
section
variable {ops:Array Oper}
theorem NT{Q:Exit->Act->World->Prop}:∀ (os:List Oper) (fs:List eJ) (R:ξ) (η:Nat->Value) (e:U5) (s:U8) (a:Act) (w:World),Ro P C nt ops os fs e s->(YY fs).Nodup->(∀ n ∈ YY fs,¬ R n)->aK C nt R η e s a w ->
  (∀η' a' w',aK C nt (λi=>R i\/i∈YY fs) η' (JH os fs e) (JG fs s) a' w' -> Q .normal a' w')->wpList P ops Q os a w:=by
 intro os
 induction os with
 |nil=>
  intro fs R η e s a w g _ _ m h
  cases fs with
  |nil=>exact h η a w (m.wider λi p=>.inl p)
  |cons f fs=>exact g.elim
 |cons o os ih=>
  intro fs R η e s a w g d c m h
  cases fs with
  |nil=>exact g.elim
  |cons f fs=>
   obtain⟨t,r⟩:=g;have b:YY (f::fs)=f.news++YY fs:=rfl
   rw[b]at d c h;have j:=t R η e s a w (λ_ _=>rfl) (λ_ _=>rfl) (λn q=>c n (dv.2 (.inl q))) m
   refine wpList_step λK v=>?_
   refine j K Q λη' a' w' l=>v a' w' ?_
   refine ih fs _ η' _ _ a' w' r (lX.1 d).2.1 (λn q z=>?_) l λy x u k=>h y x u (k.wider λi p=>?_)
   all_goals grind
end
def UY(oi oj:Oper)(fi fj:eJ):Bool:=
 (match oi.dst with|some d=>fj.rd.contains d||oj.dst==some d|none=>false)||(match oj.dst with|some d=>fi.rd.contains d|none=>false) ||
 (fi.l.any λp=>fj.ids.contains p.1||fj.l.any (·.1==p.1))||(fj.l.any λp=>fi.ids.contains p.1)
def Jy(acc:υ):List Edge->Nat
 |[]=>0
 |e::r=>if Region.binds .any e then(2 ^ e.on ||| acc.getD e.on 0) ||| Jy acc r else Jy acc r
def BF:List Oper->List eJ->υ->List (Oper×eJ)->Bool
 |o::os,f::fs,acc,seen=>
  let m:=Jy acc o.after.toList
  (o.after.toList.all λe=> !Region.binds .any e||decide (e.on<acc.length)) &&
  (seen.zipIdx.all λp=> !UY p.1.1 o p.1.2 f||m.testBit p.2)&&BF os fs (acc++[m]) (seen++[(o,f)])
 |[],[],_,_=>true
 |_,_,_,_=>false
def AM(ops:List Oper)(fs:List eJ):Bool:=BF ops fs [] []
inductive fT (ops:List Oper):Nat->Nat->Prop
 |edge (j:Nat) (o:Oper) (e:Edge):ops[j]?=some o->e∈o.after.toList->Region.binds .any e=true->fT ops e.on j
 |trans (i j k:Nat):fT ops i j->fT ops j k->fT ops i k
theorem P7(ho:ops[j]?=some o)(hacc:∀k i,(acc.getD k 0).testBit i=true->fT ops i k):∀(es:List Edge),(∀e∈es,e∈o.after.toList)->∀i,(Jy acc es).testBit i=true->fT ops i j:=by
 intro es
 induction es with
 |nil=>intro _ i c;simp[Jy]at c
 |cons e r ih=>
  intro b i c;have f:=ih (λh d=>b h (eB _ d))
  simp only[Jy]at c;split at c
  .rename_i g
   have l:fT ops e.on j:=.edge j o e ho (b e dZ) g;rw[n9,n9]at c
   rcases(by simpa using c:((2 ^ e.on).testBit i=true\/(acc.getD e.on 0).testBit i=true)\/(Jy acc r).testBit i=true)with (h1|h1)|h1
   .grind
   .exact .trans _ _ _ (hacc _ _ h1) l
   .exact f i h1
  .exact f i c
theorem Z7C(ops:List Oper)(fs:List eJ):∀ (os:List Oper) (gs:List eJ) (acc:υ) (seen:List (Oper×eJ)),BF os gs acc seen=true ->
  acc.length=seen.length->ops=seen.map (·.1)++os->fs=seen.map (·.2)++gs->(∀k i,(acc.getD k 0).testBit i=true->fT ops i k) ->
  (∀j o e,seen.length<=j->ops[j]?=some o->e∈o.after.toList->Region.binds .any e=true->e.on<j) /\
  (∀i j oi oj fi fj,i<j->seen.length<=j->ops[i]?=some oi->ops[j]?=some oj->fs[i]?=some fi->fs[j]?=some fj->UY oi oj fi fj=true->fT ops i j)/\os.length=gs.length:=by
 intro os
 induction os with
 |nil=>
  intro gs acc seen h x l p _
  cases gs with
  |cons g gs=>simp[BF]at h
  |nil=>
   grind
 |cons o os ih=>
  intro gs acc seen h x l p f
  cases gs with
  |nil=>simp[BF]at h
  |cons g gs=>
   simp only[BF,dc]at h;obtain⟨⟨J,I⟩,A⟩:=h
   have d:ops[seen.length]?=some o:=by rw[l];simp
   have r:fs[seen.length]?=some g:=by rw[p];simp
   have n:∀i,(Jy acc o.after.toList).testBit i=true->fT ops i seen.length:=P7 d f _ (λe v=>v);obtain⟨E,z,B⟩:=ih gs (acc++[Jy acc o.after.toList]) (seen++[(o,g)]) A (by simp[x]) (by simp[l]) (by simp[p]) (λk i K=>by
    by_cases hk1:k<acc.length
    .grind
    .by_cases hk2:k=acc.length
     all_goals grind)
   refine⟨λj G e D b v F=>?_,λi j oi oj fi fj q D t b m c u=>?_,by simp[B]⟩
   .by_cases hjs:j=seen.length
    .grind
    .exact E j G e (by simp;omega) b v F
   .by_cases hjs:j=seen.length
    .subst hjs
     rw[d]at b;cases b
     rw[r]at c;cases c
     have H:seen[i]?=some (oi,fi):=by
      grind
     have y:((oi,fi),i)∈seen.zipIdx:=by
      grind
     grind
    .exact z i j oi oj fi fj q (by simp;omega) t b m c u
instance:Inhabited eJ:=⟨⟨[],[],.any,[],[]⟩⟩
section
variable (l:List Oper)(fs:List eJ)
def VR(i:Nat):Option Tmp:=(l[i]?).bind (·.dst)
def QB(i:Nat):eJ:=fs.getD i default
def hE(e0:U5):υ->U5
 |[]=>e0
 |i::h=>ZN (VR l i) (QB fs i).v (hE e0 h)
def hS(s0:U8):υ->U8
 |[]=>s0
 |i::h=>ZR (QB fs i).l (hS s0 h)
def Ji(t:Nat)(j:Nat):Bool:=VR l j==some t
def JU(i:Nat)(j:Nat):Bool:=((QB fs j).l.lookup i).isSome
theorem sW(e0:U5)(t:Nat):∀h,hE l fs e0 h t=match h.find? (Ji l t)with|some j=>(QB fs j).v|none=>e0 t:=by
 intro h
 induction h with
 |nil=>rfl
 |cons i h ih=>
  simp only[hE,nK,ZN]
  cases hd:VR l i with
  |none=>simp[Ji,hd,ih]
  |some d=>
   by_cases hdt:t=d
   .subst hdt;simp[Ji,hd]
   .have:Ji l t i=false:=by simp[Ji,hd];exact λb=>hdt b.symm
    grind
theorem Ec(s0:U8)(k:Nat):∀h,hS fs s0 h k=match h.find? (JU fs k)with|some j=>((QB fs j).l.lookup k).getD none|none=>s0 k:=by
 intro h
 induction h with
 |nil=>rfl
 |cons i h ih=>
  simp only[hS,nK,ZR]
  cases hl:(QB fs i).l.lookup k with
  |none=>simp[JU,hl,ih]
  |some o=>simp[JU,hl]
end
structure fg (ops:List Oper) (h:υ):Prop where
 nd:h.Nodup
 ord:∀l1 k l2,h=l1++k::l2->∀i,fT ops i k->i∈l2
theorem fg.anc(H:fg ops h){i:Nat}(hk:k∈h)(ha:fT ops i k):i∈h:=by
 obtain⟨c,b,rfl⟩:=lR hk;exact dv.2 (.inr (eB _ (H.ord c k b rfl i ha)))
theorem sJ(H:fg ops h){p:Nat->Bool}{f g:Nat}(hf:h.find? p=some f)(hg:g∈h)(hp:p g=true)(ha:fT ops f g):False:=by
 obtain⟨_,i,bs,rfl,m⟩:=List.find?_eq_some_iff_append.1 hf;have c:g∈bs:=by
  rcases dv.1 hg with d|d
  .grind
  .rcases dY.1 d with b|b
   .subst b
    have:=H.ord i g bs rfl g ha
    exact this
   .exact b
 obtain⟨j,n,rfl⟩:=lR c;have:=H.ord (i++f::j) g n (by simp) f ha
 have k:=H.nd
 grind
theorem pG(H1:fg ops h1)(H2:fg ops h2){p:Nat->Bool}(hord:∀j k,j<k->k∈h1->k∈h2->j∈h1->p j=true->p k=true->fT ops j k)(hset:∀j,p j=true->(j∈h1↔j∈h2)):h1.find? p=h2.find? p:=by
 cases hf:h1.find? p with
 |none=>
  grind
 |some f=>
  have b:p f=true:=nT hf;have i:f∈h1:=mr hf
  have c:=(hset f b).1 i
  cases hg:h2.find? p with
  |none=>rw[iI]at hg;exact absurd b (hg f c)
  |some g=>
   have d:p g=true:=nT hg;have h:g∈h2:=mr hg
   have n:=(hset g d).2 h;rcases mM f g with m|o|m
   .exact (sJ H1 hf n d (hord f g m n h i b d)).elim
   .rw [o]
   .exact (sJ H2 hg c b (hord g f m i c n d b)).elim
section
variable {ops:Array Oper}
theorem Ow{l:List Oper}(hb:∀j o e,l[j]?=some o->e∈o.after.toList->Region.binds .any e=true->e.on<j){i:Nat}(h:fT l i k):i<k:=by
 induction h with
 |edge j o e h1 h2 h3=>exact hb j o e h1 h2 h3
 |trans i j k _ _ ih1 ih2=>omega
theorem RN{l:List Oper}(hb:∀j o e,l[j]?=some o->e∈o.after.toList->Region.binds .any e=true->e.on<j)(n:Nat):fg l (List.range n).reverse:=by
 refine⟨by unfold List.Nodup;rw[List.pairwise_reverse];exact(List.nodup_range (n:=n)).imp (λh=>Ne.symm h),?_⟩
 induction n with
 |zero=>intro b k c h;simp at h
 |succ n ih=>
  intro b k c h i d;rw[mw,ng,np,ol]at h
  cases b with
  |nil=>
   simp only[iL,lB]at h;obtain⟨rfl,rfl⟩:=h
   have:=Ow hb d
   grind
  |cons x b=>
   grind
theorem EC(hnd:(YY fs).Nodup){i:Nat}(hij:i≠j){x:Nat}(hi:x∈(QB fs i).news)(hj:x∈(QB fs j).news):False:=by
 induction fs generalizing i j with
 |nil=>simp[QB,default]at hi
 |cons f r ih=>
  have d:YY (f::r)=f.news++YY r:=rfl;rw[d,lX]at hnd
  have b:∀k,x∈(QB r k).news->x∈YY r:=by
   intro k c
   by_cases hkl:k<r.length
   .exact eE.2 ⟨_,YN hkl,c⟩
   .have:QB r k=default:=by unfold QB;rw[aY,iO (by omega)];rfl
    rw[this]at c;cases c
  cases i with
  |zero=>
   cases j with
   |zero=>exact hij rfl
   |succ j=>exact hnd.2.2 x hi x (b j hj) rfl
  |succ i=>
   cases j with
   |zero=>exact hnd.2.2 x hj x (b i hi) rfl
   |succ j=>exact ih hnd.2.1 (by omega) hi hj
theorem pe{x:Nat}(hx:x∈(QB fs k).news):x∈YY fs:=by
 by_cases hk:k<fs.length
 .exact eE.2 ⟨_,YN hk,hx⟩
 .have:QB fs k=default:=by unfold QB;rw[aY,iO (by omega)];rfl
  rw[this]at hx;cases hx
theorem Z1l:∀ (os:List Oper) (gs:List eJ) (l:List Oper) (fs:List eJ) (k:Nat) (e0:U5) (s0:U8),(∀ j,os[j]?=l[k+j]?)->(∀ j,j<gs.length->gs[j]?=fs[k+j]?)->os.length=gs.length ->
  Ro P C nt ops os gs (hE l fs e0 (List.range k).reverse) (hS fs s0 (List.range k).reverse) ->
  (∀j o,os[j]?=some o->WE P C nt ops o (QB fs (k+j)) (hE l fs e0 (List.range (k+j)).reverse) (hS fs s0 (List.range (k+j)).reverse)) /\
  JH os gs (hE l fs e0 (List.range k).reverse)=hE l fs e0 (List.range (k+os.length)).reverse/\JG gs (hS fs s0 (List.range k).reverse)=hS fs s0 (List.range (k+os.length)).reverse:=by
 intro os
 induction os with
 |nil=>
  intro gs l fs k e0 s0 _ _ d _
  cases gs with
  |nil=>exact⟨λj o h=>by simp at h,rfl,rfl⟩
  |cons g gs=>simp at d
 |cons o os ih=>
  intro gs l fs k e0 s0 f q d u
  cases gs with
  |nil=>simp at d
  |cons g gs=>
   obtain⟨x,r⟩:=u;have t:VR l k=o.dst:=by
    have:=f 0;simp at this;simp[VR, <-this]
   have p:QB fs k=g:=by
    have:=q 0 (by simp);simp at this;simp[QB,aY, <-this]
   have b:hE l fs e0 (List.range (k+1)).reverse=ZN o.dst g.v (hE l fs e0 (List.range k).reverse):=by
    rw[mw,ng,np,ol];simp only[hE,t,p]
   have c:hS fs s0 (List.range (k+1)).reverse=ZR g.l (hS fs s0 (List.range k).reverse):=by
    rw[mw,ng,np,ol];simp only[hS,p]
   obtain⟨y,i,m⟩:=ih gs l fs (k+1) e0 s0 (λj=>by have:=f (j+1);simp at this;rw[this];congr 1;omega) (λj n=>by have:=q (j+1) (by simpa using n);simp at this;rw[this];congr 1;omega) (by simpa using d)
    (by rw[b,c];exact r)
   refine⟨λj z n=>?_,?_,?_⟩
   .grind
   .rw [b]at i
    simp only[JH];rw[i];congr 3;simp;omega
   .rw [c]at m
    simp only[JG];rw[m];congr 3;simp;omega
theorem T3:∀(n:Nat) (l:υ),l.Nodup->(∀x∈l,x<n)->l.length<=n:=by
 intro n
 induction n with
 |zero=>intro l _ h;cases l with
  |nil=>simp
  |cons x r=>exact absurd (h x dZ) (by omega)
 |succ n ih=>
  intro l b h
  by_cases hn:n∈l
  .have c:=ih (l.erase n) (b.erase n) (fun x d=>by
    grind)
   grind
  all_goals grind
theorem Z4h(hsz:listed.size=n)(hl:∀i,i<n->(listed.getD i false=true↔i∈h))(hb:∀i∈h,i<n)(i:Nat):listed.getD i false=true↔i∈h:=by
 grind
theorem vD{ops:Array Oper}(hsz:listed.size=ops.size)(i:Nat):i∈Region.ready .any ops listed↔∃o,ops[i]?=some o/\listed.getD i false=false/\∀e∈o.after.toList,Region.binds .any e=true->listed.getD e.on false=true:=by
 unfold Region.ready;rw[fD,fq]
 constructor
 .rintro ⟨d,c⟩
  refine⟨ops[i],by simp[d],?_,?_⟩
  .grind
  .intro e g f
   simp only[dc]at c;have b:=c.2
   simp only[iD d,iU,nB]at b;rw[Array.all_eq_true']at b
   grind
 all_goals grind
theorem Ot{Q:Exit->Act->World->Prop}{e0:U5}{s0:U8}{R:ξ}(hlen:ops.toList.length=fs.length)(hback:∀ j o e,ops.toList[j]?=some o->e ∈ o.after.toList->Region.binds .any e=true->e.on<j)(hconf:∀ i j oi oj fi fj,i<j->ops.toList[i]?=some oi->ops.toList[j]?=some oj->fs[i]?=some fi->fs[j]?=some fj->UY oi oj fi fj=true->fT ops.toList i j)(hst:∀ j o,ops.toList[j]?=some o->WE P C nt ops o (QB fs j) (hE ops.toList fs e0 (List.range j).reverse) (hS fs s0 (List.range j).reverse))(hnd:(YY fs).Nodup)(hfr:∀ n ∈ YY fs,¬ R n)(hq:∀ η a w,aK C nt (fun i=>R i\/i ∈ YY fs) η (hE ops.toList fs e0 (List.range ops.size).reverse) (hS fs s0 (List.range ops.size).reverse) a w->Q .normal a w):
  ∀(fuel:Nat) (listed:Array Bool) (h:υ) (η:Nat->Value) (a:Act) (w:World),listed.size=ops.size->(∀i,i<ops.size->(listed.getD i false=true↔i∈h))->(∀i∈h,i<ops.size)->fg ops.toList h->ops.size<=fuel+h.length ->
   aK C nt (λi=>R i\/∃j∈h,i∈(QB fs j).news) η (hE ops.toList fs e0 h) (hS fs s0 h) a w->wpAny P .any ops Q fuel listed a w:=by
 have b:∀{i:Nat},i<ops.size->∃o,ops.toList[i]?=some o/\ops[i]?=some o:=λ{i} d=>⟨ops[i],by simp[d],by simp[d]⟩
 have Z:∀{i:Nat},i<ops.size->fs[i]?=some (QB fs i):=by
  intro i d;have:i<fs.length:=by rw[<-hlen];simpa using d
  simp[QB,aY,this]
 have hC:∀i j oi oj,i<j->j<ops.size->ops.toList[i]?=some oi->ops.toList[j]?=some oj->UY oi oj (QB fs i) (QB fs j)=true->fT ops.toList i j:=by
  grind
 have D:∀(K m:υ),fg ops.toList K->fg ops.toList m->(∀i∈K,i<ops.size)->∀t,(∀j,j<ops.size->VR ops.toList j=some t->(j∈K↔j∈m))->(∀i∈m,i<ops.size)->hE ops.toList fs e0 K t=hE ops.toList fs e0 m t:=by
  intro K m H1 H2 r t hw c4;rw[sW,sW,pG (p:=Ji ops.toList t) H1 H2 ?_ ?_]
  .intro j k b7 a9 _ O T a5
   obtain⟨oj,c,_⟩:=b (r j O);obtain⟨ok,b1,_⟩:=b (r k a9)
   refine hC j k oj ok b7 (r k a9) c b1 ?_;simp[Ji,VR,c]at T
   simp[Ji,VR,b1]at a5
   simp[UY,T,a5]
  .intro j hp
   have hd:VR ops.toList j=some t:=by simpa[Ji]using hp
   grind
 have B:∀(K m:υ),fg ops.toList K->fg ops.toList m->(∀i∈K,i<ops.size)->∀k,(∀j,j<ops.size->JU fs k j=true->(j∈K↔j∈m))->(∀i∈m,i<ops.size)->hS fs s0 K k=hS fs s0 m k:=by
  intro K m H1 H2 r k hw c4;have V:∀j,JU fs k j=true->∃o,(k,o)∈(QB fs j).l:=by
   intro j g;simp only[JU,mu]at g
   grind
  rw[Ec,Ec,pG (p:=JU fs k) H1 H2 ?_ ?_]
  .intro i j c1 O _ c9 b6 T
   obtain⟨oi,b8,_⟩:=b (r i c9);obtain⟨oj,c,_⟩:=b (r j O)
   refine hC i j oi oj c1 (r j O) b8 c ?_;obtain⟨u,hu⟩:=V i b6
   obtain⟨v,hv⟩:=V j T;have:((QB fs i).l.any λp=>(QB fs j).ids.contains p.1||(QB fs j).l.any (·.1==p.1))=true:=by
    grind
   simp only[UY,this,oH,og]
  all_goals grind
 have A:∀n,n<=ops.size->(∀i∈(List.range n).reverse,i<ops.size):=by intro n hn i d;simp at d;omega
 have M:∀ (listed:Array Bool) (h:υ) (η:Nat->Value) (a:Act) (w:World),(∀ i ∈ h,i<ops.size)->fg ops.toList h->(∀ i,i<ops.size->i ∈ h) ->
   aK C nt (λi=>R i\/∃j∈h,i∈(QB fs j).news) η (hE ops.toList fs e0 h) (hS fs s0 h) a w->Q .normal a w:=by
  intro listed h η a w N H F hc;have e1:hE ops.toList fs e0 h=hE ops.toList fs e0 (List.range ops.size).reverse:=
   funext λt=>D _ _ H (RN hback _) N t (λj g _=>⟨λ_=>by simp;exact g,λ_=>F j g⟩) (A _ (di _))
  have e2:hS fs s0 h=hS fs s0 (List.range ops.size).reverse:=
   funext λk=>B _ _ H (RN hback _) N k (λj g _=>⟨λ_=>by simp;exact g,λ_=>F j g⟩) (A _ (di _))
  rw[e1,e2]at hc;refine hq η a w (hc.wider λi d=>?_)
  rcases d with d|⟨j,_,d⟩
  .exact .inl d
  .exact .inr (pe d)
 intro fuel
 induction fuel with
 |zero=>
  intro listed h η a w G hl N H hf hc;have F:∀i,i<ops.size->i∈h:=by
   intro i d;rcases ly (i∈h)with f|f
   .exact f
   .have:=T3 ops.size (i::h) (mB.2 ⟨f,H.nd⟩) (λx I=>by rcases dY.1 I with rfl|I;exact d;exact N x I)
    grind
  refine⟨?_,M listed h η a w N H F hc⟩;refine List.eq_nil_iff_forall_not_mem.2 λi d=>?_
  obtain⟨o,Y,m,_⟩:=(vD G i).1 d
  grind
 |succ fuel ih=>
  intro listed h η a w G hl N H hf hc;have a4:=Z4h G hl N
  refine⟨λd8=>?_,λi d=>?_⟩
  .refine M listed h η a w N H (λi d=>?_) hc
   induction i using Nat.strongRecOn with
   |_ i ihi=>
    rcases ly (i∈h)with f|f
    .exact f
    .exfalso
     obtain⟨o,Y,c6⟩:=b d;have:i∈Region.ready .any ops listed:=(vD G i).2 ⟨o,c6,by
      grind,λe he b2=>(a4 e.on).2 (ihi e.on (hback i o e Y he b2) (by have:=hback i o e Y he b2;omega))⟩
     grind
  .obtain ⟨o,Y,m,h3⟩:=(vD G i).1 d
   have S : i<ops.size:=(lD.1 Y).1;have f:i∉h:=λhh=>by rw[(a4 i).2 hh]at m;cases m
   have J:ops.toList[i]?=some o:=by simpa using Y
   have a1 : ∀k z,fT ops.toList k z->(z=i\/z∈h)->k∈h:=by
    intro k z E
    induction E with
    |edge j o' e g1 g2 g3=>
     intro hz;rcases hz with rfl|hz
     .grind
     .exact H.anc hz (.edge j o' e g1 g2 g3)
    |trans x y z _ _ ih1 ih2=>intro hz;exact ih1 (.inr (ih2 hz))
   have d7:∀k,fT ops.toList k i->k∈h:=λk E=>a1 k i E (.inl rfl)
   have e6:=Z S;have c5 : fg ops.toList (i::h):=by
    refine⟨mB.2 ⟨f,H.nd⟩,λl1 k l2 hh x I=>?_⟩
    cases l1 with
    |nil=>
     grind
    |cons y l1=>
     simp only[iC,lB]at hh;exact H.ord l1 k l2 hh.2 x I
   have a6:=A i (Nat.le_of_lt S);have c3:∀t∈(QB fs i).rd,hE ops.toList fs e0 h t=hE ops.toList fs e0 (List.range i).reverse t:=by
    intro t ht;refine D _ _ H (RN hback i) N t (λj g hd=>?_) a6
    obtain⟨oj,c,_⟩:=b g;have a7:oj.dst=some t:=by simpa[VR,c]using hd
    rcases mM j i with q|rfl|q
    .have:=hC j i oj o q S c J (by simp[UY,a7,ht])
     grind
    .grind
    .have:=hC i j o oj q g J c (by simp[UY,a7,ht])
     grind
   have c2:∀k∈(QB fs i).ids,hS fs s0 h k=hS fs s0 (List.range i).reverse k:=by
    intro k E;refine B _ _ H (RN hback i) N k (λj g hw=>?_) a6
    obtain⟨oj,c,_⟩:=b g;simp only[JU,mu]at hw
    obtain⟨u,hu⟩:=hw;obtain⟨l1,l2,d4,_⟩:=ll.1 hu
    have W:(k,u)∈(QB fs j).l:=by rw[d4];simp
    rcases mM j i with q|rfl|q
    .have I:((QB fs j).l.any fun p=>(QB fs i).ids.contains p.1||(QB fs i).l.any (·.1==p.1))=true:=by
      rw[fA];exact⟨_,W,by simp[E]⟩
     have:=hC j i oj o q S c J (by simp only[UY,I,oH,og])
     grind
    .grind
    .have I:((QB fs j).l.any fun p=>(QB fs i).ids.contains p.1)=true:=by
      rw[fA];exact⟨_,W,by simp[E]⟩
     have:=hC i j o oj q g J c (by simp only[UY,I,oH])
     grind
   have U:∀n∈(QB fs i).news,¬(R n\/∃j∈h,n∈(QB fs j).news):=by
    rintro n hn (I|⟨j,g,I⟩)
    .exact hfr n (pe hn) I
    .exact EC hnd (λhh=>f (hh ▸ g):i≠j) hn I
   have d0:=hst i o J _ η _ _ a w c3 c2 U hc (wpAny P .any ops Q fuel (listed.setIfInBounds i true)) Q λη' a' w' d2=>by
    refine ih (listed.setIfInBounds i true) (i::h) η' a' w' (by simp[G]) (λk E=>?_) (λk E=>?_) c5 (by simp;omega) ?_
    .have b0 : k<listed.size:=by omega
     by_cases hki:i=k
     .subst hki;simp[Array.getD,b0]
     .have:=hl k E
      simp[Array.getD,b0]at this⊢
      grind
    .grind
    .have hd:VR ops.toList i=o.dst:=by simp[VR,J]
     simp only[hE,hS,hd];refine d2.wider λk E=>?_
     rcases E with (E|⟨j,g,E⟩)|E
     all_goals grind
   simp only[wpOp,Y]
   grind
end
theorem Z3n{x:ai}(h:∀i∈x.refs,s0 i=s i):rd s0 n x=rd s n x:=by
 unfold rd;split
 .rename_i c b;rw[h c (by simp[ai.refs,TV.refs,CV.refs])]
 .rfl
 .rename_i c f d b;rw[h c (by simp[ai.refs,TV.refs,CV.refs])]
 .rfl
theorem Q7K{x:ai}(h:∀i∈x.refs,s0 i=s i):wr s0 xs x=wr s xs x:=by
 unfold wr;split
 .rename_i c b;rw[h c (by simp[ai.refs,TV.refs,CV.refs])]
 .rename_i c f d b;rw[h c (by simp[ai.refs,TV.refs,CV.refs])]
 .rfl
theorem ql{x:ai}(h:∀i∈x.refs,s0 i=s i):WM s0 x=WM s x:=by
 unfold WM;split
 .rfl
 .rfl
 .rename_i b;rw[h b (by simp[ai.refs,TV.refs,CV.refs])]
 .rename_i b c d n;rw[h b (by simp[ai.refs,TV.refs,CV.refs])]
 .rfl
theorem Z8k{x:ai}{m:Nat}(h:∀i∈x.refs,s0 i=s i):VV s0 es m x=VV s es m x:=by
 unfold VV;split
 .rename_i b;rw[h b (by simp[ai.refs,TV.refs,CV.refs])]
 .rfl
 .rfl
theorem Z8x{b:Builtin}{xs:List ai}(h:∀x∈xs,∀i∈x.refs,s0 i=s i):KX L s0 b tys xs=KX L s b tys xs:=by
 unfold KX;split
 .rename_i x
  rw[ql (h x (by simp))]
 .rfl
 .rfl
 .rename_i x y
  rw[ql (h y (by simp))];simp only[Z8k (h x (by simp))]
 .rfl
theorem CX{x:Option Operand}(h:∀y,x=some y->Y3 e0 y=Y3 e y):oI e0 x=oI e x:=by
 cases x with
 |none=>rfl
 |some y=>simp only[oI,h y rfl]
theorem uL(m:Bool)(o:Oper)(he:∀x∈o.op.operands.toList,Y3 e0 x=Y3 e x)(hs:∀x∈o.op.operands.toList,∀i∈(Y3 e x).refs,s0 i=s i):ZD L m e0 s0 o=ZD L m e s o:=by
 have f:∀(v:Array Operand),(∀x∈v.toList,Y3 e0 x=Y3 e x)->v.toList.map (Y3 e0)=v.toList.map (Y3 e):=λv h=>iT h
 unfold ZD
 cases ho:o.op<;>simp only[ho,Op.operands]at he hs<;>try rfl
 case move x=>simp only[he x (by simp)]
 case assign x=>simp only[he x (by simp)]
 case pick c a b=>simp only[he c (by simp),he a (by simp),he b (by simp)]
 case box t x=>simp only[he x (by simp)]
 case build t ps=>
  have:ps.toList.map (λp=>(p.1,Y3 e0 p.2))=ps.toList.map (λp=>(p.1,Y3 e p.2)):=iT λp D=>by rw[he p.2 (by simp;exact⟨p.1,by simpa using D⟩)]
  simp only[this]
 case buildSlice t n ps=>
  have:ps.toList.map (λp=>(p.1,Y3 e0 p.2))=ps.toList.map (λp=>(p.1,Y3 e p.2)):=iT λp D=>by rw[he p.2 (by simp;exact⟨p.1,by simpa using D⟩)]
  simp only[this]
 case load t x=>simp only[he x (by simp),Z3n (hs x (by simp))]
 case store t x y=>simp only[he x (by simp),he y (by simp),Q7K (hs x (by simp))]
 case nilCheck x=>simp only[he x (by simp)]
 case binOp op t x y t'=>simp only[he x (by simp),he y (by simp)]
 case unOp op t x=>simp only[he x (by simp)]
 case convert src dst x=>simp only[he x (by simp)]
 case makeFunc fn first caps=>
  cases fn<;>try rfl
  simp only[f caps (λx q=>he x (by simp;exact .inr (by simpa using q)))]
 case makeSlice t l c=>simp only[he l (by simp),he c (by simp)]
 case slice t x lo hi mx=>
  have q:=he x (by simp);have B:oI e0 lo=oI e lo:=CX λy F=>he y (by subst F;simp)
  have z:oI e0 hi=oI e hi:=CX λy F=>he y (by subst F;simp)
  have g:=hs x (by simp)
  cases mx with
  |none=>
   simp only[q,B,z];split
   .split
    .split<;>try rfl
     rename_i E u j _ _
     rw[j]at g;simp only[g E (by simp[ai.refs,TV.refs,CV.refs])]
    .rfl
   .rfl
  |some mx=>
   cases lo with
   |some lo=>rfl
   |none=>
    cases hi with
    |none=>rfl
    |some hi=>simp only[q,he hi (by simp),he mx (by simp)]
 case fieldAddr t x k=>simp only[he x (by simp)]
 case field t x k=>simp only[he x (by simp)]
 case indexAddr t x i=>
  have g:=hs x (by simp);simp only[he x (by simp),he i (by simp)]
  split
  .split
   .split
    .rename_i E j
     rw[j]at g;simp only[g E (by simp[ai.refs,TV.refs,CV.refs])]
    .rfl
   .rfl
  .rfl
  .rfl
 case index t x i=>simp only[he x (by simp),he i (by simp)]
 case extract x k=>simp only[he x (by simp)]
 case call c=>
  obtain⟨A,d,r⟩:=c
  cases A<;>try rfl
  rename_i b
  simp only[Call.operands]at he hs;have H:d.toList.map (Y3 e0)=d.toList.map (Y3 e):=f d (λx q=>he x (by simpa using q))
  have G:KX L s0 b r (d.toList.map (Y3 e))=KX L s b r (d.toList.map (Y3 e)):=Z8x λx q=>by
   grind
  simp only[H,G]
def Bm:ai->Bool
 |.v (.c (.pte _ _ _ _))=>true
 |_=>false
def Xk(e:U5)(o:Oper):Bool:=
 match o.op with
 |.binOp op _ _ _ _=>match op with
  |.add|.sub|.mul|.quo|.rem|.shl|.shr=>true
  |_=>false
 |.unOp op _ _=>match op with
  |.neg=>true
  |_=>false
 |.convert _ _ _=>true
 |.load _ x=>Bm (Y3 e x)
 |.store _ x _=>Bm (Y3 e x)
 |.slice _ _ _ _ _=>true
 |.indexAddr _ _ _=>true
 |.makeSlice _ _ _=>true
 |.call {callee:=.builtin .append,..}=>true
 |_=>false
theorem Z5K(h:Xk e o=false)(hr:ZD L m e s o=some r):r.cond:=by
 unfold Xk at h;unfold ZD at hr
 split at hr
 case h_1=>cases hr;trivial
 case h_2=>
  split at hr
  .cases hr;trivial
  .split at hr
   .split at hr
    .cases hr;trivial
    .cases hr
   .cases hr
  .cases hr
 case h_3=>split at hr<;>first|(cases hr;done)|(cases hr;trivial)
 case h_4=>split at hr<;>first|(cases hr;done)|(cases hr;trivial)
 case h_5=>split at hr<;>first|(cases hr;done)|(cases hr;trivial)
 case h_6=>
  split at hr
  .split at hr
   .split at hr<;>first|(cases hr;done)|(cases hr;trivial)
   .cases hr
  .split at hr
   .split at hr<;>first|(cases hr;done)|(cases hr;trivial)
   .cases hr
  .cases hr
 case h_7=>
  split at hr
  .split at hr
   .split at hr
    .split at hr
     .split at hr
      .split at hr<;>first|(cases hr;done)|(cases hr;trivial)
      .cases hr
     .cases hr
    .cases hr
   .cases hr
  .cases hr
 case h_8 t x hop=>
  rw[hop]at h;simp only at h
  split at hr
  .split at hr
   .rename_i j c g
    split at hr
    .cases hr
     unfold rd at g;split at g
     .split at g
      .split at g<;>first|(cases g;done)|(cases g;trivial)
      .cases g
     .split at g<;>first|(cases g;done)|(cases g;trivial)
     .rename_i i;rw[i]at h;simp[Bm]at h
     .cases g
    .cases hr
   .cases hr
  .cases hr
 case h_9 t x y hop=>
  rw[hop]at h;simp only at h
  split at hr
  .split at hr
   .unfold wr at hr
    split at hr
    .split at hr
     .split at hr<;>first|(cases hr;done)|(cases hr;trivial)
     .cases hr
    .rename_i i;rw[i]at h;simp[Bm]at h
    .cases hr
   .cases hr
  .cases hr
 case h_10=>split at hr<;>first|(cases hr;done)|(cases hr;trivial)
 case h_11 op t x y t' hop=>
  rw[hop]at h;unfold XK at hr
  split at hr
  .split at hr
   .simp at h
   .simp at h
   .split at hr
    .split at hr<;>first|(cases hr;done)|(simp at h;done)|(cases hr;trivial)
    .cases hr
  .cases hr
 case h_12 op t x hop=>
  rw[hop]at h;unfold qi at hr
  split at hr
  .cases hr;trivial
  .simp at h
  .cases hr
 case h_13 hop=>rw[hop]at h;simp at h
 case h_14=>
  split at hr
  .split at hr<;>first|(cases hr;done)|(cases hr;trivial)
  .cases hr
 case h_15 hop=>rw[hop]at h;simp at h
 case h_16 hop=>rw[hop]at h;simp at h
 case h_17=>
  split at hr
  .split at hr
   .split at hr
    .split at hr
     .cases hr
     .split at hr
      .cases hr;trivial
      .cases hr;trivial
      .split at hr<;>first|(cases hr;done)|(cases hr;trivial)
      .cases hr
    .cases hr
   .cases hr
  .cases hr
 case h_18=>
  split at hr
  .split at hr
   .split at hr
    .split at hr
     .split at hr<;>first|(cases hr;done)|(cases hr;trivial)
     .cases hr
    .cases hr
   .cases hr
  .cases hr
 case h_19 hop=>rw[hop]at h;simp at h
 case h_20=>
  split at hr
  .split at hr
   .split at hr
    .split at hr<;>first|(cases hr;done)|(cases hr;trivial)
    .cases hr
   .cases hr
  .cases hr
 case h_21 hop=>rw[hop]at h;simp at h
 case h_22=>
  split at hr
  .split at hr<;>first|(cases hr;done)|(cases hr;trivial)
  .cases hr
 case h_23 b args tys hop=>
  rw[hop]at h;split at hr
  .rename_i k d f
   unfold KX at f;split at f
   .split at f
    .split at f
     .split at f
      .cases f;simp only at hr;cases hr;trivial
      .cases f
     .cases f;simp only at hr;cases hr;trivial
     .split at f
      .cases f;simp only at hr;cases hr;trivial
      .cases f
     .cases f
    .cases f
   .cases f;simp only at hr;cases hr;trivial
   .cases f;simp only at hr;cases hr;trivial
   .simp at h
   .cases f
  .cases hr
 case h_24=>cases hr
inductive dH where
 |s
 |m
 |w (v:ai)
 |k (f:Array Oper->Oper->U5->eJ)
def Qs(o:Oper):υ:=o.op.operands.toList.filterMap λ|.tmp t=>some t|_=>none
def WA(e:U5)(o:Oper):υ:=o.op.operands.toList.flatMap λx=>(Y3 e x).refs
def Qk(ops:Array Oper)(o:Oper):υ:=
 match o.guard with
 |some (j,_)=>((ops[j]?).bind (·.dst)).toList
 |none=>[]
def Ze(ops:Array Oper)(e:U5)(o:Oper):π:=
 match o.guard with
 |none=>some true
 |some (j,want)=>match (ops[j]?).bind (·.dst)with
  |some d=>match e d with
   |.v (.c (.d (.bool b)))=>some (b==want)
   |.t []=>some false
   |_=>none
  |none=>none
def SR.l(r:SR)(d:Option Tmp):List (Nat×Option Obj):=
 (match r.new,d with|some o,some d=>[(d,some o)]|_,_=>[])++((match r.upd with|some (k,o)=>[(k,some o)]|none=>[])++r.del.map λi=>(i,none))
def SR.nw(r:SR)(d:Option Tmp):υ:=match r.new,d with|some _,some d=>[d]|_,_=>[]
def Xu(ops:Array Oper)(o:Oper)(e:U5)(r:SR)(v:ai):eJ:= {rd:=Qs o++Qk ops o,ids:=WA e o,v:=v,l:=r.l o.dst,news:=r.nw o.dst}
def Rh(o:Oper):Bool:=match o.op with
 |.move _|.assign _|.pick _ _ _|.extract _ _|.field _ _ _=>true
 |_=>false
def Xt(ops:Array Oper)(o:Oper)(e:U5)(r:SR)(v:ai):eJ:= {rd:=Qs o++Qk ops o,ids:=if Rh o then[]else WA e o,v:=v,l:=r.l o.dst,news:=r.nw o.dst}
def LG(ops:Array Oper)(o:Oper):eJ:= {rd:=Qk ops o,ids:=[],v:=.t [],l:=[],news:=[]}
def Vi(L:dj)(ops:Array Oper)(o:Oper)(d:dH)(e:U5)(s:U8):eJ:=
 match Ze ops e o,d with
 |_,.k f=>f ops o e
 |some true,.s=>match ZD L false e s o with|some r=>Xt ops o e r r.v|none=>default
 |some true,.m=>match ZD L true e s o with|some r=>Xt ops o e r r.v|none=>default
 |some true,.w v=>match ZD L false e s o with|some r=>Xt ops o e r v|none=>default
 |_,_=>LG ops o
def Z5(x y:ai):Prop:=(∀w X η C v,aQ w X η C v x->aQ w X η C v y)/\∀i∈y.refs,i∈x.refs
def RA(b:Bool)(c rest:Prop):Prop:=match b with|true=>c/\rest|false=>rest
def cR(P:Program)(C:da)(nt:Nat)(L:dj)(ops:Array Oper)(o:Oper)(d:dH)(e:U5)(s:U8)(rest:Prop):Prop:=
 match Ze ops e o,d with
 |_,.k f=>WE P C nt ops o (f ops o e) e s/\rest
 |some true,.s=>match ZD L false e s o with|some r=>RA (Xk e o) r.cond rest|none=>False
 |some true,.m=>match ZD L true e s o with|some r=>RA (Xk e o) r.cond rest|none=>False
 |some true,.w v=>match ZD L false e s o with|some r=>RA (Xk e o) r.cond (Z5 r.v v/\rest)|none=>False
 |some false,.s=>rest
 |_,_=>False
def QM(nt:Nat)(o:Oper):Bool:=
 (match o.dst with|some d=>decide (d<nt)|none=>true)&&(match o.op with|.store _ _ _=>o.dst.isNone|_=>true)
section
variable (P:Program)(C:da)(nt:Nat)(L:dj)(ops:Array Oper)
def VW:List Oper->List dH->U5->U8->List eJ
 |o::os,d::ds,e,s=>let f:=Vi L ops o d e s;f::VW os ds (ZN o.dst f.v e) (ZR f.l s)
 |_,_,_,_=>[]
def KT:List Oper->List dH->U5->U8->Prop
 |o::os,d::ds,e,s=>cR P C nt L ops o d e s (KT os ds (ZN o.dst (Vi L ops o d e s).v e) (ZR (Vi L ops o d e s).l s))
 |[],[],_,_=>True
 |_,_,_,_=>False
end
theorem zH(r:SR)(d:Option Tmp)(s:U8):ZR (r.l d) s=r.sto d s:=by
 have c:∀(l:υ) (i:Nat),(l.map λi=>(i,(none:Option Obj))).lookup i=if l.contains i then some none else none:=by
  intro l i
  induction l with
  |nil=>rfl
  |cons x l ih=>
   simp only[eP,iw,List.contains_cons]
   by_cases hx:i=x
   .subst hx;simp
   .have:(i==x)=false:=by simpa using hx
    simp only[this,iP];exact ih
 funext i
 unfold ZR SR.sto SR.l;rw[nR,nR,c]
 cases hn:r.new with
 |none=>
  cases hu:r.upd with
  |none=>by_cases hc:i∈r.del<;>simp[hc]
  |some ko=>
   obtain⟨k,o⟩:=ko
   by_cases hk:i=k
   .subst hk;simp
   .have:(i==k)=false:=by simpa using hk
    by_cases hc:i∈r.del<;>simp[iw,this,hk,hc]
 |some o=>
  cases d with
  |none=>
   cases hu:r.upd with
   |none=>by_cases hc:i∈r.del<;>simp[hc]
   |some ko=>
    obtain⟨k,o⟩:=ko
    by_cases hk:i=k
    .subst hk;simp
    .have:(i==k)=false:=by simpa using hk
     by_cases hc:i∈r.del<;>simp[iw,this,hk,hc]
  |some d=>
   by_cases hd:i=d
   .subst hd;simp
   .have b:(i==d)=false:=by simpa using hd
    cases hu:r.upd with
    |none=>by_cases hc:i∈r.del<;>simp[iw,b,hd,hc]
    |some ko=>
     obtain⟨k,o⟩:=ko
     by_cases hk:i=k
     .subst hk;simp[iw,b,hd]
     .have:(i==k)=false:=by simpa using hk
      by_cases hc:i∈r.del<;>simp[iw,b,hd,this,hk,hc]
theorem zI(r:SR)(d:Option Tmp)(R:ξ):∀i,r.rng d R i->R i\/i∈r.nw d:=by
 intro i b;rcases b with b|⟨c,g⟩
 .exact .inl b
 .right
  obtain⟨o,f⟩:=dS.1 c;simp[SR.nw,f,g]
section
variable {ops:Array Oper}
theorem Q7Q(h:aQ w X η C v (.t [])):v=.tuple #[]:=by
 cases h with|t us _ h _=>exact congrArg Value.tuple (Array.size_eq_zero_iff.1 h)
theorem UE{R:ξ}(h:aK C nt R η e0 s a w)(hg:∀ t ∈ Qk ops o,e0 t=e t){b:Bool}(hb:Ze ops e o=some b):
  Region.wanted o (yielded ops a.tmps)=b:=by
 unfold Ze at hb;unfold Region.wanted
 split at hb
 .rename_i c;rw[c];cases hb;rfl
 .rename_i j f c
  rw[c];split at hb
  .rename_i d p
   split at hb
   .rename_i u i
    cases hb
    have q:e0 d=e d:=hg d (by simp[Qk,c,p]);have m:=h.ev d
    rw[q,i]at m;have ev:=BK m
    have n:d<a.tmps.size:=by
     rcases eK d a.tmps.size with g|g
     .exact g
     .simp [g,undef]at ev
    have k:a.tmps[d]?=some (.bool u):=by
     rw[iD n];simpa[n]using ev
    have r:yielded ops a.tmps j=some u:=by
     unfold yielded;rw[p];simp only[m5,k]
    simp only[r]
    cases u<;>cases f<;>rfl
   .rename_i i
    cases hb
    have q:e0 d=e d:=hg d (by simp[Qk,c,p]);have m:=h.ev d
    rw[q,i]at m;have ev:=Q7Q m
    have r:yielded ops a.tmps j=none:=by
     unfold yielded;rw[p];simp only[m5]
     rcases eK d a.tmps.size with g|g
     .rw [iD g]
      have v : a.tmps[d]=.tuple #[]:=by simpa[g,Array.getD]using ev
      rw[v]
     .rw [pu g]
    simp only[r]
    cases f<;>rfl
   .cases hb
  .cases hb
theorem Z8n(m:Bool)(o:Oper)(he:∀x∈o.op.operands.toList,Y3 e0 x=Y3 e x)(ha:Rh o=true):ZD L m e0 s0 o=ZD L m e s o:=by
 unfold Rh at ha;unfold ZD
 cases ho:o.op<;>simp only[ho,Op.operands]at he ha<;>first|(cases ha;done)|skip
 case move x=>simp only[he x (by simp)]
 case assign x=>simp only[he x (by simp)]
 case pick c a b=>simp only[he c (by simp),he a (by simp),he b (by simp)]
 case field t x k=>simp only[he x (by simp)]
 case extract x k=>simp only[he x (by simp)]
theorem zG(hL:Qa P L)(hdo:QM nt o=true)(hr:ZD L m e s o=some r)(hc:r.cond)(hg:Ze ops e o=some true){v:ai}(hv:Z5 r.v v):
  WE P C nt ops o (Xt ops o e r v) e s:=by
 intro R η e0 s0 a w p q F h K Q T;have k:∀x∈o.op.operands.toList,Y3 e0 x=Y3 e x:=by
  intro x k
  cases x with
  |tmp t=>exact p t (dv.2 (.inl (mG.2 ⟨_,k,rfl⟩)))
  |const v=>rfl
  |global g=>rfl
  |func f=>rfl
 have A:ZD L m e0 s0 o=some r:=by
  rcases Bool.eq_false_or_eq_true (Rh o)with I|I
  .rw [Z8n m o k I];exact hr
  .have D:∀ x ∈ o.op.operands.toList,∀ i ∈ (Y3 e x).refs,s0 i=s i:=fun x k i j=>q i (by
    show i∈if Rh o=true then[]else WA e o;rw[I];exact eE.2 ⟨x,k,j⟩)
   rw[uL m o k D];exact hr
 have H:∀x,o.dst=some x->x<nt:=by
  intro x k;simp only[QM,k,dc,dT]at hdo
  exact hdo.1
 have B:∀t x y,o.op=.store t x y->o.dst=none:=by
  intro t x y G;simp only[QM,G,dc]at hdo
  simpa using hdo.2
 have S:=UE (e:=e) h (λt N=>p t (dv.2 (.inr N))) hg;rw[av S]
 have u:=tM hL h m o H A hc (λd n E=>F d (by
  obtain⟨U,J⟩:=dS.1 E;simp[Xt,SR.nw,J,n])) B
 refine u.wp λη' O w' M=>T η' O w' ?_
 have b:=M.wider (zI r o.dst R);have z:ZR (Xt ops o e r v).l s0=r.sto o.dst s0:=zH r o.dst s0
 rw[z];have E:(Xt ops o e r v).news=r.nw o.dst:=rfl
 rw[E];refine⟨b.ok,b.df,b.sz,λt=>?_,λt i j=>?_,b.st,b.sr,b.ds,b.ow,b.fr,b.pn⟩
 .have c:=b.ev t
  unfold ZN;unfold SR.env at c
  cases n:o.dst with
  |none=>rw[n]at c;exact c
  |some d=>
   rw[n]at c;simp only at c⊢
   by_cases htd:t=d
   .rw [av htd]at c⊢;exact hv.1 _ _ _ _ _ c
   .rw [an htd]at c⊢;exact c
 .have c:=b.er t
  unfold ZN at j;unfold SR.env at c
  cases n:o.dst with
  |none=>rw[n]at c j;exact c i j
  |some d=>
   rw[n]at c j;simp only at c j
   by_cases htd:t=d
   .rw [av htd]at c j;exact c i (hv.2 i j)
   .rw [an htd]at c j;exact c i j
theorem Z5.refl(x:ai):Z5 x x:=⟨λ_ _ _ _ _ h=>h,λ_ h=>h⟩
theorem Q8S(hdo:QM nt o=true)(hg:Ze ops e o=some false):WE P C nt ops o (LG ops o) e s:=by
 intro R η e0 s0 a w d f n b K Q u;have r:=UE (e:=e) b (λt g=>d t g) hg
 rw[an (by rw[r];simp)];refine u η _ w ?_
 have c:∀x,o.dst=some x->x<nt:=by
  intro x q;simp only[QM,q,dc,dT]at hdo
  exact hdo.1
 have:=b.val o.dst c (.t []) undef λ_=>⟨.t #[] [] rfl (λj h=>absurd h (fy j)),by simp[ai.refs]⟩
 have k:ZR (LG ops o).l s0=s0:=by funext i;rfl
 rw[k];have p:ZN o.dst (LG ops o).v e0=SR.env {v:=.t []} o.dst e0:=rfl
 rw[p];exact this.wider λi m=>.inl m
theorem Nv(hL:Qa P L):∀(os:List Oper) (ds:List dH) (e:U5) (s:U8),(os.all (QM nt))=true->KT P C nt L ops os ds e s->Ro P C nt ops os (VW L ops os ds e s) e s:=by
 intro os
 induction os with
 |nil=>
  intro ds e s _ h
  cases ds with
  |nil=>trivial
  |cons d ds=>exact h.elim
 |cons o os ih=>
  intro ds e s j h
  cases ds with
  |nil=>exact h.elim
  |cons d ds=>
   simp only[m7,dc]at j;simp only[KT]at h
   simp only[VW,Ro];have q:WE P C nt ops o (Vi L ops o d e s) e s/\KT P C nt L ops os ds (ZN o.dst (Vi L ops o d e s).v e) (ZR (Vi L ops o d e s).l s):=by
    generalize hrest:KT P C nt L ops os ds (ZN o.dst (Vi L ops o d e s).v e) (ZR (Vi L ops o d e s).l s)=f at h;have i:∀{b:Bool} {c f:Prop},RA b c f->f:=by
     intro b c f p;cases b<;>first|exact p.2|exact p
    have g:∀{m:Bool} {r:SR} {f:Prop},ZD L m e s o=some r->RA (Xk e o) r.cond f->r.cond:=by
     intro m r f n p
     cases hb:Xk e o with
     |true=>rw[hb]at p;exact p.1
     |false=>exact Z5K hb n
    unfold cR at h;unfold Vi
    split at h
    .exact ⟨by split<;>first|exact h.1|contradiction|(rename_i u t;cases t;exact h.1),h.2⟩
    .rename_i k
     split at h
     .rename_i r n
      simp only[k];exact⟨zG hL j.1 n (g n h) k (Z5.refl _),i h⟩
     .exact h.elim
    .rename_i k
     split at h
     .rename_i r n
      simp only[k];exact⟨zG hL j.1 n (g n h) k (Z5.refl _),i h⟩
     .exact h.elim
    .rename_i v k
     split at h
     .rename_i r n
      simp only[k];exact⟨zG hL j.1 n (g n h) k (i h).1,(i h).2⟩
     .exact h.elim
    .rename_i k
     simp only[k];exact⟨Q8S j.1 k,h⟩
    .exact h.elim
   exact⟨q.1,ih ds _ _ j.2 q.2⟩
end
def lk(E:Γ):U5:=λt=>(E.lookup t).getD .any
def ls(S:ι):U8:=λi=>S.lookup i
def PE(E:Γ)(S:ι):υ:=E.flatMap (λp=>p.2.refs)++S.flatMap λp=>p.1::p.2.refs
def J2(o o' : Obj):Prop:=(∀w X η C v,db w X η C v o->db w X η C v o')/\o'.ro=o.ro/\∀i∈o'.refs,i∈o.refs
theorem J2.refl(o:Obj):J2 o o:=⟨λ_ _ _ _ _ h=>h,rfl,λ_ h=>h⟩
theorem Z5.any(x:ai):Z5 x .any:=⟨λ_ _ _ _ v _=>.any v,λ_ h=>by cases h⟩
theorem Z5.of_eq{x y:ai}(h:x=y):Z5 x y:=h ▸ Z5.refl x
def CV.ren(ρ:Nat->Nat):CV->CV
  |.own i=>.own (ρ i)
  |.ptr i o=>.ptr (ρ i) o
  |.pte i es ix o=>.pte (ρ i) es ix o
  |.sub i es lo n=>.sub (ρ i) es lo n
  |.clo f ids=>.clo f (ids.map ρ)
  |.ap i=>.ap (ρ i)
  |.cp i j=>.cp (ρ i) j
  |x=>x
def TV.ren(ρ:Nat->Nat):TV->TV
  |.c x=>.c (x.ren ρ)
  |.g xs=>.g (xs.map (CV.ren ρ))
def ai.ren(ρ:Nat->Nat):ai->ai
  |.any=>.any
  |.v x=>.v (x.ren ρ)
  |.t xs=>.t (xs.map (TV.ren ρ))
def Obj.ren(ρ:Nat->Nat):Obj->Obj
  |.box ro cs=>.box ro (cs.map (CV.ren ρ))
  |.exr refs p=>.exr (refs.map ρ) p
  |o=>o
theorem aX.unren{x:CV}(h:aX w X η C v (x.ren ρ)):aX w X (fun i=>η (ρ i)) C v x:=by
  cases x with
  |d x=>cases h with|d _ _ h=>exact .d _ _ h
  |fl n f=>cases h with|fl _ _ _ h=>exact .fl _ _ _ h
  |own i=>cases h with|own _ _ h h1=>exact .own _ i h h1
  |ptr i o=>cases h with|ptr _ _ _ h=>exact .ptr _ i o h
  |pte i es ix o=>cases h with|pte _ _ _ _ _ _ _ h=>exact .pte _ _ _ i es ix o h
  | sub i es lo n=>cases h with
    |sub b N cap _ _ _ _ h h1 h2=>exact .sub b N cap i es lo n h h1 h2
    |subN ad ad' _ _ _ h=>exact .subN ad ad' _ i es h
  |elm cs=>cases h with|elm _ _ _ _ _ _ h1 h2 h3 h4=>exact .elm _ _ _ _ _ _ h1 h2 h3 h4
  |clo f ids=>cases h with|clo _ _ _ h=>exact .clo f ids _ (by rw[h,i8];rfl)
  |sem p=>cases h with|sem _ _ h h1=>exact .sem _ _ h h1
  |ap i=>cases h with|ap _ _ h h1=>exact .ap _ i h h1
  |bnd f cs=>cases h with|bnd _ _ _ h1 h2=>exact .bnd _ _ _ h1 h2
  |cp i j=>cases h with|cp _ _ _ _ h h1 h2=>exact .cp _ i j _ h h1 h2
theorem Qj.unren(h:Qj w X η C vs (cs.map (CV.ren ρ))):Qj w X (fun i=>η (ρ i)) C vs cs:=by
  refine⟨by simpa using h.1,λj b=>aX.unren (ρ:=ρ) ?_⟩;have:=h.2 j (by simpa using b)
  grind
theorem dy.unren{x:TV}(h:dy w X η C v (x.ren ρ)):dy w X (fun i=>η (ρ i)) C v x:=by
  cases x with
  |c x=>cases h with|c _ _ h=>exact .c _ _ h.unren
  |g xs=>cases h with|g _ _ h=>exact .g _ _ h.unren
theorem aQ.unren{x:ai}(h:aQ w X η C v (x.ren ρ)):aQ w X (fun i=>η (ρ i)) C v x:=by
  cases x with
  |any=>exact .any v
  |v x=>cases h with|v _ _ h=>exact .v _ _ h.unren
  | t xs=>
    cases h with
    | t us _ h1 h2=>
      refine .t us xs (by simpa using h1) λj b=>dy.unren (ρ:=ρ) ?_
      grind
theorem db.unren{o:Obj}(h:db w X η C v (o.ren ρ)):db w X (fun i=>η (ρ i)) C v o:=by
  cases o with
  |box ro cs=>cases h with|box b _ c e _ h1 h2=>exact .box b ro c e cs h1 h2.unren
  | arr es n f=>
    cases h with
    |nil ad _ _=>exact .nil ad _ _
    |arr b _ cap _ c e _ h1 h2 h3 h4 h5 h6 h7=>exact .arr b _ cap _ c e _ h1 h2 h3 h4 h5 h6 h7
  |ext p=>cases h with|ext _ _ h1 h2 h3=>exact .ext _ _ h1 h2 h3
  | exr refs p=>
    cases h with|exr _ _ _ h1 h2 h3=>
    rw[i8]at h1 h2;exact .exr _ refs p h1 h2 h3
theorem qs(o:Obj):(o.ren ρ).ro=o.ro:=by cases o<;>rfl
theorem aK.conv{R:ξ}{e': U5}(h:aK C nt R η e s a w)(ρ:Nat->Nat)(he:∀ t,Z5 (e t) ((e' t).ren ρ))(hs:∀ i o',s' i=some o' -> ∃ o,s (ρ i)=some o/\J2 o (o'.ren ρ))(hinj:∀ i j,s' i≠none->s' j≠none->ρ i=ρ j->i=j)(hR:∀ t i,i ∈ (e' t).refs->R' i)(hR2:∀ i o',s' i=some o' -> R' i/\∀ j ∈ o'.refs,R' j)(hpin:∀ i,C.pin i≠none->ρ i=i/\R' i):
    aK C nt R' (λi=>η (ρ i)) e' s' a w:=by
  have u:QP w w (XS C s η) (XS C s' fun i=>η (ρ i)):=by
    intro b y H;refine⟨rfl,λn=>H ?_⟩
    rcases n with G|⟨i,o',c,p⟩
    . exact .inl G
    . obtain ⟨o,f,_⟩:=hs i o' c
      exact .inr ⟨ρ i,o,f,p⟩
  refine⟨h.ok,h.df,h.sz,λt=>?_,hR,λi o' c=>?_,hR2,λi j b c x q r=>?_,λi o' b c y=>?_,h.fr,λi v c=>?_⟩
  . exact aQ.unren (((he t).1 _ _ _ _ _ (h.ev t)).mono u (λ_ _=>rfl))
  . obtain ⟨o,f,d⟩:=hs i o' c
    exact db.unren ((d.1 _ _ _ _ _ (h.st _ o f)).mono u (λ_ _=>rfl) (λ_ _=>rfl))
  . obtain ⟨E,m⟩:=Option.ne_none_iff_exists'.1 c
    obtain⟨B,k⟩:=dS.1 x;obtain⟨F,A,_⟩:=hs i E m
    obtain⟨D,z,_⟩:=hs j B k;exact hinj i j c x (h.ds _ _ b (by rw[A];simp) (by rw[z];simp) q r)
  . obtain ⟨o,f,d⟩:=hs i o' c
    have:=h.ow _ o b f y
    have g:o'.ro=o.ro:=by rw[<-d.2.1,qs]
    rw[g];exact this
  . have:=hpin i (by rw [c];simp)
    exact⟨by show η (ρ i)=v;rw[this.1];exact(h.pn i v c).1,this.2⟩
def J1(l:List (Nat×Nat))(i:Nat):Nat:=(l.lookup i).getD i
theorem Bc{t:Nat}:lk E t=.any\/(t,lk E t) ∈ E:=by
  unfold lk
  cases h:E.lookup t with
  |none=>exact .inl rfl
  | some x=>
    right
    obtain⟨d,c,b,_⟩:=ll.1 h;rw[b];simp
theorem y6{i:Nat}{o:Obj}(h:ls S i=some o):(i,o) ∈ S:=by
  obtain⟨d,c,b,_⟩:=ll.1 h;rw[b];simp
def Yr:υ->Bool
  |[]=>true
  |x::r=> !r.contains x&&Yr r
theorem Up{l:υ}(h:Yr l=true):l.Nodup:=by
  induction l with
  |nil=>exact List.nodup_nil
  |cons x r ih=>simp[Yr]at h;exact mB.2 ⟨h.1,ih h.2⟩
theorem FJ(h:(S.map fun p=>ρ p.1).Nodup){i:Nat}(hi:ls S i≠none)(hj:ls S j≠none)(hij:ρ i=ρ j):i=j:=by
  obtain⟨n,c⟩:=dS.1 hi;obtain⟨o,b⟩:=dS.1 hj
  have d:=y6 c;have k:=y6 b
  rcases Nat.decEq i j with g|f
  . exfalso
    obtain⟨q,m,rfl⟩:=lR d
    grind
  . exact f
def Kn(C:da)(nt:Nat)(E:Γ)(S:ι)(K:Act->World->Prop):Prop:=
  ∀R η a w,aK C nt R η (lk E) (ls S) a w->K a w
def AW(P:Program)(C:da)(nt:Nat)(c:Code)(E:Γ)(S:ι)(Q:Exit->Act->World->Prop):Prop:=Kn C nt E S (λa w=>c.wp P Q a w)
def pinsB(C:da)(ρ:Nat->Nat):Prop:=∀i,C.pin i≠none->ρ i=i
theorem aK.lit{R:ξ}(h:aK C nt R η e s a w)(hpin:pinsB C ρ)(hE:∀ p ∈ E,Z5 (e p.1) (p.2.ren ρ))(hS:∀ p ∈ S,∃ o,s (ρ p.1)=some o/\J2 o (p.2.ren ρ))(hinj:(S.map fun p=>ρ p.1).Nodup):
    aK C nt (λi=>i∈PE E S\/C.pin i≠none) (λi=>η (ρ i)) (lk E) (ls S) a w:=by
  refine h.conv ρ (λt=>?_) (λi g b=>hS _ (y6 b)) (λi j b d f=>FJ hinj b d f) (λt i b=>.inl ?_) (λi g b=>⟨.inl ?_,λj d=>.inl ?_⟩) (λi b=>⟨hpin i b,.inr b⟩)
  . rcases Bc (E:=E) (t:=t) with c|c
    . rw[c];exact Z5.any _
    . exact hE _ c
  . rcases Bc (E:=E) (t:=t) with c|c
    . rw[c]at b;cases b
    . exact dv.2 (.inl (eE.2 ⟨_,c,b⟩))
  . exact dv.2 (.inr (eE.2 ⟨_,y6 b,dZ⟩))
  . exact dv.2 (.inr (eE.2 ⟨_,y6 b,eB _ d⟩))
theorem aK.narrow{R:ξ}(h:aK C nt R η (lk E) (ls S) a w):
    aK C nt (λi=>i∈PE E S\/C.pin i≠none) η (lk E) (ls S) a w:=by
  refine⟨h.ok,h.df,h.sz,h.ev,λt i b=>.inl ?_,h.st,λi o b=>⟨.inl ?_,λj d=>.inl ?_⟩,h.ds,h.ow,h.fr,λi v b=>⟨(h.pn i v b).1,.inr (by rw[b];simp)⟩⟩
  . rcases Bc (E:=E) (t:=t) with c|c
    . rw[c]at b;cases b
    . exact dv.2 (.inl (eE.2 ⟨_,c,b⟩))
  . exact dv.2 (.inr (eE.2 ⟨_,y6 b,dZ⟩))
  . exact dv.2 (.inr (eE.2 ⟨_,y6 b,eB _ d⟩))
theorem Z9s(ρ:Nat->Nat)(hpin:pinsB C ρ)(hE:∀p∈E',Z5 (lk E p.1) (p.2.ren ρ))(hS:∀p∈S',∃o,ls S (ρ p.1)=some o/\J2 o (p.2.ren ρ))(hinj:(S'.map λp=>ρ p.1).Nodup)(h:Kn C nt E' S' K):Kn C nt E S K:=λR η a w b=>h _ _ a w (b.lit hpin hE hS hinj)
theorem JC{α β:Type}{l:List α}{f g:α->β}(h:l.map f=l.map g):∀ x ∈ l,f x=g x:=by
  induction l with
  |nil=>intro x b;cases b
  | cons y r ih=>
    grind
theorem Z9l(ρ:List (Nat×Nat))(hpin:pinsB C (J1 ρ))(hE:E'.map (fun p=>lk E p.1)=E'.map (fun p=>p.2.ren (J1 ρ)))(hS:S'.map (fun p=>ls S (J1 ρ p.1))=S'.map (fun p=>some (p.2.ren (J1 ρ))))(hinj:Yr (S'.map fun p=>J1 ρ p.1)=true)(h:Kn C nt E' S' K):Kn C nt E S K:=
  Z9s (J1 ρ) hpin (λp b=>Z5.of_eq (JC hE p b)) (λp b=>⟨_,JC hS p b,J2.refl _⟩) (Up hinj) h
theorem jh(x:CV):x.ren (λi=>i)=x:=by cases x<;>simp[CV.ren]
theorem tk(x:TV):x.ren (fun i=>i)=x:=by
  cases x with
  |c x=>simp[TV.ren,jh]
  | g xs=>
    simp only[TV.ren];congr 1;conv=>rhs;rw[<-nX xs]
    exact iT λy _=>jh y
theorem RB(x:ai):x.ren (fun i=>i)=x:=by
  cases x with
  |any=>rfl
  |v x=>simp[ai.ren,tk]
  | t xs=>
    simp only[ai.ren];congr 1;conv=>rhs;rw[<-nX xs]
    exact iT λy _=>tk y
theorem Rs(o:Obj):o.ren (fun i=>i)=o:=by
  cases o with
  | box ro cs=>
    simp only[Obj.ren];congr 1;conv=>rhs;rw[<-nX cs]
    exact iT λy _=>jh y
  |arr es n f=>rfl
  |ext p=>rfl
  |exr refs p=>simp[Obj.ren]
theorem Z9x{t:Nat}{x y:ai}(hle:Z5 x y)(h:Kn C nt ((t,y)::E) S K):Kn C nt ((t,x)::E) S K:=by
  intro R η a w d;have c:∀ u,Z5 (lk ((t,x)::E) u) (lk ((t,y)::E) u):=by
    intro u;unfold lk
    rw[iw,iw]
    cases hut:u==t with
    |true=>exact hle
    |false=>exact Z5.refl _
  refine h R (λi=>η i) a w (d.conv (λi=>i) (λu=>by rw[RB];exact c u) (λi x b=>⟨x,b,by rw[Rs];exact J2.refl _⟩) (λi j b k f=>f) (λu i b=>d.er u i ((c u).2 i b)) d.sr (λi b=>?_));obtain⟨v,g⟩:=dS.1 b
  exact⟨rfl,(d.pn i v g).2⟩
structure Fr (P:Program) (L:dj) (C:da) (pins:υ):Prop where
  mixed:P.follows .mixedOrders=true
  lay:Qa P L
  pin:∀i,C.pin i≠none->i∈pins
def LX(L:dj)(pins:υ)(nt:Nat)(ops:Array Oper)(draw:Bool)(ds:List dH)(E:Γ)(S:ι)(ρ:List (Nat×Nat))(S' : ι):Bool:=
  let F:=VW L ops ops.toList ds (lk E) (ls S)
  ops.toList.all (QM nt)&&Yr (YY F)&&(YY F).all (λn=> !(PE E S).contains n && !pins.contains n)&&(!draw||AM ops.toList F)&&Yr (S'.map λp=>J1 ρ p.1)&&pins.all λi=>J1 ρ i==i
theorem IE(Fm:Fr P L C pins){ops:Array Oper}(ds:List dH)(ρ:List (Nat×Nat))(hchk:LX L pins nt ops draw ds E S ρ S'=true)(hC:KT P C nt L ops ops.toList ds (lk E) (ls S))(he0:E'.map (fun p=>JH ops.toList (VW L ops ops.toList ds (lk E) (ls S)) (lk E) p.1)=E'.map (fun p=>p.2.ren (J1 ρ)))(hs0:S'.map (fun p=>JG (VW L ops ops.toList ds (lk E) (ls S)) (ls S) (J1 ρ p.1))=S'.map (fun p=>some (p.2.ren (J1 ρ))))(k:Kn C nt E' S' (Q .normal)):AW P C nt (.region id ops draw) E S Q:=by
  simp only[LX,dc]at hchk;obtain⟨⟨⟨⟨⟨Y,N⟩,M⟩,K⟩,c5⟩,T⟩:=hchk
  have b:=Nv (P:=P) (C:=C) (nt:=nt) (L:=L) (ops:=ops) Fm.lay ops.toList ds (lk E) (ls S) Y hC;generalize hF:VW L ops ops.toList ds (lk E) (ls S)=F at *
  have f:pinsB C (J1 ρ):=fun i g=>by
    have:=en.1 T i (Fm.pin i g)
    grind
  have q:=Up N;intro R η a w Z
  have d:=Z.narrow;have h:∀ n ∈ YY F,¬ (n ∈ PE E S\/C.pin n≠none):=by
    intro n I t;have:=en.1 M n I
    simp at this
    rcases t with t|t
    . grind
    . exact this.2 (Fm.pin n t)
  have m:∀ η' c w',aK C nt (fun i=>(i ∈ PE E S\/C.pin i≠none)\/i ∈ YY F) η' (JH ops.toList F (lk E)) (JG F (ls S)) c w' -> Q .normal c w':=fun η' c w' r =>
    k _ _ c w' (r.lit f (λp v=>Z5.of_eq (JC he0 p v)) (λp v=>⟨_,JC hs0 p v,J2.refl _⟩) (Up c5))
  cases draw with
  |false=>exact wp_region_list (NT ops.toList F _ η _ _ a w b q h d m)
  | true=>
    have A:AM ops.toList F=true:=by simpa using K
    obtain⟨W,G,D⟩:=Z7C ops.toList F ops.toList F [] [] A rfl rfl rfl (λk i U=>by simp at U);have x:=Z1l (P:=P) (C:=C) (nt:=nt) (ops:=ops) ops.toList F ops.toList F 0 (lk E) (ls S) (λj=>by rw[eH]) (λj _=>by rw[eH]) D b
    obtain⟨B,u,y⟩:=x;simp only[eH,List.range_zero,List.reverse_nil]at B u y
    refine wp_region_any Fm.mixed (Ot (R:=fun i=>i ∈ PE E S\/C.pin i≠none) (e0:=lk E) (s0:=ls S) D (fun j o e=>W j o e (Nat.zero_le _)) (fun i j oi H O J z=>G i j oi H O J z (Nat.zero_le _)) B q h (fun η' c w' r=>m η' c w' ?_)
      ops.size (Array.replicate ops.size false) [] η a _ (by simp) (λi g=>by simp[g]) (by simp) ⟨List.nodup_nil,λl1 k l2 V=>by simp at V⟩ (by simp) ?_)
    . have e2:JH ops.toList F (lk E)=hE ops.toList F (lk E) (List.range ops.size).reverse:=by rw [Array.length_toList] at u;exact u
      have e3:JG F (ls S)=hS F (ls S) (List.range ops.size).reverse:=by rw[mn]at y;exact y
      grind
    . exact d.drew.wider λi g=>.inl g
theorem B8{x y:Code}(h:AW P C nt x E S (Exit.then (y.wp P Q) Q)):AW P C nt (.seq x y) E S Q:=λR η a w b=>wp_seq (h R η a w b)
theorem Q4(h:Kn C nt E S (Q .normal)):AW P C nt .skip E S Q:=λR η a w b=>wp_skip (h R η a w b)
theorem VX(h:Kn C nt E S (Q .ret)):AW P C nt .ret E S Q:=λR η a w b=>wp_ret (h R η a w b)
theorem JS(h:Kn C nt E S (Q (.exit id))):AW P C nt (.exit id) E S Q:=λR η a w b=>wp_exit (h R η a w b)
theorem Y0j{c:Code}(h:AW P C nt c E S (Exit.inBlock id Q)):AW P C nt (.block id c) E S Q:=λR η a w b=>wp_block (h R η a w b)
theorem UC{t:Nat}{x y:Code}{b:Bool}(ht:b=true->AW P C nt x E S Q)(hf:b=false->AW P C nt y E S Q)(hb:lk E t=vb b:=by kernel_rfl):AW P C nt (.cond (.tmp t) x y) E S Q:=by
 intro R η a w c;have d:=c.ev t
 rw[hb]at d;have ev:a.eval (.tmp t)=.bool b:=BK d
 cases b with
 |true=>exact wp_cond_true ev (ht rfl R η a w c)
 |false=>exact nq ev (hf rfl R η a w c)
def Ex{σ:Type}(C:da)(nt:Nat)(I:σ->Prop)(E:σ->Γ)(S:σ->ι)(a:Act)(w:World):Prop:=∃z,I z/\∃R η,aK C nt R η (lk (E z)) (ls (S z)) a w
theorem Z9w{σ:Type}{I:σ->Prop}{E' : σ->Γ}{S' : σ->ι}(z:σ)(hz:I z):Kn C nt (E' z) (S' z) (Ex C nt I E' S'):=λR η _ _ b=>⟨z,hz,R,η,b⟩
theorem Nf{σ:Type}{c:Code}(I:σ->Prop)(μ:σ->Nat)(E' : σ->Γ)(S' : σ->ι)(round:∀ z,I z->AW P C nt c (E' z) (S' z) (Exit.then (Ex C nt (fun z'=>I z' /\ μ z' < μ z) E' S') Q))(z0:σ)(h0:I z0):
  AW P C nt (.loop c) (E' z0) (S' z0) Q:=by
 classical
 intro R η a w D
 let J:Act->World->Nat->Prop:=λa w n=>∃z,I z/\μ z=n/\∃R η,aK C nt R η (lk (E' z)) (ls (S' z)) a w
 let m:Act->World->Nat:=λa w=>if h:∃n,J a w n then h.choose else 0
 have o:∀(n:Nat) a w,J a w n->∃k,J a w k/\∀j,J a w j->k<=j:=by
  intro n
  induction n using Nat.strongRecOn with
  |_ n ih=>
   intro a w H;rcases ly (∃j,j<n/\J a w j)with ⟨j,y,b⟩|A
   .exact ih j y a w b
   all_goals grind
 let μ' : Act->World->Nat:=λa w=>if h:∃n,J a w n then(o h.choose a w h.choose_spec).choose else 0
 have q:∀a w,(∃n,J a w n)->J a w (μ' a w)/\∀j,J a w j->μ' a w<=j:=by
  intro a w r
  grind
 refine wp_loop (λa w=>∃n,J a w n) μ' ⟨_,z0,h0,rfl,R,η,D⟩ λa w r=>?_
 obtain⟨⟨z,B,p,F,η',f⟩,_⟩:=q a w r;refine Code.wp_mono (λe t u v=>?_) (round z B F η' a w f)
 cases e with
 |normal=>
  obtain⟨z',⟨d,g⟩,x,G,i⟩:=v;have b:J t u (μ z'):=⟨z',d,rfl,x,G,i⟩
  exact⟨⟨_,b⟩,Nat.lt_of_le_of_lt ((q t u ⟨_,b⟩).2 _ b) (by rw[<-p];exact g)⟩
 |_=>exact v
def Tz(L:dj)(e:U5)(s:U8):ResultVar->Option TV
 |.tmp t=>match e t with
  |.v x=>some x
  |_=>none
 |.cell a t=>match L t with
  |some ti=>match rd s ti.size (e a)with
   |some (cs,_)=>if Bm (e a)then none else match VJ ti.kind.agg cs with
    |some (.v x)=>some x
    |_=>none
   |none=>none
  |none=>none
def GA(L:dj)(e:U5)(s:U8):List ResultVar->Option (List TV)
 |[]=>some []
 |r::rs=>match Tz L e s r,GA L e s rs with
  |some x,some xs=>some (x::xs)
  |_,_=>none
def Jr(L:dj)(e:U5)(s:U8)(rs:List ResultVar):Option ai:=
 match rs,GA L e s rs with
 |[_],some [x]=>some (.v x)
 |[_],_=>none
 |_,some xs=>some (.t xs)
 |_,none=>none
def Tm(tmps:Ξ):ResultVar->Sem Value
 |.tmp t=>pure (tmps.getD t undef)
 |.cell a t=>do loadVar t (<-asAddr (tmps.getD a undef))
theorem Z1Q(hL:Qa P L){R:ξ}{η:Nat->Value}{e:U5}{s:U8}{a:Act}{w:World}(h:aK C nt R η e s a w){r:ResultVar}{x:TV}(hr:Tz L e s r=some x):
  ∃v,(Tm a.tmps r).run P w=.ok v w/\dy w (XS C s η) η C v x:=by
 cases r with
 |tmp t=>
  simp only[Tz]at hr;split at hr
  .rename_i y f
   cases hr
   have:=h.ev t
   rw[f]at this;refine⟨a.tmps.getD t undef,rfl,?_⟩
   generalize a.tmps.getD t undef=u at this
   cases this with
   |v _ _ hv=>exact hv
  .cases hr
 |cell a' t=>
  simp only[Tz]at hr;split at hr
  .rename_i o K
   split at hr
   .rename_i U c k
    split at hr
    .cases hr
    .rename_i p
     split at hr
     .rename_i y f
      cases hr
      have M:c:=by
       unfold rd at k;split at k
       .grind
       .grind
       .rename_i T;rw[T]at p;simp[Bm]at p
       .cases k
      obtain⟨i,d,z,B⟩:=hL t o K;obtain⟨b,m,A,V,fz,O,N,I,G,D,J⟩:=uU h k M (h.ev a')
      have F:o.kind.agg=false->o.size=1:=by
       intro n;rw[n]at f
       simp only[VJ]at f
       grind
      have q:=pU (P:=P) B N I F;refine⟨if o.kind.agg then .agg (Zx A m o.size).toArray else A.getD m undef,?_,?_⟩
      .simp only[Tm,eX,O,asAddr,fB,fh,q]
      .unfold VJ at f
       split at f
       .rename_i n
        cases f
        simp only[n,fJ];refine .g _ _ ⟨by simp[Zx,G],λj H=>?_⟩
        rw[G]at H;have:(Zx A m o.size).toArray.getD j undef=A.getD (m+j) undef:=by simp[Zx,H]
        grind
       .rename_i n
        split at f
        .cases f
         simp only[n,iS,fC];have:=D 0 (by rw[F n];exact lm)
         exact .c _ _ (by simpa using this)
        .cases f
     .cases hr
   .cases hr
  .cases hr
theorem Z1P(hL:Qa P L){R:ξ}{η:Nat->Value}{e:U5}{s:U8}{a:Act}{w:World}(h:aK C nt R η e s a w):∀ (rs:List ResultVar) (xs:List TV),GA L e s rs=some xs ->
  ∃vs:List Value,(rs.mapM (Tm a.tmps)).run P w=.ok vs w/\vs.length=xs.length/\∀j,j<xs.length->dy w (XS C s η) η C (vs.getD j undef) (xs.getD j (.c (.d .any))):=by
 intro rs
 induction rs with
 |nil=>intro xs b;cases b;exact⟨[],by simp,rfl,λj i=>by simp at i⟩
 |cons r rs ih=>
  intro xs b;simp only[GA]at b
  split at b
  .rename_i x f n g
   cases b
   obtain⟨v,o,p⟩:=Z1Q hL h n;obtain⟨vs,m,k,q⟩:=ih f g
   refine⟨v::vs,?_,by simp[k],λj i=>?_⟩
   .simp only[List.mapM_cons,eX,o,m,fh,fB]
   all_goals grind
  .cases b
theorem IU(hL:Qa P L){R:ξ}(h:aK C nt R η e s a w){x:ai}(hr:Jr L e s fn.results.toList=some x):
  ∃v,(results fn a.tmps).run P w=.ok v w/\aQ w (XS C s η) η C v x:=by
 have i:∀g,GA L e s fn.results.toList=some g->∃b:List Value,(results fn a.tmps).run P w=.ok (if h:b.toArray.size=1 then b.toArray[0]else .tuple b.toArray) w/\b.length=g.length/\∀j,j<g.length->dy w (XS C s η) η C (b.getD j undef) (g.getD j (.c (.d .any))):=by
  intro g f;obtain⟨b,n,k,m⟩:=Z1P hL h _ _ f
  refine⟨b,?_,k,m⟩;have o:results fn a.tmps=(do let b <-fn.results.mapM (Tm a.tmps);pure (if h:b.size=1 then b[0]else .tuple b)):=by
   unfold results;congr 1
  rw[o];simp only[eX,Array.mapM_eq_mapM_toList,Sem.run_map,n,fh,fB]
 unfold Jr at hr;split at hr
 .rename_i r F D f
  cases hr
  obtain⟨b,n,k,m⟩:=i _ f;refine⟨b.getD 0 undef,?_,.v _ _ (m 0 (by simp))⟩
  rw[n]
  cases b with
  |nil=>simp at k
  |cons v r=>cases r with
   |nil=>rfl
   |cons _ _=>simp at k
 .cases hr
 .skip
  rename_i g f _ u
  cases hr
  obtain⟨b,n,k,m⟩:=i _ f;refine⟨.tuple b.toArray,?_,.t _ _ (by simpa using k) (λj A=>by simpa[aY]using m j A)⟩
  rw[n];have p:∀(q:List ResultVar) (g:List TV),GA L e s q=some g->q.length=g.length:=by
   intro q
   induction q with
   |nil=>intro g h;cases h;rfl
   |cons r q ih=>
    intro g h;simp only[GA]at h
    grind
  have B:¬b.toArray.size=1:=by
   intro z;have y:b.length=1:=by simpa using z
   have:=p _ _ f
   rw[<-k,y]at this;obtain⟨r,hr⟩:=nu.1 this
   exact u r hr
  rw[dif_neg B]
 .cases hr
def Qh(S:ι)(w:World)(X:ξ)(η:Nat->Value):da where
 w0:=w
 D:=dV (ls S) η
 M:=λb=>∃i o,ls S i=some o/\o.ro=false/\b∈Y9 (η i)
 X:=X
 pin:=λi=>if(S.lookup i).isSome then some (η i)else none
structure eW (C:da) (r:ai) (S' : ι) (v:Value) (η' : Nat->Value) (w' : World):Prop where
 stp:aM C.M C.w0 w'
 res:aQ w' (XS C (ls S') η') η' C v r
 objs:∀i o,ls S' i=some o->db w' (XS C (ls S') η') η' C (η' i) o
 ds:∀i j b,ls S' i≠none->ls S' j≠none->b∈Y9 (η' i)->b∈Y9 (η' j)->i=j
 ow:∀i o b,ls S' i=some o->b∈Y9 (η' i)->(o.ro=true/\C.D b)\/C.M b\/C.w0.heap.size<=b
 pn:∀i v,C.pin i=some v->η' i=v
def J7(P:Program)(f:Nat)(args:List ai)(S:ι)(r:ai)(S' : ι):Prop:=
 ∀(w:World) (X:ξ) (η:Nat->Value) (vs:Ξ),XL w X->(∀b,dV (ls S) η b->X b) ->
  (∀i o,ls S i=some o->db w X η (Qh S w X η) (η i) o)->(∀i j b,ls S i≠none->ls S j≠none->b∈Y9 (η i)->b∈Y9 (η j)->i=j) ->
  vs.size=args.length->(∀j,j<args.length->aQ w X η (Qh S w X η) (vs.getD j undef) (args.getD j .any)) ->
  Calls P f vs w λe w'=>∃v η',e=.returned v/\eW (Qh S w X η) r S' v η' w'
def JN(args:List ai):Γ:=args.zipIdx.map λp=>(p.2,p.1)
def Wu(P:Program)(fn:Func)(C:da)(r:ai)(S' : ι):Exit->Act->World->Prop:=
 bodyPost P fn λe w'=>∃v η',e=.returned v/\eW C r S' v η' w'
theorem PT(h:∀b,dV (ls S) η b->X b):XS (Qh S w X η) (ls S) η=X:=by
 funext b
 apply propext;constructor
 .rintro (⟨c,_⟩|c)
  .exact c
  .exact h b c
 .intro c
  rcases ly (dV (ls S) η b)with d|d
  .exact .inr d
  .exact .inl ⟨c,d⟩
theorem wz(args:List ai)(t:Nat):lk (JN args) t=args.getD t .any:=by
 unfold lk JN;have b:∀(l:List ai) (k t:Nat),(((l.zipIdx k).map λp=>(p.2,p.1)).lookup t).getD .any=if t<k then .any else l.getD (t-k) .any:=by
  intro l
  induction l with
  |nil=>intro k t;simp
  |cons x l ih=>
   intro k t;simp only[mC,eP,iw]
   grind
 grind
theorem Z9Q(hm:P.follows .mixedOrders=true)(hL:Qa P L){f:Nat}{c:Code}(hf:P.funcs[f]?=some fn)(hb:fn.body=some c){r:ai}(hn0:Nat.ble args.length fn.ntmps=true)(h:∀C,Fr P L C (S.map (·.1))->AW P C fn.ntmps c (JN args) S (Wu P fn C r S')):J7 P f args S r S':=by
 have D:args.length<=fn.ntmps:=mJ hn0;intro w X η p q g n k x j
 have B:(Qh S w X η).Ok:=⟨λb ⟨i,o,h1,_,h2⟩=>⟨i,o,h1,h2⟩,λb hb=>g b hb,q.lt,q.gl⟩;refine calls_of_wp hf hb (h (Qh S w X η) ⟨hm,hL,λi d=>?_⟩ (λ_=>True) η _ w ⟨B,rfl,?_,λt=>?_,λ_ _ _=>trivial,λi o d=>?_,λ_ _ _=>⟨trivial,λ_ _=>trivial⟩,k,λi o b d m=>?_,aM.refl _ _,λi v d=>⟨?_,trivial⟩⟩)
 .simp only[Qh]at d
  split at d
  .rename_i z
   obtain⟨o,u⟩:=mu.1 z;obtain⟨G,F,y,_⟩:=ll.1 u
   rw[y];simp
  .exact absurd rfl d
 .simp;omega
 .rw [PT g,wz]
  by_cases ht:t<args.length
  .have A:(p++Array.replicate (fn.ntmps-p.size) undef).getD t undef=p.getD t undef:=by
    have:t<p.size:=by omega
    simp[this,io,hU]
   simp only[A];exact j t ht
  .rw [aY,iO (by omega)]
   exact .any _
 .rw [PT g];exact n i o d
 .cases hro:o.ro with
  |true=>exact .inl ⟨rfl,⟨i,o,d,m⟩⟩
  |false=>exact .inr (.inl ⟨i,o,d,hro,m⟩)
 .simp only[Qh]at d
  split at d
  .cases d;rfl
  .cases d
theorem P8(Fm:Fr P L C pins){r:ai}(hr:Jr L (lk E) (ls S) fn.results.toList=some r)(hS:S'.map (λp=>ls S p.1)=S'.map (λp=>some p.2)):Kn C nt E S (Wu P fn C r S' .ret):=by
 intro R η a w f;obtain⟨v,q,n⟩:=IU (P:=P) Fm.lay f hr
 have d:∀i o,ls S' i=some o->ls S i=some o:=λi o c=>JC hS (i,o) (y6 c)
 have m:QP w w (XS C (ls S) η) (XS C (ls S') η):=by
  intro b z x;refine⟨rfl,λh=>x ?_⟩
  rcases h with u|⟨i,o,c,k⟩
  .exact .inl u
  .exact .inr ⟨i,o,d i o c,k⟩
 have g:∀i,ls S' i≠none->ls S i≠none:=by
  intro i c;obtain⟨o,y⟩:=dS.1 c
  grind
 exact⟨f.df,v,q,v,η,rfl,f.fr,n.mono m (λ_ _=>rfl),λi o c=>(f.st i o (d i o c)).mono m (λ_ _=>rfl) (λ_ _=>rfl),
  λi j b c t=>f.ds i j b (g i c) (g j t),λi o b c=>f.ow i o b (d i o c),λi v c=>(f.pn i v c).1⟩
def RG:Value->CV
 |.int k n=>.d (.int k n)
 |.bool b=>.d (.bool b)
 |.string s=>.d (.str s)
 |.slice none 0 0=>.fl 0 λ_=>[]
 |_=>.d .any
def rl:TypeDesc->TK
 |.int k=>.int k
 |.bool=>.bool
 |.string=>.str
 |.slice e=>.slice e
 |.struct fs=>.struct (fs.toList.map λf=>(f.offset,f.type))
 |.array n e=>.array n e
 |_=>.other
def Fg(P:Program)(t:Nat):Option TI:=
 match P.info? t,P.underlying t with
 |some i,some d=>match i.zero with
  |some z=>if z.cells.toList.all Value.oneCell' then some ⟨rl d,i.size,i.bytes,z.cells.toList.map RG⟩else none
  |none=>none
 |_,_=>none
theorem js(h:v.oneCell'=true):aX w X η C v (RG v)/\(RG v).refs=[]:=by
 unfold RG;split
 .exact ⟨.d _ _ (.int _ _),rfl⟩
 .exact ⟨.d _ _ (.bool _),rfl⟩
 .exact ⟨.d _ _ (.str _),rfl⟩
 .exact ⟨.fl _ _ _ (.nil _ _ _),rfl⟩
 .exact ⟨.d _ _ (.any _ h),rfl⟩
theorem Z4F(P:Program):Qa P (Fg P):=by
 intro t q h;unfold Fg at h
 split at h
 .rename_i i d o g
  split at h
  .rename_i z n
   split at h
   .rename_i b
    cases h
    rw[en]at b;refine⟨i,d,z,o,g,rfl,rfl,n,λw X η C=>⟨by simp,λj m=>?_⟩,?_,?_⟩
    .have c : j<z.cells.size:=by simpa using m
     have f:z.cells[j]∈z.cells.toList:=by simp
     have:=(js (w:=w) (X:=X) (η:=η) (C:=C) (b _ f)).1
     simpa[aY,c]using this
    .rw [oF]
     intro x p;obtain⟨v,k,rfl⟩:=eF.1 p
     exact(js (w:=default) (X:=λ_=>False) (η:=λ_=>default) (C:=⟨default,λ_=>False,λ_=>False,λ_=>False,λ_=>none⟩) (b v k)).2
    .cases d<;>simp[rl,ZZ]
   .cases h
  .cases h
 .cases h
def UH(T:List (Nat×TI)):dj:=λt=>T.lookup t
theorem Q8I(h:T.map (λp=>Fg P p.1)=T.map (λp=>some p.2)):Qa P (UH T):=by
 intro t b d;obtain⟨g,f,c,_⟩:=ll.1 d
 exact Z4F P t b (JC h (t,b) (by rw[c];simp))
section
