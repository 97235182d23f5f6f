/- Abstract states over the model. -/
import Derived.Test.YtlhhgeknhlkakaaGreatDoorAl
import Derived.Orders
import Derived.Laws.AppendOwn
import Derived.Below
import Derived.MapKept
import Derived.IntWalk
import Derived.Laws.Tables
import Derived.Tactics
import Derived.KernelRfl
set_option linter.unusedVariables false
set_option linter.unusedSimpArgs false
namespace Go.Ab
noncomputable section
variable {w w':World}{v z:Value}{b j d n k off id es el nt:Nat}{a:Act}{c vs:Array Value}{η:Nat->Value}{t:TypeId}{i:TypeInfo}{o:Oper}{x y:Operand}{n':Int}{m:Bool}{del h pins:List Nat}{ops:List Oper}{fn:Func}
section
inductive DVal where
 |any
 |int (k:IntKind) (n:Int)
 |bool (b:Bool)
 |str (s:ByteArray)
 |lst (n:Nat) (f:Nat->List DVal)
 |mp (n:Nat) (ks:Nat->Int) (vs:Nat->DVal)
inductive CV where
 |d (x:DVal)
 |fl (n:Nat) (f:Nat->List DVal)
 |own (id:Nat)
 |ptr (id off:Nat)
 |pte (id es idx off:Nat)
 |sub (id es lo n:Nat)
 |elm (cs:List DVal)
 |clo (f:Nat) (ids:List Nat)
 |sem (p:World->(Nat->Prop)->(Nat->Prop)->Value->Prop)
 |ap (id:Nat)
 |bnd (f:Nat) (cs:List DVal)
 |cp (id j:Nat)
inductive TV where
 |c (x:CV)
 |g (xs:List CV)
inductive AVal where
 |any
 |v (x:TV)
 |t (xs:List TV)
inductive Obj where
 |box (ro:Bool) (cs:List CV)
 |arr (es n:Nat) (f:Nat->List DVal)
 |ext (p:World->(Nat->Prop)->Value->Prop)
 |exr (refs:List Nat) (p:World->(Nat->Prop)->List Value->Value->Prop)
abbrev U8:=Nat->AVal
abbrev J0:=Nat->Option Obj
structure Ctx where
 w0:World
 D:Nat->Prop
 M:Nat->Prop
 X:Nat->Prop
 pin:Nat->Option Value
inductive DRep (w:World) (X:Nat->Prop):Value->DVal->Prop
 |any (v:Value):v.oneCell'=true->DRep w X v .any
 |int (k:IntKind) (n:Int):DRep w X (.int k n) (.int k n)
 |bool (b:Bool):DRep w X (.bool b) (.bool b)
 |str (s:ByteArray):DRep w X (.string s) (.str s)
 |nil (a:Option Addr) (cap:Nat) (f:Nat->List DVal):DRep w X (.slice a 0 cap) (.lst 0 f)
 | lst (b off n cap:Nat) (c:Array Value) (e:TypeId) (fz:Nat×Nat) (f:Nat->List DVal) (es:Nat) :
   ¬X b->w.heap[b]?=some (.cells c e fz)->n<=cap->off+n*es<=c.size->(∀i,i<n->(f i).length=es) ->
   (∀i j,i<n->j<es->DRep w X (c.getD (off+(i*es+j)) undef) ((f i).getD j .any)) ->
   DRep w X (.slice (some ⟨b,off,none⟩) n cap) (.lst n f)
 | mp (b:Nat) (es:Array MapEntry) (clock n:Nat) (ks:Nat->Int) (Zd:Nat->Value) (vs:Nat->DVal):¬ X b->w.heap[b]?=some (.map es clock)->MapKept.Stamped es clock->es.size=n ->
   (∀i,i<n->∃bo,es[i]?=some ⟨.int .i64 (ks i),Zd i,bo⟩)->(∀i,i<n->DRep w X (Zd i) (vs i))->DRep w X (.map (some b)) (.mp n ks vs)
theorem DRep.one{X:Nat->Prop}{x:DVal}(h:DRep w X v x):v.oneCell'=true:=by
 cases h<;>first|assumption|rfl
theorem J8{o:Go.Obj}(h:w.heap[b]?=some o):b<w.heap.size:=
 (Qh3.1 h).1
structure Stp (Z:Nat->Prop) (w w' : World):Prop where
 os:w'.os=w.os
 tape:w'.tape=w.tape
 output:w'.output=w.output
 size:w.heap.size<=w'.heap.size
 block:∀b,b<w.heap.size->¬Z b->w'.heap[b]?=w.heap[b]?
 dr:w.drawn<=w'.drawn
theorem Stp.refl(Z:Nat->Prop)(w:World):Stp Z w w:=⟨rfl,rfl,rfl,Qb3 _,λ_ _ _=>rfl,Qb3 _⟩
theorem Stp.mono{Z Z' : Nat->Prop}(h:Stp Z w w')(hz:∀b,b<w.heap.size->Z b->Z' b):Stp Z' w w' :=
 ⟨h.os,h.tape,h.output,h.size,λb a d=>h.block b a λc=>d (hz b a c),h.dr⟩
theorem Stp.trans{Z:Nat->Prop}{a b c:World}(h:Stp Z a b)(k:Stp (λx=>Z x\/a.heap.size<=x) b c):Stp Z a c:=
 ⟨k.os.trans h.os,k.tape.trans h.tape,k.output.trans h.output,Qc9 h.size k.size,
  λx e f=>(k.block x (Qc4 e h.size) λd=>by rcases d with d|d;exact f d;omega).trans (h.block x e f),Qc9 h.dr k.dr⟩
theorem Stp.drew(Z:Nat->Prop)(w:World):Stp Z w {w with drawn:=w.drawn+1}:=⟨rfl,rfl,rfl,Qb3 _,λ_ _ _=>rfl,Qm4 _⟩
theorem Stp.alloc(Z:Nat->Prop)(w:World)(o:Go.Obj):Stp Z w {w with heap:=w.heap.push o} :=
 ⟨rfl,rfl,rfl,by simp,λb a _=>by show(w.heap.push o)[b]?=_;rw[Qk6,Qa1 (by omega)],Qb3 _⟩
theorem Stp.below{Z:Nat->Prop}(h:Stp Z w w')(B:Nat)(hB:B<=w.heap.size)(hZ:∀b,b<B->¬Z b):Go.RowKit.Below B w w' :=
 ⟨h.os,h.tape,h.output,h.size,λk a=>h.block k (Qc4 a hB) (hZ k a)⟩
theorem DRep.mono{X X' : Nat->Prop}{x:DVal}(h:DRep w X v x)(hk:∀b,b<w.heap.size->¬X b->w'.heap[b]?=w.heap[b]? /\ ¬X' b):DRep w' X' v x:=by
 induction h with
 |any v hv=>exact .any v hv
 |int k n=>exact .int k n
 |bool b=>exact .bool b
 |str s=>exact .str s
 |nil a cap f=>exact .nil a cap f
 |lst b off n cap c e fz f es hX hb hn ho hf _ ih=>
  have d:=hk b (J8 hb) hX;exact .lst b off n cap c e fz f es d.2 (d.1.trans hb) hn ho hf ih
 |mp b es clock n ks Zd vs hX hb h1 h2 h3 _ ih=>
  have d:=hk b (J8 hb) hX;exact .mp b es clock n ks Zd vs d.2 (d.1.trans hb) h1 h2 h3 ih
def Pa:Value->List Nat
 |.pointer (some a)=>[a.block]
 |.slice (some a) _ cap=>if cap=0 then[]else[a.block]
 |.map (some b)=>[b]
 |_=>[]
def V8:Value->List Nat
 |.pointer (some a)=>[a.block]
 |.slice (some a) _ cap=>if cap=0 then[]else[a.block]
 |.map (some b)=>[b]
 |.agg vs=>vs.toList.flatMap Pa
 |_=>[]
def QQ(w w' : World)(X X' : Nat->Prop):Prop:=∀b,b<w.heap.size->¬X b->w'.heap[b]?=w.heap[b]? /\ ¬X' b
def Ph(p:World->(Nat->Prop)->Value->Prop)(v:Value):Prop:=∀w w' X X',QQ w w' X X' -> (∀b∈V8 v,w'.heap[b]?=w.heap[b]?)->p w X v->p w' X' v
section
variable (w:World) (X:Nat->Prop) (η:Nat->Value) (C:Ctx)
inductive CRep:Value->CV->Prop
 |d (v:Value) (x:DVal):DRep w X v x->CRep v (.d x)
 |fl (a:Option Addr) (n:Nat) (f:Nat->List DVal):DRep w X (.slice a n n) (.lst n f)->CRep (.slice a n n) (.fl n f)
 |own (v:Value) (id:Nat):v=η id->v.oneCell'=true->CRep v (.own id)
 |ptr (b id off:Nat):η id=.pointer (some ⟨b,0,none⟩)->CRep (.pointer (some ⟨b,off,none⟩)) (.ptr id off)
 |pte (b n cap id es idx off:Nat):η id=.slice (some ⟨b,0,none⟩) n cap->CRep (.pointer (some ⟨b,idx*es+off,none⟩)) (.pte id es idx off)
 |sub (b N cap id es lo n:Nat):η id=.slice (some ⟨b,0,none⟩) N cap->lo+n<=N->lo<cap->CRep (.slice (some ⟨b,lo*es,none⟩) n (cap-lo)) (.sub id es lo n)
 |subN (ad ad' : Option Addr) (N id es:Nat):η id=.slice ad N N->CRep (.slice ad' 0 0) (.sub id es N 0)
 | elm (b off:Nat) (c:Array Value) (e:TypeId) (fz:Nat×Nat) (cs:List DVal):¬ X b->w.heap[b]?=some (.cells c e fz)->off+cs.length<=c.size ->
   (∀j,j<cs.length->DRep w X (c.getD (off+j) undef) (cs.getD j .any))->CRep (.pointer (some ⟨b,off,none⟩)) (.elm cs)
 |clo (f:Nat) (ids:List Nat) (vs:Array Value):vs=(ids.map η).toArray->CRep (.func (.func f) #[] vs) (.clo f ids)
 |sem (v:Value) (p:World->(Nat->Prop)->(Nat->Prop)->Value->Prop):p C.w0 C.D C.X v->v.oneCell'=true->CRep v (.sem p)
 |ap (v:Value) (id:Nat):(η id=v\/η id=.tuple #[v]\/∃l,η id=.agg (v::l).toArray)->v.oneCell'=true->CRep v (.ap id)
 |bnd (f:Nat) (vs:Array Value) (cs:List DVal):vs.size=cs.length->(∀j,j<cs.length->DRep w X (vs.getD j undef) (cs.getD j .any))->CRep (.func (.func f) #[.agg vs] #[]) (.bnd f cs)
 |cp (v:Value) (id j:Nat) (vs:Array Value):η id=.agg vs->vs[j]?=some v->v.oneCell'=true->CRep v (.cp id j)
def Qf(vs:Array Value)(cs:List CV):Prop:=vs.size=cs.length/\∀j,j<cs.length->CRep w X η C (vs.getD j undef) (cs.getD j (.d .any))
inductive TRep:Value->TV->Prop
 |c (v:Value) (x:CV):CRep w X η C v x->TRep v (.c x)
 |g (vs:Array Value) (xs:List CV):Qf w X η C vs xs->TRep (.agg vs) (.g xs)
inductive ARep:Value->AVal->Prop
 |any (v:Value):ARep v .any
 |v (u:Value) (x:TV):TRep w X η C u x->ARep u (.v x)
 |t (us:Array Value) (xs:List TV):us.size=xs.length->(∀j,j<xs.length->TRep w X η C (us.getD j undef) (xs.getD j (.c (.d .any))))->ARep (.tuple us) (.t xs)
inductive ORep:Value->Obj->Prop
 | box (b:Nat) (ro:Bool) (c:Array Value) (e:TypeId) (cs:List CV):w.heap[b]?=some (.cells c e (0,0))->Qf w X η C c cs ->
   ORep (.pointer (some ⟨b,0,none⟩)) (.box ro cs)
 |nil (ad:Option Addr) (es:Nat) (f:Nat->List DVal):ORep (.slice ad 0 0) (.arr es 0 f)
 | arr (b n cap es:Nat) (c:Array Value) (e:TypeId) (f:Nat->List DVal):w.heap[b]?=some (.cells c e (0,0))->c.size=cap*es->n<=cap->cap<=maxLen->0<cap ->
   (∀i,i<n->(f i).length=es)->(∀i j,i<n->j<es->DRep w X (c.getD (i*es+j) undef) ((f i).getD j .any)) ->
   ORep (.slice (some ⟨b,0,none⟩) n cap) (.arr es n f)
 |ext (v:Value) (p:World->(Nat->Prop)->Value->Prop):p w X v->Ph p v->(∀b∈V8 v,b<w.heap.size)->ORep v (.ext p)
 |exr (v:Value) (refs:List Nat) (p:World->(Nat->Prop)->List Value->Value->Prop):p w X (refs.map η) v->Ph (λw X v=>p w X (refs.map η) v) v->(∀b∈V8 v,b<w.heap.size)->ORep v (.exr refs p)
end
theorem CRep.one{X:Nat->Prop}{C:Ctx}{x:CV}(h:CRep w X η C v x):v.oneCell'=true:=by
 cases h with
 |d _ _ h=>exact h.one
 |own _ _ _ h=>exact h
 |sem _ _ _ h=>exact h
 |ap _ _ _ h=>exact h
 |cp _ _ _ _ _ _ h=>exact h
 |_=>rfl
def CV.refs:CV->List Nat
 |.own id=>[id]
 |.ptr id _=>[id]
 |.pte id _ _ _=>[id]
 |.sub id _ _ _=>[id]
 |.clo _ ids=>ids
 |.ap id=>[id]
 |.cp id _=>[id]
 |_=>[]
def TV.refs:TV->List Nat
 |.c x=>x.refs
 |.g xs=>xs.flatMap CV.refs
def AVal.refs:AVal->List Nat
 |.any=>[]
 |.v x=>x.refs
 |.t xs=>xs.flatMap TV.refs
def Obj.refs:Obj->List Nat
 |.box _ cs=>cs.flatMap CV.refs
 |.arr _ _ _=>[]
 |.ext _=>[]
 |.exr refs _=>refs
def Obj.ro:Obj->Bool
 |.box ro _=>ro
 |.arr _ _ _=>false
 |.ext _=>false
 |.exr _ _=>false
section
variable {w w' : World} {X X' : Nat->Prop} {η η' : Nat->Value} {C:Ctx}
theorem CRep.mono{x:CV}(h:CRep w X η C v x)(hk:QQ w w' X X')(hη:∀i∈x.refs,η' i=η i):CRep w' X' η' C v x:=by
 cases h with
 |d _ _ h=>exact .d _ _ (h.mono hk)
 |fl a n f h=>exact .fl a n f (h.mono hk)
 |own _ id h h1=>exact .own _ id (by rw[hη id (by simp[CV.refs])];exact h) h1
 |ptr b id off h=>exact .ptr b id off (by rw[hη id (by simp[CV.refs])];exact h)
 |pte b n cap id es idx off h=>exact .pte b n cap id es idx off (by rw[hη id (by simp[CV.refs])];exact h)
 |sub b N cap id es lo n h h1 h2=>exact .sub b N cap id es lo n (by rw[hη id (by simp[CV.refs])];exact h) h1 h2
 |subN ad ad' N id es h=>exact .subN ad ad' N id es (by rw[hη id (by simp[CV.refs])];exact h)
 |elm b off c e fz cs hX hb ho hc=>
  have k:=hk b (J8 hb) hX;exact .elm b off c e fz cs k.2 (k.1.trans hb) ho λj g=>(hc j g).mono hk
 |clo f ids vs h=>
  refine .clo f ids vs ?_;rw[h]
  congr 1
  exact Qh6 λi l=>(hη i (by simpa[CV.refs]using l)).symm
 |sem _ p h h1=>exact .sem _ p h h1
 |ap _ id h h1=>exact .ap _ id (by rw[hη id (by simp[CV.refs])];exact h) h1
 |bnd f vs cs h1 h2=>exact .bnd f vs cs h1 λj g=>(h2 j g).mono hk
 |cp _ id j vs h h1 h2=>exact .cp _ id j vs (by rw[hη id (by simp[CV.refs])];exact h) h1 h2
theorem Ya{α:Type}{l:List α}{d:α}(h:j<l.length):l.getD j d∈l:=by
 grind
theorem Qf.mono{cs:List CV}(h:Qf w X η C vs cs)(hk:QQ w w' X X')(hη:∀i∈cs.flatMap CV.refs,η' i=η i):Qf w' X' η' C vs cs:=
 ⟨h.1,λj a=>(h.2 j a).mono hk λi b=>hη i (Qc1.2 ⟨_,Ya a,b⟩)⟩
theorem TRep.mono{x:TV}(h:TRep w X η C v x)(hk:QQ w w' X X')(hη:∀i∈x.refs,η' i=η i):TRep w' X' η' C v x:=by
 cases h with
 |c _ x h=>exact .c _ x (h.mono hk hη)
 |g vs xs h=>exact .g vs xs (h.mono hk hη)
theorem ARep.mono{x:AVal}(h:ARep w X η C v x)(hk:QQ w w' X X')(hη:∀i∈x.refs,η' i=η i):ARep w' X' η' C v x:=by
 cases h with
 |any=>exact .any v
 |v _ x h=>exact .v _ x (h.mono hk hη)
 |t us xs hs h=>exact .t us xs hs λj a=>(h j a).mono hk λi b=>hη i (Qc1.2 ⟨_,Ya a,b⟩)
theorem ORep.mono{o:Obj}(h:ORep w X η C v o)(hk:QQ w w' X X')(hη:∀i∈o.refs,η' i=η i)(hb:∀b,b∈V8 v->w'.heap[b]?=w.heap[b]?):ORep w' X' η' C v o:=by
 cases h with
 |box b ro c e cs hh hc=>exact .box b ro c e cs ((hb b (by simp[V8])).trans hh) (hc.mono hk hη)
 |nil ad es f=>exact .nil ad es f
 |arr b n cap es c e f hh hs hn hm hc hl he=>
  exact .arr b n cap es c e f ((hb b (by simp[V8];omega)).trans hh) hs hn hm hc hl λi j d k=>(he i j d k).mono hk
 |ext _ p h h1 h2=>
  refine .ext _ p (h1 w w' X X' hk hb h) h1 λb a=>?_
  grind
 |exr _ refs p h h1 h2=>
  have g:refs.map η'=refs.map η:=Qh6 λi d=>hη i d
  refine .exr _ refs p (by rw[g];exact h1 w w' X X' hk hb h) (by rw[g];exact h1) λb a=>?_
  grind
theorem ORep.lt{o:Obj}(h:ORep w X η C v o)(hb:b∈V8 v):b<w.heap.size:=by
 cases h with
 |box b' ro c e cs hh hc=>simp[V8]at hb;subst hb;exact J8 hh
 |nil ad es f=>cases ad<;>simp[V8]at hb
 |arr b' n cap es c e f hh hs hn hm hc hl he=>simp[V8]at hb;obtain⟨_,rfl⟩:=hb;exact J8 hh
 |ext _ p h h1 h2=>exact h2 b hb
 |exr _ refs p h h1 h2=>exact h2 b hb
end
def Own(s:J0)(η:Nat->Value)(b:Nat):Prop:=∃i o,s i=some o/\b∈V8 (η i)
def XS(C:Ctx)(s:J0)(η:Nat->Value)(b:Nat):Prop:=(C.X b/\¬C.D b)\/Own s η b
structure Ctx.Ok (C:Ctx):Prop where
 md:∀b,C.M b->C.D b
 dx:∀b,C.D b->C.X b
 lt:∀b,C.X b->b<C.w0.heap.size
structure Conc (C:Ctx) (nt:Nat) (R:Nat->Prop) (η:Nat->Value) (e:U8) (s:J0) (a:Act) (w:World):Prop where
 ok:C.Ok
 df:a.defers=[]
 sz:a.tmps.size=nt
 ev:∀t,ARep w (XS C s η) η C (a.tmps.getD t undef) (e t)
 er:∀t i,i∈(e t).refs->R i
 st:∀i o,s i=some o->ORep w (XS C s η) η C (η i) o
 sr:∀i o,s i=some o->R i/\∀j∈o.refs,R j
 ds:∀i j b,s i≠none->s j≠none->b∈V8 (η i)->b∈V8 (η j)->i=j
 ow:∀i o b,s i=some o->b∈V8 (η i)->(o.ro=true/\C.D b)\/C.M b\/C.w0.heap.size<=b
 fr:Stp C.M C.w0 w
 pn:∀i v,C.pin i=some v->η i=v/\R i
end
variable {e:U8}{cs xs:List CV}{f g:Nat->List DVal}{C:Ctx}{s:J0}{E E':List (Nat×AVal)}{S S':List (Nat×Obj)}
section
structure SR where
 v:AVal:=.any
 del:List Nat:=[]
 upd:Option (Nat×Obj):=none
 new:Option Obj:=none
 cond:Prop:=True
def SR.env(r:SR)(d:Option Tmp)(e:U8):U8:=
 match d with
 |some d=>λt=>if t=d then r.v else e t
 |none=>e
def SR.sto(r:SR)(d:Option Tmp)(s:J0):J0:=λi=>
 match r.new,d with
 |some o,some d=>if i=d then some o else
  match r.upd with
  |some (k,o')=>if i=k then some o' else if r.del.contains i then none else s i
  |none=>if r.del.contains i then none else s i
 |_,_=>
  match r.upd with
  |some (k,o')=>if i=k then some o' else if r.del.contains i then none else s i
  |none=>if r.del.contains i then none else s i
def SR.eta(r:SR)(d:Option Tmp)(v:Value)(η:Nat->Value):Nat->Value:=λi=>
 match r.new,d with
 |some _,some d=>if i=d then v else η i
 |_,_=>η i
def SR.rng(r:SR)(d:Option Tmp)(R:Nat->Prop):Nat->Prop:=λi=>R i\/(r.new≠none/\d=some i)
theorem yf(a:Act)(d:Option Tmp)(v:Value)(t:Nat)(hd:∀ x,d=some x->x<a.tmps.size):
  (a.put d v).tmps.getD t undef=if d=some t then v else a.tmps.getD t undef:=by
 cases d with
 |none=>simp[Act.put]
 |some x=>
  have b:=hd x rfl;simp only[Act.put,Qi9]
  by_cases h:x=t
  .subst h;simp[b]
  .simp [h]
theorem Q0l(a:Act)(d:Option Tmp)(v:Value):(a.put d v).tmps.size=a.tmps.size:=by cases d<;>simp[Act.put]
theorem Q0m(a:Act)(d:Option Tmp)(v:Value):(a.put d v).defers=a.defers:=by cases d<;>rfl
section
variable {C:Ctx} {nt:Nat} {R:Nat->Prop} {η:Nat->Value} {e:U8} {s:J0} {a:Act} {w:World}
theorem Conc.lt(h:Conc C nt R η e s a w)(hb:Own s η b):b<w.heap.size:=by
 obtain⟨i,o,c,hb⟩:=hb;exact(h.st i o c).lt hb
theorem LN(r:SR)(d:Option Tmp):∀i o,r.sto d s i=some o->(r.new=some o/\d=some i)\/(r.upd=some (i,o)/\(r.new=none\/d≠some i))\/(s i=some o/\i∉r.del/\(∀o',r.upd≠some (i,o'))/\(r.new=none\/d≠some i)):=by
 intro i o c;have b:(match r.upd with|some (k,o')=>if i=k then some o' else if r.del.contains i then none else s i|none=>if r.del.contains i then none else s i)=some o ->
   r.upd=some (i,o)\/(s i=some o/\i∉r.del/\∀o',r.upd≠some (i,o')):=by
  intro f
  cases hu:r.upd with
  |none=>
   grind
  |some ko=>
   grind
 unfold SR.sto at c
 cases hn:r.new with
 |none=>
  grind
 |some on=>
  grind
theorem CN(r:SR)(d:Option Tmp)(v:Value):∀i,(r.new=none\/d≠some i)->r.eta d v η i=η i:=by
 intro i b;unfold SR.eta
 grind
theorem Z0r(r:SR)(d:Option Tmp)(v:Value)(N:Nat->Prop)(hnew:∀o dd,r.new=some o->d=some dd->∀b,b∈V8 v->N b\/Own s η b)(hupd:∀k o,r.upd=some (k,o)->s k≠none):∀b,Own (r.sto d s) (r.eta d v η) b->N b\/Own s η b:=by
 rintro b ⟨i,o,n,c⟩;rcases LN r d i o n with ⟨h,f⟩|⟨l,g⟩|⟨m,_,_,g⟩
 .rw [show r.eta d v η i=v from by simp[SR.eta,h,f]]at c
  exact hnew o i h f b c
 .rw [CN r d v i g]at c
  obtain⟨j,p⟩:=Qa9.1 (hupd i o l);exact .inr ⟨i,j,p,c⟩
 .rw [CN r d v i g]at c
  exact .inr ⟨i,o,m,c⟩
theorem UF{w: World}(r:SR)(d:Option Tmp)(v:Value)(Z:Nat->Prop)(hstep:Stp Z w w')(hZ:∀b,Z b->Own s η b)(hnew:∀o dd,r.new=some o->d=some dd->∀b,b∈V8 v->w.heap.size<=b\/Own s η b)(hupd:∀k o,r.upd=some (k,o)->s k≠none):QQ w w' (XS C s η) (XS C (r.sto d s) (r.eta d v η)):=by
 intro b l h;have c:¬Own s η b:=λf=>h (.inr f)
 refine⟨hstep.block b l λj=>c (hZ b j),λg=>?_⟩;rcases g with f|f
 .exact h (.inl f)
 .rcases Z0r r d v _ hnew hupd b f with i|i
  .omega
  .exact c i
theorem Z3t{R:Nat->Prop}(r:SR)(d:Option Tmp)(v:Value)(hR:∀o dd,r.new=some o->d=some dd->¬R dd):∀i,R i->r.eta d v η i=η i:=by
 intro i c;refine CN r d v i ?_
 cases hn:r.new with
 |none=>exact .inl rfl
 |some o=>right;intro b;exact hR o i hn b c
theorem Conc.stepG(h:Conc C nt R η e s a w)(d:Option Tmp)(hd:∀ x,d=some x->x<nt)(r:SR)(v u:Value)(w' : World)(Z:Nat->Prop)(hstep:Stp Z w w')(hZ:∀ b,Z b->(∃ i,(i ∈ r.del\/∃ o,r.upd=some (i,o))/\s i≠none/\b ∈ V8 (η i))/\(C.M b\/C.w0.heap.size<=b))(hnew:∀ o dd,r.new=some o->d=some dd->¬ R dd/\o.ro=false/\(∀ j ∈ o.refs,R j)/\ORep w' (XS C (r.sto d s) (r.eta d u η)) (r.eta d u η) C u o /\
   (∀b,b∈V8 u->w.heap.size<=b\/((∃i∈r.del,s i≠none/\b∈V8 (η i))/\(C.M b\/C.w0.heap.size<=b))))(hupd:∀k o,r.upd=some (k,o)->(∃o0,s k=some o0/\o0.ro=false)/\o.ro=false/\k∉r.del/\(∀j∈o.refs,R j)/\ORep w' (XS C (r.sto d s) (r.eta d u η)) (r.eta d u η) C (η k) o)(hv:d≠none->ARep w' (XS C (r.sto d s) (r.eta d u η)) (r.eta d u η) C v r.v/\∀j∈r.v.refs,r.rng d R j):
  Conc C nt (r.rng d R) (r.eta d u η) (r.env d e) (r.sto d s) (a.put d v) w':=by
 have Y:=LN (s:=s) r d;have g:=CN (η:=η) r d u
 have l:∀o i,r.new=some o->d=some i->r.eta d u η i=u:=by
  intro o i K h2;simp[SR.eta,K,h2]
 have y:∀i,R i->r.eta d u η i=η i:=by
  intro i f;refine g i ?_
  cases p:r.new with
  |none=>exact .inl rfl
  |some o=>right;intro c;exact(hnew o i p c).1 f
 have b6:∀b,Own (r.sto d s) (r.eta d u η) b->w.heap.size<=b\/Own s η b:=by
  rintro b ⟨i,o,f,m⟩;rcases Y i o f with ⟨p,c⟩|⟨O,z⟩|⟨G,_,_,z⟩
  .rw [l o i p c]at m
   rcases(hnew o i p c).2.2.2.2 b m with W|⟨⟨j,_,n,Q⟩,_⟩
   .exact .inl W
   .obtain ⟨H,q⟩:=Qa9.1 n
    exact .inr ⟨j,H,q,Q⟩
  .rw [g i z]at m
   obtain⟨o0,V,_⟩:=(hupd i o O).1;exact .inr ⟨i,o0,V,m⟩
  .rw [g i z]at m
   exact .inr ⟨i,o,G,m⟩
 have D:QQ w w' (XS C s η) (XS C (r.sto d s) (r.eta d u η)):=by
  intro b m hX;have a6:¬Own s η b:=λL=>hX (.inr L)
  refine⟨hstep.block b m λU=>?_,λa5=>?_⟩
  .obtain ⟨⟨i,_,f,b4⟩,_⟩:=hZ b U
   obtain⟨N,F⟩:=Qa9.1 f;exact a6 ⟨i,N,F,b4⟩
  .rcases a5 with L|L
   .exact hX (.inl L)
   all_goals grind
 refine⟨h.ok,by rw[Q0m];exact h.df,by rw[Q0l];exact h.sz,?_,?_,?_,?_,?_,?_,?_,λi u' f=>⟨(y i (h.pn i u' f).2).trans (h.pn i u' f).1,.inl (h.pn i u' f).2⟩⟩
 .intro t
  rw[yf a d v t (by rw[h.sz];exact hd)]
  by_cases ht:d=some t
  .subst ht
   simp only[Qi8,SR.env];exact(hv (by simp)).1
  .rw [Qa1 ht]
   have:r.env d e t=e t:=by
    unfold SR.env
    cases d with
    |none=>rfl
    |some x=>simp only[];rw[Qa1];intro L;subst L;exact ht rfl
   rw[this];exact(h.ev t).mono D λi f=>y i (h.er t i f)
 .intro t i f
  by_cases ht:d=some t
  .subst ht
   simp only[SR.env,Qi8]at f;exact(hv (by simp)).2 i f
  .have:r.env d e t=e t:=by
    unfold SR.env
    cases d with
    |none=>rfl
    |some x=>simp only[];rw[Qa1];intro L;subst L;exact ht rfl
   rw[this]at f;exact .inl (h.er t i f)
 .intro i o f
  rcases Y i o f with ⟨p,c⟩|⟨O,z⟩|⟨G,I,P,z⟩
  .rw [l o i p c];exact(hnew o i p c).2.2.2.1
  .rw [g i z];exact(hupd i o O).2.2.2.2
  .rw [g i z]
   refine(h.st i o G).mono D (λj n=>y j ((h.sr i o G).2 j n)) λb m=>?_
   refine hstep.block b ((h.st i o G).lt m) λU=>?_
   obtain⟨⟨j,n,a9,Q⟩,_⟩:=hZ b U;have b0:i=j:=h.ds i j b (by rw[G];simp) a9 m Q
   subst b0;rcases n with n|⟨S,b2⟩
   .exact I n
   .exact P S b2
 .intro i o f
  rcases Y i o f with ⟨p,c⟩|⟨O,z⟩|⟨G,I,P,z⟩
  .exact ⟨.inr ⟨by rw[p];simp,c⟩,λj n=>.inl ((hnew o i p c).2.2.1 j n)⟩
  .obtain ⟨o0,V,_⟩:=(hupd i o O).1
   exact⟨.inl (h.sr i o0 V).1,λj n=>.inl ((hupd i o O).2.2.2.1 j n)⟩
  .exact ⟨.inl (h.sr i o G).1,λj n=>.inl ((h.sr i o G).2 j n)⟩
 .
  have E:∀i o,r.sto d s i=some o->¬(r.new=some o/\d=some i)->s i≠none/\i∉r.del/\r.eta d u η i=η i:=by
   grind
  have J:∀i o j S,r.sto d s j=some S -> (r.new=some o/\d=some i)->¬(r.new=some S /\ d=some j)->∀b,b∈V8 u->b∈V8 (η j)->False:=by
   intro i o j S n p a8 b m T;obtain⟨K,h2,_⟩:=E j S n a8
   obtain⟨H,q⟩:=Qa9.1 K;rcases(hnew o i p.1 p.2).2.2.2.2 b m with W|⟨⟨k,hk,a4,a2⟩,_⟩
   .have:=(h.st j H q).lt T;omega
   .have:j=k:=h.ds j k b K a4 T a2
    grind
  intro i j b f n A B;obtain⟨N,F⟩:=Qa9.1 f
  obtain⟨H,q⟩:=Qa9.1 n
  by_cases ni:r.new=some N/\d=some i
  .by_cases nj:r.new=some H/\d=some j
   .have:=ni.2.symm.trans nj.2;simpa using this
   .exfalso
    rw[l N i ni.1 ni.2]at A;rw[(E j H q nj).2.2]at B
    exact J i N j H q ni nj b A B
  .by_cases nj:r.new=some H/\d=some j
   .exfalso
    rw[l H j nj.1 nj.2]at B;rw[(E i N F ni).2.2]at A
    exact J j H i N F nj ni b B A
   .obtain ⟨a1,_,a3⟩:=E i N F ni
    obtain⟨b1,_,b3⟩:=E j H q nj;rw[a3]at A;rw[b3]at B
    exact h.ds i j b a1 b1 A B
 .intro i o b f m
  rcases Y i o f with ⟨p,c⟩|⟨O,z⟩|⟨G,I,P,z⟩
  .rw [l o i p c]at m
   rcases(hnew o i p c).2.2.2.2 b m with W|⟨_,hm⟩
   .exact .inr (.inr (Qc9 h.fr.size W))
   .exact .inr hm
  .rw [g i z]at m
   obtain⟨o0,V,a7⟩:=(hupd i o O).1;rcases h.ow i o0 b V m with ⟨K,_⟩|K
   .rw [a7]at K;cases K
   .exact .inr K
  .rw [g i z]at m
   exact h.ow i o b G m
 .refine h.fr.trans (hstep.mono λb _ U=>?_)
  exact(hZ b U).2
theorem Conc.step(h:Conc C nt R η e s a w)(d:Option Tmp)(hd:∀ x,d=some x->x<nt)(r:SR)(v:Value)(w' : World)(Z:Nat->Prop)(hstep:Stp Z w w')(hZ:∀ b,Z b->(∃ i,(i ∈ r.del\/∃ o,r.upd=some (i,o))/\s i≠none/\b ∈ V8 (η i))/\(C.M b\/C.w0.heap.size<=b))(hnew:∀ o dd,r.new=some o->d=some dd->¬ R dd/\o.ro=false/\(∀ j ∈ o.refs,R j)/\ORep w' (XS C (r.sto d s) (r.eta d v η)) (r.eta d v η) C v o /\
   (∀b,b∈V8 v->w.heap.size<=b\/((∃i∈r.del,s i≠none/\b∈V8 (η i))/\(C.M b\/C.w0.heap.size<=b))))(hupd:∀k o,r.upd=some (k,o)->(∃o0,s k=some o0/\o0.ro=false)/\o.ro=false/\k∉r.del/\(∀j∈o.refs,R j)/\ORep w' (XS C (r.sto d s) (r.eta d v η)) (r.eta d v η) C (η k) o)(hv:d≠none->ARep w' (XS C (r.sto d s) (r.eta d v η)) (r.eta d v η) C v r.v/\∀j∈r.v.refs,r.rng d R j):
  Conc C nt (r.rng d R) (r.eta d v η) (r.env d e) (r.sto d s) (a.put d v) w' :=
 h.stepG d hd r v v w' Z hstep hZ hnew hupd hv
theorem Conc.val(h:Conc C nt R η e s a w)(d:Option Tmp)(hd:∀ x,d=some x->x<nt)(x:AVal)(v:Value)(hv:d≠none->ARep w (XS C s η) η C v x/\∀ j ∈ x.refs,R j):
  Conc C nt R η (SR.env {v:=x} d e) s (a.put d v) w:=by
 have l:SR.sto {v:=x} d s=s:=by funext i;simp[SR.sto]
 have f:SR.eta {v:=x} d v η=η:=by funext i;simp[SR.eta]
 have g:SR.rng {v:=x} d R=R:=by funext i;simp[SR.rng]
 have:=h.step d hd {v:=x} v w (λ_=>False) (Stp.refl _ _) (λb m=>m.elim) (λo dd c=>by cases c) (λk o c=>by cases c)
  (λn=>by rw[l,f,g];exact hv n)
 rwa [l,f,g]at this
theorem Conc.drew(h:Conc C nt R η e s a w):Conc C nt R η e s a {w with drawn:=w.drawn+1}:=by
 have c:QQ w {w with drawn:=w.drawn+1} (XS C s η) (XS C s η):=λb _ f=>⟨rfl,f⟩
 exact⟨h.ok,h.df,h.sz,λt=>(h.ev t).mono c λ_ _=>rfl,h.er,λi o d=>(h.st i o d).mono c (λ_ _=>rfl) λ_ _=>rfl,h.sr,h.ds,h.ow,
  ⟨h.fr.os,h.fr.tape,h.fr.output,h.fr.size,h.fr.block,Qm5 h.fr.dr⟩,h.pn⟩
end
end
variable {r:SR}
inductive TK where
 |int (k:IntKind)
 |bool
 |str
 |slice (e:Nat)
 |struct (fs:List (Nat×Nat))
 |array (n e:Nat)
 |other
def TK.agg:TK->Bool
 |.struct _=>true
 |.array _ _=>true
 |_=>false
structure TI where
 kind:TK
 size:Nat
 bytes:Nat
 zero:List CV
variable {ti te:TI}
abbrev Lay:=Nat->Option TI
def Q5(n:Int):Prop:= -9223372036854775808<=n/\n<=9223372036854775807
def Y6:Nat:=4294967296
def vi(n:Int):AVal:=.v (.c (.d (.int .i64 n)))
def vb(b:Bool):AVal:=.v (.c (.d (.bool b)))
def FO:Value->AVal
 |.int k n=>.v (.c (.d (.int k n)))
 |.bool b=>.v (.c (.d (.bool b)))
 |.string s=>.v (.c (.d (.str s)))
 |.slice none 0 0=>.v (.c (.fl 0 λ_=>[]))
 |_=>.any
def Y5(e:U8):Operand->AVal
 |.tmp t=>e t
 |.const v=>FO v
 |.func f=>.v (.c (.clo f []))
 |.global _=>.any
def Gp:AVal->Option (List CV)
 |.v (.c x)=>some [x]
 |.v (.g xs)=>some xs
 |_=>none
def WW(agg:Bool)(cs:List CV):Option AVal:=
 match agg with
 |true=>some (.v (.g cs))
 |false=>match cs with
  |[x]=>some (.v (.c x))
  |_=>none
def Ls:CV->Option DVal
 |.d x=>some x
 |.fl n f=>some (.lst n f)
 |_=>none
def Vm:List CV->Option (List DVal)
 |[]=>some []
 |x::xs=>match Ls x,Vm xs with
  |some a,some b=>some (a::b)
  |_,_=>none
def rd(s:J0)(n:Nat):AVal->Option (List CV×Prop)
 |.v (.c (.ptr id off))=>match s id with
  |some (.box _ cs)=>if off+n<=cs.length then some ((cs.drop off).take n,True)else none
  |_=>none
 |.v (.c (.elm cs))=>if n<=cs.length then some ((cs.take n).map .d,True)else none
 |.v (.c (.pte id es idx off))=>match s id with
  |some (.arr es' k f)=>if es=es' /\ off+n<=es/\(f idx).length=es then some ((((f idx).drop off).take n).map .d,idx<k)else none
  |_=>none
 |_=>none
def Yf{α:Type}(cs:List α)(off:Nat)(xs:List α):List α:=cs.take off++(xs++cs.drop (off+xs.length))
def wr(s:J0)(xs:List CV):AVal->Option SR
 |.v (.c (.ptr id off))=>match s id with
  |some (.box false cs)=>if off+xs.length<=cs.length then some {upd:=some (id,.box false (Yf cs off xs))}else none
  |_=>none
 |.v (.c (.pte id es idx off))=>match s id with
  |some (.arr es' k f)=>match Vm xs with
   | some ds=>if es=es' /\ off+ds.length<=es/\(f idx).length=es then
     some {upd:=some (id,.arr es k λj=>if j=idx then Yf (f idx) off ds else f j),cond:=idx<k}else none
   |none=>none
  |_=>none
 |_=>none
def Un(m:Bool)(k:IntKind)(n:Int)(c:Prop):SR:=
 match k,m with
 |.i64,false=> {v:=vi n,cond:=Q5 n/\c}
 |k,_=> {v:=.v (.c (.d (.int k (k.wrap n)))),cond:=c}
def QK(k:IntKind)(x y:Int):Int:=k.wrap (BitVec.ofInt k.bits x &&& BitVec.ofInt k.bits y).toNat
def G8(k:IntKind)(x y:Int):Int:=k.wrap (BitVec.ofInt k.bits x ||| BitVec.ofInt k.bits y).toNat
def xL(k:IntKind)(x y:Int):Int:=k.wrap (BitVec.ofInt k.bits x ^^^ BitVec.ofInt k.bits y).toNat
def Gq(m:Bool)(op:BinOp)(x y:AVal):Option SR:=
 match x,y with
 |.v (.c (.d (.int k a))),.v (.c (.d (.int k' b)))=>
  match op with
  |.shl=>some (Un m k (a*2 ^ (min b.toNat k.bits)) (0<=b))
  |.shr=>some {v:=.v (.c (.d (.int k (a.fdiv (2 ^ (min b.toNat k.bits)))))),cond:=0<=b}
  |op=>if k=k' then match op with
   |.add=>some (Un m k (a+b) True)
   |.sub=>some (Un m k (a-b) True)
   |.mul=>some (Un m k (a*b) True)
   |.quo=>some (Un m k (a.tdiv b) (b≠0))
   |.rem=>some {v:=.v (.c (.d (.int k (a.tmod b)))),cond:=b≠0}
   |.and=>some {v:=.v (.c (.d (.int k (QK k a b))))}
   |.or=>some {v:=.v (.c (.d (.int k (G8 k a b))))}
   |.xor=>some {v:=.v (.c (.d (.int k (xL k a b))))}
   |.eql=>some {v:=vb (a==b)}
   |.neq=>some {v:=vb (a != b)}
   |.lss=>some {v:=vb (a<b)}
   |.leq=>some {v:=vb (a<=b)}
   |.gtr=>some {v:=vb (b<a)}
   |.geq=>some {v:=vb (b<=a)}
   |_=>none else none
 |_,_=>none
def FJ(m:Bool)(op:UnOp)(x:AVal):Option SR:=
 match op,x with
 |.not,.v (.c (.d (.bool b)))=>some {v:=vb (!b)}
 |.neg,.v (.c (.d (.int k n)))=>some (Un m k (0-n) True)
 |_,_=>none
def y6(a b:Int):Int:=if b<a then b else a
def y3(a b:Int):Int:=if a<b then b else a
def ZD:AVal->Option Int
 |.v (.c (.d (.int _ n)))=>some n
 |_=>none
def Vi(s:J0):AVal->Option (Nat×(Nat->List DVal))
 |.v (.c (.d (.lst n f)))=>some (n,f)
 |.v (.c (.fl n f))=>some (n,f)
 |.v (.c (.own id))=>match s id with
  |some (.arr _ n f)=>some (n,f)
  |_=>none
 |.v (.c (.sub id es lo n))=>match s id with
  |some (.arr es' _ f)=>if es=es' then some (n,λj=>f (lo+j))else none
  |_=>none
 |_=>none
def Qw(n:Nat)(f g:Nat->List DVal):Nat->List DVal:=λi=>if i<n then f i else g (i-n)
def UP(s:J0)(es m:Nat):AVal->Option (List Nat×Nat×(Nat->List DVal)×Prop)
 |.v (.c (.own id))=>match s id with
  |some (.arr es' n f)=>if es=es' then some ([id],n,f,True)else none
  |_=>none
 |.v (.c (.fl n f))=>if n=0\/0<m then some ([],n,f,∀j,j<n->(f j).length=es)else none
 |_=>none
def Uc(pl:Nat->Option (Nat×Nat))(cells:List CV):List (Nat×AVal)->Option (List CV)
 |[]=>some cells
 |(i,x)::rest=>match pl i,Gp x with
  |some (off,size),some xs=>if xs.length=size/\off+size<=cells.length then Uc pl (Yf cells off xs) rest else none
  |_,_=>none
def XN(L:Lay):List (Nat×Nat)->Option (List (Nat×Nat))
 |[]=>some []
 |(off,t)::r=>match L t,XN L r with
  |some ti,some l=>some ((off,ti.size)::l)
  |_,_=>none
def Vv{α:Type}(n:Nat)(xs:List α):List α:=match n with|0=>[]|n+1=>xs++Vv n xs
def JO(L:Lay)(s:J0)(b:Builtin)(tys:Array TypeId)(xs:List AVal):Option SR:=
 match b,xs with
 |.len,[x]=>match tys.toList with
  |[t]=>match L t with
   |some {kind:=.slice _,..}=>match Vi s x with
    |some (n,_)=>some {v:=vi n}
    |none=>none
   |some {kind:=.array n _,..}=>some {v:=vi n}
   |some {kind:=.str,..}=>match x with
    |.v (.c (.d (.str b)))=>some {v:=vi b.size}
    |_=>none
   |_=>none
  |_=>none
 |.min,[.v (.c (.d (.int k a))),.v (.c (.d (.int _ b)))]=>some {v:=.v (.c (.d (.int k (y6 a b))))}
 |.max,[.v (.c (.d (.int k a))),.v (.c (.d (.int _ b)))]=>some {v:=.v (.c (.d (.int k (y3 a b))))}
 |.append,[x,y]=>match tys.toList with
  |[t,t']=>if t=t' then match L t with
   |some {kind:=.slice el,..}=>match L el with
    |some te=>match Vi s y with
     |some (k,g)=>match UP s te.size k x with
      | some (del,n,f,c)=>if 0<te.size/\te.bytes<=8192/\te.zero.length=te.size then
        some {v:=.any,del:=del,new:=some (.arr te.size (n+k) (Qw n f g)),cond:=n+k<=Y6/\(∀j,j<k->(g j).length=te.size)/\c}else none
      |none=>none
     |none=>none
    |none=>none
   |_=>none else none
  |_=>none
 |_,_=>none
def sl(n:Nat)(f:Nat->List DVal)(lo hi:Option Int):(Nat×(Nat->List DVal))×Prop:=
 match lo,hi with
 |none,none=>((n,f),True)
 |some l,none=>((n-l.toNat,λi=>f (l.toNat+i)),0<=l/\l<=n)
 |none,some h=>((h.toNat,f),0<=h/\h<=n)
 |some l,some h=>((h.toNat-l.toNat,λi=>f (l.toNat+i)),0<=l/\l<=h/\h<=n)
def oI(e:U8):Option Operand->Option (Option Int)
 |none=>some none
 |some x=>match ZD (Y5 e x)with
  |some n=>some (some n)
  |none=>none
def Zi(L:Lay)(m:Bool)(e:U8)(s:J0)(o:Oper):Option SR:=
 match o.op with
 |.move x=>some {v:=Y5 e x}
 |.assign x=>match m,Y5 e x,o.dst with
  |false,x,_=>some {v:=x}
  |true,.v (.c (.fl 0 f)),some d=>match L o.type with
   |some {kind:=.slice el,..}=>match L el with
    |some te=>some {v:=.v (.c (.own d)),new:=some (.arr te.size 0 f)}
    |none=>none
   |_=>none
  |_,_,_=>none
 |.pick c x y=>match Y5 e c with
  |.v (.c (.d (.bool true)))=>some {v:=Y5 e x}
  |.v (.c (.d (.bool false)))=>some {v:=Y5 e y}
  |_=>none
 |.alloc t=>match L t,o.dst with
  |some ti,some d=>some {v:=.v (.c (.ptr d 0)),new:=some (.box false ti.zero)}
  |_,_=>none
 |.box _ x=>match Gp (Y5 e x),o.dst with
  |some xs,some d=>some {v:=.v (.c (.ptr d 0)),new:=some (.box false xs)}
  |_,_=>none
 |.build t ps=>match L t with
  |some {kind:=.struct fs,zero:=z,..}=>match XN L fs with
   |some pl=>match Uc (λi=>pl[i]?) z (ps.toList.map λp=>(p.1,Y5 e p.2))with
    |some cs=>some {v:=.v (.g cs)}
    |none=>none
   |none=>none
  |some {kind:=.array _ el,zero:=z,..}=>match L el with
   |some te=>match Uc (λi=>some (i*te.size,te.size)) z (ps.toList.map λp=>(p.1,Y5 e p.2))with
    |some cs=>some {v:=.v (.g cs)}
    |none=>none
   |none=>none
  |_=>none
 |.buildSlice t len ps=>match L t with
  |some {kind:=.slice el,..}=>match L el with
   | some te=>if len*te.size<=16777216/\te.zero.length=te.size/\0<te.size then
     match Uc (λi=>some (i*te.size,te.size)) (Vv len te.zero) (ps.toList.map λp=>(p.1,Y5 e p.2))with
     |some cs=>match Vm cs with
      |some ds=>match m,o.dst with
       |false,_=>some {v:=.v (.c (.d (.lst len λi=>(ds.drop (i*te.size)).take te.size)))}
       |true,some d=>some {v:=.v (.c (.own d)),new:=some (.arr te.size len λi=>(ds.drop (i*te.size)).take te.size)}
       |_,_=>none
      |none=>none
     |none=>none else none
   |none=>none
  |_=>none
 |.load t x=>match L t with
  |some ti=>match rd s ti.size (Y5 e x)with
   |some (cs,c)=>match WW ti.kind.agg cs with
    |some v=>some {v:=v,cond:=c}
    |none=>none
   |none=>none
  |none=>none
 |.store t x y=>match L t,Gp (Y5 e y)with
  |some ti,some xs=>if xs.length=ti.size then wr s xs (Y5 e x)else none
  |_,_=>none
 |.nilCheck x=>match Y5 e x with
  |.v (.c (.ptr id off))=>some {v:=.v (.c (.ptr id off))}
  |.v (.c (.pte id es idx off))=>some {v:=.v (.c (.pte id es idx off))}
  |.v (.c (.elm cs))=>some {v:=.v (.c (.elm cs))}
  |_=>none
 |.binOp op _ x y _=>Gq m op (Y5 e x) (Y5 e y)
 |.unOp op _ x=>FJ m op (Y5 e x)
 |.convert src dst x=>match L src,L dst,Y5 e x with
  |some {kind:=.int _,..},some {kind:=.int k,..},.v (.c (.d (.int _ n)))=>some (Un m k n True)
  |some {kind:=.str,..},some {kind:=.str,..},.v (.c (.d (.str b)))=>some {v:=.v (.c (.d (.str b)))}
  |_,_,_=>none
 | .makeFunc (.func f) first caps=>if first.size=0 then match cloIds (caps.toList.map (Y5 e)) with
   |some ids=>some {v:=.v (.c (.clo f ids))}
   |none=>none else none
 |.slice t x lo hi none=>match L t with
  |some {kind:=.slice el,..}=>match L el with
   |some te=>match m,Y5 e x,oI e lo,oI e hi with
    |false,x,some lo,some hi=>match asF x with
     |some (n,f)=>some {v:=.v (.c (.d (.lst (sl n f lo hi).1.1 (sl n f lo hi).1.2))),cond:=(sl n f lo hi).2/\∀j,j<n->(f j).length=te.size}
     |none=>none
    |true,.v (.c (.own id)),some none,some (some h)=>match s id,o.dst with
     |some (.arr es n f),some d=>some {v:=.v (.c (.own d)),del:=[id],new:=some (.arr es h.toNat f),cond:=0<=h/\h<=n}
     |_,_=>none
    |_,_,_,_=>none
   |none=>none
  |_=>none
 |.slice t x none (some h) (some mx)=>match L t with
  |some {kind:=.slice el,..}=>match L el,asF (Y5 e x),ZD (Y5 e h),ZD (Y5 e mx)with
   | some te,some (n,f),some h,some mx=>if h=mx/\0<h then
     some {v:=.v (.c (.fl h.toNat f)),cond:=h<=n/\∀j,j<n->(f j).length=te.size}else none
   |_,_,_,_=>none
  |_=>none
 |.fieldAddr t x k=>match L t with
  |some {kind:=.struct fs,..}=>match fs[k]? with
   |some (off,ft)=>match L ft with
    |some tf=>if tf.size=0 then none else match Y5 e x with
     |.v (.c (.ptr id o))=>some {v:=.v (.c (.ptr id (o+off)))}
     |.v (.c (.pte id es idx o))=>some {v:=.v (.c (.pte id es idx (o+off)))}
     |.v (.c (.elm cs))=>if off<=cs.length then some {v:=.v (.c (.elm (cs.drop off)))}else none
     |_=>none
    |none=>none
   |none=>none
  |_=>none
 |.field t x k=>match L t with
  |some {kind:=.struct fs,..}=>match fs[k]?,Y5 e x with
   |some (off,ft),.v (.g cs)=>match L ft with
    | some tf=>if off+tf.size<=cs.length then match WW tf.kind.agg ((cs.drop off).take tf.size) with
      |some v=>some {v:=v}
      |none=>none else none
    |none=>none
   |_,_=>none
  |_=>none
 |.indexAddr t x i=>match L t,ZD (Y5 e i)with
  |some {kind:=.slice el,..},some i=>match L el with
   |some te=>match Y5 e x with
    |.v (.c (.own id))=>match s id with
     |some (.arr es n _)=>if es=te.size then some {v:=.v (.c (.pte id es i.toNat 0)),cond:=0<=i/\i<n}else none
     |_=>none
    |x=>match asF x with
     |some (n,f)=>if(f i.toNat).length=te.size then some {v:=.v (.c (.elm (f i.toNat))),cond:=0<=i/\i<n}else none
     |none=>none
   |none=>none
  |some {kind:=.array n el,..},some i=>match L el,Y5 e x with
   |some te,.v (.c (.ptr id off))=>if 0<=i/\i<n then some {v:=.v (.c (.ptr id (off+i.toNat*te.size)))}else none
   |_,_=>none
  |_,_=>none
 |.index t x i=>match L t,ZD (Y5 e i),Y5 e x with
  |some {kind:=.array n el,..},some i,.v (.g cs)=>match L el with
   | some te=>if 0<=i/\i<n/\i.toNat*te.size+te.size<=cs.length then match WW te.kind.agg ((cs.drop (i.toNat*te.size)).take te.size) with
     |some v=>some {v:=v}
     |none=>none else none
   |none=>none
  |_,_,_=>none
 |.makeSlice t l c=>match L t,ZD (Y5 e l),ZD (Y5 e c),o.dst with
  |some {kind:=.slice el,..},some l,some c,some d=>match L el with
   |some te=>match Vm te.zero with
    |some z=>if 0<te.size/\te.bytes<=8192/\te.zero.length=te.size then some {v:=.v (.c (.own d)),new:=some (.arr te.size l.toNat λ_=>z),cond:=0<=l/\l=c/\l<=Y6}else none
    |none=>none
   |none=>none
  |_,_,_,_=>none
 |.extract x k=>match Y5 e x with
  |.t xs=>match xs[k]? with
   |some v=>some {v:=.v v}
   |none=>none
  |_=>none
 |.call {callee:=.builtin b,args,argTypes}=>match JO L s b argTypes (args.toList.map (Y5 e)),o.dst with
  |some r,d=>match r.new,d with
   |some _,some d=>some {r with v:=.v (.c (.own d))}
   |some _,none=>none
   |none,_=>some r
  |none,_=>none
 |_=>none
where
 cloIds:List AVal->Option (List Nat)
  |[]=>some []
  |.v (.c (.ptr id 0))::r=>match cloIds r with
   |some ids=>some (id::ids)
   |none=>none
  |_::_=>none
 asF:AVal->Option (Nat×(Nat->List DVal))
  |.v (.c (.d (.lst n f)))=>some (n,f)
  |.v (.c (.fl n f))=>some (n,f)
  |_=>none
section
def ZE(d:TypeDesc):TK->Prop
 |.int k=>d=.int k
 |.bool=>d=.bool
 |.str=>d=.string
 |.slice e=>d=.slice e
 |.struct fs=>∃fields,d=.struct fields/\fields.toList.map (λf=>(f.offset,f.type))=fs
 |.array n e=>d=.array n e
 |.other=>(∀fs,d≠.struct fs)/\∀n e,d≠.array n e
structure TIOk (P:Program) (t:Nat) (ti:TI) (i:TypeInfo) (d:TypeDesc) (z:Value):Prop where
 info:P.info? t=some i
 und:P.underlying t=some d
 size:i.size=ti.size
 bytes:i.bytes=ti.bytes
 zero:i.zero=some z
 zrep:∀w X η C,Qf w X η C z.cells ti.zero
 zrefs:ti.zero.flatMap CV.refs=[]
 kind:ZE d ti.kind
def Qi(P:Program)(L:Lay):Prop:=∀t ti,L t=some ti->∃i d z,TIOk P t ti i d z
section
variable {P:Program} {L:Lay}
theorem Ry{t:Nat}{d:TypeDesc}(h:TIOk P t ti i d z)(w:World):(isAgg t).run P w=.ok ti.kind.agg w:=by
 have b:=h.kind;simp only[isAgg,Qd8,Qb9 h.und,Qc5]
 cases hkk:ti.kind<;>simp only[hkk,ZE]at b
 all_goals first
  |(subst b;rfl)
  |(obtain⟨f,rfl,_⟩:=b;rfl)
  |skip
 split
 .grind
 .grind
 .rfl
theorem Yu{t:Nat}{d:TypeDesc}(h:TIOk P t ti i d z)(w:World):(sizeOf t).run P w=.ok ti.size w:=by
 simp[sizeOf,typeInfo,h.info,h.size]
theorem Rx{t:Nat}{d:TypeDesc}(h:TIOk P t ti i d z)(w:World):(zeroValue t).run P w=.ok z w:=by
 simp[zeroValue,typeInfo,h.info,h.zero]
theorem add_lit(b o n:Nat):(⟨b,o,none⟩:Addr).add n=⟨b,o+n,none⟩:=by unfold Addr.add;split<;>simp_all
theorem HB{e:TypeId}{fz:Nat×Nat}(h:w.heap[b]?=some (.cells c e fz))(j:Nat)(hj:j<c.size):
  w.cell? ⟨b,j,none⟩=some (c.getD j undef):=by
 rw[cell_of_row w b j c e fz h];simp[hj]
def Zd(c:Array Value)(off n:Nat):List Value:=(List.range n).map λj=>c.getD (off+j) undef
theorem cc{t:Nat}{ti:TI}{i:TypeInfo}{d:TypeDesc}{z:Value}(h:TIOk P t ti i d z){w:World}{b off:Nat}{c:Array Value}{e:TypeId}{fz:Nat×Nat}(hb:w.heap[b]?=some (.cells c e fz))(ho:off+ti.size<=c.size)(h1:ti.kind.agg=false->ti.size=1):
  (loadVar t ⟨b,off,none⟩).run P w=.ok (if ti.kind.agg then .agg (Zd c off ti.size).toArray else c.getD off undef) w:=by
 simp only[loadVar,Qd8,Ry h,Qc5]
 cases ha:ti.kind.agg with
 |true=>
  have:=run_loadCells (P:=P) w ⟨b,off,none⟩ ti.size (λj=>c.getD (off+j) undef) (λj f=>by rw[add_lit];exact HB hb _ (by omega))
  simp only[Qd8,Yu h,Qc5,this,Qi8,Qf3,Zd]
 |false=>
  have:=h1 ha
  simp only[Qi1,Qi0];rw[run_load,HB hb off (by omega)]
theorem Pr{K:Act->World->Prop}{Q:Exit->Act->World->Prop}(h:(execOp a.eval o).run P w=.ok (.value v) w')(hK:K (a.put o.dst v) w'):o.wp P a w K Q:=by
 unfold Oper.wp;rw[h];exact hK
theorem kL{K:Act->World->Prop}{Q:Exit->Act->World->Prop}(h:(execOp a.eval o).run P w=.ok .skip w')(hK:K (a.put o.dst undef) w'):o.wp P a w K Q:=by
 unfold Oper.wp;rw[h];exact hK
end
section
variable {P:Program} {L:Lay} {C:Ctx} {nt:Nat} {R:Nat->Prop} {η:Nat->Value} {e:U8} {s:J0} {a:Act} {w:World}
def y8(P:Program)(C:Ctx)(nt:Nat)(R:Nat->Prop)(η:Nat->Value)(e:U8)(s:J0)(a:Act)(w:World)(o:Oper)(r:SR):Prop:=
 ∃v w',((execOp a.eval o).run P w=.ok (.value v) w' \/ ((execOp a.eval o).run P w=.ok .skip w' /\ v=undef)) /\
  Conc C nt (r.rng o.dst R) (r.eta o.dst v η) (r.env o.dst e) (r.sto o.dst s) (a.put o.dst v) w'
theorem y8.wp(h:y8 P C nt R η e s a w o r){K:Act->World->Prop}{Q:Exit->Act->World->Prop}(hK:∀η' a' w',Conc C nt (r.rng o.dst R) η' (r.env o.dst e) (r.sto o.dst s) a' w' -> K a' w'):o.wp P a w K Q:=by
 obtain⟨v,w',b|⟨b,rfl⟩,c⟩:=h
 .exact Pr b (hK _ _ _ c)
 .exact kL b (hK _ _ _ c)
theorem Q7X(d:Option Tmp)(x:AVal)(c:Prop):SR.rng {v:=x,cond:=c} d R=R:=by funext i;simp[SR.rng]
theorem Q5j(d:Option Tmp)(x:AVal)(c:Prop):SR.sto {v:=x,cond:=c} d s=s:=by funext i;simp[SR.sto]
theorem Z3s(d:Option Tmp)(x:AVal)(c:Prop)(v:Value):SR.eta {v:=x,cond:=c} d v η=η:=by funext i;simp[SR.eta]
theorem Z3w(d:Option Tmp)(x:AVal)(c:Prop):SR.env {v:=x,cond:=c} d e=SR.env {v:=x} d e:=rfl
theorem QU(h:Conc C nt R η e s a w)(hd:∀x,o.dst=some x->x<nt){x:AVal}{c:Prop}(hr:(execOp a.eval o).run P w=.ok (.value v) w)(hv:ARep w (XS C s η) η C v x)(hx:∀j∈x.refs,R j):y8 P C nt R η e s a w o {v:=x,cond:=c}:=by
 refine⟨v,w,.inl hr,?_⟩;rw[Q7X,Q5j,Z3s,Z3w]
 exact h.val o.dst hd x v λ_=>⟨hv,hx⟩
theorem Z4W(v:Value)(X:Nat->Prop):ARep w X η C v (FO v)/\(FO v).refs=[]:=by
 unfold FO;split
 .exact ⟨.v _ _ (.c _ _ (.d _ _ (.int _ _))),rfl⟩
 .exact ⟨.v _ _ (.c _ _ (.d _ _ (.bool _))),rfl⟩
 .exact ⟨.v _ _ (.c _ _ (.d _ _ (.str _))),rfl⟩
 .exact ⟨.v _ _ (.c _ _ (.fl _ _ _ (.nil _ _ _))),rfl⟩
 .exact ⟨.any _,rfl⟩
theorem K3(h:Conc C nt R η e s a w)(x:Operand):ARep w (XS C s η) η C (a.eval x) (Y5 e x)/\∀j∈(Y5 e x).refs,R j:=by
 cases x with
 |tmp t=>exact⟨h.ev t,h.er t⟩
 |const v=>
  obtain⟨b,d⟩:=Z4W (w:=w) (η:=η) (C:=C) v (XS C s η);exact⟨b,by simp only[Y5];rw[d];simp⟩
 |global g=>exact⟨.any _,by simp[Y5,AVal.refs]⟩
 |func f=>exact⟨.v _ _ (.c _ _ (.clo f [] #[] rfl)),by simp[Y5,AVal.refs,TV.refs,CV.refs]⟩
theorem vJ{α β:Type}(f:α->List β)(l:List α)(n:Nat):∀j∈(l.take n).flatMap f,j∈l.flatMap f:=by
 grind
theorem vK{α β:Type}(f:α->List β)(l:List α)(n:Nat):∀j∈(l.drop n).flatMap f,j∈l.flatMap f:=by
 grind
theorem cN(ds:List DVal):(ds.map CV.d).flatMap CV.refs=[]:=by
 induction ds with
 |nil=>rfl
 |cons x r ih=>simp[CV.refs]
theorem vD{α:Type}(l:List α)(off n j:Nat)(x:α)(hj:j<n):((l.drop off).take n).getD j x=l.getD (off+j) x:=by
 grind
theorem Q0i(h:Conc C nt R η e s a w){x:AVal}{c:Prop}(hr:rd s n x=some (cs,c))(hc:c)(hv:ARep w (XS C s η) η C v x):
  ∃b off c' e' fz,v=.pointer (some ⟨b,off,none⟩)/\w.heap[b]?=some (.cells c' e' fz)/\off+n<=c'.size/\cs.length=n /\
   (∀j,j<n->CRep w (XS C s η) η C (c'.getD (off+j) undef) (cs.getD j (.d .any)))/\∀j∈cs.flatMap CV.refs,R j:=by
 unfold rd at hr;split at hr
 .rename_i q off
  split at hr
  .rename_i A B r
   split at hr
   .rename_i m
    cases hr
    have i:=h.st q _ r
    cases hv with
    |v _ _ hv=>
    cases hv with
    |c _ _ hv=>
    cases hv with
    |ptr b _ _ he=>
    rw[he]at i
    cases i with
    |box _ _ c' e' _ hb hcs=>
    have t:=hcs.1;refine⟨b,off,c',e',(0,0),rfl,hb,by omega,by simp;omega,λj l=>?_,λj l=>?_⟩
    .rw [vD _ _ _ _ _ l];exact hcs.2 (off+j) (by omega)
    .exact (h.sr q _ r).2 j (vK _ _ _ j (vJ _ _ _ j l))
   .cases hr
  .cases hr
 .rename_i u
  split at hr
  .rename_i m
   cases hr
   cases hv with
   |v _ _ hv=>
   cases hv with
   |c _ _ hv=>
   cases hv with
   |elm b off c' e' fz _ hX hb p hd=>
   refine⟨b,off,c',e',fz,rfl,hb,by omega,by simp;omega,λj l=>?_,λj l=>?_⟩
   .have:((u.take n).map CV.d).getD j (.d .any)=.d (u.getD j .any):=by
     grind
    rw[this];exact .d _ _ (hd j (by omega))
   .rw [cN]at l;cases l
  .cases hr
 .rename_i q o g off
  split at hr
  .rename_i y k f r
   split at hr
   .rename_i m
    obtain⟨rfl,m,p⟩:=m;cases hr
    have i:=h.st q _ r
    cases hv with
    |v _ _ hv=>
    cases hv with
    |c _ _ hv=>
    cases hv with
    |pte b n' cap _ _ _ _ he=>
    rw[he]at i
    cases i with
    |nil=>exact absurd hc (by omega)
    |arr _ _ _ _ c' e' _ hb t hn hm hc0 hl hel=>
    have z:g*o+o<=cap*o:=by
     have:(g+1)*o<=cap*o:=Qb4 _ (by omega)
     grind
    refine⟨b,g*o+off,c',e',(0,0),rfl,hb,by omega,by simp;omega,λj l=>?_,λj l=>?_⟩
    .have:(((((f g).drop off).take n).map CV.d)).getD j (.d .any)=.d ((f g).getD (off+j) .any):=by
      grind
     rw[this];have:=hel g (off+j) hc (by omega)
     rw[Qq1];exact .d _ _ this
    .rw [cN]at l;cases l
   .cases hr
  .cases hr
 .cases hr
end
end
section
section
variable {P:Program} {L:Lay} {C:Ctx} {nt:Nat} {R:Nat->Prop} {η:Nat->Value} {e:U8} {s:J0} {a:Act} {w:World}
theorem kK{n:Int}(h:Q5 n):IntKind.i64.wrap n=n:=by
  obtain ⟨b,c⟩:=h;have e:IntKind.i64.wrap n=if n % 18446744073709551616 ≥ 9223372036854775808 then n % 18446744073709551616-18446744073709551616 else n % 18446744073709551616:=by
    simp[IntKind.wrap,IntKind.bits,IntKind.signed]
  grind
theorem WG{k:IntKind}{n:Int}(h:ARep w (XS C s η) η C v (.v (.c (.d (.int k n))))):v=.int k n:=by
  cases h with|v _ _ h=>cases h with|c _ _ h=>cases h with|d _ _ h=>cases h;rfl
theorem FG{b:Bool}(h:ARep w (XS C s η) η C v (.v (.c (.d (.bool b))))):v=.bool b:=by
  cases h with|v _ _ h=>cases h with|c _ _ h=>cases h with|d _ _ h=>cases h;rfl
theorem JY{b:ByteArray}(h:ARep w (XS C s η) η C v (.v (.c (.d (.str b))))):v=.string b:=by
  cases h with|v _ _ h=>cases h with|c _ _ h=>cases h with|d _ _ h=>cases h;rfl
theorem Wt(X:Nat->Prop)(k:IntKind)(n:Int):ARep w X η C (.int k n) (.v (.c (.d (.int k n)))):=.v _ _ (.c _ _ (.d _ _ (.int _ _)))
theorem FF(X:Nat->Prop)(b:Bool):ARep w X η C (.bool b) (.v (.c (.d (.bool b)))):=.v _ _ (.c _ _ (.d _ _ (.bool _)))
def yx(r:SR)(v:Value):Prop:=∃x c,r={v:=x,cond:=c} /\ (c->∀(w:World) (X:Nat->Prop) (η:Nat->Value) (C:Ctx),ARep w X η C v x)/\x.refs=[]
theorem FM(m:Bool)(k:IntKind)(n:Int)(c:Prop):(Un m k n c).cond->yx (Un m k n c) (.int k (k.wrap n))/\c:=by
  unfold Un;split
  . intro h
    refine⟨⟨_,_,rfl,λ_ w X η C=>?_,rfl⟩,h.2⟩;rw[kK h.1];exact Wt _ _ _
  . intro h
    exact⟨⟨_,_,rfl,λ_ w X η C=>Wt _ _ _,rfl⟩,h⟩
theorem Z4Y(op:BinOp)(t:TypeId)(m:Bool){k k' : IntKind}{n: Int}(w:World)(hr:Gq m op (.v (.c (.d (.int k n)))) (.v (.c (.d (.int k' n'))))=some r)(hc:r.cond):
    ∃v,(binOp op t (.int k n) (.int k' n')).run P w=.ok v w/\yx r v:=by
  simp only[Gq]at hr;split at hr
  . cases hr
    obtain⟨f,g⟩:=FM m k _ _ hc;refine⟨_,?_,f⟩
    have:¬n' < 0:=by omega
    simp[binOp,Op.shift,this]
  . cases hr
    have:¬n' < 0:=by have:(0:Int)<=n':=hc;omega
    exact⟨.int k (n.fdiv (2 ^ min n'.toNat k.bits)),by simp[binOp,Op.shift,this],_,_,rfl,λ_ _ _ _ _=>Wt _ _ _,rfl⟩
  . rename_i i h
    split at hr
    . rename_i j
      subst j;split at hr <;> first
        |(cases hr;done)
        | (cases hr
           obtain⟨f,g⟩:=FM m k _ _ hc;refine⟨_,?_,f⟩
           first
             |(simp[binOp,Op.intArith];done)
             |(simp[binOp,Op.intDiv,g];done))
        | (cases hr
           have b : n' ≠ 0:=hc;exact⟨.int k (n.tmod n'),by simp[binOp,Op.intDiv,b],_,_,rfl,λ_ _ _ _ _=>Wt _ _ _,rfl⟩)
        |(cases hr;refine⟨.int k (QK k n n'),?_,_,_,rfl,λ_ _ _ _ _=>Wt _ _ _,rfl⟩;simp[binOp,Op.intBits,QK];done)
        |(cases hr;refine⟨.int k (G8 k n n'),?_,_,_,rfl,λ_ _ _ _ _=>Wt _ _ _,rfl⟩;simp[binOp,Op.intBits,G8];done)
        |(cases hr;refine⟨.int k (xL k n n'),?_,_,_,rfl,λ_ _ _ _ _=>Wt _ _ _,rfl⟩;simp[binOp,Op.intBits,xL];done)
        |(cases hr;refine⟨.bool _,?_,_,_,rfl,λ_ _ _ _ _=>FF _ _,rfl⟩;simp[binOp,Op.intCmp];done)
    . cases hr
theorem Q7P(op:BinOp)(t:TypeId)(x y:Operand)(k k' : IntKind)(n n' : Int)(w:World):(eqGuard op t x y (.int k n) (.int k' n')).run P w=.ok () w:=by
  unfold eqGuard;split<;>rfl
theorem MK(h:Conc C nt R η e s a w)(hd:∀ x,o.dst=some x->x<nt)(hn:yx r v)(hc:r.cond)(hr:(execOp a.eval o).run P w=.ok (.value v) w):y8 P C nt R η e s a w o r:=by
  obtain⟨x,c,rfl,b,d⟩:=hn;exact QU h hd hr (b hc _ _ _ _) (by rw[d];simp)
theorem Q6E(h:Conc C nt R η e s a w)(hd:∀ x,o.dst=some x->x<nt){op:BinOp}{t': TypeId}(hop:o.op=.binOp op t x y t')(hr:Gq m op (Y5 e x) (Y5 e y)=some r)(hc:r.cond):y8 P C nt R η e s a w o r:=by
  have f:=(K3 h x).1;have b:=(K3 h y).1
  unfold Gq at hr;split at hr
  . rename_i k n g l i u
    rw[i]at f;rw[u]at b
    have z:=WG f;have p:=WG b
    obtain⟨v,j,q⟩:=Z4Y (P:=P) op t m w (show Gq m op (.v (.c (.d (.int k n)))) (.v (.c (.d (.int g l))))=some r from hr) hc;refine MK h hd q hc ?_
    simp only[execOp,hop,Qd8,z,p,Q7P,j,Qc5,Qf3]
  . cases hr
theorem Q6n(h:Conc C nt R η e s a w)(hd:∀ x,o.dst=some x->x<nt){op:UnOp}(hop:o.op=.unOp op t x)(hr:FJ m op (Y5 e x)=some r)(hc:r.cond):y8 P C nt R η e s a w o r:=by
  have c:=(K3 h x).1;unfold FJ at hr
  split at hr
  . rename_i b d
    cases hr
    rw[d]at c;have f:=FG c
    exact MK h hd ⟨_,_,rfl,λ_ _ _ _ _=>FF _ _,rfl⟩ hc (by simp[execOp,hop,f,Op.unary])
  . rename_i k n d
    cases hr
    rw[d]at c;have f:=WG c
    obtain⟨g,_⟩:=FM m k (0-n) _ hc;exact MK h hd g hc (by simp[execOp,hop,f,Op.unary,Op.intArith])
  . cases hr
theorem ja(h:Conc C nt R η e s a w)(hd:∀ x,o.dst=some x->x<nt)(hop:o.op=.move x\/o.op=.assign x):y8 P C nt R η e s a w o { v:=Y5 e x }:=by
  obtain⟨b,c⟩:=K3 h x;refine QU h hd ?_ b c
  rcases hop with hop|hop<;>simp[execOp,hop]
theorem gY(h:Conc C nt R η e s a w)(hd:∀ x,o.dst=some x->x<nt){c:Operand}(hop:o.op=.pick c x y){b:Bool}(hb:Y5 e c=.v (.c (.d (.bool b)))):
    y8 P C nt R η e s a w o {v:=Y5 e (if b then x else y)}:=by
  have f:=(K3 h c).1;rw[hb]at f
  have j:=FG f;obtain⟨g,i⟩:=K3 h (if b then x else y)
  refine QU h hd ?_ g i
  cases b<;>simp[execOp,hop,j,asBool]
theorem Q6u(hL:Qi P L)(h:Conc C nt R η e s a w)(hd:∀ x,o.dst=some x->x<nt)(hop:o.op=.load t x)(ht:L t=some ti){c:Prop}(hr:rd s ti.size (Y5 e x)=some (cs,c)){v:AVal}(hv:WW ti.kind.agg cs=some v)(hc:c):y8 P C nt R η e s a w o { v:=v,cond:=c }:=by
  obtain⟨i,d,z,r⟩:=hL t ti ht;obtain⟨b,f,q,F,fz,B,E,D,u,m,l⟩:=Q0i h hr hc (K3 h x).1
  have A:ti.kind.agg=false->ti.size=1:=by
    intro k;rw[k]at hv
    simp only[WW]at hv
    grind
  have n:=cc r E D A;refine QU h hd (v:=if ti.kind.agg then .agg (Zd q f ti.size).toArray else q.getD f undef) ?_ ?_ ?_
  . simp only[execOp,hop,Qd8,Instr.loadAt,B,Instr.sureAddr,Qf3,Qc5,n]
  . unfold WW at hv
    split at hv
    . rename_i k
      cases hv
      simp only[k,Qi8];refine .v _ _ (.g _ _ ⟨by simp[Zd,u],λj p=>?_⟩)
      rw[u]at p;have:(Zd q f ti.size).toArray.getD j undef=q.getD (f+j) undef:=by simp[Zd,p]
      rw[this];exact m j p
    . rename_i k
      split at hv
      . cases hv
        rename_i y
        simp only[k,Qi1,Qi0];have:=m 0 (by rw[A k];exact Nat.zero_lt_one)
        exact .v _ _ (.c _ _ (by simpa using this))
      . cases hv
  . unfold WW at hv
    split at hv
    . cases hv;exact l
    . split at hv
      . cases hv;intro j p;exact l j (by simpa[AVal.refs,TV.refs]using p)
      . cases hv
theorem Q6B(hL:Qi P L)(h:Conc C nt R η e s a w)(hd:∀ x,o.dst=some x->x<nt)(hop:o.op=.fieldAddr t x k)(ht:L t=some ti){fs:List (Nat×Nat)}(hk:ti.kind=.struct fs){ft:Nat}(hf:fs[k]?=some (off,ft)){tf:TI}(hft:L ft=some tf)(hz:tf.size≠0){v:AVal}(hv:∀ b o',a.eval x=.pointer (some ⟨b,o',none⟩)->ARep w (XS C s η) η C (.pointer (some ⟨b,o' + off,none⟩)) v)(hx:∀ j ∈ v.refs,R j)(hp:∃ b o',a.eval x=.pointer (some ⟨b,o',none⟩)):y8 P C nt R η e s a w o { v:=v }:=by
  obtain⟨i,d,z,g⟩:=hL t ti ht;obtain⟨A,u,y,m⟩:=hL ft tf hft
  have l:=g.kind;rw[hk]at l
  obtain⟨c,rfl,r⟩:=l;obtain⟨b,o',q⟩:=hp
  have n : ∃ f,c[k]?=some f/\f.offset=off/\f.type=ft:=by
    grind
  obtain⟨f,p,rfl,rfl⟩:=n;refine QU h hd ?_ (hv b o' q) hx
  simp only[execOp,hop,Qd8,Instr.fieldAt,Qb9 g.und,Qc5,p,q,Instr.sureAddr,Qf3,fieldPlace,Yu m,hz,Qi0,add_lit]
theorem yh(X:Nat->Prop)(h:η id=.pointer (some ⟨b,0,none⟩)):ARep w X η C (.pointer (some ⟨b,off,none⟩)) (.v (.c (.ptr id off))):=.v _ _ (.c _ _ (.ptr _ _ _ h))
theorem Dt(h:ARep w (XS C s η) η C v (.v (.c (.ptr id off)))):∃ b,v=.pointer (some ⟨b,off,none⟩)/\η id=.pointer (some ⟨b,0,none⟩):=by
  cases h with|v _ _ h=>cases h with|c _ _ h=>cases h with|ptr b _ _ h=>exact⟨b,rfl,h⟩
theorem yi{idx:Nat}(h:ARep w (XS C s η) η C v (.v (.c (.pte id es idx off)))):∃ b n cap,v=.pointer (some ⟨b,idx*es+off,none⟩)/\η id=.slice (some ⟨b,0,none⟩) n cap:=by
  cases h with|v _ _ h=>cases h with|c _ _ h=>cases h with|pte b n cap _ _ _ _ h=>exact⟨b,n,cap,rfl,h⟩
theorem Q2o{cs:List DVal}(h:ARep w (XS C s η) η C v (.v (.c (.elm cs)))):∃ b off c e' fz,v=.pointer (some ⟨b,off,none⟩)/\¬ XS C s η b/\w.heap[b]?=some (.cells c e' fz) /\
    off+cs.length<=c.size/\∀j,j<cs.length->DRep w (XS C s η) (c.getD (off+j) undef) (cs.getD j .any):=by
  cases h with|v _ _ h=>cases h with|c _ _ h=>cases h with|elm b off c e' fz _ hX hb ho hc=>exact⟨b,off,c,e',fz,rfl,hX,hb,ho,hc⟩
theorem WE(h:ARep w (XS C s η) η C v (.v (.c (.own id)))):v=η id:=by
  cases h with|v _ _ h=>cases h with|c _ _ h=>cases h with|own _ _ h _=>exact h
theorem Z3M{e' : TypeId}{fz:Nat×Nat}{cs:List DVal}(X:Nat->Prop)(hX:¬ X b)(hb:w.heap[b]?=some (.cells c e' fz))(ho:off+cs.length<=c.size)(hc:∀ j,j<cs.length->DRep w X (c.getD (off+j) undef) (cs.getD j .any))(k:Nat)(hk:k<=cs.length):
    ARep w X η C (.pointer (some ⟨b,off+k,none⟩)) (.v (.c (.elm (cs.drop k)))):=by
  refine .v _ _ (.c _ _ (.elm b (off+k) c e' fz _ hX hb (by simp;omega) λj g=>?_));have d : k+j<cs.length:=by simp at g;omega
  have:=hc (k+j) d
  have f:(cs.drop k).getD j .any=cs.getD (k+j) .any:=by simp[Qa0]
  rw[f,Qq1];exact this
theorem xT{x:AVal}(h:ARep w (XS C s η) η C v x)(hx:Zi.asF x=some (n,f)):
    ∃ad cap,v=.slice ad n cap/\DRep w (XS C s η) v (.lst n f):=by
  unfold Zi.asF at hx;split at hx
  . cases hx
    cases h with|v _ _ h=>cases h with|c _ _ h=>cases h with|d _ _ h=>
    cases h with
    |nil ad cap _=>exact⟨ad,cap,rfl,.nil _ _ _⟩
    |lst b off _ cap c e' fz _ es h1 h2 h3 h4 h5 h6=>exact⟨_,cap,rfl,.lst b off _ cap c e' fz _ es h1 h2 h3 h4 h5 h6⟩
  . cases hx
    cases h with|v _ _ h=>cases h with|c _ _ h=>cases h with|fl ad _ _ h=>exact⟨ad,_,rfl,h⟩
  . cases hx
end
end
section
theorem Z4Z(h:v.oneCell'=true):v.cells=#[v]:=by
 cases v<;>first|rfl|(simp[Value.oneCell']at h)
section
variable {P:Program} {L:Lay} {C:Ctx} {nt:Nat} {R:Nat->Prop} {η:Nat->Value} {e:U8} {s:J0} {a:Act} {w:World}
theorem xI{X:Nat->Prop}{x:AVal}(h:ARep w X η C v x)(hx:Gp x=some xs):Qf w X η C v.cells xs/\∀j∈xs.flatMap CV.refs,j∈x.refs:=by
 unfold Gp at hx;split at hx
 .cases hx
  cases h with|v _ _ h=>cases h with|c _ _ h=>
  rw[Z4Z h.one];exact⟨⟨rfl,λj b=>by
   have:j=0:=by simp at b;omega
   subst this;simpa using h⟩,λj b=>by simpa[AVal.refs,TV.refs]using b⟩
 .cases hx
  cases h with|v _ _ h=>cases h with|g vs _ h=>
  exact⟨h,λj b=>b⟩
 .cases hx
theorem Kb{α:Type}(cs xs:List α)(off:Nat)(h:off+xs.length<=cs.length):(Yf cs off xs).length=cs.length:=by
 simp[Yf];omega
theorem MJ{α:Type}(cs xs:List α)(off t:Nat)(d:α)(h:off+xs.length<=cs.length):
  (Yf cs off xs).getD t d=if off<=t/\t<off+xs.length then xs.getD (t-off) d else cs.getD t d:=by
 unfold Yf;simp only[Qa0,Qf8,Qd1,Qj4,Qs5]
 have b:min off cs.length=off:=by omega
 rw[b]
 by_cases h1:t<off
 .rw [Qa2 h1,Qa2 h1,Qa1 (by omega)]
 .rw [Qa1 h1]
  by_cases h2:t<off+xs.length
  .rw [Qa2 (by omega),Qa2 (by omega)]
  .rw [Qa1 (by omega),Qa1 (by omega)]
   congr 2;omega
theorem gK{α:Type}(cs xs:List α)(off:Nat):∀x∈Yf cs off xs,x∈cs\/x∈xs:=by
 intro x b;unfold Yf at b
 grind
theorem Z2M(off:Nat)(vs:List Value):∀ (k:Nat) (cs:Array Value),off+k+vs.length<=cs.size ->
  ((vs.zipIdx k).foldl (λcs p=>cs.setIfInBounds (off+p.2) p.1) cs).size=cs.size /\
  ∀t,((vs.zipIdx k).foldl (λcs p=>cs.setIfInBounds (off+p.2) p.1) cs).getD t undef=if off+k<=t/\t<off+k+vs.length then vs.getD (t-off-k) undef else cs.getD t undef:=by
 induction vs with
 |nil=>intro k cs _;refine⟨rfl,λt=>?_⟩;rw[Qa1 (by simp)];rfl
 |cons v r ih=>
  intro k cs h;simp only[Qb0]at h
  obtain⟨c,b⟩:=ih (k+1) (cs.setIfInBounds (off+k) v) (by simp;omega);refine⟨by simpa[Qq2]using c,λt=>?_⟩
  simp only[Qq2,Qp0,Qb0];rw[b t]
  by_cases h3:off+(k+1)<=t/\t<off+(k+1)+r.length
  .grind
  .rw [Qa1 h3]
   by_cases h4:t=off+k
   .subst h4
    rw[Qa2 (by omega)];have:off+k<cs.size:=by omega
    simp[this]
   .rw [Qa1 (by omega)]
    simp[Qw1 h4]
theorem Q1K{X:Nat->Prop}{pl:Nat->Option (Nat×Nat)}:∀ (ps:List (Nat×AVal)) (vs:List (Nat×Value)) (cells:List CV) (vc:Array Value) (cs:List CV),
  Uc pl cells ps=some cs->Qf w X η C vc cells->vs.map (·.1)=ps.map (·.1)->(∀(j:Nat) x v,ps[j]?=some x->vs[j]?=some v->ARep w X η C v.2 x.2) ->
  ∃vc',Instr.fill pl vc vs=some vc' /\ Qf w X η C vc' cs/\∀j∈cs.flatMap CV.refs,j∈cells.flatMap CV.refs\/∃x∈ps,j∈x.2.refs:=by
 intro ps
 induction ps with
 |nil=>
  intro vs cells vc cs h u k _;cases h
  have:vs=[]:=by simpa using k
  subst this;exact⟨vc,rfl,u,λj c=>.inl c⟩
 |cons p ps ih=>
  intro vs cells vc cs h u k J;obtain⟨i,x⟩:=p
  cases vs with
  |nil=>simp at k
  |cons v vs=>
   obtain⟨N,v⟩:=v;simp only[Qg4,Ql5]at k
   obtain⟨rfl,k⟩:=k;simp only[Uc]at h
   split at h
   .rename_i b f H E D
    split at h
    .rename_i q
     obtain⟨d,q⟩:=q;have B:ARep w X η C v x:=J 0 _ _ rfl rfl
     obtain⟨m,F⟩:=xI B D;have o:v.cells.size=f:=by rw[m.1,d]
     have A:vc.size=cells.length:=u.1;have G:=Z2M b v.cells.toList 0 vc (by simp[o];omega)
     have g:v.cells.zipIdx.foldl (λcs (p:Value×Nat)=>cs.setIfInBounds (b+p.2) p.1) vc=(v.cells.toList.zipIdx 0).foldl (λcs p=>cs.setIfInBounds (b+p.2) p.1) vc:=by
      rw[<-Array.foldl_toList,Array.toList_zipIdx]
     have n:Qf w X η C (v.cells.zipIdx.foldl (λcs (p:Value×Nat)=>cs.setIfInBounds (b+p.2) p.1) vc) (Yf cells b H):=by
      rw[g];refine⟨by rw[G.1,Kb _ _ _ (by omega)];exact A,λt I=>?_⟩
      rw[G.2 t,MJ _ _ _ _ _ (by omega)];rw[Kb _ _ _ (by omega)]at I
      simp only[Ql2,Qq8,Qo5,o,d]
      by_cases l:b<=t/\t<b+f
      .rw [Qa2 l,Qa2 l]
       have:=m.2 (t-b) (by omega)
       simpa[Qa0]using this
      .rw [Qa1 l,Qa1 l]
       exact u.2 t I
     obtain⟨vc',O,K,l⟩:=ih vs (Yf cells b H) _ cs h n k (λj x v M B=>J (j+1) x v (by simpa using M) (by simpa using B));refine⟨vc',?_,K,λj c=>?_⟩
     .simp only[Instr.fill,E]
      grind
     .rcases l j c with c|⟨y,Q,c⟩
      .obtain ⟨z,r,c⟩:=Qc1.1 c
       rcases gK _ _ _ z r with r|r
       .grind
       .exact .inr ⟨_,Qg5,F j (Qc1.2 ⟨z,r,c⟩)⟩
      all_goals grind
    .cases h
   .cases h
theorem Q7M(hL:Qi P L):∀ (fields:List Field) (fs:List (Nat×Nat)) (pl:List (Nat×Nat)),fields.map (fun f=>(f.offset,f.type))=fs->XN L fs=some pl ->
  fields.mapM (λf=>(P.info? f.type).map λi=>(f.offset,i.size))=some pl:=by
 intro fields
 induction fields with
 |nil=>intro fs pl g b;subst g;simpa[XN]using b
 |cons f r ih=>
  intro fs pl g b;subst g
  simp only[Qg4,XN]at b;split at b
  .rename_i k l h j
   cases b
   obtain⟨i,d,z,c⟩:=hL _ _ h;have:=ih _ l rfl j
   simp[List.mapM_cons,c.info,this,c.size]
  .cases b
theorem Q1Z(h:Conc C nt R η e s a w)(ps:Array (Nat×Operand)):
  ((ps.map λ(p:Nat×Operand)=>(p.1,a.eval p.2)).toList).map (·.1)=(ps.toList.map λp=>(p.1,Y5 e p.2)).map (·.1) /\
  (∀(j:Nat) x v,(ps.toList.map λp=>(p.1,Y5 e p.2))[j]?=some x->((ps.map λ(p:Nat×Operand)=>(p.1,a.eval p.2)).toList)[j]?=some v->ARep w (XS C s η) η C v.2 x.2) /\
  ∀x∈(ps.toList.map λp=>(p.1,Y5 e p.2)),∀j∈x.2.refs,R j:=by
 refine⟨by simp,λj x v b c=>?_,λx b j d=>?_⟩
 .rw [Qk3]at b
  simp only[Array.toList_map,Qk3]at c
  cases hp:ps.toList[j]? with
  |none=>rw[hp]at b;cases b
  |some p=>
   rw[hp]at b c
   cases b;cases c
   exact(K3 h p.2).1
 .obtain ⟨p,_,rfl⟩:=Qc7.1 b
  exact(K3 h p.2).2 j d
theorem je(hL:Qi P L)(h:Conc C nt R η e s a w)(hd:∀x,o.dst=some x->x<nt){ps:Array (Nat×Operand)}(hop:o.op=.build t ps)(ht:L t=some ti){pl:Nat->Option (Nat×Nat)}(hpl:(∃fs l,ti.kind=.struct fs/\XN L fs=some l/\pl=λi=>l[i]?)\/(∃n el te,ti.kind=.array n el/\L el=some te/\pl=λi=>some (i*te.size,te.size)))(hf:Uc pl ti.zero (ps.toList.map λp=>(p.1,Y5 e p.2))=some cs):y8 P C nt R η e s a w o {v:=.v (.g cs)}:=by
 obtain⟨i,d,z,b⟩:=hL t ti ht;obtain⟨H,J,F⟩:=Q1Z h ps
 obtain⟨D,c,r,y⟩:=Q1K _ _ _ _ _ hf (b.zrep w (XS C s η) η C) H J;refine QU h hd (v:=.agg D) ?_ (.v _ _ (.g _ _ r)) λj m=>?_
 .have I:P.built t (ps.map fun (p:Nat×Operand)=>(p.1,a.eval p.2)).toList=some D:=by
   have q:=b.kind;rcases hpl with ⟨fs,l,k,E,rfl⟩|⟨n,el,te,k,B,rfl⟩
   .rw [k]at q
    obtain⟨u,rfl,A⟩:=q;have:=Q7M hL _ _ _ A E
    simp only[Program.built,b.info,b.und,b.zero,this];simpa using c
   .rw [k]at q
    simp only[ZE]at q;subst q
    obtain⟨N,K,M,f⟩:=hL el te B;simp only[Program.built,b.info,b.und,b.zero,f.info,f.size]
    exact c
  simp only[execOp,hop,Qd8];rw[run_build w t _ D I];rfl
 .rcases y j m with m|⟨x,G,m⟩
  .rw [b.zrefs]at m;cases m
  .exact F x G j m
theorem gZ(h:Conc C nt R η e s a w)(hd:o.dst=some d)(hdn:d<nt)(hR:¬ R d){ety:TypeId}(hrun:(execOp a.eval o).run P w=.ok (.value (.pointer (some ⟨w.heap.size,0,none⟩))) { w with heap:=w.heap.push (.cells vs ety) })(hcs:Qf w (XS C s η) η C vs cs)(hrf:∀ j ∈ cs.flatMap CV.refs,R j):
  y8 P C nt R η e s a w o {v:=.v (.c (.ptr d 0)),new:=some (.box false cs)}:=by
 refine⟨_,_,.inl hrun,?_⟩;have i:∀b,b∈V8 (.pointer (some (⟨w.heap.size,0,none⟩:Addr)))->w.heap.size<=b:=by intro b g;simp[V8]at g;omega
 have r:=UF (C:=C) (s:=s) (η:=η) {v:=.v (.c (.ptr d 0)),new:=some (.box false cs)} o.dst (.pointer (some ⟨w.heap.size,0,none⟩)) (λ_=>False) (Stp.alloc _ w (.cells vs ety)) (λb g=>g.elim)
  (λ_ _ _ _ b g=>.inl (i b g)) (λk o m=>by cases m)
 have p:=Z3t (η:=η) (R:=R) {v:=.v (.c (.ptr d 0)),new:=some (.box false cs)} o.dst (.pointer (some ⟨w.heap.size,0,none⟩)) (λ_ dd _ f=>by rw[hd]at f;cases f;exact hR);refine h.step o.dst (λx q=>by rw[hd]at q;cases q;exact hdn) _ _ _ (λ_=>False) (Stp.alloc _ w _) (λb g=>g.elim) ?_ (λk o m=>by cases m) ?_
 .intro t dd n f
  cases n
  rw[hd]at f;cases f
  exact⟨hR,rfl,hrf,.box _ _ vs ety cs (by simp) (hcs.mono r λj l=>p j (hrf j l)),λb g=>.inl (i b g)⟩
 .intro _
  refine⟨yh _ (by simp[SR.eta,hd]),λj l=>?_⟩;simp[AVal.refs,TV.refs,CV.refs]at l
  exact .inr ⟨by simp,by rw[hd,l]⟩
theorem Q6F(hL:Qi P L)(h:Conc C nt R η e s a w)(hd:o.dst=some d)(hdn:d<nt)(hR:¬ R d)(hop:o.op=.alloc t)(ht:L t=some ti):
  y8 P C nt R η e s a w o {v:=.v (.c (.ptr d 0)),new:=some (.box false ti.zero)}:=by
 obtain⟨i,dd,z,b⟩:=hL t ti ht;refine gZ h hd hdn hR (vs:=z.cells) (ety:=t) ?_ (b.zrep _ _ _ _) (by rw[b.zrefs];simp)
 simp[execOp,hop,Instr.alloc,Rx b,newVar,newRow]
theorem Q6D(h:Conc C nt R η e s a w)(hd:o.dst=some d)(hdn:d<nt)(hR:¬ R d)(hop:o.op=.box t x)(hx:Gp (Y5 e x)=some xs):
  y8 P C nt R η e s a w o {v:=.v (.c (.ptr d 0)),new:=some (.box false xs)}:=by
 obtain⟨g,b⟩:=K3 h x;obtain⟨i,k⟩:=xI g hx
 refine gZ h hd hdn hR (vs:=(a.eval x).cells) (ety:=t) ?_ i λj f=>b j (k j f)
 simp[execOp,hop,Instr.box,newVar,newRow]
end
end
section
section
variable {P:Program} {L:Lay} {C:Ctx} {nt:Nat} {R:Nat->Prop} {η:Nat->Value} {e:U8} {s:J0} {a:Act} {w:World}
theorem Q4C{X:Nat->Prop}{x:CV}{y:DVal}(h:CRep w X η C v x)(hx:Ls x=some y):DRep w X v y:=by
 unfold Ls at hx;split at hx
 .cases hx;cases h with|d _ _ h=>exact h
 .cases hx;cases h with|fl _ _ _ h=>exact h
 .cases hx
theorem kU{X:Nat->Prop}:∀ (cs:List CV) (ds:List DVal) (c:Array Value) (off:Nat),Vm cs=some ds->(∀ j,j<cs.length->CRep w X η C (c.getD (off+j) undef) (cs.getD j (.d .any))) ->
  ds.length=cs.length/\∀j,j<ds.length->DRep w X (c.getD (off+j) undef) (ds.getD j .any):=by
 intro cs
 induction cs with
 |nil=>intro ds c off h _;cases h;exact⟨rfl,λj b=>by simp at b⟩
 |cons x r ih=>
  intro ds c off h g;simp only[Vm]at h
  split at h
  .rename_i y l i f
   cases h
   obtain⟨m,k⟩:=ih l c (off+1) f (λj b=>by have:=g (j+1) (by simp;omega);rwa [Qq1,Qn0 1 j]);refine⟨by simp[m],λj b=>?_⟩
   cases j with
   |zero=>exact Q4C (g 0 (by simp)) i
   |succ j=>have:=k j (by simpa using b);rw[Qq1,Qn0 1 j]at this;simpa using this
  .cases h
theorem setRow_stp(w:World)(b:Nat)(cs:Array Value):Stp (λx=>x=b) w (w.setRow b cs):=
 ⟨rfl,rfl,rfl,by simp,λx _ c=>setRow_other w b x cs c,Qb3 _⟩
theorem Rh(c:Array Value)(off:Nat)(vs:List Value)(h:off+vs.length<=c.size):
  (c.toList.take off++vs++c.toList.drop (off+vs.length)).toArray.size=c.size /\
  ∀t,(c.toList.take off++vs++c.toList.drop (off+vs.length)).toArray.getD t undef=if off<=t/\t<off+vs.length then vs.getD (t-off) undef else c.getD t undef:=by
 have b:off+vs.length<=c.toList.length:=by simpa using h
 have d:c.toList.take off++vs++c.toList.drop (off+vs.length)=Yf c.toList off vs:=by simp[Yf]
 rw[d];refine⟨by simp[Kb _ _ _ b],λt=>?_⟩
 have:=MJ c.toList vs off t undef b
 simpa[Qa0,Qe9]using this
theorem gX(h:Conc C nt R η e s a w)(hd:o.dst=none){ob ob' : Obj}(hs:s id=some ob)(hro:ob.ro=false)(hro' : ob'.ro=false)(hrf:∀j∈ob'.refs,R j){cs:Array Value}{c:Prop}(hb:b∈V8 (η id))(hrun:(execOp a.eval o).run P w=.ok .skip (w.setRow b cs))(hob:∀X',QQ w (w.setRow b cs) (XS C s η) X' -> ORep (w.setRow b cs) X' η C (η id) ob'):y8 P C nt R η e s a w o {upd:=some (id,ob'),cond:=c}:=by
 have l:Own s η b:=⟨id,ob,hs,hb⟩;have n:=UF (C:=C) (s:=s) (η:=η) {upd:=some (id,ob'),cond:=c} o.dst undef (λx=>x=b) (setRow_stp w b cs) (λx g=>by subst g;exact l) (λ_ _ d=>by cases d)
  (λk o d=>by cases d;rw[hs];simp)
 have f:SR.eta {upd:=some (id,ob'),cond:=c} o.dst undef η=η:=by funext i;simp[SR.eta]
 refine⟨undef,_,.inr ⟨hrun,rfl⟩,?_⟩;refine h.step o.dst (λx g=>by rw[hd]at g;cases g) _ _ _ (λx=>x=b) (setRow_stp w b cs) ?_ (λ_ _ d=>by cases d) ?_ (λd=>absurd hd d)
 .intro x g
  subst g;refine⟨⟨id,.inr ⟨ob',rfl⟩,by rw[hs];simp,hb⟩,?_⟩
  rcases h.ow id ob _ hs hb with ⟨m,_⟩|m
  .rw [hro]at m;cases m
  .exact m
 .intro k p d
  cases d
  refine⟨⟨ob,hs,hro⟩,hro',by simp,hrf,?_⟩;rw[f]
  rw[f]at n;exact hob _ n
theorem Q6o(hL:Qi P L)(h:Conc C nt R η e s a w)(hd:o.dst=none)(hop:o.op=.store t x y)(ht:L t=some ti)(hy:Gp (Y5 e y)=some xs)(hsz:xs.length=ti.size)(hr:wr s xs (Y5 e x)=some r)(hc:r.cond):y8 P C nt R η e s a w o r:=by
 obtain⟨i,dd,z,Z⟩:=hL t ti ht;obtain⟨Y,a3⟩:=K3 h y
 obtain⟨B,a2⟩:=xI Y hy;have G:=(K3 h x).1
 have S:∀v∈(a.eval y).cells.toList,v.oneCell'=true:=by
  intro v hv;obtain⟨j,n,rfl⟩:=Qc3 hv
  have T : j<(a.eval y).cells.size:=by simpa using n
  have:=(B.2 j (by rw[<-B.1];exact T)).one
  simpa[T]using this
 have g:(a.eval y).cells.toList.length=xs.length:=by simpa using B.1
 have N:∀ (b d:Nat) (c:Array Value) (A : TypeId),a.eval x=.pointer (some ⟨b,d,none⟩)->w.heap[b]?=some (.cells c A (0,0))->d+xs.length<=c.size ->
   (execOp a.eval o).run P w=.ok .skip (w.setRow b (c.toList.take d++(a.eval y).cells.toList++c.toList.drop (d+(a.eval y).cells.toList.length)).toArray):=by
  intro b d c A O J ho;have:=Qp5 P b d A (a.eval y).cells.toList 0 c w J (by rw[g];omega) S
  simp only[Ql2]at this;have p : (a.eval y).cells.size=ti.size:=by rw[<-Qo5,g,hsz]
  simp only[execOp,hop,Qd8,Instr.storeAt,O,Instr.sureAddr,Qf3,Qc5,storeVar,Yu Z,p,ne_eq,not_true,Qi0,Sem.run_ite,this]
 unfold wr at hr;split at hr
 .rename_i V d e1
  rw[e1]at G;obtain⟨b,O,K⟩:=Dt G
  split at hr
  .rename_i bs M
   split at hr
   .rename_i q
    cases hr
    have F:=h.st V _ M;rw[K]at F
    cases F with
    |box _ _ c A _ J hbs=>
    have D:=Rh c d (a.eval y).cells.toList (by rw[g,hbs.1];omega);refine gX h hd M rfl rfl (λj n=>?_) (b:=b) (by rw[K];simp[V8]) (N b d c A O J (by rw[hbs.1];omega)) λX' I=>?_
    .obtain ⟨u,Q,n⟩:=Qc1.1 n
     rcases gK _ _ _ u Q with Q|Q
     .exact (h.sr V _ M).2 j (Qc1.2 ⟨u,Q,n⟩)
     .exact a3 j (a2 j (Qc1.2 ⟨u,Q,n⟩))
    .rw [K]
     refine .box b false _ A _ (Qv7 w b c _ A _ J) ⟨by rw[D.1,Kb _ _ _ q];exact hbs.1,λj n=>?_⟩;rw[Kb _ _ _ q]at n
     rw[D.2 j,MJ _ _ _ _ _ q]
     by_cases h3:d<=j/\j<d+xs.length
     .rw [Qa2 (by rw[g];exact h3),Qa2 h3]
      have:=(B.2 (j-d) (by omega)).mono I (λ_ _=>rfl)
      simpa[Qa0]using this
     .rw [Qa1 (by rw[g];exact h3),Qa1 h3]
      exact(hbs.2 j n).mono I (λ_ _=>rfl)
   .cases hr
  .cases hr
 .rename_i V m l d e1
  rw[e1]at G;obtain⟨b,n0,E,O,K⟩:=yi G
  split at hr
  .rename_i b2 k f M
   split at hr
   .rename_i ds a0
    split at hr
    .rename_i q
     obtain⟨rfl,q,a6⟩:=q;cases hr
     have F:=h.st V _ M;rw[K]at F
     cases F with
     |nil=>exact absurd hc (by simp)
     |arr _ _ _ _ c A _ J p hn hm hc0 hl hel=>
     have b0:l*m+m<=E*m:=by
      have I:l<n0:=hc;have:(l+1)*m<=E*m:=Qb4 _ (by omega)
      grind
     obtain⟨b1,W⟩:=kU (w:=w) (η:=η) (C:=C) (X:=XS C s η) xs ds (a.eval y).cells 0 a0 (λj n=>by rw[Qd2];exact B.2 j n);have H:l*m+d+xs.length<=c.size:=by rw[p];omega
     have D:=Rh c (l*m+d) (a.eval y).cells.toList (by rw[g];exact H);refine gX h hd M rfl rfl (by simp[Obj.refs]) (b:=b) (by rw[K];simp[V8];omega) (N b _ c A O J H) λX' I=>?_
     rw[K];refine .arr b n0 E m _ A _ (Qv7 w b c _ A _ J) (by rw[D.1];exact p) hn hm hc0 (λi U=>?_) λi j U n=>?_
     .by_cases hii:i=l
      .subst hii;simp only[Qi8];rw[Kb _ _ _ (by omega)];exact a6
      .simp only[hii,Qi0];exact hl i U
     .rw [D.2]
      by_cases hii:i=l
      .subst hii
       simp only[Qi8];rw[MJ _ _ _ _ _ (by omega)]
       by_cases h3:d<=j/\j<d+ds.length
       .rw [Qa2 (by rw[g];omega),Qa2 h3]
        have:=(W (j-d) (by omega)).mono I
        have e3:i*m+j-(i*m+d)=j-d:=by omega
        rw[e3];simpa[Qa0]using this
       .rw [Qa1 (by rw[g];omega),Qa1 h3]
        exact(hel i j U n).mono I
      .simp only[hii,Qi0]
       have a4:¬(l*m+d<=i*m+j/\i*m+j<l*m+d+xs.length):=by
        rintro⟨h4,h5⟩;rcases Nat.lt_or_gt_of_ne hii with h6|h6
        .have:(i+1)*m<=l*m:=Qb4 _ h6
         grind
        .have:(l+1)*m<=i*m:=Qb4 _ h6
         grind
       rw[Qa1 (by rw[g];exact a4)];exact(hel i j U n).mono I
    .cases hr
   .cases hr
  .cases hr
 .cases hr
end
end
section
section
variable {P:Program} {L:Lay} {C:Ctx} {nt:Nat} {R:Nat->Prop} {η:Nat->Value} {e:U8} {s:J0} {a:Act} {w:World}
theorem VO(h:Conc C nt R η e s a w)(hd:o.dst=some d)(hdn:d<nt)(hR:¬ R d){c:Prop}{Z:Nat->Prop}(hrun:(execOp a.eval o).run P w=.ok (.value v) w')(hstep:Stp Z w w')(hone:v.oneCell'=true)(hZ:∀ b,Z b->∃ i ∈ del,s i≠none/\b ∈ V8 (η i))(hdel:∀ i ∈ del,∀ o',s i=some o' -> o'.ro=false)(hv:∀ b,b ∈ V8 v->w.heap.size<=b\/∃ i ∈ del,s i≠none/\b ∈ V8 (η i))(hob:∀ X',QQ w w' (XS C s η) X' -> ORep w' X' (SR.eta { v:=.v (.c (.own d)),del:=del,new:=some (.arr es n f),cond:=c } o.dst v η) C v (.arr es n f)):
  y8 P C nt R η e s a w o {v:=.v (.c (.own d)),del:=del,new:=some (.arr es n f),cond:=c}:=by
 have q:∀i∈del,s i≠none->∀b,b∈V8 (η i)->C.M b\/C.w0.heap.size<=b:=by
  intro i m r b p;obtain⟨o',l⟩:=Qa9.1 r
  rcases h.ow i o' b l p with ⟨y,_⟩|y
  all_goals grind
 have B:=UF (C:=C) (s:=s) (η:=η) {v:=.v (.c (.own d)),del:=del,new:=some (.arr es n f),cond:=c} o.dst v Z hstep
  (λb p=>by
   obtain⟨i,_,m,g⟩:=hZ b p;obtain⟨o',l⟩:=Qa9.1 m
   exact⟨i,o',l,g⟩)
  (λ_ _ _ _ b p=>(hv b p).imp id λ⟨i,_,m,g⟩=>by
   obtain⟨o',l⟩:=Qa9.1 m;exact⟨i,o',l,g⟩)
  (λk o u=>by cases u)
 refine⟨v,w',.inl hrun,h.step o.dst (λx z=>by rw[hd]at z;cases z;exact hdn) _ _ _ Z hstep ?_ ?_ (λk o u=>by cases u) ?_⟩
 .intro b p
  obtain⟨i,m,r,g⟩:=hZ b p;exact⟨⟨i,.inl m,r,g⟩,q i m r b g⟩
 .intro o' dd l t
  cases l
  rw[hd]at t;cases t
  refine⟨hR,rfl,by simp[Obj.refs],hob _ B,λb p=>?_⟩;rcases hv b p with y|⟨i,m,r,g⟩
  .exact .inl y
  .exact .inr ⟨⟨i,m,r,g⟩,q i m r b g⟩
 .intro _
  refine⟨.v _ _ (.c _ _ (.own _ _ (by simp[SR.eta,hd]) hone)),λj A=>?_⟩;simp[AVal.refs,TV.refs,CV.refs]at A
  exact .inr ⟨by simp,by rw[hd,A]⟩
theorem Q3o(h:Conc C nt R η e s a w){x:AVal}(hv:ARep w (XS C s η) η C v x)(hx:Vi s x=some (n,f)):
  ∃ad cap,v=.slice ad n cap/\n<=cap/\(n=0\/∃b off c e' fz es,ad=some ⟨b,off,none⟩/\w.heap[b]?=some (.cells c e' fz)/\off+n*es<=c.size/\(∀i,i<n->(f i).length=es) /\
   ∀i j,i<n->j<es->DRep w (XS C s η) (c.getD (off+(i*es+j)) undef) ((f i).getD j .any)):=by
 have k:∀ {v:Value},DRep w (XS C s η) v (.lst n f)->∃ ad cap,v=.slice ad n cap/\n<=cap/\(n=0\/∃ b off c e' fz es,ad=some ⟨b,off,none⟩/\w.heap[b]?=some (.cells c e' fz)/\off+n*es<=c.size/\(∀ i,i<n->(f i).length=es) /\
   ∀i j,i<n->j<es->DRep w (XS C s η) (c.getD (off+(i*es+j)) undef) ((f i).getD j .any)):=by
  intro v z
  cases z with
  |nil ad cap _=>exact⟨ad,cap,rfl,Qc2 _,.inl rfl⟩
  |lst b off _ cap c e' fz _ es h1 h2 h3 h4 h5 h6=>exact⟨_,cap,rfl,h3,.inr ⟨b,off,c,e',fz,es,rfl,h2,h4,h5,h6⟩⟩
 unfold Vi at hx;split at hx
 .cases hx
  cases hv with|v _ _ hv=>cases hv with|c _ _ hv=>cases hv with|d _ _ hv=>exact k hv
 .cases hx
  cases hv with|v _ _ hv=>cases hv with|c _ _ hv=>cases hv with|fl _ _ _ hv=>exact k hv
 .split at hx
  .rename_i l _ es y A p
   cases hx
   have g:=h.st l _ p;have ev:=WE hv
   rw[ev];generalize η l=u at g
   cases g with
   |nil _ es _=>exact⟨_,_,rfl,Qb3 _,.inl rfl⟩
   |arr b _ cap es c e' _ hb hsz hn hm hc hl hel=>
    exact⟨_,cap,rfl,hn,.inr ⟨b,0,c,e',(0,0),es,rfl,hb,by rw[Qd2,hsz];exact Qb4 _ hn,hl,λi j o r=>by rw[Qd2];exact hel i j o r⟩⟩
  .cases hx
 .split at hx
  .rename_i l es q y _ t N A p
   split at hx
   .rename_i m
    subst m;cases hx
    have g:=h.st l _ p
    cases hv with|v _ _ hv=>cases hv with|c _ _ hv=>cases hv with
    |sub b N' cap _ _ _ _ hη h1 h2=>
     rw[hη]at g
     cases g with
     |nil=>exact absurd h2 (Qd7 _)
     |arr b _ cap es c e' _ hb hsz hn hm hc hl hel=>
      refine⟨_,cap-q,rfl,by omega,.inr ⟨b,q*es,c,e',(0,0),es,rfl,hb,?_,λi o=>hl _ (by omega),λi j o r=>?_⟩⟩
      .rw [hsz, <-Qg8];exact Qb4 _ (by omega)
      all_goals grind
    |subN ad ad' N' _ _ hη=>exact⟨_,_,rfl,Qb3 _,.inl rfl⟩
   .cases hx
  .cases hx
 .cases hx
theorem Q6x(hL:Qi P L)(h:Conc C nt R η e s a w)(hd:∀x,o.dst=some x->x<nt)(hop:o.op=.call {callee:=.builtin .len,args:= #[x],argTypes:= #[t]})(ht:L t=some ti)(hk:ti.kind=.slice el)(hx:Vi s (Y5 e x)=some (n,f)):y8 P C nt R η e s a w o {v:=vi n}:=by
 obtain⟨i,dd,z,c⟩:=hL t ti ht;have b:=c.kind
 rw[hk]at b;simp only[ZE]at b
 obtain⟨g,d,ev,_⟩:=Q3o h (K3 h x).1 hx;refine QU h hd (v:=.int .i64 n) ?_ (Wt _ _ _) (by simp[vi,AVal.refs,TV.refs,CV.refs])
 simp[execOp,hop,resolve,invoke,builtin,Builtin.len_,Qb9 c.und,b,ev,goInt]
theorem Q6w(hL:Qi P L)(h:Conc C nt R η e s a w)(hd:∀x,o.dst=some x->x<nt)(hop:o.op=.call {callee:=.builtin .len,args:= #[x],argTypes:= #[t]})(ht:L t=some ti)(hk:ti.kind=.array n el):y8 P C nt R η e s a w o {v:=vi n}:=by
 obtain⟨i,dd,z,c⟩:=hL t ti ht;have b:=c.kind
 rw[hk]at b;simp only[ZE]at b
 refine QU h hd (v:=.int .i64 n) ?_ (Wt _ _ _) (by simp[vi,AVal.refs,TV.refs,CV.refs]);simp[execOp,hop,resolve,invoke,builtin,Builtin.len_,Qb9 c.und,b,goInt]
theorem Q6v(hL:Qi P L)(h:Conc C nt R η e s a w)(hd:∀x,o.dst=some x->x<nt)(hop:o.op=.call {callee:=.builtin .len,args:= #[x],argTypes:= #[t]})(ht:L t=some ti)(hk:ti.kind=.str){b:ByteArray}(hx:Y5 e x=.v (.c (.d (.str b)))):y8 P C nt R η e s a w o {v:=vi b.size}:=by
 obtain⟨i,dd,z,g⟩:=hL t ti ht;have f:=g.kind
 rw[hk]at f;simp only[ZE]at f
 have j:=(K3 h x).1;rw[hx]at j
 have ev:=JY j;refine QU h hd (v:=.int .i64 b.size) ?_ (Wt _ _ _) (by simp[vi,AVal.refs,TV.refs,CV.refs])
 simp[execOp,hop,resolve,invoke,builtin,Builtin.len_,Qb9 g.und,f,ev,goInt]
theorem jc(h:Conc C nt R η e s a w)(hd:∀ x,o.dst=some x->x<nt){tys:Array TypeId}{bi:Builtin}(hop:o.op=.call { callee:=.builtin bi,args:= #[x,y],argTypes:=tys }){k k' : IntKind}{n: Int}(hx:Y5 e x=.v (.c (.d (.int k n))))(hy:Y5 e y=.v (.c (.d (.int k' n')))){u:Int}(hu:(bi=.min/\u=y6 n n')\/(bi=.max/\u=y3 n n')):
  y8 P C nt R η e s a w o {v:=.v (.c (.d (.int k u)))}:=by
 have g:=(K3 h x).1;have b:=(K3 h y).1
 rw[hx]at g;rw[hy]at b
 have f:=WG g;have i:=WG b
 refine QU h hd (v:=.int k u) ?_ (Wt _ _ _) (by simp[AVal.refs,TV.refs,CV.refs]);rcases hu with ⟨rfl,rfl⟩|⟨rfl,rfl⟩
 .simp [execOp,hop,resolve,invoke,builtin,Builtin.min_,Builtin.min2,f,i,y6]
 .simp [execOp,hop,resolve,invoke,builtin,Builtin.max_,Builtin.max2,f,i,y3]
theorem VP(v:Int)(m:Nat)(code:BoundsCode)(h:0<=v/\v<=m)(k:IntKind):(Instr.sliceBound (.int k v) m code).run P w=.ok v.toNat w:=by
 simp[Instr.sliceBound,asIntOf,h]
theorem Tp(h:Conc C nt R η e s a w){x:Option Operand}{n:Option Int}(hx:oI e x=some n):(x=none/\n=none)\/∃k m,x.map a.eval=some (.int k m)/\n=some m:=by
 unfold oI at hx;split at hx
 .grind
 .rename_i y
  split at hx
  .rename_i m b
   cases hx
   unfold ZD at b;split at b
   .rename_i k f d
    cases b
    have c:=(K3 h y).1;rw[d]at c
    exact .inr ⟨k,m,by simp[WG c],rfl⟩
   .cases b
  .cases hx
theorem jA(h:Conc C nt R η e s a w){lo hi:Option Operand}{l u:Option Int}(hl:oI e lo=some l)(hu:oI e hi=some u)(n cap:Nat)(hn:n<=cap)(f:Nat->List DVal)(hc:(sl n f l u).2):
  (Instr.sliceBounds true n cap (lo.map a.eval) (hi.map a.eval) none).run P w=.ok ((l.getD 0).toNat,(u.getD n).toNat,cap) w/\(l.getD 0).toNat<=(u.getD n).toNat/\(u.getD n).toNat<=n /\
   (sl n f l u).1.1=(u.getD n).toNat-(l.getD 0).toNat/\∀i,(sl n f l u).1.2 i=f ((l.getD 0).toNat+i):=by
 rcases Tp h hl with ⟨h1,h2⟩|⟨k,m,h1,h2⟩<;>rcases Tp h hu with ⟨h3,h4⟩|⟨k',m',h3,h4⟩<;>subst h2<;>subst h4<;>simp only[sl]at hc
 .subst h1;subst h3
  simp[Instr.sliceBounds,sl]
 .subst h1
  simp[Instr.sliceBounds,sl,h3,VP m' cap _ ⟨hc.1,by omega⟩];omega
 .subst h3
  simp[Instr.sliceBounds,sl,h1,VP m n _ hc];omega
 .have b:=VP (P:=P) (w:=w) m m'.toNat .sliceB ⟨hc.1,by omega⟩ k
  simp[Instr.sliceBounds,sl,h1,h3,VP m' cap _ ⟨by omega,by omega⟩,b];omega
theorem Q2x{X:Nat->Prop}{ad:Option Addr}{cap:Nat}(h:DRep w X (.slice ad n cap) (.lst n f))(hes:∀ j,j<n->(f j).length=es)(l u:Nat)(hlu:l<=u)(hun:u<=n)(m:Nat)(hm:u-l<=m)(g:Nat->List DVal)(hg:∀ i,g i=f (l+i)):
  DRep w X (.slice (if cap=l then ad else ad.map (·.add (l*es))) (u-l) m) (.lst (u-l) g):=by
 by_cases h0:u-l=0
 .rw [h0];exact .nil _ _ _
 .cases h with
  |nil=>omega
  |lst b off _ _ c e' fz _ es' h1 h2 h3 h4 h5 h6=>
   have k:es'=es:=by rw[<-h5 l (by omega),hes l (by omega)]
   subst k;have o:¬cap=l:=by omega
   simp only[o,Qi0,Qj0,add_lit];have d:l*es' + (u-l)*es' <= n*es':=by rw[<-Qg8];exact Qb4 _ (by omega)
   refine .lst b (off+l*es') _ m c e' fz _ es' h1 h2 hm (by omega) (λi p=>by rw[hg];exact h5 _ (by omega)) λi j p q=>?_
   grind
theorem Q6q(hL:Qi P L)(h:Conc C nt R η e s a w)(hd:∀ x,o.dst=some x->x<nt){lo hi:Option Operand}(hop:o.op=.slice t x lo hi none)(ht:L t=some ti)(hk:ti.kind=.slice el)(hte:L el=some te){l u:Option Int}(hl:oI e lo=some l)(hu:oI e hi=some u)(hx:Zi.asF (Y5 e x)=some (n,f)){c:Prop}(hc:(sl n f l u).2)(hes:∀ j,j<n->(f j).length=te.size):
  y8 P C nt R η e s a w o {v:=.v (.c (.d (.lst (sl n f l u).1.1 (sl n f l u).1.2))),cond:=c}:=by
 obtain⟨i,dd,z,q⟩:=hL t ti ht;obtain⟨I,F,H,p⟩:=hL el te hte
 have m:=q.kind;rw[hk]at m
 simp only[ZE]at m;obtain⟨G,k,ev,b⟩:=xT (K3 h x).1 hx
 rw[ev]at b;have E:n<=k:=by cases b with|nil=>exact Qc2 _|lst _ _ _ _ _ _ _ _ _ _ _ r=>exact r
 obtain⟨B,A,y,r,D⟩:=jA (P:=P) h hl hu n k E f hc;have g:=Q2x b hes (l.getD 0).toNat (u.getD n).toNat A y (k-(l.getD 0).toNat) (by omega) (sl n f l u).1.2 D
 rw[<-r]at g;refine QU h hd ?_ (.v _ _ (.c _ _ (.d _ _ g))) (by simp[AVal.refs,TV.refs,CV.refs])
 simp only[execOp,hop,Qd8,Instr.sliceAt,Qb9 q.und,Qc5,m,Instr.slice,ev,Qq9,B,Yu p,Qf3,r]
theorem Q6p(hL:Qi P L)(h:Conc C nt R η e s a w)(hd:∀ x,o.dst=some x->x<nt){hx mx:Operand}(hop:o.op=.slice t x none (some hx) (some mx))(ht:L t=some ti)(hk:ti.kind=.slice el)(hte:L el=some te){u:Int}(hu:ZD (Y5 e hx)=some u)(hm:ZD (Y5 e mx)=some u)(h0:0<u)(hxx:Zi.asF (Y5 e x)=some (n,f)){c:Prop}(hc:u<=n)(hes:∀ j,j<n->(f j).length=te.size):
  y8 P C nt R η e s a w o {v:=.v (.c (.fl u.toNat f)),cond:=c}:=by
 obtain⟨i,dd,z,A⟩:=hL t ti ht;obtain⟨O,K,N,r⟩:=hL el te hte
 have q:=A.kind;rw[hk]at q
 simp only[ZE]at q;obtain⟨D,p,ev,g⟩:=xT (K3 h x).1 hxx
 rw[ev]at g;have Q:n<=p:=by cases g with|nil=>exact Qc2 _|lst _ _ _ _ _ _ _ _ _ _ _ h3=>exact h3
 have b:∀{y:Operand} {m:Int},ZD (Y5 e y)=some m->∃k,a.eval y=.int k m:=by
  intro y m hm;unfold ZD at hm
  split at hm
  .rename_i k M E
   cases hm
   have G:=(K3 h y).1;rw[E]at G
   exact⟨k,WG G⟩
  .cases hm
 obtain⟨k1,E⟩:=b hu;obtain⟨k2,J⟩:=b hm
 have d:=Q2x g hes 0 u.toNat (Qc2 _) (by omega) u.toNat (by omega) f (λi=>by rw[Qd2]);have B:¬p=0:=by omega
 simp only[B,Qi0,Qr0,Qq8]at d;have l:D.map (λx:Addr=>x.add 0)=D:=by cases D<;>simp[Addr.add]
 rw[l]at d;refine QU h hd (v:=.slice D u.toNat u.toNat) ?_ (.v _ _ (.c _ _ (.fl _ _ _ d))) (by simp[AVal.refs,TV.refs,CV.refs])
 have H:=VP (P:=P) (w:=w) u p .slice3Acap ⟨by omega,by omega⟩ k2;have I:=VP (P:=P) (w:=w) u u.toNat .slice3B ⟨by omega,by omega⟩ k1
 have F:¬u.toNat=0:=by omega
 simp only[execOp,hop,Qd8,Instr.sliceAt,Qb9 A.und,Qc5,q,Instr.slice,ev,Instr.sliceBounds,Qj0,Qq9,Qi8,E,J,H,I,Qf3,Yu r,F,Qi0,Qr0,Qq8,l]
end
end
section
section
variable {P:Program} {L:Lay} {C:Ctx} {nt:Nat} {R:Nat->Prop} {η:Nat->Value} {e:U8} {s:J0} {a:Act} {w:World}
theorem Q0C{X:Nat->Prop}{ad:Option Addr}(hn:n≠0)(h:n=0\/∃ b off c e' fz es',ad=some ⟨b,off,none⟩/\w.heap[b]?=some (.cells c e' fz)/\off+n*es' <= c.size/\(∀ i,i<n->(g i).length=es') /\
   ∀i j,i<n->j<es' -> DRep w X (c.getD (off+(i*es' + j)) undef) ((g i).getD j .any))(hes:∀i,i<n->(g i).length=es):
  ∃b off,ad=some ⟨b,off,none⟩/\∃news:List Value,news.length=n*es/\(∀j u,news[j]?=some u->w.cell? ((⟨b,off,none⟩:Addr).add j)=some u)/\(∀u∈news,u.oneCell'=true) /\
   ∀i j,i<n->j<es->DRep w X (news.getD (i*es+j) undef) ((g i).getD j .any):=by
 rcases h with h|⟨b,off,c,e',fz,es',rfl,x,y,t,p⟩
 .exact absurd h hn
 .have l:es'=es:=by rw[<-t 0 (by omega),hes 0 (by omega)]
  subst l;refine⟨b,off,rfl,Zd c off (n*es'),by simp[Zd],λj u d=>?_,λu d=>?_,λi j q o=>?_⟩
  .simp only[Zd,Qk3]at d
   by_cases o:j<n*es'
   .rw [Qo6 o]at d
    cases d
    rw[add_lit];exact HB x _ (by omega)
   .rw [Qh0 (by simp;omega)]at d;cases d
  .simp only[Zd]at d
   obtain⟨k,f,rfl⟩:=Qc7.1 d;rw[Qe4]at f
   by_cases hz:es'=0
   .subst hz;simp at f
   .have v:k / es' < n:=Qw4 (by rw[Qu0];exact f)
    have r:k % es' < es':=Qt4 _ (by omega);have:=(p (k / es') (k % es') v r).one
    rwa [show k / es' * es' + k % es'=k from by rw[Qu0];exact Nat.div_add_mod k es']at this
  .have m:i*es' + j<n*es':=by
    have:(i+1)*es' <= n*es':=Qb4 _ q
    grind
   have:(Zd c off (n*es')).getD (i*es' + j) undef=c.getD (off+(i*es' + j)) undef:=by simp[Zd,Qa0,m]
   rw[this];exact p i j q o
theorem Q3c(h:n<=Y6)(hb:b<=8192):n*b<=140737488355328:=by
 have:=Qn1 h hb
 simp only[Y6]at this;omega
theorem gx{t:Nat}{xs:List Value}(h:c.toList.take k=xs)(ht:t<k):c.getD t undef=xs.getD t undef:=by
 rw[<-h];simp[Qa0,ht]
theorem Q3r{X:Nat->Prop}{olds news:List Value}(hc:c.toList.take ((n+k)*es)=olds++news)(ho:olds.length=n*es)(h1:∀ i j,i<n->j<es->DRep w X (olds.getD (i*es+j) undef) ((f i).getD j .any))(h2:∀ i j,i<k->j<es->DRep w X (news.getD (i*es+j) undef) ((g i).getD j .any)):
  ∀i j,i<n+k->j<es->DRep w X (c.getD (i*es+j) undef) ((Qw n f g i).getD j .any):=by
 intro i j m l;have d:i*es+j<(n+k)*es:=by
  have:(i+1)*es<=(n+k)*es:=Qb4 _ m
  grind
 rw[gx hc d];unfold Qw
 by_cases h3:i<n
 .have b : i*es+j<olds.length:=by
   have:(i+1)*es<=n*es:=Qb4 _ h3
   grind
  rw[Qa2 h3];have:(olds++news).getD (i*es+j) undef=olds.getD (i*es+j) undef:=by simp[Qa0,Qf8,b]
  rw[this];exact h1 i j h3 l
 .have o:n*es<=i*es:=Qb4 _ (by omega)
  rw[Qa1 h3];have:(olds++news).getD (i*es+j) undef=news.getD ((i-n)*es+j) undef:=by
   have h:i*es+j-olds.length=(i-n)*es+j:=by rw[ho,Nat.sub_mul];omega
   grind
  rw[this];exact h2 (i-n) j (by omega) l
theorem Q3q(t ty:TypeId){el:TypeId}(hu:P.underlying t=some (.slice el))(hi:P.info? el=some i)(base:Option Addr)(n cap:Nat)(hn:n<=cap)(ad:Option Addr)(c:Nat):
  (Builtin.append_ #[t,t] ty #[.slice base n cap,.slice ad 0 c]).run P w=.ok (.slice base n cap) w:=by
 have b:(Builtin.firstCells i.size 0 (.slice ad 0 c)).run P w=.ok #[] w:=by cases ad<;>simp[Builtin.firstCells,loadCells,loadCellsFrom]
 cases base<;>simp[Builtin.append_,Qb9 hu,sizeOf,typeInfo,hi,Builtin.lenOf,hn,b,storeCells]
theorem Q7R(t ty e e' : TypeId)(i:TypeInfo)(ht:P.underlying t=some (.slice e))(hi:P.info? e=some i)(g sLen sCap:Nat)(cur:Array Value)(hg:w.heap[g]?=some (.cells cur e' (0,0)))(a:Addr)(m c:Nat)(news:List Value)(hl:news.length=m*i.size)(hnews:∀ j u,news[j]?=some u->w.cell? (a.add j)=some u)(h1:∀ u ∈ news,u.oneCell'=true)(hroom:sLen+m<=sCap)(hfit:sLen*i.size+news.length<=cur.size):
  (Builtin.append_ #[t,t] ty #[.slice (some ⟨g,0,none⟩) sLen sCap,.slice (some a) m c]).run P w =
   .ok (.slice (some ⟨g,0,none⟩) (sLen+m) sCap) (w.setRow g (cur.toList.take (sLen*i.size)++news++cur.toList.drop (sLen*i.size+news.length)).toArray):=by
 have d:=run_firstCells_some (P:=P) w i.size m a m c news hl hnews;have b:=Qp5 P g (sLen*i.size) e' news 0 cur w hg (by simpa using hfit) h1
 simp only[Ql2]at b;simp[Builtin.append_,Qb9 ht,sizeOf,typeInfo,hi,Builtin.lenOf,hroom,d,Addr.add_lit,b]
theorem Z3Y(Z:Nat->Prop)(w:World)(o:Go.Obj):Stp Z w (w.drew.alloc o):=
 ⟨rfl,rfl,rfl,by simp,λb c _=>by rw[heap_alloc_old w.drew o b c];rfl,Qm4 _⟩
theorem jd(h:Conc C nt R η e s a w)(hd:o.dst=some d)(hdn:d<nt)(hR:¬ R d)(hdel:∀ i ∈ del,∀ o',s i=some o' -> o'.ro=false){gc:Nat}{c:Prop}{olds news:List Value}{z:Array Value}{el:TypeId}(hrun:(execOp a.eval o).run P w=.ok (.value (.slice (some ⟨w.heap.size,0,none⟩) (n+k) gc)) (w.drew.alloc (.cells (olds.toArray++news.toArray++Builtin.zeroCells z (gc-(n+k))) el)))(hz:z.size=es)(ho:olds.length=n*es)(hnl:news.length=k*es)(hgc:n+k<=gc)(hgm:gc<=maxLen)(hk:0<k)(hfl:∀ i,i<n->(f i).length=es)(hgl:∀ i,i<k->(g i).length=es)(h1:∀ i j,i<n->j<es->DRep w (XS C s η) (olds.getD (i*es+j) undef) ((f i).getD j .any))(h2:∀ i j,i<k->j<es->DRep w (XS C s η) (news.getD (i*es+j) undef) ((g i).getD j .any)):
  y8 P C nt R η e s a w o {v:=.v (.c (.own d)),del:=del,new:=some (.arr es (n+k) (Qw n f g)),cond:=c}:=by
 refine VO h hd hdn hR (Z:=λ_=>False) hrun (Z3Y _ w _) rfl (λb q=>q.elim) hdel (λb q=>.inl (by simp[V8]at q;omega)) λX' l=>?_
 refine .arr _ _ gc es _ el _ (heap_alloc_new w.drew _) ?_ hgc hgm (by omega) (λi p=>?_) ?_
 .simp only[Qt0,Ql7,Qs0,hz,ho,hnl, <-Qg8]
  congr 1;omega
 .unfold Qw
  by_cases h3:i<n
  .rw [Qa2 h3];exact hfl i h3
  .rw [Qa1 h3];exact hgl _ (by omega)
 .refine Q3r (olds:=olds) (news:=news) ?_ ho (λi j p r=>(h1 i j p r).mono l) (λi j p r=>(h2 i j p r).mono l)
  have m:(olds++news).length=(n+k)*es:=by rw[Qb5,ho,hnl,Qg8]
  simp only[Qo7,Qh8];rw[<-Qh8, <-m]
  exact List.take_left
theorem PO(hL:Qi P L)(h:Conc C nt R η e s a w){o:Oper}{d:Nat}(hd:o.dst=some d)(hdn:d<nt)(hR:¬ R d){t:TypeId}{x y:Operand}(hop:o.op=.call { callee:=.builtin .append,args:= #[x,y],argTypes:= #[t,t] }){ti:TI}(ht:L t=some ti){el:Nat}(hk:ti.kind=.slice el){te:TI}(hte:L el=some te)(hby:te.bytes<=8192)(hzl:te.zero.length=te.size){del:List Nat}(hdel:∀ i ∈ del,∀ o',s i=some o' -> o'.ro=false){n k cap:Nat}{f g:Nat->List DVal}{c:Prop}(hlim:n+k<=Y6){base:Option Addr}(ex:a.eval x=.slice base n cap)(hcap:cap<n+k)(hb0:base=none->n=0/\cap=0){olds:List Value}(holdl:olds.length=n*te.size)(holds:∀ b0,base=some b0->∀ j u,olds[j]?=some u->w.cell? (b0.add j)=some u){b2:Addr}{cy:Nat}(ey:a.eval y=.slice (some b2) k cy){news:List Value}(hnl:news.length=k*te.size)(hncell:∀ j u,news[j]?=some u->w.cell? (b2.add j)=some u)(hk0:0<k)(hfl:∀ i,i<n->(f i).length=te.size)(hgl:∀ i,i<k->(g i).length=te.size)(h1:∀ i j,i<n->j<te.size->DRep w (XS C s η) (olds.getD (i*te.size+j) undef) ((f i).getD j .any))(h2:∀ i j,i<k->j<te.size->DRep w (XS C s η) (news.getD (i*te.size+j) undef) ((g i).getD j .any)):
  y8 P C nt R η e s a w o {v:=.v (.c (.own d)),del:=del,new:=some (.arr te.size (n+k) (Qw n f g)),cond:=c}:=by
 obtain⟨i,dd,z,p⟩:=hL t ti ht;obtain⟨D,G,A,b⟩:=hL el te hte
 have q:=p.kind;rw[hk]at q
 simp only[ZE]at q;subst q
 have r:A.cells.size=te.size:=by rw[(b.zrep w (λ_=>False) η C).1,hzl]
 have l:∀{v:Value} {w' : World},(Builtin.append_ #[t,t] o.type #[a.eval x,a.eval y]).run P w=.ok v w' -> (execOp a.eval o).run P w=.ok (.value v) w':=by
  intro v w' F;simp[execOp,hop,resolve,invoke,builtin,F]
 cases base with
 |none=>
  obtain⟨rfl,rfl⟩:=hb0 rfl;have:olds=[]:=Qd9 (by rw[holdl,Qr0])
  subst this;have B:=run_append_nil (P:=P) w t o.type el D A p.und b.info b.zero b2 k cy news (by rw[b.size];exact hnl) hncell (by omega) (by simp only[Y6]at hlim;omega)
   (by have:=Q3c (n:=k) (by omega) hby;rw[b.bytes];omega)
  have E:=l (by rw[ex,ey];exact B);have m : (execOp a.eval o).run P w=.ok (.value (.slice (some ⟨w.heap.size,0,none⟩) (0+k) (grownCap w k 0 el))) (w.drew.alloc (.cells (([]:List Value).toArray++news.toArray++Builtin.zeroCells A.cells (grownCap w k 0 el-(0+k))) el)):=by
   grind
  exact jd h hd hdn hR hdel m r (by simp) hnl (by have:=Qs4 w k 0 el;omega) (Qp1 w k 0 el (by simp only[Y6]at hlim;simp only[maxLen];omega)) (by omega) hfl hgl h1 h2
 |some b0=>
  have B:=run_append_grow (P:=P) w t o.type el D A p.und b.info b.zero b0 n cap olds (by rw[b.size];exact holdl) (holds b0 rfl) b2 k cy news (by rw[b.size];exact hnl) hncell (by omega) (by simp only[Y6]at hlim;omega)
   (growslice_fits (by omega) (by rw[b.bytes];exact Q3c hlim hby))
  exact jd h hd hdn hR hdel (l (by rw[ex,ey];exact B)) r holdl hnl (Qs4 w (n+k) cap el) (Qp1 w (n+k) cap el (by simp only[Y6]at hlim;simp only[maxLen];omega)) (by omega) hfl hgl h1 h2
theorem LX(hL:Qi P L)(h:Conc C nt R η e s a w)(hd:o.dst=some d)(hdn:d<nt)(hR:¬ R d)(hop:o.op=.call { callee:=.builtin .append,args:= #[x,y],argTypes:= #[t,t] })(ht:L t=some ti)(hk:ti.kind=.slice el)(hte:L el=some te)(hy:Vi s (Y5 e y)=some (k,g)){c0:Prop}(hx:UP s te.size k (Y5 e x)=some (del,n,f,c0))(hc0:c0)(hby:te.bytes<=8192)(hzl:te.zero.length=te.size){c:Prop}(hlim:n+k<=Y6)(hgl:∀ j,j<k->(g j).length=te.size):
  y8 P C nt R η e s a w o {v:=.v (.c (.own d)),del:=del,new:=some (.arr te.size (n+k) (Qw n f g)),cond:=c}:=by
 obtain⟨i,dd,z,Q⟩:=hL t ti ht;obtain⟨i2,d5,z2,B⟩:=hL el te hte
 have a8:=Q.kind;rw[hk]at a8
 simp only[ZE]at a8;subst a8
 obtain⟨ad,cy,ey,d6,U⟩:=Q3o h (K3 h y).1 hy;have d9:z2.cells.size=te.size:=by rw[(B.zrep w (λ_=>False) η C).1,hzl]
 have I:∀{v:Value} {w' : World},(Builtin.append_ #[t,t] o.type #[a.eval x,a.eval y]).run P w=.ok v w' -> (execOp a.eval o).run P w=.ok (.value v) w':=by
  intro v w' hh;simp[execOp,hop,resolve,invoke,builtin,hh]
 unfold UP at hx;split at hx
 .
  rename_i S e1
  split at hx
  .rename_i b8 n' f' hs
   split at hx
   .rename_i c3
    cases hx
    subst c3;have r:=(K3 h x).1
    rw[e1]at r;have ex:=WE r
    have M:=h.st S _ hs
    by_cases hk0:k=0
    .
     subst hk0;have Y:=M
     generalize hu:η S=u at M ex;have hn:∃l D,u=.slice l n D/\n<=D:=by
      cases M with
      |nil=>exact⟨_,_,rfl,Qb3 _⟩
      |arr b _ D _ c' e' _ _ _ hn _ _ _ _=>exact⟨_,_,rfl,hn⟩
     obtain⟨l,D,b7,hn⟩:=hn;refine VO h hd hdn hR (Z:=λ_=>False) (v:=u) (w':=w) (I (by rw[ex,ey,b7];exact Q3q t o.type Q.und B.info l n D hn ad cy)) (Stp.refl _ _) (by rw[b7];rfl) (λb O=>O.elim)
      (λi' p o' H=>by simp at p;subst p;rw[hs]at H;cases H;rfl) (λb O=>.inr ⟨S,by simp,by rw[hs];simp,by rw[hu];exact O⟩) λX' G=>?_
     rw[hu]at Y;have c4 : ∀b,b∈V8 u->w.heap[b]?=w.heap[b]?:=λ_ _=>rfl
     have:=Y.mono (η':=SR.eta {v:=.v (.c (.own d)),del:=[S],new:=some (.arr te.size (n+0) (Qw n f g)),cond:=c} o.dst u η) G (by simp[Obj.refs]) c4
     cases this with
     |nil=>exact .nil _ _ _
     |arr b _ cap' _ c' e' _ q1 q2 q3 q4 q5 q6 q7=>
      refine .arr b n cap' _ c' e' _ q1 q2 q3 q4 q5 (λi E=>?_) λi j E A=>?_
      .simp only[Qw,Qa2 E];exact q6 i E
      .simp only[Qw,Qa2 E];exact q7 i j E A
    .obtain ⟨b2,a1,a6,news,F,m,N,q⟩:=Q0C hk0 U hgl
     subst a6;generalize hu:η S=u at M ex
     cases M with
     |nil l _ _=>
      exact PO hL h hd hdn hR hop ht hk hte hby hzl (λi' p o' H=>by simp at p;subst p;rw[hs]at H;cases H;rfl) hlim ex (by omega) (λ_=>⟨rfl,rfl⟩) (olds:=[]) (by simp) (λ_ _ j u A=>by simp at A) ey F m (by omega)
       (λi E=>by omega) hgl (λi j E=>by omega) q
     |arr b _ D _ c' e' _ O hsz hn hm hc hl hel=>
      have W:∀i'∈[S],∀o',s i'=some o' -> o'.ro=false:=λi' p o' H=>by simp at p;subst p;rw[hs]at H;cases H;rfl
      have e3:n*te.size<=D*te.size:=Qb4 _ hn;have J:(c'.toList.take (n*te.size)).length=n*te.size:=by simp;omega
      have T:∀i j,i<n->j<te.size->DRep w (XS C s η) ((c'.toList.take (n*te.size)).getD (i*te.size+j) undef) ((f i).getD j .any):=by
       intro i j E A;have b6:i*te.size+j<n*te.size:=by
        have:(i+1)*te.size<=n*te.size:=Qb4 _ E
        grind
       rw[<-gx rfl b6];exact hel i j E A
      by_cases hroom:n+k<=D
      .have K:n*i2.size+news.length<=c'.size:=by rw[B.size,F,hsz, <-Qg8];exact Qb4 _ hroom
       have hr:=Q7R (P:=P) t o.type el e' i2 Q.und B.info b n D c' O ⟨b2,a1,none⟩ k cy news (by rw[B.size];exact F) m N hroom K;rw[B.size]at hr K
       have b9:=I (by rw[ex,ey];exact hr);have V:b∈V8 (η S):=by rw[hu];simp[V8];omega
       refine VO h hd hdn hR (Z:=λx=>x=b) b9 (setRow_stp w b _) rfl (λx hx=>⟨S,by simp,by rw[hs];simp,by rw[hx];exact V⟩) W (λx hx=>.inr ⟨S,by simp,by rw[hs];simp,by simp[V8]at hx;rw[hx.2];exact V⟩) λX' G=>?_
       refine .arr b (n+k) D te.size _ e' _ (Qv7 w b c' _ e' _ O) (by rw[(Rh c' (n*te.size) news K).1];exact hsz) hroom hm hc (λi E=>?_) ?_
       .unfold Qw
        grind
       .refine Q3r (olds:=c'.toList.take (n*te.size)) (news:=news) ?_ J (λi j E A=>(T i j E A).mono G) (λi j E A=>(q i j E A).mono G)
        have c9:(c'.toList.take (n*te.size)++news).length=(n+k)*te.size:=by rw[Qb5,J,F,Qg8]
        grind
      .have a3:∀ j u,(c'.toList.take (n*te.size))[j]?=some u->w.cell? ((⟨b,0,none⟩:Addr).add j)=some u:=by
        intro j u A;rw[Qj4]at A
        split at A
        .rw [add_lit,Qd2,cell_of_row w b j c' e' (0,0) O];simpa using A
        .cases A
       exact PO hL h hd hdn hR hop ht hk hte hby hzl W hlim ex (by omega) (λhh=>by cases hh) J (λb0 a7=>by cases a7;exact a3) ey F m (by omega) hl hgl T q
   .cases hx
  .cases hx
 .
  rename_i n' f' e1
  split at hx
  .rename_i e0
   cases hx
   have r:=(K3 h x).1;rw[e1]at r
   generalize hex:a.eval x=u at r;have c6:∃l,u=.slice l n n/\DRep w (XS C s η) (.slice l n n) (.lst n f):=by
    cases r with|v _ _ r=>cases r with|c _ _ r=>cases r with|fl l _ _ r=>exact⟨l,rfl,r⟩
   obtain⟨l,rfl,b4⟩:=c6
   by_cases hk0:k=0
   .subst hk0
    have b1:n=0:=by omega
    subst b1;exact VO h hd hdn hR (del:=[]) (Z:=λ_=>False) (v:=.slice l 0 0) (w':=w) (I (by rw[hex,ey];exact Q3q t o.type Q.und B.info l 0 0 (Qb3 _) ad cy)) (Stp.refl _ _) rfl (λb O=>O.elim)
     (λi' p=>by cases p) (λb O=>by cases l<;>simp[V8]at O) λX' _=>.nil _ _ _
   .obtain ⟨b2,a1,a6,news,F,m,N,q⟩:=Q0C hk0 U hgl
    subst a6
    cases b4 with
    |nil _ _ _=>
     exact PO hL h hd hdn hR hop ht hk hte hby hzl (λi' p=>by cases p) hlim hex (by omega) (λ_=>⟨rfl,rfl⟩) (olds:=[]) (by simp) (λ_ _ j u A=>by simp at A) ey F m (by omega)
      (λi E=>by omega) hgl (λi j E=>by omega) q
    |lst b off _ _ c' e' fz _ b8 q1 q2 q3 q4 q5 q6=>
     by_cases b1:n=0
     .subst b1
      exact PO hL h hd hdn hR hop ht hk hte hby hzl (λi' p=>by cases p) hlim hex (by omega) (λhh=>by cases hh) (olds:=[]) (by simp) (λ_ _ j u A=>by simp at A) ey F m (by omega)
       (λi E=>by omega) hgl (λi j E=>by omega) q
     have c1:b8=te.size:=by rw[<-q5 0 (by omega),hc0 0 (by omega)]
     subst c1;have hv:∀j,j<n*te.size->(Zd c' off (n*te.size)).getD j undef=c'.getD (off+j) undef:=λj A=>by simp[Zd,Qa0,A]
     refine PO hL h hd hdn hR hop ht hk hte hby hzl (λi' p=>by cases p) hlim hex (by omega) (λhh=>by cases hh) (olds:=Zd c' off (n*te.size)) (by simp[Zd]) (λb0 a7 j u A=>?_) ey F m (by omega)
      q5 hgl (λi j E A=>?_) q
     .cases a7
      simp only[Zd,Qk3]at A
      by_cases hjj:j<n*te.size
      .rw [Qo6 hjj]at A
       cases A
       rw[add_lit];exact HB q2 _ (by omega)
      all_goals grind
     .have b6:i*te.size+j<n*te.size:=by
       have:(i+1)*te.size<=n*te.size:=Qb4 _ E
       grind
      grind
  .cases hx
 .cases hx
end
end
section
section
variable {P:Program} {L:Lay} {C:Ctx} {nt:Nat} {R:Nat->Prop} {η:Nat->Value} {e:U8} {s:J0} {a:Act} {w:World}
theorem qF{α:Type}(n:Nat)(xs:List α):(Vv n xs).length=n*xs.length:=by
 induction n with
 |zero=>simp[Vv]
 |succ n ih=>simp[Vv,ih,Qg8];omega
theorem Q8z{α:Type}(n:Nat)(xs:List α)(d:α)(i:Nat)(h:i<n*xs.length):(Vv n xs).getD i d=xs.getD (i % xs.length) d:=by
 induction n generalizing i with
 |zero=>simp at h
 |succ n ih=>
  rw[Qg8,Nat.one_mul]at h
  by_cases h1:i<xs.length
  .simp [Vv,Qa0,Qf8,h1,Qq3 h1]
  .have:=ih (i-xs.length) (by omega)
   have b:(i-xs.length) % xs.length=i % xs.length:=by rw[<-Nat.mod_eq_sub_mod (by omega)]
   rw[b]at this;rw[<-this]
   simp[Vv,Qa0,Qf8,h1]
theorem ye(n:Nat)(f:Nat->Value)(j:Nat)(hj:j<n):((Array.range n).map f).getD j undef=f j:=by
 have h:j<((Array.range n).map f).size:=by simpa using hj
 have:((Array.range n).map f).getD j undef=((Array.range n).map f)[j]:=by simp only[Array.getD,h,dite_true];rfl
 grind
theorem yd(f:Nat->Value):(Array.range 0).map f=#[]:=Qr1 (by simp)
theorem Q4h{X:Nat->Prop}{z:Array Value}{zs:List CV}(h:Qf w X η C z zs)(len:Nat):Qf w X η C ((Array.range (len*zs.length)).map (z[· % z.size]!)) (Vv len zs):=by
 refine⟨by simp[qF],λj c=>?_⟩;rw[qF]at c
 rw[Q8z _ _ _ _ c];have b:0<zs.length:=by rcases Qj8 zs.length with d|d;simp[d]at c;exact d
 have f:=Qt4 j b;have:=h.2 _ f
 have g:((Array.range (len*zs.length)).map (z[· % z.size]!)).getD j undef=z.getD (j % zs.length) undef:=by
  have:j % z.size<z.size:=by rw[h.1];exact f
  rw[ye _ _ _ c, <-h.1];simp[this]
 grind
theorem Q7Q{el:TypeId}(hti:TIOk P t ti i (.slice el) z){i2:TypeInfo}{d2:TypeDesc}{z2:Value}(hte:TIOk P el te i2 d2 z2)(len:Nat)(hl:len*te.size<=16777216){KL:Array (Nat×Value)}{cells:Array Value}(hf:Instr.fill (fun i=>some (i*te.size,te.size)) ((Array.range (len*te.size)).map (z2.cells[· % z2.cells.size]!)) KL.toList=some cells):
  (Instr.buildSlice t len KL).run P w=.ok (.slice (some ⟨w.heap.size,0,none⟩) len len) {w with heap:=w.heap.push (.cells cells el)}:=by
 have b:¬(16777216<len*te.size):=by omega
 by_cases h0:len*te.size=0
 .rw [h0,yd]at hf
  simp only[Instr.buildSlice,Qd8,Qb9 hti.und,Qc5,Yu hte,gt_iff_lt,Nat.reducePow,h0,Qi8,Qf3,Sem.run_ite,yd];rw[hf]
  simp[newRow]
 .simp only[Instr.buildSlice,Qd8,Qb9 hti.und,Qc5,Yu hte,b,gt_iff_lt,Nat.reducePow,Qi0,h0,Qf3,Sem.run_ite,Rx hte]
  rw[hf];simp[newRow]
theorem Lr{X:Nat->Prop}{ds:List DVal}(h:Qf w X η C c cs)(hd:Vm cs=some ds):ds.length=c.size/\∀j,j<ds.length->DRep w X (c.getD j undef) (ds.getD j .any):=by
 obtain⟨f,d⟩:=kU cs ds c 0 hd (λj b=>by rw[Qd2];exact h.2 j b);exact⟨by rw[f,h.1],λj b=>by have:=d j b;rwa [Qd2]at this⟩
theorem Q6C(hL:Qi P L)(h:Conc C nt R η e s a w)(hdn:∀ x,o.dst=some x->x<nt){len:Nat}{ps:Array (Nat×Operand)}(hop:o.op=.buildSlice t len ps)(ht:L t=some ti)(hk:ti.kind=.slice el)(hte:L el=some te)(hle:len*te.size<=16777216)(hzl:te.zero.length=te.size)(hf:Uc (fun i=>some (i*te.size,te.size)) (Vv len te.zero) (ps.toList.map fun p=>(p.1,Y5 e p.2))=some cs){ds:List DVal}(hds:Vm cs=some ds):
  y8 P C nt R η e s a w o {v:=.v (.c (.d (.lst len λi=>(ds.drop (i*te.size)).take te.size)))} /\
  ∀d,o.dst=some d->¬R d->0<te.size->y8 P C nt R η e s a w o {v:=.v (.c (.own d)),new:=some (.arr te.size len λi=>(ds.drop (i*te.size)).take te.size)}:=by
 obtain⟨i,dd,z,H⟩:=hL t ti ht;obtain⟨i2,d2,z2,l⟩:=hL el te hte
 have y:=H.kind;rw[hk]at y
 simp only[ZE]at y;subst y
 obtain⟨m1,m2,_⟩:=Q1Z h ps;have Y:=l.zrep w (XS C s η) η C
 have a8:z2.cells.size=te.size:=by rw[Y.1,hzl]
 have D:=Q4h Y len;rw[hzl]at D
 obtain⟨G,q,k,_⟩:=Q1K _ _ _ _ _ hf D m1 m2;have N:=Q7Q (w:=w) H l len hle q
 have f:(execOp a.eval o).run P w=.ok (.value (.slice (some ⟨w.heap.size,0,none⟩) len len)) {w with heap:=w.heap.push (.cells G el)}:=by
  simp only[execOp,hop,Qd8];rw[N];rfl
 obtain⟨u,a6⟩:=Lr k hds;have m:ds.length=len*te.size:=by
  have:=k.1
  have S:cs.length=(Vv len te.zero).length:=by
   have V:∀(ps:List (Nat×AVal)) (pl:Nat->Option (Nat×Nat)) (Q cs:List CV),Uc pl Q ps=some cs->cs.length=Q.length:=by
    intro ps pl
    induction ps with
    |nil=>intro Q cs h;cases h;rfl
    |cons p r ih=>
     intro Q cs h;obtain⟨i,x⟩:=p
     simp only[Uc]at h;split at h
     .split at h
      .rename_i a2;rw[ih _ _ h,Kb _ _ _ (by omega)]
      .cases h
     .cases h
   exact V _ _ _ _ hf
  rw[u,this,S,qF,hzl]
 have I:∀i,i<len->((ds.drop (i*te.size)).take te.size).length=te.size:=by
  intro i K;have:(i+1)*te.size<=len*te.size:=Qb4 _ K
  grind
 have B:∀i j,i<len->j<te.size->DRep w (XS C s η) (G.getD (i*te.size+j) undef) (((ds.drop (i*te.size)).take te.size).getD j .any):=by
  grind
 have T:QQ w {w with heap:=w.heap.push (.cells G el)} (XS C s η) (XS C s η):=λb g hX=>⟨by show(w.heap.push _)[b]?=_;rw[Qk6,Qa1 (by omega)],hX⟩
 have W:¬XS C s η w.heap.size:=by
  rintro(⟨hx,_⟩|hx)
  .have:=h.ok.lt _ hx;have:=h.fr.size;omega
  .have:=h.lt hx;omega
 refine⟨?_,λd O hR M=>?_⟩
 .refine ⟨_,_,.inl f,?_⟩
  have E:∀v,SR.eta {v:=.v (.c (.d (.lst len λi=>(ds.drop (i*te.size)).take te.size)))} o.dst v η=η:=λv=>by funext i;simp[SR.eta]
  have F:SR.sto {v:=.v (.c (.d (.lst len λi=>(ds.drop (i*te.size)).take te.size)))} o.dst s=s:=by funext i;simp[SR.sto]
  refine h.step o.dst hdn _ _ _ (λ_=>False) (Stp.alloc _ w _) (λb g=>g.elim) (λ_ _ U=>by cases U) (λ_ _ U=>by cases U) λ_=>?_
  rw[E,F];refine⟨.v _ _ (.c _ _ (.d _ _ ?_)),λj J=>by simp[AVal.refs,TV.refs,CV.refs]at J⟩
  refine .lst w.heap.size 0 len len G el (0,0) _ te.size W (by simp) (Qb3 _) (by rw[Qd2, <-u,m];exact Qb3 _) I λi j K J=>?_
  rw[Qd2];exact(B i j K J).mono T
 .by_cases hl0:len=0
  .subst hl0
   exact VO h O (hdn d O) hR (del:=[]) (Z:=λ_=>False) f (Stp.alloc _ w _) rfl (λb g=>g.elim) (λi' A=>by cases A) (λb g=>by simp[V8]at g) λX' _=>.nil _ _ _
  .refine VO h O (hdn d O) hR (del:=[]) (Z:=λ_=>False) f (Stp.alloc _ w _) rfl (λb g=>g.elim) (λi' A=>by cases A) (λb g=>.inl (by simp[V8]at g;omega)) λX' n=>?_
   refine .arr w.heap.size len len te.size G el _ (by simp) (by rw[<-u,m]) (Qb3 _) ?_ (by omega) I λi j K J=>(B i j K J).mono n
   have:len*1<=len*te.size:=Nat.mul_le_mul_left _ M
   simp only[maxLen];omega
theorem Q6t(hL:Qi P L)(h:Conc C nt R η e s a w)(hd:o.dst=some d)(hdn:d<nt)(hR:¬R d){l c:Operand}(hop:o.op=.makeSlice t l c)(ht:L t=some ti)(hk:ti.kind=.slice el)(hte:L el=some te){n: Int}(hl:ZD (Y5 e l)=some n)(hc:ZD (Y5 e c)=some n')(h0:0<te.size)(hby:te.bytes<=8192)(hzl:te.zero.length=te.size){zd:List DVal}(hz:Vm te.zero=some zd){c0:Prop}(hn:0<=n/\n=n' /\ n<=Y6):y8 P C nt R η e s a w o {v:=.v (.c (.own d)),new:=some (.arr te.size n.toNat λ_=>zd),cond:=c0}:=by
 obtain⟨i,dd,z,A⟩:=hL t ti ht;obtain⟨i2,d2,G,f⟩:=hL el te hte
 have B:=A.kind;rw[hk]at B
 simp only[ZE]at B;subst B
 obtain⟨a2,rfl,E⟩:=hn;have p:∀{y:Operand} {m:Int},ZD (Y5 e y)=some m->∃k,a.eval y=.int k m:=by
  intro y m F;unfold ZD at F
  split at F
  .rename_i k m' M
   cases F
   have I:=(K3 h y).1;rw[M]at I
   exact⟨k,WG I⟩
  .cases F
 obtain⟨k1,M⟩:=p hl;obtain⟨k2,W⟩:=p hc
 have hw:IntKind.i64.wrap n=n:=kK ⟨by omega,by simp only[Y6]at E;omega⟩;have r:(te.bytes:Int)*n<=2 ^ 48:=by
  have hh:te.bytes*n.toNat<=8192*4294967296:=Qn1 hby (by simp only[Y6]at E;omega)
  grind
 have q:G.cells.size=te.size:=by rw[(f.zrep w (XS C s η) η C).1,hzl]
 have T:(decide (n<0)||decide ((te.bytes:Int)*n > 2 ^ 48))=false:=by simp;omega
 have g:∃K,(execOp a.eval o).run P w=.ok (.value (.slice (some ⟨w.heap.size,0,none⟩) n.toNat n.toNat)) {w with heap:=w.heap.push (.cells K el)} /\ K.size=n.toNat*te.size/\∀j,j<n.toNat*te.size->K.getD j undef=G.cells.getD (j % te.size) undef:=by
  by_cases hz0:n.toNat*te.size=0
  .have V:n.toNat=0:=by rcases Nat.mul_eq_zero.1 hz0 with I|I;exact I;omega
   have U:n=0:=by omega
   subst U;refine⟨#[],?_,by simp,λj H=>by simp at H⟩
   simp[execOp,hop,Instr.makeSlice,M,W,asInt,asIntOf,Qb9 A.und,typeInfo,f.info,newRow,IntKind.wrap,IntKind.bits,IntKind.signed,Yu f,yd]
  .refine ⟨(Array.range (n.toNat*te.size)).map (G.cells[· % G.cells.size]!),?_,by simp,λj H=>?_⟩
   .have x:¬n<0:=by omega
    have Q:¬(281474976710656:Int)<(te.bytes:Int)*n:=by omega
    simp[execOp,hop,Instr.makeSlice,M,W,asInt,asIntOf,Qb9 A.und,typeInfo,f.info,f.bytes,newRow,hw,x,Q,Yu f,Rx f,hz0]
   .have:j % G.cells.size<G.cells.size:=by rw[q];exact Qt4 _ h0
    rw[ye _ _ _ H, <-q];simp[this]
 obtain⟨K,g,N,O⟩:=g;obtain⟨J,S⟩:=Lr (f.zrep w (XS C s η) η C) hz
 by_cases hl0:n.toNat=0
 .rw [hl0]at g⊢
  exact VO h hd hdn hR (del:=[]) (Z:=λ_=>False) g (Stp.alloc _ w _) rfl (λb r=>r.elim) (λY D=>by cases D) (λb r=>by simp[V8]at r) λX' _=>.nil _ _ _
 .refine VO h hd hdn hR (del:=[]) (Z:=λ_=>False) g (Stp.alloc _ w _) rfl (λb r=>r.elim) (λY D=>by cases D) (λb r=>.inl (by simp[V8]at r;omega)) λX' u=>?_
  refine .arr w.heap.size n.toNat n.toNat te.size K el _ (by simp) N (Qb3 _) (by simp only[maxLen];simp only[Y6]at E;omega) (by omega) (λi _=>by rw[J,q]) λi j hi H=>?_
  have x:i*te.size+j<n.toNat*te.size:=by
   have:(i+1)*te.size<=n.toNat*te.size:=Qb4 _ hi
   grind
  rw[O _ x];have F:(i*te.size+j) % te.size=j:=by rw[Qn0,Qo4,Qq3 H]
  rw[F];exact(S j (by rw[J,q];exact H)).mono u
end
end
section
section
variable {P:Program} {L:Lay} {C:Ctx} {nt:Nat} {R:Nat->Prop} {η:Nat->Value} {e:U8} {s:J0} {a:Act} {w:World}
theorem Pc(h:Conc C nt R η e s a w){m:Int}(hm:ZD (Y5 e y)=some m):∃k,a.eval y=.int k m:=by
 unfold ZD at hm;split at hm
 .rename_i k d c
  cases hm
  have b:=(K3 h y).1;rw[c]at b
  exact⟨k,WG b⟩
 .cases hm
theorem Q0s(hL:Qi P L){X:Nat->Prop}(h:Qf w X η C vs cs){t:Nat}(ht:L t=some ti)(ho:off+ti.size<=cs.length){v:AVal}(hv:WW ti.kind.agg ((cs.drop off).take ti.size)=some v):
  ∃u,(part t vs off).run P w=.ok u w/\ARep w X η C u v/\∀j∈v.refs,j∈cs.flatMap CV.refs:=by
 obtain⟨i,d,z,k⟩:=hL t ti ht;have r:=h.1
 unfold WW at hv;split at hv
 .rename_i n
  cases hv
  refine⟨.agg (vs.extract off (off+ti.size)),?_,.v _ _ (.g _ _ ⟨by simp;omega,λj l=>?_⟩),λj l=>vK _ _ _ j (vJ _ _ _ j l)⟩
  .simp only[part,Qd8,Ry k,Qc5,n,Qi8,Yu k,Qf3]
  .have o : j<ti.size:=by simp at l;omega
   rw[vD _ _ _ _ _ o];have f:off+j<vs.size:=by omega
   have:(vs.extract off (off+ti.size)).getD j undef=vs.getD (off+j) undef:=by
    have q:j<min (off+ti.size) vs.size-off:=by omega
    simp[f,q]
   rw[this];exact h.2 _ (by omega)
 .rename_i n
  split at hv
  .rename_i y p
   cases hv
   have b:((cs.drop off).take ti.size).length=ti.size:=by simp;omega
   rw[p]at b;have A:ti.size=1:=by simpa using b.symm
   have f:off<vs.size:=by omega
   refine⟨vs.getD off undef,?_,.v _ _ (.c _ _ ?_),λj l=>?_⟩
   .simp [part,Ry k,n,f]
   .have:=h.2 off (by omega)
    have m:cs.getD off (.d .any)=y:=by
     have x:=vD cs off ti.size 0 (.d .any) (by omega)
     grind
    rwa [m]at this
   .refine vK _ _ off j (vJ _ _ ti.size j ?_)
    rw[p];simpa[AVal.refs,TV.refs]using l
  .cases hv
theorem Z4x(h:Conc C nt R η e s a w):∀(xs:List Operand) (ids:List Nat),Zi.cloIds (xs.map (Y5 e))=some ids->xs.map a.eval=ids.map η/\∀j∈ids,R j:=by
 intro xs
 induction xs with
 |nil=>intro ids c;cases c;exact⟨rfl,by simp⟩
 |cons x r ih=>
  intro ids c;obtain⟨n,l⟩:=K3 h x
  rw[Qg4]at c;unfold Zi.cloIds at c
  split at c
  .grind
  .rename_i t q g
   injection g with g e2
   subst e2;split at c
   .rename_i m d
    cases c
    obtain⟨o,p⟩:=ih _ d;rw[g]at n l
    obtain⟨b,i,f⟩:=Dt n;refine⟨by rw[Qg4,Qg4,o,i,f],λj k=>?_⟩
    rcases Qe1.1 k with rfl|k
    .exact l _ (by simp[AVal.refs,TV.refs,CV.refs])
    .exact p j k
   .cases c
  .cases c
theorem Z2S(h:Conc C nt R η e s a w){v:AVal}(hv:(match Y5 e x with
     |.v (.c (.ptr id o))=>some ({v:=.v (.c (.ptr id (o+off)))}:SR)
     |.v (.c (.pte id es idx o))=>some {v:=.v (.c (.pte id es idx (o+off)))}
     |.v (.c (.elm cs))=>if off<=cs.length then some {v:=.v (.c (.elm (cs.drop off)))}else none
     |_=>none)=some {v:=v}):
  (∀b o',a.eval x=.pointer (some ⟨b,o',none⟩)->ARep w (XS C s η) η C (.pointer (some ⟨b,o' + off,none⟩)) v)/\(∀j∈v.refs,R j)/\∃b o',a.eval x=.pointer (some ⟨b,o',none⟩):=by
 obtain⟨i,l⟩:=K3 h x;split at hv
 .rename_i id o k
  cases hv
  rw[k]at i l;obtain⟨b,d,g⟩:=Dt i
  exact⟨λr o' f=>by rw[d]at f;cases f;exact yh _ g,λj p=>l j (by simpa[AVal.refs,TV.refs,CV.refs]using p),b,o,d⟩
 .rename_i id es idx o k
  cases hv
  rw[k]at i l;obtain⟨b,n,q,d,g⟩:=yi i
  exact⟨λr o' f=>by rw[d]at f;cases f;rw[Qq1];exact .v _ _ (.c _ _ (.pte b n q _ _ _ _ g)),λj p=>l j (by simpa[AVal.refs,TV.refs,CV.refs]using p),b,_,d⟩
 .rename_i cs k
  split at hv
  .rename_i m
   cases hv
   rw[k]at i;obtain⟨b,o,c,A,fz,d,u,z,y,t⟩:=Q2o i
   exact⟨λr o' f=>by rw[d]at f;cases f;exact Z3M _ u z y t off m,by simp[AVal.refs,TV.refs,CV.refs],b,o,d⟩
  .cases hv
 .cases hv
theorem Q6z(hL:Qi P L)(h:Conc C nt R η e s a w){o:Oper}(hd:∀ x,o.dst=some x->x<nt){t:TypeId}{x i:Operand}(hop:o.op=.indexAddr t x i){ti:TI}(ht:L t=some ti){el:Nat}(hk:ti.kind=.slice el){te:TI}(hte:L el=some te){m:Int}(hi:ZD (Y5 e i)=some m){n:Nat}{f:Nat->List DVal}(hx:Zi.asF (Y5 e x)=some (n,f))(hf:(f m.toNat).length=te.size){c:Prop}(hc:0<=m/\m<n):
  y8 P C nt R η e s a w o {v:=.v (.c (.elm (f m.toNat))),cond:=c}:=by
 obtain⟨B,d1,A,p⟩:=hL t ti ht;obtain⟨F,z,E,l⟩:=hL el te hte
 have g:=p.kind;rw[hk]at g
 simp only[ZE]at g;subst g
 obtain⟨k,u⟩:=Pc h hi;obtain⟨D,y,ev,d⟩:=xT (K3 h x).1 hx
 rw[ev]at d
 cases d with
 |nil=>omega
 |lst b off _ _ c' e' fz _ es h1 h2 h3 h4 h5 h6=>
  have r:es=te.size:=by rw[<-h5 m.toNat (by omega),hf]
  subst r;have q:m.toNat*te.size+te.size<=n*te.size:=by
   have:(m.toNat+1)*te.size<=n*te.size:=Qb4 _ (by omega)
   grind
  refine QU h hd (v:=.pointer (some ⟨b,off+m.toNat*te.size,none⟩)) ?_ (.v _ _ (.c _ _ (.elm b _ c' e' fz _ h1 h2 (by rw[hf];omega) λj G=>?_))) (by simp[AVal.refs,TV.refs,CV.refs])
  .simp [execOp,hop,Instr.indexAt,u,ev,asIntOf,Qb9 p.und,hc,Yu l,add_lit]
  all_goals grind
theorem Q6y(hL:Qi P L)(h:Conc C nt R η e s a w){o:Oper}(hd:∀ x,o.dst=some x->x<nt){t:TypeId}{x i:Operand}(hop:o.op=.indexAddr t x i){ti:TI}(ht:L t=some ti){el:Nat}(hk:ti.kind=.slice el){te:TI}(hte:L el=some te){m:Int}(hi:ZD (Y5 e i)=some m){id:Nat}(hx:Y5 e x=.v (.c (.own id))){n:Nat}{f:Nat->List DVal}(hs:s id=some (.arr te.size n f)){c:Prop}(hc:0<=m/\m<n):
  y8 P C nt R η e s a w o {v:=.v (.c (.pte id te.size m.toNat 0)),cond:=c}:=by
 obtain⟨F,d1,D,l⟩:=hL t ti ht;obtain⟨E,A,B,p⟩:=hL el te hte
 have d:=l.kind;rw[hk]at d
 simp only[ZE]at d;subst d
 obtain⟨k,z⟩:=Pc h hi;obtain⟨r,q⟩:=K3 h x
 rw[hx]at r q;have ev:=WE r
 have g:=h.st id _ hs;generalize hu:η id=u at g ev
 cases g with
 |nil=>omega
 |arr b _ cap _ c' e' _ hb hsz hn hm hc0 hl hel=>
  refine QU h hd (v:=.pointer (some ⟨b,m.toNat*te.size+0,none⟩)) ?_ (.v _ _ (.c _ _ (.pte b n cap _ _ _ _ hu))) (λj y=>q j (by simpa[AVal.refs,TV.refs,CV.refs]using y));simp[execOp,hop,Instr.indexAt,z,ev,asIntOf,Qb9 l.und,hc,Yu p,add_lit]
theorem Q6A(hL:Qi P L)(h:Conc C nt R η e s a w)(hd:∀ x,o.dst=some x->x<nt){i:Operand}(hop:o.op=.indexAddr t x i)(ht:L t=some ti)(hk:ti.kind=.array n el)(hte:L el=some te){m:Int}(hi:ZD (Y5 e i)=some m)(hx:Y5 e x=.v (.c (.ptr id off)))(hc:0<=m/\m<n):
  y8 P C nt R η e s a w o {v:=.v (.c (.ptr id (off+m.toNat*te.size)))}:=by
 obtain⟨D,d1,A,f⟩:=hL t ti ht;obtain⟨B,y,z,g⟩:=hL el te hte
 have d:=f.kind;rw[hk]at d
 simp only[ZE]at d;subst d
 obtain⟨k,u⟩:=Pc h hi;obtain⟨p,l⟩:=K3 h x
 rw[hx]at p l;obtain⟨b,ev,q⟩:=Dt p
 refine QU h hd (v:=.pointer (some ⟨b,off+m.toNat*te.size,none⟩)) ?_ (yh _ q) (λj r=>l j (by simpa[AVal.refs,TV.refs,CV.refs]using r));simp[execOp,hop,Instr.indexAt,u,ev,asIntOf,Qb9 f.und,hc,Yu g,add_lit,Instr.sureAddr]
end
end
section
section
variable {P:Program} {L:Lay} {C:Ctx} {nt:Nat} {R:Nat->Prop} {η:Nat->Value} {e:U8} {s:J0} {a:Act} {w:World}
theorem yD{α β:Type}{f:α->β}{l:List α}{u v:β}(h:l.map f=[u,v]):∃x y,l=[x,y]/\f x=u/\f y=v:=by
 match l,h with
 |[],h=>simp at h
 |[_],h=>simp at h
 |[x,y],h=>simp at h;exact⟨x,y,rfl,h.1,h.2⟩
 |_::_::_::_,h=>simp at h
theorem Q3t(hL:Qi P L)(h:Conc C nt R η e s a w)(m:Bool)(o:Oper)(hd:∀x,o.dst=some x->x<nt)(hr:Zi L m e s o=some r)(hc:r.cond)(hR:∀d,o.dst=some d->r.new≠none->¬R d)(hst:∀t x y,o.op=.store t x y->o.dst=none):y8 P C nt R η e s a w o r:=by
 unfold Zi at hr;split at hr
 .
  rename_i x p
  cases hr
  exact ja h hd (.inl p)
 .
  rename_i x p
  split at hr
  .cases hr
   exact ja h hd (.inr p)
  .rename_i f d G A
   split at hr
   .rename_i el V H zz F
    split at hr
    .rename_i te D
     cases hr
     have S:=(K3 h x).1;rw[G]at S
     have e6:∃ad,a.eval x=.slice ad 0 0:=by
      generalize a.eval x=u at S
      cases S with|v _ _ S=>cases S with|c _ _ S=>cases S with|fl ad _ _ S=>exact⟨ad,rfl⟩
     obtain⟨ad,ex⟩:=e6;exact VO h A (hd d A) (hR d A (by simp)) (del:=[]) (v:=.slice ad 0 0) (Z:=λ_=>False) (by simp[execOp,p,ex]) (Stp.refl _ _) rfl (λb J=>J.elim) (λi hi=>by cases hi) (λb J=>by cases ad<;>simp[V8]at J) (λX' _=>.nil _ _ _)
    .cases hr
   .cases hr
  .cases hr
 .
  rename_i c x y p
  split at hr
  .rename_i J;cases hr;exact gY h hd p J
  .rename_i J;cases hr;exact gY h hd p J
  .cases hr
 .
  rename_i t p
  split at hr
  .rename_i ti d F A
   cases hr
   exact Q6F hL h A (hd d A) (hR d A (by simp)) p F
  .cases hr
 .
  rename_i t x p
  split at hr
  .rename_i xs d G A
   cases hr
   exact Q6D h A (hd d A) (hR d A (by simp)) p G
  .cases hr
 .
  rename_i t ps p
  split at hr
  .rename_i fs V H z F
   split at hr
   .rename_i pl j2
    split at hr
    .rename_i cs hf
     cases hr
     exact je hL h hd p F (.inl ⟨fs,pl,rfl,j2,rfl⟩) hf
    .cases hr
   .cases hr
  .rename_i n el V H z F
   split at hr
   .rename_i te D
    split at hr
    .rename_i cs hf
     cases hr
     exact je hL h hd p F (.inr ⟨n,el,te,rfl,D,rfl⟩) hf
    .cases hr
   .cases hr
  .cases hr
 .
  rename_i t l6 ps p
  split at hr
  .rename_i el V H z F
   split at hr
   .rename_i te D
    split at hr
    .rename_i b5
     split at hr
     .rename_i cs hf
      split at hr
      .rename_i ds j3
       obtain⟨B,K⟩:=Q6C hL h hd p F rfl D b5.1 b5.2.1 hf j3;split at hr
       .cases hr;exact B
       .rename_i d A
        cases hr
        exact K d A (hR d A (by simp)) b5.2.2
       .cases hr
      .cases hr
     .cases hr
    .cases hr
   .cases hr
  .cases hr
 .
  rename_i t x p
  split at hr
  .rename_i ti F
   split at hr
   .rename_i cs c g8
    split at hr
    .rename_i v S
     cases hr
     exact Q6u hL h hd p F g8 S hc
    .cases hr
   .cases hr
  .cases hr
 .
  rename_i t x y p
  split at hr
  .rename_i ti xs F hy
   split at hr
   .rename_i h8
    exact Q6o hL h (hst t x y p) p F hy h8 hr hc
   .cases hr
  .cases hr
 .
  rename_i x p
  obtain⟨B,K⟩:=K3 h x;split at hr
  .rename_i id a2 e1
   cases hr
   rw[e1]at B K;obtain⟨b,U,c9⟩:=Dt B
   exact QU h hd (v:=a.eval x) (by simp[execOp,p,U]) B K
  .rename_i id es k9 a2 e1
   cases hr
   rw[e1]at B K;obtain⟨b,n,I,U,c9⟩:=yi B
   exact QU h hd (v:=a.eval x) (by simp[execOp,p,U]) B K
  .rename_i cs e1
   cases hr
   rw[e1]at B K;obtain⟨b,a2,c,e',fz,U,_⟩:=Q2o B
   exact QU h hd (v:=a.eval x) (by simp[execOp,p,U]) B K
  .cases hr
 .
  rename_i op t x y t' p
  exact Q6E h hd p hr hc
 .
  rename_i op t x p
  exact Q6n h hd p hr hc
 .
  rename_i l8 dst x p
  split at hr
  .rename_i k0 s1 b1 z1 k s2 b2 z2 k1 n d6 d4 G
   cases hr
   obtain⟨i1,d1,i0,N⟩:=hL _ _ d6;obtain⟨i2,d2,g7,Q⟩:=hL _ _ d4
   have a7:=N.kind;have b3:=Q.kind
   simp only[ZE]at a7 b3;subst a7;subst b3
   have B:=(K3 h x).1;rw[G]at B
   have ex:=WG B;obtain⟨Y,_⟩:=FM m k n _ hc
   refine MK h hd Y hc ?_;simp[execOp,p,convert,Qb9 N.und,Qb9 Q.und,ex,Conv.intToInt]
  .rename_i s1 b1 z1 s2 b2 z2 b d6 d4 G
   cases hr
   obtain⟨i1,d1,i0,N⟩:=hL _ _ d6;obtain⟨i2,d2,g7,Q⟩:=hL _ _ d4
   have a7:=N.kind;have b3:=Q.kind
   simp only[ZE]at a7 b3;subst a7;subst b3
   obtain⟨B,K⟩:=K3 h x;rw[G]at B
   have ex:=JY B;refine QU h hd (v:=.string b) ?_ (by rw[ex]at B;exact B) (by simp[AVal.refs,TV.refs,CV.refs])
   simp[execOp,p,convert,Qb9 N.und,Qb9 Q.und,ex]
  .cases hr
 .
  rename_i f first f5 p
  split at hr
  .rename_i g5
   split at hr
   .rename_i i3 f2
    cases hr
    obtain⟨Y,g2⟩:=Z4x h _ _ f2;have i7:first=#[]:=by simpa using g5
    subst i7;refine QU h hd (v:=.func (.func f) #[] (f5.map a.eval)) (by simp[execOp,p,Instr.makeFunc]) (.v _ _ (.c _ _ (.clo f i3 _ ?_))) (λj hj=>g2 j (by simpa[AVal.refs,TV.refs,CV.refs]using hj))
    rw[<-Y];exact Qw5 (by simp)
   .cases hr
  .cases hr
 .
  rename_i t x lo hi p
  split at hr
  .rename_i el V H z F
   split at hr
   .rename_i te D
    split at hr
    .rename_i y l u hl hu
     split at hr
     .rename_i n f G
      cases hr
      exact Q6q hL h hd p F rfl D hl hu G hc.1 hc.2
     .cases hr
    .rename_i id u G hl hu
     split at hr
     .rename_i es n f d hs A
      cases hr
      obtain⟨i1,d1,z1,O⟩:=hL _ _ F;obtain⟨i2,d2,z2,b0⟩:=hL _ _ D
      have W:=O.kind;simp only[ZE]at W
      subst W;have B:=(K3 h x).1
      rw[G]at B;have ex:=WE B
      have a1:=h.st id _ hs;have d7:0<=u/\u<=n:=hc
      have hn:∃E I,η id=.slice E n I/\n<=I:=by
       generalize η id=v at a1
       cases a1 with
       |nil=>exact⟨_,_,rfl,Qb3 _⟩
       |arr b _ I _ c' e' _ _ _ hn _ _ _ _=>exact⟨_,_,rfl,hn⟩
      obtain⟨E,I,c6,hn⟩:=hn;obtain⟨J,Y,g2,g3,g4⟩:=jA (P:=P) h hl hu n I hn f (by simpa[sl]using d7)
      simp only[Option.getD_none,Qu1,Int.toNat_zero]at J Y g2;have e7:E.map (λx:Addr=>x.add 0)=E:=by cases E<;>simp[Addr.add]
      have c8:(execOp a.eval o).run P w=.ok (.value (.slice E u.toNat I)) w:=by
       have d8:(if I=0 then E else E.map (λx:Addr=>x.add 0))=E:=by rw[e7];split<;>rfl
       simp only[execOp,p,Qd8,Instr.sliceAt,Qb9 O.und,Qc5,Instr.slice,ex,c6,Qq9,J,Yu b0,Qf3,Qr0,Qq8];rw[d8]
      have i9:V8 (.slice E u.toNat I)=V8 (.slice E n I):=by cases E<;>rfl
      refine VO h A (hd d A) (hR d A (by simp)) (Z:=λ_=>False) c8 (Stp.refl _ _) rfl (λb J=>J.elim) (λi' e8 o' f1=>by simp at e8;subst e8;rw[hs]at f1;cases f1;rfl)
       (λb J=>.inr ⟨id,by simp,by rw[hs];simp,by rw[c6, <-i9];exact J⟩) λX' d0=>?_
      rw[c6]at a1;have:=a1.mono (η':=SR.eta {v:=.v (.c (.own d)),del:=[id],new:=some (.arr es u.toNat f),cond:=0<=u/\u<=n} o.dst (.slice E u.toNat I) η) d0 (by simp[Obj.refs]) (λ_ _=>rfl)
      cases this with
      |nil=>
       have h0:u.toNat=0:=by omega
       rw[h0];exact .nil _ _ _
      |arr b _ _ _ c' e' _ q1 q2 q3 q4 q5 q6 q7=>
       exact .arr b u.toNat I _ c' e' _ q1 q2 (by omega) q4 q5 (λi hi=>q6 i (by omega)) λi j hi hj=>q7 i j (by omega) hj
     .cases hr
    .cases hr
   .cases hr
  .cases hr
 .
  rename_i t x G mx p
  split at hr
  .rename_i el V H z F
   split at hr
   .rename_i te n f u u' D j5 hu hm
    split at hr
    .rename_i h5
     obtain⟨rfl,h0⟩:=h5;cases hr
     exact Q6p hL h hd p F rfl D hu hm h0 j5 hc.1 hc.2
    .cases hr
   .cases hr
  .cases hr
 .
  rename_i t x k p
  split at hr
  .rename_i fs V H z F
   split at hr
   .rename_i a2 ft hf
    split at hr
    .rename_i tf c4
     split at hr
     .cases hr
     .rename_i hz
      have e4:∃v,r={v:=v}:=by
       grind
      obtain⟨v,rfl⟩:=e4;obtain⟨Y,g2,g3⟩:=Z2S h hr
      exact Q6B hL h hd p F rfl hf c4 hz Y g2 g3
    .cases hr
   .cases hr
  .cases hr
 .
  rename_i t x k p
  split at hr
  .rename_i fs V H z F
   split at hr
   .rename_i a2 ft cs hf G
    split at hr
    .rename_i tf c4
     split at hr
     .rename_i b5
      split at hr
      .rename_i v S
       cases hr
       obtain⟨i1,d1,z1,O⟩:=hL _ _ F;have W:=O.kind
       obtain⟨b9,rfl,l2⟩:=W;have j4 : ∃f,b9[k]?=some f/\f.offset=a2/\f.type=ft:=by
        grind
       obtain⟨f,h9,rfl,rfl⟩:=j4;obtain⟨B,K⟩:=K3 h x
       rw[G]at B K;have a8:∃vs,a.eval x=.agg vs/\Qf w (XS C s η) η C vs cs:=by
        generalize a.eval x=u at B
        cases B with|v _ _ B=>cases B with|g vs _ B=>exact⟨vs,rfl,B⟩
       obtain⟨vs,ex,d5⟩:=a8;obtain⟨u,Y,g2,g3⟩:=Q0s (P:=P) hL d5 c4 b5 S
       refine QU h hd (v:=u) ?_ g2 (λj hj=>K j (by simpa[AVal.refs,TV.refs]using g3 j hj));simp only[execOp,p,Qd8,Instr.field,Qb9 O.und,Qc5,h9,ex,asAgg,Qf3,Y]
      .cases hr
     .cases hr
    .cases hr
   .cases hr
  .cases hr
 .
  rename_i t x i p
  split at hr
  .rename_i el V H z m' F hi
   split at hr
   .rename_i te D
    split at hr
    .rename_i id G
     split at hr
     .rename_i es n f hs
      split at hr
      .rename_i g9
       subst g9;cases hr
       exact Q6y hL h hd p F rfl D hi G hs hc
      .cases hr
     .cases hr
    .split at hr
     .rename_i n f G
      split at hr
      .rename_i hf
       cases hr
       exact Q6z hL h hd p F rfl D hi G hf hc
      .cases hr
     .cases hr
   .cases hr
  .rename_i n el V H z m' F hi
   split at hr
   .rename_i te id a2 D G
    split at hr
    .rename_i J
     cases hr
     exact Q6A hL h hd p F rfl D hi G J
    .cases hr
   .cases hr
  .cases hr
 .
  rename_i t x i p
  split at hr
  .rename_i n el V H z m' cs F hi G
   split at hr
   .rename_i te D
    split at hr
    .rename_i J
     obtain⟨U,c9,g0⟩:=J;split at hr
     .rename_i v S
      cases hr
      obtain⟨i1,d1,z1,O⟩:=hL _ _ F;obtain⟨i2,d2,z2,b0⟩:=hL _ _ D
      have W:=O.kind;simp only[ZE]at W
      subst W;obtain⟨k,ei⟩:=Pc h hi
      obtain⟨B,K⟩:=K3 h x;rw[G]at B K
      have a8:∃vs,a.eval x=.agg vs/\Qf w (XS C s η) η C vs cs:=by
       generalize a.eval x=u at B
       cases B with|v _ _ B=>cases B with|g vs _ B=>exact⟨vs,rfl,B⟩
      obtain⟨vs,ex,d5⟩:=a8;obtain⟨u,Y,g2,g3⟩:=Q0s (P:=P) hL d5 D g0 S
      refine QU h hd (v:=u) ?_ g2 (λj hj=>K j (by simpa[AVal.refs,TV.refs]using g3 j hj));simp[execOp,p,Instr.index,ei,ex,asIntOf,Qb9 O.und,U,c9,Yu b0,Y]
     .cases hr
    .cases hr
   .cases hr
  .cases hr
 .
  rename_i t l c p
  split at hr
  .rename_i el V H z n n' d F hl d7 A
   split at hr
   .rename_i te D
    split at hr
    .rename_i zd hz
     split at hr
     .rename_i J
      cases hr
      exact Q6t hL h A (hd d A) (hR d A (by simp)) p F rfl D hl d7 J.1 J.2.1 J.2.2 hz hc
     .cases hr
    .cases hr
   .cases hr
  .cases hr
 .
  rename_i x k p
  split at hr
  .rename_i xs G
   split at hr
   .rename_i v S
    cases hr
    obtain⟨B,K⟩:=K3 h x;rw[G]at B K
    have a8:∃us,a.eval x=.tuple us/\us.size=xs.length/\∀j,j<xs.length->TRep w (XS C s η) η C (us.getD j undef) (xs.getD j (.c (.d .any))):=by
     generalize a.eval x=u at B
     cases B with|t us _ Y g2=>exact⟨us,rfl,Y,g2⟩
    obtain⟨us,ex,Y,g2⟩:=a8;have hk:k<xs.length:=by
     grind
    have i6 : k<us.size:=by omega
    have h3:=g2 k hk;have j0 : xs.getD k (.c (.d .any))=v:=by rw[Qa0,S];rfl
    rw[j0]at h3;refine QU h hd (v:=us.getD k undef) ?_ (.v _ _ h3) (λj hj=>K j ?_)
    .simp [execOp,p,Instr.extract,ex,i6]
    .exact Qc1.2 ⟨v,Qf2 S,hj⟩
   .cases hr
  .cases hr
 .
  rename_i b T e2 p
  split at hr
  .rename_i r' d q
   unfold JO at q;split at q
   .
    rename_i y M
    obtain⟨x,hargs,hy⟩:∃x,T=#[x]/\y=Y5 e x:=by
     match hl:T.toList,M with
     |[x],M=>simp at M;exact⟨x,Qw5 hl,M.symm⟩
    subst hargs;subst hy
    split at q
    .rename_i t a5
     have c7:e2=#[t]:=Qw5 a5;subst c7
     split at q
     .rename_i el V H z F
      split at q
      .rename_i n f G
       cases q
       simp only at hr;cases hr
       exact Q6x hL h hd p F rfl G
      .cases q
     .rename_i n el V H z F
      cases q
      simp only at hr;cases hr
      exact Q6w hL h hd p F rfl
     .rename_i V H z F
      split at q
      .rename_i bb G
       cases q
       simp only at hr;cases hr
       exact Q6v hL h hd p F rfl G
      .cases q
     .cases q
    .cases q
   .
    rename_i k n k' n' M
    obtain⟨x,y,hargs,G,hy⟩:∃x y,T=#[x,y]/\Y5 e x=.v (.c (.d (.int k n)))/\Y5 e y=.v (.c (.d (.int k' n'))):=by
     obtain⟨x,y,hl,B,K⟩:=yD M
     grind
    subst hargs;cases q
    simp only at hr;cases hr
    exact jc h hd p G hy (.inl ⟨rfl,rfl⟩)
   .
    rename_i k n k' n' M
    obtain⟨x,y,hargs,G,hy⟩:∃x y,T=#[x,y]/\Y5 e x=.v (.c (.d (.int k n)))/\Y5 e y=.v (.c (.d (.int k' n'))):=by
     obtain⟨x,y,hl,B,K⟩:=yD M
     grind
    subst hargs;cases q
    simp only at hr;cases hr
    exact jc h hd p G hy (.inr ⟨rfl,rfl⟩)
   .
    rename_i u1 u2 M
    obtain⟨x,y,hargs,G,hy⟩:∃x y,T=#[x,y]/\Y5 e x=u1/\Y5 e y=u2:=by
     obtain⟨x,y,hl,B,K⟩:=yD M
     grind
    subst hargs;subst G;subst hy
    split at q
    .rename_i t t' a5
     split at q
     .rename_i f3
      subst f3;have c7:e2=#[t,t]:=Qw5 a5
      subst c7;split at q
      .rename_i el V H z F
       split at q
       .rename_i te D
        split at q
        .rename_i k g hy
         split at q
         .rename_i del n f c G
          split at q
          .rename_i J
           cases q
           simp only at hr;split at hr
           .rename_i dd j9 A
            cases hr
            exact LX hL h A (hd _ A) (hR _ A (by simp)) p F rfl D hy G hc.2.2 J.2.1 J.2.2 hc.1 hc.2.1
           .cases hr
           .cases ‹some _=none›
          .cases q
         .cases q
        .cases q
       .cases q
      .cases q
     .cases q
    .cases q
   .cases q
  .cases hr
 .cases hr
end
end
section
def Zs(d:Option Tmp)(v:AVal)(e:U8):U8:=
 match d with
 |some d=>λt=>if t=d then v else e t
 |none=>e
def Zw(l:List (Nat×Option Obj))(s:J0):J0:=λi=>
 match l.lookup i with
 |some o=>o
 |none=>s i
structure Eff where
 rd:List Nat
 ids:List Nat
 v:AVal
 l:List (Nat×Option Obj)
 news:List Nat
section
variable (P:Program) (C:Ctx) (nt:Nat) (ops:Array Oper)
def Wo(o:Oper)(f:Eff)(e:U8)(s:J0):Prop:=
 ∀R η e0 s0 a w,(∀t∈f.rd,e0 t=e t)->(∀i∈f.ids,s0 i=s i)->(∀n∈f.news,¬R n)->Conc C nt R η e0 s0 a w ->
  ∀(K:Act->World->Prop) (Q:Exit->Act->World->Prop),(∀η' a' w',Conc C nt (λi=>R i\/i∈f.news) η' (Zs o.dst f.v e0) (Zw f.l s0) a' w' -> K a' w') ->
   if Region.wanted o (yielded ops a.tmps)then o.wp P a w K Q else K (a.put o.dst undef) w
def HK:List Oper->List Eff->U8->J0->Prop
 |[],[],_,_=>True
 |o::os,f::fs,e,s=>Wo P C nt ops o f e s/\HK os fs (Zs o.dst f.v e) (Zw f.l s)
 |_,_,_,_=>False
end
def UL:List Oper->List Eff->U8->U8
 |o::os,f::fs,e=>UL os fs (Zs o.dst f.v e)
 |_,_,e=>e
def UK:List Eff->J0->J0
 |f::fs,s=>UK fs (Zw f.l s)
 |_,s=>s
def Yx(fs:List Eff):List Nat:=fs.flatMap (·.news)
theorem Conc.wider{R R' : Nat->Prop}(h:Conc C nt R η e s a w)(hR:∀i,R i->R' i):Conc C nt R' η e s a w:=
 ⟨h.ok,h.df,h.sz,h.ev,λt i b=>hR i (h.er t i b),h.st,λi o c=>⟨hR i (h.sr i o c).1,λj d=>hR j ((h.sr i o c).2 j d)⟩,h.ds,h.ow,h.fr,λi v b=>⟨(h.pn i v b).1,hR i (h.pn i v b).2⟩⟩
section
variable {P:Program} {C:Ctx} {nt:Nat} {ops:Array Oper}
theorem Q7S{Q:Exit->Act->World->Prop}:∀ (os:List Oper) (fs:List Eff) (R:Nat->Prop) (η:Nat->Value) (e:U8) (s:J0) (a:Act) (w:World),HK P C nt ops os fs e s->(Yx fs).Nodup->(∀ n ∈ Yx fs,¬ R n)->Conc C nt R η e s a w ->
  (∀η' a' w',Conc C nt (λi=>R i\/i∈Yx fs) η' (UL os fs e) (UK fs s) a' w' -> Q .normal a' w')->wpList P ops Q os a w:=by
 intro os
 induction os with
 |nil=>
  intro fs R η e s a w h _ _ j g
  cases fs with
  |nil=>exact g η a w (j.wider λi p=>.inl p)
  |cons f fs=>exact h.elim
 |cons o os ih=>
  intro fs R η e s a w h c d j g
  cases fs with
  |nil=>exact h.elim
  |cons f fs=>
   obtain⟨t,r⟩:=h;have b:Yx (f::fs)=f.news++Yx fs:=rfl
   rw[b]at c d g;have k:=t R η e s a w (λ_ _=>rfl) (λ_ _=>rfl) (λn q=>d n (Qb2.2 (.inl q))) j
   refine wpList_step λK v=>?_
   refine k K Q λη' a' w' m=>v a' w' ?_
   refine ih fs _ η' _ _ a' w' r (Qm6.1 c).2.1 (λn q z=>?_) m λy u x l=>g y u x (l.wider λi p=>?_)
   all_goals grind
end
def Ui(oi oj:Oper)(fi fj:Eff):Bool:=
 (match oi.dst with|some d=>fj.rd.contains d||oj.dst==some d|none=>false)||(match oj.dst with|some d=>fi.rd.contains d|none=>false) ||
 (fi.l.any λp=>fj.ids.contains p.1||fj.l.any (·.1==p.1))||(fj.l.any λp=>fi.ids.contains p.1)
def UC(acc:List Nat):List Edge->Nat
 |[]=>0
 |e::r=>if Region.binds .any e then(2 ^ e.on ||| acc.getD e.on 0) ||| UC acc r else UC acc r
def XW:List Oper->List Eff->List Nat->List (Oper×Eff)->Bool
 |o::os,f::fs,acc,seen=>
  let m:=UC acc o.after.toList
  (o.after.toList.all λe=> !Region.binds .any e||decide (e.on<acc.length)) &&
  (seen.zipIdx.all λp=> !Ui p.1.1 o p.1.2 f||m.testBit p.2)&&XW os fs (acc++[m]) (seen++[(o,f)])
 |[],[],_,_=>true
 |_,_,_,_=>false
def Q2N(ops:List Oper)(fs:List Eff):Bool:=XW ops fs [] []
inductive Anc (ops:List Oper):Nat->Nat->Prop
 |edge (j:Nat) (o:Oper) (e:Edge):ops[j]?=some o->e∈o.after.toList->Region.binds .any e=true->Anc ops e.on j
 |trans (i j k:Nat):Anc ops i j->Anc ops j k->Anc ops i k
theorem Z0Y{acc:List Nat}(ho:ops[j]?=some o)(hacc:∀k i,(acc.getD k 0).testBit i=true->Anc ops i k):∀(es:List Edge),(∀e∈es,e∈o.after.toList)->∀i,(UC acc es).testBit i=true->Anc ops i j:=by
 intro es
 induction es with
 |nil=>intro _ i c;simp[UC]at c
 |cons e r ih=>
  intro b i c;have f:=ih (λl d=>b l (Qf9 _ d))
  simp only[UC]at c;split at c
  .rename_i h
   have g:Anc ops e.on j:=.edge j o e ho (b e Qg5) h;rw[Nat.testBit_or,Nat.testBit_or]at c
   rcases(by simpa using c:((2 ^ e.on).testBit i=true\/(acc.getD e.on 0).testBit i=true)\/(UC acc r).testBit i=true)with (h1|h1)|h1
   .grind
   .exact .trans _ _ _ (hacc _ _ h1) g
   .exact f i h1
  .exact f i c
theorem Z4o(ops:List Oper)(fs:List Eff):∀ (os:List Oper) (gs:List Eff) (acc:List Nat) (seen:List (Oper×Eff)),XW os gs acc seen=true ->
  acc.length=seen.length->ops=seen.map (·.1)++os->fs=seen.map (·.2)++gs->(∀k i,(acc.getD k 0).testBit i=true->Anc ops i k) ->
  (∀j o e,seen.length<=j->ops[j]?=some o->e∈o.after.toList->Region.binds .any e=true->e.on<j) /\
  (∀i j oi oj fi fj,i<j->seen.length<=j->ops[i]?=some oi->ops[j]?=some oj->fs[i]?=some fi->fs[j]?=some fj->Ui oi oj fi fj=true->Anc ops i j)/\os.length=gs.length:=by
 intro os
 induction os with
 |nil=>
  intro gs acc seen h y v p _
  cases gs with
  |cons g gs=>simp[XW]at h
  |nil=>
   grind
 |cons o os ih=>
  intro gs acc seen h y v p f
  cases gs with
  |nil=>simp[XW]at h
  |cons g gs=>
   simp only[XW,Qa4]at h;obtain⟨⟨K,J⟩,H⟩:=h
   have d:ops[seen.length]?=some o:=by rw[v];simp
   have r:fs[seen.length]?=some g:=by rw[p];simp
   have m:∀i,(UC acc o.after.toList).testBit i=true->Anc ops i seen.length:=Z0Y d f _ (λe q=>q);obtain⟨E,G,B⟩:=ih gs (acc++[UC acc o.after.toList]) (seen++[(o,g)]) H (by simp[y]) (by simp[v]) (by simp[p]) (λk i I=>by
    by_cases hk1:k<acc.length
    .grind
    .by_cases hk2:k=acc.length
     all_goals grind)
   refine⟨λj z e F b q D=>?_,λi j oi oj fi fj u F l b t c n=>?_,by simp[B]⟩
   .by_cases hjs:j=seen.length
    .grind
    .exact E j z e (by simp;omega) b q D
   .by_cases hjs:j=seen.length
    .subst hjs
     rw[d]at b;cases b
     rw[r]at c;cases c
     have A:seen[i]?=some (oi,fi):=by
      grind
     have x:((oi,fi),i)∈seen.zipIdx:=by
      grind
     grind
    .exact G i j oi oj fi fj u (by simp;omega) l b t c n
end
section
instance:Inhabited Eff:=⟨⟨[],[],.any,[],[]⟩⟩
section
variable (l:List Oper) (fs:List Eff)
def Vc(i:Nat):Option Tmp:=(l[i]?).bind (·.dst)
def Qu(i:Nat):Eff:=fs.getD i default
def hE(e0:U8):List Nat->U8
 |[]=>e0
 |i::h=>Zs (Vc l i) (Qu fs i).v (hE e0 h)
def hS(s0:J0):List Nat->J0
 |[]=>s0
 |i::h=>Zw (Qu fs i).l (hS s0 h)
def Up(t:Nat)(j:Nat):Bool:=Vc l j==some t
def UW(i:Nat)(j:Nat):Bool:=((Qu fs j).l.lookup i).isSome
theorem Q1p(e0:U8)(t:Nat):∀h,hE l fs e0 h t=match h.find? (Up l t)with|some j=>(Qu fs j).v|none=>e0 t:=by
 intro h
 induction h with
 |nil=>rfl
 |cons i h ih=>
  simp only[hE,Qv1,Zs]
  cases hd:Vc l i with
  |none=>simp[Up,hd,ih]
  |some d=>
   by_cases hdt:t=d
   .subst hdt;simp[Up,hd]
   .have:Up l t i=false:=by simp[Up,hd];exact λb=>hdt b.symm
    grind
theorem Q1o(s0:J0)(k:Nat):∀h,hS fs s0 h k=match h.find? (UW fs k)with|some j=>((Qu fs j).l.lookup k).getD none|none=>s0 k:=by
 intro h
 induction h with
 |nil=>rfl
 |cons i h ih=>
  simp only[hS,Qv1,Zw]
  cases hl:(Qu fs i).l.lookup k with
  |none=>simp[UW,hl,ih]
  |some o=>simp[UW,hl]
end
structure Hist (ops:List Oper) (h:List Nat):Prop where
 nd:h.Nodup
 ord:∀l1 k l2,h=l1++k::l2->∀i,Anc ops i k->i∈l2
theorem Hist.anc(H:Hist ops h){i:Nat}(hk:k∈h)(ha:Anc ops i k):i∈h:=by
 obtain⟨b,c,rfl⟩:=Ql3 hk;exact Qb2.2 (.inr (Qf9 _ (H.ord b k c rfl i ha)))
theorem Q1F(H:Hist ops h){p:Nat->Bool}{f g:Nat}(hf:h.find? p=some f)(hg:g∈h)(hp:p g=true)(ha:Anc ops f g):False:=by
 obtain⟨_,j,d,rfl,n⟩:=List.find?_eq_some_iff_append.1 hf;have b:g∈d:=by
  rcases Qb2.1 hg with i|i
  .grind
  .rcases Qe1.1 i with c|c
   .subst c
    have:=H.ord j g d rfl g ha
    exact this
   .exact c
 obtain⟨o,k,rfl⟩:=Ql3 b;have:=H.ord (j++f::o) g k (by simp) f ha
 have m:=H.nd
 grind
theorem Q1G{h1 h2:List Nat}(H1:Hist ops h1)(H2:Hist ops h2){p:Nat->Bool}(hord:∀j k,j<k->k∈h1->k∈h2->j∈h1->p j=true->p k=true->Anc ops j k)(hset:∀j,p j=true->(j∈h1↔j∈h2)):h1.find? p=h2.find? p:=by
 cases hf:h1.find? p with
 |none=>
  grind
 |some f=>
  have c:p f=true:=Qv2 hf;have n:f∈h1:=Qk0 hf
  have b:=(hset f c).1 n
  cases hg:h2.find? p with
  |none=>rw[Qg9]at hg;exact absurd c (hg f b)
  |some g=>
   have d:p g=true:=Qv2 hg;have h:g∈h2:=Qk0 hg
   have m:=(hset g d).2 h;rcases Qp6 f g with i|o|i
   .exact (Q1F H1 hf m d (hord f g i m h n c d)).elim
   .rw [o]
   .exact (Q1F H2 hg b c (hord g f i n b m d c)).elim
section
variable {P:Program} {C:Ctx} {nt:Nat} {ops:Array Oper} {fs:List Eff}
theorem Z4Q{l:List Oper}(hb:∀j o e,l[j]?=some o->e∈o.after.toList->Region.binds .any e=true->e.on<j){i:Nat}(h:Anc l i k):i<k:=by
 induction h with
 |edge j o e h1 h2 h3=>exact hb j o e h1 h2 h3
 |trans i j k _ _ ih1 ih2=>omega
theorem Mi{l:List Oper}(hb:∀j o e,l[j]?=some o->e∈o.after.toList->Region.binds .any e=true->e.on<j)(n:Nat):Hist l (List.range n).reverse:=by
 refine⟨by unfold List.Nodup;rw[List.pairwise_reverse];exact(List.nodup_range (n:=n)).imp (λh=>Qw1 h),?_⟩
 induction n with
 |zero=>intro b k c h;simp at h
 |succ n ih=>
  intro b k c h i d;rw[Qv3,Qr7,Qp8,Qq6]at h
  cases b with
  |nil=>
   simp only[Qk2,Ql5]at h;obtain⟨rfl,rfl⟩:=h
   have:=Z4Q hb d
   grind
  |cons x b=>
   grind
theorem Z0O{fs:List Eff}(hnd:(Yx fs).Nodup){i:Nat}(hij:i≠j){x:Nat}(hi:x∈(Qu fs i).news)(hj:x∈(Qu fs j).news):False:=by
 induction fs generalizing i j with
 |nil=>simp[Qu,default]at hi
 |cons f r ih=>
  have d:Yx (f::r)=f.news++Yx r:=rfl;rw[d,Qm6]at hnd
  have b:∀k,x∈(Qu r k).news->x∈Yx r:=by
   intro k c
   by_cases hkl:k<r.length
   .exact Qc1.2 ⟨_,Ya hkl,c⟩
   .have:Qu r k=default:=by unfold Qu;rw[Qa0,Qh0 (by omega)];rfl
    rw[this]at c;cases c
  cases i with
  |zero=>
   cases j with
   |zero=>exact hij rfl
   |succ j=>exact hnd.2.2 x hi x (b j hj) rfl
  |succ i=>
   cases j with
   |zero=>exact hnd.2.2 x hj x (b i hi) rfl
   |succ j=>exact ih hnd.2.1 (by omega) hi hj
theorem Q2w{fs:List Eff}{x:Nat}(hx:x∈(Qu fs k).news):x∈Yx fs:=by
 by_cases hk:k<fs.length
 .exact Qc1.2 ⟨_,Ya hk,hx⟩
 .have:Qu fs k=default:=by unfold Qu;rw[Qa0,Qh0 (by omega)];rfl
  rw[this]at hx;cases hx
theorem Q7T:∀ (os:List Oper) (gs:List Eff) (l:List Oper) (fs:List Eff) (k:Nat) (e0:U8) (s0:J0),(∀ j,os[j]?=l[k+j]?)->(∀ j,j<gs.length->gs[j]?=fs[k+j]?)->os.length=gs.length ->
  HK P C nt ops os gs (hE l fs e0 (List.range k).reverse) (hS fs s0 (List.range k).reverse) ->
  (∀j o,os[j]?=some o->Wo P C nt ops o (Qu fs (k+j)) (hE l fs e0 (List.range (k+j)).reverse) (hS fs s0 (List.range (k+j)).reverse)) /\
  UL os gs (hE l fs e0 (List.range k).reverse)=hE l fs e0 (List.range (k+os.length)).reverse/\UK gs (hS fs s0 (List.range k).reverse)=hS fs s0 (List.range (k+os.length)).reverse:=by
 intro os
 induction os with
 |nil=>
  intro gs l fs k e0 s0 _ _ d _
  cases gs with
  |nil=>exact⟨λj o h=>by simp at h,rfl,rfl⟩
  |cons g gs=>simp at d
 |cons o os ih=>
  intro gs l fs k e0 s0 m i d t
  cases gs with
  |nil=>simp at d
  |cons g gs=>
   obtain⟨y,r⟩:=t;have u:Vc l k=o.dst:=by
    have:=m 0;simp at this;simp[Vc, <-this]
   have f:Qu fs k=g:=by
    have:=i 0 (by simp);simp at this;simp[Qu,Qa0, <-this]
   have b:hE l fs e0 (List.range (k+1)).reverse=Zs o.dst g.v (hE l fs e0 (List.range k).reverse):=by
    rw[Qv3,Qr7,Qp8,Qq6];simp only[hE,u,f]
   have c:hS fs s0 (List.range (k+1)).reverse=Zw g.l (hS fs s0 (List.range k).reverse):=by
    rw[Qv3,Qr7,Qp8,Qq6];simp only[hS,f]
   obtain⟨z,q,n⟩:=ih gs l fs (k+1) e0 s0 (λj=>by have:=m (j+1);simp at this;rw[this];congr 1;omega) (λj p=>by have:=i (j+1) (by simpa using p);simp at this;rw[this];congr 1;omega) (by simpa using d)
    (by rw[b,c];exact r)
   refine⟨λj x p=>?_,?_,?_⟩
   .grind
   .rw [b]at q
    simp only[UL];rw[q];congr 3;simp;omega
   .rw [c]at n
    simp only[UK];rw[n];congr 3;simp;omega
theorem Z0F:∀(n:Nat) (l:List Nat),l.Nodup->(∀x∈l,x<n)->l.length<=n:=by
 intro n
 induction n with
 |zero=>intro l _ h;cases l with
  |nil=>simp
  |cons x r=>exact absurd (h x Qg5) (by omega)
 |succ n ih=>
  intro l b h
  by_cases hn:n∈l
  .have d:=ih (l.erase n) (b.erase n) (fun x c=>by
    grind)
   grind
  all_goals grind
theorem Z0R{listed:Array Bool}(hsz:listed.size=n)(hl:∀i,i<n->(listed.getD i false=true↔i∈h))(hb:∀i∈h,i<n)(i:Nat):listed.getD i false=true↔i∈h:=by
 grind
theorem yc{ops:Array Oper}{listed:Array Bool}(hsz:listed.size=ops.size)(i:Nat):i∈Region.ready .any ops listed↔∃o,ops[i]?=some o/\listed.getD i false=false/\∀e∈o.after.toList,Region.binds .any e=true->listed.getD e.on false=true:=by
 unfold Region.ready;rw[Qe6,Qe4]
 constructor
 .rintro ⟨c,d⟩
  refine⟨ops[i],by simp[c],?_,?_⟩
  .grind
  .intro e f g
   simp only[Qa4]at d;have b:=d.2
   simp only[Qe7 c,Qj0,Qu1]at b;rw[Array.all_eq_true']at b
   grind
 all_goals grind
theorem Z4P{Q:Exit->Act->World->Prop}{e0:U8}{s0:J0}{R:Nat->Prop}(hlen:ops.toList.length=fs.length)(hback:∀ j o e,ops.toList[j]?=some o->e ∈ o.after.toList->Region.binds .any e=true->e.on<j)(hconf:∀ i j oi oj fi fj,i<j->ops.toList[i]?=some oi->ops.toList[j]?=some oj->fs[i]?=some fi->fs[j]?=some fj->Ui oi oj fi fj=true->Anc ops.toList i j)(hst:∀ j o,ops.toList[j]?=some o->Wo P C nt ops o (Qu fs j) (hE ops.toList fs e0 (List.range j).reverse) (hS fs s0 (List.range j).reverse))(hnd:(Yx fs).Nodup)(hfr:∀ n ∈ Yx fs,¬ R n)(hq:∀ η a w,Conc C nt (fun i=>R i\/i ∈ Yx fs) η (hE ops.toList fs e0 (List.range ops.size).reverse) (hS fs s0 (List.range ops.size).reverse) a w->Q .normal a w):
  ∀(fuel:Nat) (listed:Array Bool) (h:List Nat) (η:Nat->Value) (a:Act) (w:World),listed.size=ops.size->(∀i,i<ops.size->(listed.getD i false=true↔i∈h))->(∀i∈h,i<ops.size)->Hist ops.toList h->ops.size<=fuel+h.length ->
   Conc C nt (λi=>R i\/∃j∈h,i∈(Qu fs j).news) η (hE ops.toList fs e0 h) (hS fs s0 h) a w->wpAny P .any ops Q fuel listed a w:=by
 have b:∀{i:Nat},i<ops.size->∃o,ops.toList[i]?=some o/\ops[i]?=some o:=λ{i} d=>⟨ops[i],by simp[d],by simp[d]⟩
 have Z:∀{i:Nat},i<ops.size->fs[i]?=some (Qu fs i):=by
  intro i d;have:i<fs.length:=by rw[<-hlen];simpa using d
  simp[Qu,Qa0,this]
 have hC:∀i j oi oj,i<j->j<ops.size->ops.toList[i]?=some oi->ops.toList[j]?=some oj->Ui oi oj (Qu fs i) (Qu fs j)=true->Anc ops.toList i j:=by
  grind
 have F:∀(M m:List Nat),Hist ops.toList M->Hist ops.toList m->(∀i∈M,i<ops.size)->∀t,(∀j,j<ops.size->Vc ops.toList j=some t->(j∈M↔j∈m))->(∀i∈m,i<ops.size)->hE ops.toList fs e0 M t=hE ops.toList fs e0 m t:=by
  intro M m H1 H2 q t hw b9;rw[Q1p,Q1p,Q1G (p:=Up ops.toList t) H1 H2 ?_ ?_]
  .intro j k c9 a8 _ O U a4
   obtain⟨oj,c,_⟩:=b (q j O);obtain⟨ok,a7,_⟩:=b (q k a8)
   refine hC j k oj ok c9 (q k a8) c a7 ?_;simp[Up,Vc,c]at U
   simp[Up,Vc,a7]at a4
   simp[Ui,U,a4]
  .intro j hp
   have hd:Vc ops.toList j=some t:=by simpa[Up]using hp
   grind
 have D:∀(M m:List Nat),Hist ops.toList M->Hist ops.toList m->(∀i∈M,i<ops.size)->∀k,(∀j,j<ops.size->UW fs k j=true->(j∈M↔j∈m))->(∀i∈m,i<ops.size)->hS fs s0 M k=hS fs s0 m k:=by
  intro M m H1 H2 q k hw b9;have W:∀j,UW fs k j=true->∃o,(k,o)∈(Qu fs j).l:=by
   intro j g;simp only[UW,Ql9]at g
   grind
  rw[Q1o,Q1o,Q1G (p:=UW fs k) H1 H2 ?_ ?_]
  .intro i j c2 O _ b6 c8 U
   obtain⟨oi,d2,_⟩:=b (q i b6);obtain⟨oj,c,_⟩:=b (q j O)
   refine hC i j oi oj c2 (q j O) d2 c ?_;obtain⟨u,hu⟩:=W i c8
   obtain⟨v,hv⟩:=W j U;have:((Qu fs i).l.any λp=>(Qu fs j).ids.contains p.1||(Qu fs j).l.any (·.1==p.1))=true:=by
    grind
   simp only[Ui,this,Qx2,Qx3]
  all_goals grind
 have r:∀n,n<=ops.size->(∀i∈(List.range n).reverse,i<ops.size):=by intro n hn i d;simp at d;omega
 have K:∀ (listed:Array Bool) (h:List Nat) (η:Nat->Value) (a:Act) (w:World),(∀ i ∈ h,i<ops.size)->Hist ops.toList h->(∀ i,i<ops.size->i ∈ h) ->
   Conc C nt (λi=>R i\/∃j∈h,i∈(Qu fs j).news) η (hE ops.toList fs e0 h) (hS fs s0 h) a w->Q .normal a w:=by
  intro listed h η a w N H E Y;have e1:hE ops.toList fs e0 h=hE ops.toList fs e0 (List.range ops.size).reverse:=
   funext λt=>F _ _ H (Mi hback _) N t (λj g _=>⟨λ_=>by simp;exact g,λ_=>E j g⟩) (r _ (Qb3 _))
  have e2:hS fs s0 h=hS fs s0 (List.range ops.size).reverse:=
   funext λk=>D _ _ H (Mi hback _) N k (λj g _=>⟨λ_=>by simp;exact g,λ_=>E j g⟩) (r _ (Qb3 _))
  rw[e1,e2]at Y;refine hq η a w (Y.wider λi d=>?_)
  rcases d with d|⟨j,_,d⟩
  .exact .inl d
  .exact .inr (Q2w d)
 intro fuel
 induction fuel with
 |zero=>
  intro listed h η a w J hl N H hf Y;have E:∀i,i<ops.size->i∈h:=by
   intro i d;rcases Qn2 (i∈h)with f|f
   .exact f
   .have:=Z0F ops.size (i::h) (Qr2.2 ⟨f,H.nd⟩) (λx G=>by rcases Qe1.1 G with rfl|G;exact d;exact N x G)
    grind
  refine⟨?_,K listed h η a w N H E Y⟩;refine List.eq_nil_iff_forall_not_mem.2 λi d=>?_
  obtain⟨o,ho,m,_⟩:=(yc J i).1 d
  grind
 |succ fuel ih=>
  intro listed h η a w J hl N H hf Y;have b1:=Z0R J hl N
  refine⟨λd7=>?_,λi d=>?_⟩
  .refine K listed h η a w N H (λi d=>?_) Y
   induction i using Nat.strongRecOn with
   |_ i ihi=>
    rcases Qn2 (i∈h)with f|f
    .exact f
    .exfalso
     obtain⟨o,ho,c3⟩:=b d;have:i∈Region.ready .any ops listed:=(yc J i).2 ⟨o,c3,by
      grind,λe he a6=>(b1 e.on).2 (ihi e.on (hback i o e ho he a6) (by have:=hback i o e ho he a6;omega))⟩
     grind
  .obtain ⟨o,ho,m,h3⟩:=(yc J i).1 d
   have T : i<ops.size:=(Qh3.1 ho).1;have f:i∉h:=λhh=>by rw[(b1 i).2 hh]at m;cases m
   have I:ops.toList[i]?=some o:=by simpa using ho
   have a1 : ∀k z,Anc ops.toList k z->(z=i\/z∈h)->k∈h:=by
    intro k z B
    induction B with
    |edge j o' e g1 g2 g3=>
     intro hz;rcases hz with rfl|hz
     .grind
     .exact H.anc hz (.edge j o' e g1 g2 g3)
    |trans x y z _ _ ih1 ih2=>intro hz;exact ih1 (.inr (ih2 hz))
   have d8:∀k,Anc ops.toList k i->k∈h:=λk B=>a1 k i B (.inl rfl)
   have e8:=Z T;have c7 : Hist ops.toList (i::h):=by
    refine⟨Qr2.2 ⟨f,H.nd⟩,λl1 k l2 hh x G=>?_⟩
    cases l1 with
    |nil=>
     grind
    |cons y l1=>
     simp only[Qi6,Ql5]at hh;exact H.ord l1 k l2 hh.2 x G
   have a9:=r i (Nat.le_of_lt T);have c0:∀t∈(Qu fs i).rd,hE ops.toList fs e0 h t=hE ops.toList fs e0 (List.range i).reverse t:=by
    intro t ht;refine F _ _ H (Mi hback i) N t (λj g hd=>?_) a9
    obtain⟨oj,c,_⟩:=b g;have b2:oj.dst=some t:=by simpa[Vc,c]using hd
    rcases Qp6 j i with A|rfl|A
    .have:=hC j i oj o A T c I (by simp[Ui,b2,ht])
     grind
    .grind
    .have:=hC i j o oj A g I c (by simp[Ui,b2,ht])
     grind
   have b7:∀k∈(Qu fs i).ids,hS fs s0 h k=hS fs s0 (List.range i).reverse k:=by
    intro k B;refine D _ _ H (Mi hback i) N k (λj g hw=>?_) a9
    obtain⟨oj,c,_⟩:=b g;simp only[UW,Ql9]at hw
    obtain⟨u,hu⟩:=hw;obtain⟨l1,l2,c5,_⟩:=Qi5.1 hu
    have V:(k,u)∈(Qu fs j).l:=by rw[c5];simp
    rcases Qp6 j i with A|rfl|A
    .have G:((Qu fs j).l.any fun p=>(Qu fs i).ids.contains p.1||(Qu fs i).l.any (·.1==p.1))=true:=by
      rw[Qd3];exact⟨_,V,by simp[B]⟩
     have:=hC j i oj o A T c I (by simp only[Ui,G,Qx2,Qx3])
     grind
    .grind
    .have G:((Qu fs j).l.any fun p=>(Qu fs i).ids.contains p.1)=true:=by
      rw[Qd3];exact⟨_,V,by simp[B]⟩
     have:=hC i j o oj A g I c (by simp only[Ui,G,Qx2])
     grind
   have S:∀n∈(Qu fs i).news,¬(R n\/∃j∈h,n∈(Qu fs j).news):=by
    rintro n hn (G|⟨j,g,G⟩)
    .exact hfr n (Q2w hn) G
    .exact Z0O hnd (λhh=>f (hh ▸ g):i≠j) hn G
   have d0:=hst i o I _ η _ _ a w c0 b7 S Y (wpAny P .any ops Q fuel (listed.setIfInBounds i true)) Q λη' a' w' d4=>by
    refine ih (listed.setIfInBounds i true) (i::h) η' a' w' (by simp[J]) (λk B=>?_) (λk B=>?_) c7 (by simp;omega) ?_
    .have a5 : k<listed.size:=by omega
     by_cases hki:i=k
     .subst hki;simp[Array.getD,a5]
     .have:=hl k B
      simp[Array.getD,a5]at this⊢
      grind
    .grind
    .have hd:Vc ops.toList i=o.dst:=by simp[Vc,I]
     simp only[hE,hS,hd];refine d4.wider λk B=>?_
     rcases B with (B|⟨j,g,B⟩)|B
     all_goals grind
   simp only[wpOp,ho]
   grind
end
end
section
section
variable {L:Lay} {e e0:U8} {s s0:J0}
theorem Z0a{x:AVal}(h:∀i∈x.refs,s0 i=s i):rd s0 n x=rd s n x:=by
 unfold rd;split
 .rename_i b c;rw[h b (by simp[AVal.refs,TV.refs,CV.refs])]
 .rfl
 .rename_i b f d c;rw[h b (by simp[AVal.refs,TV.refs,CV.refs])]
 .rfl
theorem Q4m{x:AVal}(h:∀i∈x.refs,s0 i=s i):wr s0 xs x=wr s xs x:=by
 unfold wr;split
 .rename_i b c;rw[h b (by simp[AVal.refs,TV.refs,CV.refs])]
 .rename_i b f d c;rw[h b (by simp[AVal.refs,TV.refs,CV.refs])]
 .rfl
theorem xS{x:AVal}(h:∀i∈x.refs,s0 i=s i):Vi s0 x=Vi s x:=by
 unfold Vi;split
 .rfl
 .rfl
 .rename_i b;rw[h b (by simp[AVal.refs,TV.refs,CV.refs])]
 .rename_i b c d n;rw[h b (by simp[AVal.refs,TV.refs,CV.refs])]
 .rfl
theorem Z4J{x:AVal}{m:Nat}(h:∀i∈x.refs,s0 i=s i):UP s0 es m x=UP s es m x:=by
 unfold UP;split
 .rename_i b;rw[h b (by simp[AVal.refs,TV.refs,CV.refs])]
 .rfl
 .rfl
theorem Z4X{b:Builtin}{tys:Array TypeId}{xs:List AVal}(h:∀x∈xs,∀i∈x.refs,s0 i=s i):JO L s0 b tys xs=JO L s b tys xs:=by
 unfold JO;split
 .rename_i x
  rw[xS (h x (by simp))]
 .rfl
 .rfl
 .rename_i x y
  rw[xS (h y (by simp))];simp only[Z4J (h x (by simp))]
 .rfl
theorem Tq{x:Option Operand}(h:∀y,x=some y->Y5 e0 y=Y5 e y):oI e0 x=oI e x:=by
 cases x with
 |none=>rfl
 |some y=>simp only[oI,h y rfl]
theorem Q3u(m:Bool)(o:Oper)(he:∀x∈o.op.operands.toList,Y5 e0 x=Y5 e x)(hs:∀x∈o.op.operands.toList,∀i∈(Y5 e x).refs,s0 i=s i):Zi L m e0 s0 o=Zi L m e s o:=by
 have g:∀(v:Array Operand),(∀x∈v.toList,Y5 e0 x=Y5 e x)->v.toList.map (Y5 e0)=v.toList.map (Y5 e):=λv h=>Qh6 h
 unfold Zi
 cases ho:o.op<;>simp only[ho,Op.operands]at he hs<;>try rfl
 case move x=>simp only[he x (by simp)]
 case assign x=>simp only[he x (by simp)]
 case pick c a b=>simp only[he c (by simp),he a (by simp),he b (by simp)]
 case box t x=>simp only[he x (by simp)]
 case build t ps=>
  have:ps.toList.map (λp=>(p.1,Y5 e0 p.2))=ps.toList.map (λp=>(p.1,Y5 e p.2)):=Qh6 λp D=>by rw[he p.2 (by simp;exact⟨p.1,by simpa using D⟩)]
  simp only[this]
 case buildSlice t n ps=>
  have:ps.toList.map (λp=>(p.1,Y5 e0 p.2))=ps.toList.map (λp=>(p.1,Y5 e p.2)):=Qh6 λp D=>by rw[he p.2 (by simp;exact⟨p.1,by simpa using D⟩)]
  simp only[this]
 case load t x=>simp only[he x (by simp),Z0a (hs x (by simp))]
 case store t x y=>simp only[he x (by simp),he y (by simp),Q4m (hs x (by simp))]
 case nilCheck x=>simp only[he x (by simp)]
 case binOp op t x y t'=>simp only[he x (by simp),he y (by simp)]
 case unOp op t x=>simp only[he x (by simp)]
 case convert src dst x=>simp only[he x (by simp)]
 case makeFunc fn first caps=>
  cases fn<;>try rfl
  simp only[g caps (λx j=>he x (by simp;exact .inr (by simpa using j)))]
 case makeSlice t l c=>simp only[he l (by simp),he c (by simp)]
 case slice t x lo hi mx=>
  have j:=he x (by simp);have F:oI e0 lo=oI e lo:=Tq λy z=>he y (by subst z;simp)
  have E:oI e0 hi=oI e hi:=Tq λy z=>he y (by subst z;simp)
  have f:=hs x (by simp)
  cases mx with
  |none=>
   simp only[j,F,E];split
   .split
    .split<;>try rfl
     rename_i B u q _ _
     rw[q]at f;simp only[f B (by simp[AVal.refs,TV.refs,CV.refs])]
    .rfl
   .rfl
  |some mx=>
   cases lo with
   |some lo=>rfl
   |none=>
    cases hi with
    |none=>rfl
    |some hi=>simp only[j,he hi (by simp),he mx (by simp)]
 case fieldAddr t x k=>simp only[he x (by simp)]
 case field t x k=>simp only[he x (by simp)]
 case indexAddr t x i=>
  have f:=hs x (by simp);simp only[he x (by simp),he i (by simp)]
  split
  .split
   .split
    .rename_i B q
     rw[q]at f;simp only[f B (by simp[AVal.refs,TV.refs,CV.refs])]
    .rfl
   .rfl
  .rfl
  .rfl
 case index t x i=>simp only[he x (by simp),he i (by simp)]
 case extract x k=>simp only[he x (by simp)]
 case call c=>
  obtain⟨A,d,r⟩:=c
  cases A<;>try rfl
  rename_i b
  simp only[Call.operands]at he hs;have H:d.toList.map (Y5 e0)=d.toList.map (Y5 e):=g d (λx j=>he x (by simpa using j))
  have G:JO L s0 b r (d.toList.map (Y5 e))=JO L s b r (d.toList.map (Y5 e)):=Z4X λx j=>by
   grind
  simp only[H,G]
end
end
section
def XE:AVal->Bool
 |.v (.c (.pte _ _ _ _))=>true
 |_=>false
def KU(e:U8)(o:Oper):Bool:=
 match o.op with
 |.binOp op _ _ _ _=>match op with
  |.add|.sub|.mul|.quo|.rem|.shl|.shr=>true
  |_=>false
 |.unOp op _ _=>match op with
  |.neg=>true
  |_=>false
 |.convert _ _ _=>true
 |.load _ x=>XE (Y5 e x)
 |.store _ x _=>XE (Y5 e x)
 |.slice _ _ _ _ _=>true
 |.indexAddr _ _ _=>true
 |.makeSlice _ _ _=>true
 |.call {callee:=.builtin .append,..}=>true
 |_=>false
theorem Z2x{L:Lay}(h:KU e o=false)(hr:Zi L m e s o=some r):r.cond:=by
 unfold KU at h;unfold Zi at hr
 split at hr
 case h_1=>cases hr;trivial
 case h_2=>
  split at hr
  .cases hr;trivial
  .split at hr
   .split at hr
    .cases hr;trivial
    .cases hr
   .cases hr
  .cases hr
 case h_3=>split at hr<;>first|(cases hr;done)|(cases hr;trivial)
 case h_4=>split at hr<;>first|(cases hr;done)|(cases hr;trivial)
 case h_5=>split at hr<;>first|(cases hr;done)|(cases hr;trivial)
 case h_6=>
  split at hr
  .split at hr
   .split at hr<;>first|(cases hr;done)|(cases hr;trivial)
   .cases hr
  .split at hr
   .split at hr<;>first|(cases hr;done)|(cases hr;trivial)
   .cases hr
  .cases hr
 case h_7=>
  split at hr
  .split at hr
   .split at hr
    .split at hr
     .split at hr
      .split at hr<;>first|(cases hr;done)|(cases hr;trivial)
      .cases hr
     .cases hr
    .cases hr
   .cases hr
  .cases hr
 case h_8 t x hop=>
  rw[hop]at h;simp only at h
  split at hr
  .split at hr
   .rename_i j c g
    split at hr
    .cases hr
     unfold rd at g;split at g
     .split at g
      .split at g<;>first|(cases g;done)|(cases g;trivial)
      .cases g
     .split at g<;>first|(cases g;done)|(cases g;trivial)
     .rename_i i;rw[i]at h;simp[XE]at h
     .cases g
    .cases hr
   .cases hr
  .cases hr
 case h_9 t x y hop=>
  rw[hop]at h;simp only at h
  split at hr
  .split at hr
   .unfold wr at hr
    split at hr
    .split at hr
     .split at hr<;>first|(cases hr;done)|(cases hr;trivial)
     .cases hr
    .rename_i i;rw[i]at h;simp[XE]at h
    .cases hr
   .cases hr
  .cases hr
 case h_10=>split at hr<;>first|(cases hr;done)|(cases hr;trivial)
 case h_11 op t x y t' hop=>
  rw[hop]at h;unfold Gq at hr
  split at hr
  .split at hr
   .simp at h
   .simp at h
   .split at hr
    .split at hr<;>first|(cases hr;done)|(simp at h;done)|(cases hr;trivial)
    .cases hr
  .cases hr
 case h_12 op t x hop=>
  rw[hop]at h;unfold FJ at hr
  split at hr
  .cases hr;trivial
  .simp at h
  .cases hr
 case h_13 hop=>rw[hop]at h;simp at h
 case h_14=>
  split at hr
  .split at hr<;>first|(cases hr;done)|(cases hr;trivial)
  .cases hr
 case h_15 hop=>rw[hop]at h;simp at h
 case h_16 hop=>rw[hop]at h;simp at h
 case h_17=>
  split at hr
  .split at hr
   .split at hr
    .split at hr
     .cases hr
     .split at hr
      .cases hr;trivial
      .cases hr;trivial
      .split at hr<;>first|(cases hr;done)|(cases hr;trivial)
      .cases hr
    .cases hr
   .cases hr
  .cases hr
 case h_18=>
  split at hr
  .split at hr
   .split at hr
    .split at hr
     .split at hr<;>first|(cases hr;done)|(cases hr;trivial)
     .cases hr
    .cases hr
   .cases hr
  .cases hr
 case h_19 hop=>rw[hop]at h;simp at h
 case h_20=>
  split at hr
  .split at hr
   .split at hr
    .split at hr<;>first|(cases hr;done)|(cases hr;trivial)
    .cases hr
   .cases hr
  .cases hr
 case h_21 hop=>rw[hop]at h;simp at h
 case h_22=>
  split at hr
  .split at hr<;>first|(cases hr;done)|(cases hr;trivial)
  .cases hr
 case h_23 b args tys hop=>
  rw[hop]at h;split at hr
  .rename_i k d f
   unfold JO at f;split at f
   .split at f
    .split at f
     .split at f
      .cases f;simp only at hr;cases hr;trivial
      .cases f
     .cases f;simp only at hr;cases hr;trivial
     .split at f
      .cases f;simp only at hr;cases hr;trivial
      .cases f
     .cases f
    .cases f
   .cases f;simp only at hr;cases hr;trivial
   .cases f;simp only at hr;cases hr;trivial
   .simp at h
   .cases f
  .cases hr
 case h_24=>cases hr
inductive Dir where
 |s
 |m
 |w (v:AVal)
 |k (f:Array Oper->Oper->U8->Eff)
def QG(o:Oper):List Nat:=o.op.operands.toList.filterMap λ|.tmp t=>some t|_=>none
def Wu(e:U8)(o:Oper):List Nat:=o.op.operands.toList.flatMap λx=>(Y5 e x).refs
def Qt(ops:Array Oper)(o:Oper):List Nat:=
 match o.guard with
 |some (j,_)=>((ops[j]?).bind (·.dst)).toList
 |none=>[]
def QW(ops:Array Oper)(e:U8)(o:Oper):Option Bool:=
 match o.guard with
 |none=>some true
 |some (j,want)=>match (ops[j]?).bind (·.dst)with
  |some d=>match e d with
   |.v (.c (.d (.bool b)))=>some (b==want)
   |.t []=>some false
   |_=>none
  |none=>none
def SR.l(r:SR)(d:Option Tmp):List (Nat×Option Obj):=
 (match r.new,d with|some o,some d=>[(d,some o)]|_,_=>[])++((match r.upd with|some (k,o)=>[(k,some o)]|none=>[])++r.del.map λi=>(i,none))
def SR.nw(r:SR)(d:Option Tmp):List Nat:=match r.new,d with|some _,some d=>[d]|_,_=>[]
def Hu(ops:Array Oper)(o:Oper)(e:U8)(r:SR)(v:AVal):Eff:= {rd:=QG o++Qt ops o,ids:=Wu e o,v:=v,l:=r.l o.dst,news:=r.nw o.dst}
def HG(o:Oper):Bool:=match o.op with
 |.move _|.assign _|.pick _ _ _|.extract _ _|.field _ _ _=>true
 |_=>false
def Gd(ops:Array Oper)(o:Oper)(e:U8)(r:SR)(v:AVal):Eff:= {rd:=QG o++Qt ops o,ids:=if HG o then[]else Wu e o,v:=v,l:=r.l o.dst,news:=r.nw o.dst}
def Fu(ops:Array Oper)(o:Oper):Eff:= {rd:=Qt ops o,ids:=[],v:=.t [],l:=[],news:=[]}
def WC(L:Lay)(ops:Array Oper)(o:Oper)(d:Dir)(e:U8)(s:J0):Eff:=
 match QW ops e o,d with
 |_,.k f=>f ops o e
 |some true,.s=>match Zi L false e s o with|some r=>Gd ops o e r r.v|none=>default
 |some true,.m=>match Zi L true e s o with|some r=>Gd ops o e r r.v|none=>default
 |some true,.w v=>match Zi L false e s o with|some r=>Gd ops o e r v|none=>default
 |_,_=>Fu ops o
def Y4(x y:AVal):Prop:=(∀w X η C v,ARep w X η C v x->ARep w X η C v y)/\∀i∈y.refs,i∈x.refs
def HW(b:Bool)(c rest:Prop):Prop:=match b with|true=>c/\rest|false=>rest
def gG(P:Program)(C:Ctx)(nt:Nat)(L:Lay)(ops:Array Oper)(o:Oper)(d:Dir)(e:U8)(s:J0)(rest:Prop):Prop:=
 match QW ops e o,d with
 |_,.k f=>Wo P C nt ops o (f ops o e) e s/\rest
 |some true,.s=>match Zi L false e s o with|some r=>HW (KU e o) r.cond rest|none=>False
 |some true,.m=>match Zi L true e s o with|some r=>HW (KU e o) r.cond rest|none=>False
 |some true,.w v=>match Zi L false e s o with|some r=>HW (KU e o) r.cond (Y4 r.v v/\rest)|none=>False
 |some false,.s=>rest
 |_,_=>False
def QJ(nt:Nat)(o:Oper):Bool:=
 (match o.dst with|some d=>decide (d<nt)|none=>true)&&(match o.op with|.store _ _ _=>o.dst.isNone|_=>true)
section
variable (P:Program) (C:Ctx) (nt:Nat) (L:Lay) (ops:Array Oper)
def Vj:List Oper->List Dir->U8->J0->List Eff
 |o::os,d::ds,e,s=>let f:=WC L ops o d e s;f::Vj os ds (Zs o.dst f.v e) (Zw f.l s)
 |_,_,_,_=>[]
def JN:List Oper->List Dir->U8->J0->Prop
 |o::os,d::ds,e,s=>gG P C nt L ops o d e s (JN os ds (Zs o.dst (WC L ops o d e s).v e) (Zw (WC L ops o d e s).l s))
 |[],[],_,_=>True
 |_,_,_,_=>False
end
theorem LR(r:SR)(d:Option Tmp)(s:J0):Zw (r.l d) s=r.sto d s:=by
 have c:∀(l:List Nat) (i:Nat),(l.map λi=>(i,(none:Option Obj))).lookup i=if l.contains i then some none else none:=by
  intro l i
  induction l with
  |nil=>rfl
  |cons x l ih=>
   simp only[Qg4,Qg7,List.contains_cons]
   by_cases hx:i=x
   .subst hx;simp
   .have:(i==x)=false:=by simpa using hx
    simp only[this,Qj7];exact ih
 funext i
 unfold Zw SR.sto SR.l;rw[Qs6,Qs6,c]
 cases hn:r.new with
 |none=>
  cases hu:r.upd with
  |none=>by_cases hc:i∈r.del<;>simp[hc]
  |some ko=>
   obtain⟨k,o⟩:=ko
   by_cases hk:i=k
   .subst hk;simp
   .have:(i==k)=false:=by simpa using hk
    by_cases hc:i∈r.del<;>simp[Qg7,this,hk,hc]
 |some o=>
  cases d with
  |none=>
   cases hu:r.upd with
   |none=>by_cases hc:i∈r.del<;>simp[hc]
   |some ko=>
    obtain⟨k,o⟩:=ko
    by_cases hk:i=k
    .subst hk;simp
    .have:(i==k)=false:=by simpa using hk
     by_cases hc:i∈r.del<;>simp[Qg7,this,hk,hc]
  |some d=>
   by_cases hd:i=d
   .subst hd;simp
   .have b:(i==d)=false:=by simpa using hd
    cases hu:r.upd with
    |none=>by_cases hc:i∈r.del<;>simp[Qg7,b,hd,hc]
    |some ko=>
     obtain⟨k,o⟩:=ko
     by_cases hk:i=k
     .subst hk;simp[Qg7,b,hd]
     .have:(i==k)=false:=by simpa using hk
      by_cases hc:i∈r.del<;>simp[Qg7,b,hd,this,hk,hc]
theorem LS(r:SR)(d:Option Tmp)(R:Nat->Prop):∀i,r.rng d R i->R i\/i∈r.nw d:=by
 intro i b;rcases b with b|⟨c,g⟩
 .exact .inl b
 .right
  obtain⟨o,f⟩:=Qa9.1 c;simp[SR.nw,f,g]
section
variable {P:Program} {C:Ctx} {nt:Nat} {L:Lay} {ops:Array Oper}
theorem Q4t{X:Nat->Prop}{C:Ctx}(h:ARep w X η C v (.t [])):v=.tuple #[]:=by
 cases h with|t us _ h _=>exact congrArg Value.tuple (Array.size_eq_zero_iff.1 h)
theorem Ur{R:Nat->Prop}{e0:U8}(h:Conc C nt R η e0 s a w)(hg:∀ t ∈ Qt ops o,e0 t=e t){b:Bool}(hb:QW ops e o=some b):
  Region.wanted o (yielded ops a.tmps)=b:=by
 unfold QW at hb;unfold Region.wanted
 split at hb
 .rename_i c;rw[c];cases hb;rfl
 .rename_i j f c
  rw[c];split at hb
  .rename_i d p
   split at hb
   .rename_i u i
    cases hb
    have r:e0 d=e d:=hg d (by simp[Qt,c,p]);have m:=h.ev d
    rw[r,i]at m;have ev:=FG m
    have k:d<a.tmps.size:=by
     rcases Qc8 d a.tmps.size with g|g
     .exact g
     .simp [g,undef]at ev
    have n:a.tmps[d]?=some (.bool u):=by
     rw[Qe7 k];simpa[k]using ev
    have q:yielded ops a.tmps j=some u:=by
     unfold yielded;rw[p];simp only[Option.bind_some,n]
    simp only[q]
    cases u<;>cases f<;>rfl
   .rename_i i
    cases hb
    have r:e0 d=e d:=hg d (by simp[Qt,c,p]);have m:=h.ev d
    rw[r,i]at m;have ev:=Q4t m
    have q:yielded ops a.tmps j=none:=by
     unfold yielded;rw[p];simp only[Option.bind_some]
     rcases Qc8 d a.tmps.size with g|g
     .rw [Qe7 g]
      have v : a.tmps[d]=.tuple #[]:=by simpa[g,Array.getD]using ev
      rw[v]
     .rw [Array.getElem?_eq_none g]
    simp only[q]
    cases f<;>rfl
   .cases hb
  .cases hb
theorem Z4O{e0:U8}{s0:J0}(m:Bool)(o:Oper)(he:∀x∈o.op.operands.toList,Y5 e0 x=Y5 e x)(ha:HG o=true):Zi L m e0 s0 o=Zi L m e s o:=by
 unfold HG at ha;unfold Zi
 cases ho:o.op<;>simp only[ho,Op.operands]at he ha<;>first|(cases ha;done)|skip
 case move x=>simp only[he x (by simp)]
 case assign x=>simp only[he x (by simp)]
 case pick c a b=>simp only[he c (by simp),he a (by simp),he b (by simp)]
 case field t x k=>simp only[he x (by simp)]
 case extract x k=>simp only[he x (by simp)]
theorem LQ(hL:Qi P L)(hdo:QJ nt o=true)(hr:Zi L m e s o=some r)(hc:r.cond)(hg:QW ops e o=some true){v:AVal}(hv:Y4 r.v v):
  Wo P C nt ops o (Gd ops o e r v) e s:=by
 intro R η e0 s0 a w u p F j K Q S;have k:∀x∈o.op.operands.toList,Y5 e0 x=Y5 e x:=by
  intro x k
  cases x with
  |tmp t=>exact u t (Qb2.2 (.inl (Qp2.2 ⟨_,k,rfl⟩)))
  |const v=>rfl
  |global g=>rfl
  |func f=>rfl
 have I:Zi L m e0 s0 o=some r:=by
  rcases Bool.eq_false_or_eq_true (HG o)with G|G
  .rw [Z4O m o k G];exact hr
  .have H:∀ x ∈ o.op.operands.toList,∀ i ∈ (Y5 e x).refs,s0 i=s i:=fun x k i h=>p i (by
    show i∈if HG o=true then[]else Wu e o;rw[G];exact Qc1.2 ⟨x,k,h⟩)
   rw[Q3u m o k H];exact hr
 have B:∀x,o.dst=some x->x<nt:=by
  intro x k;simp only[QJ,k,Qa4,Qb7]at hdo
  exact hdo.1
 have D:∀t x y,o.op=.store t x y->o.dst=none:=by
  intro t x y A;simp only[QJ,A,Qa4]at hdo
  simpa using hdo.2
 have O:=Ur (e:=e) j (λt T=>u t (Qb2.2 (.inr T))) hg;rw[Qa2 O]
 have z:=Q3t hL j m o B I hc (λd n J=>F d (by
  obtain⟨U,E⟩:=Qa9.1 J;simp[Gd,SR.nw,E,n])) D
 refine z.wp λη' N w' M=>S η' N w' ?_
 have b:=M.wider (LS r o.dst R);have q:Zw (Gd ops o e r v).l s0=r.sto o.dst s0:=LR r o.dst s0
 rw[q];have J:(Gd ops o e r v).news=r.nw o.dst:=rfl
 rw[J];refine⟨b.ok,b.df,b.sz,λt=>?_,λt i h=>?_,b.st,b.sr,b.ds,b.ow,b.fr,b.pn⟩
 .have c:=b.ev t
  unfold Zs;unfold SR.env at c
  cases n:o.dst with
  |none=>rw[n]at c;exact c
  |some d=>
   rw[n]at c;simp only at c⊢
   by_cases htd:t=d
   .rw [Qa2 htd]at c⊢;exact hv.1 _ _ _ _ _ c
   .rw [Qa1 htd]at c⊢;exact c
 .have c:=b.er t
  unfold Zs at h;unfold SR.env at c
  cases n:o.dst with
  |none=>rw[n]at c h;exact c i h
  |some d=>
   rw[n]at c h;simp only at c h
   by_cases htd:t=d
   .rw [Qa2 htd]at c h;exact c i (hv.2 i h)
   .rw [Qa1 htd]at c h;exact c i h
theorem Y4.refl(x:AVal):Y4 x x:=⟨λ_ _ _ _ _ h=>h,λ_ h=>h⟩
theorem Q5k(hdo:QJ nt o=true)(hg:QW ops e o=some false):Wo P C nt ops o (Fu ops o) e s:=by
 intro R η e0 s0 a w d f h b K Q u;have k:=Ur (e:=e) b (λt n=>d t n) hg
 rw[Qa1 (by rw[k];simp)];refine u η _ w ?_
 have c:∀x,o.dst=some x->x<nt:=by
  intro x m;simp only[QJ,m,Qa4,Qb7]at hdo
  exact hdo.1
 have:=b.val o.dst c (.t []) undef λ_=>⟨.t #[] [] rfl (λj p=>absurd p (Qd7 j)),by simp[AVal.refs]⟩
 have r:Zw (Fu ops o).l s0=s0:=by funext i;rfl
 rw[r];have g:Zs o.dst (Fu ops o).v e0=SR.env {v:=.t []} o.dst e0:=rfl
 rw[g];exact this.wider λi q=>.inl q
theorem Z4K(hL:Qi P L):∀(os:List Oper) (ds:List Dir) (e:U8) (s:J0),(os.all (QJ nt))=true->JN P C nt L ops os ds e s->HK P C nt ops os (Vj L ops os ds e s) e s:=by
 intro os
 induction os with
 |nil=>
  intro ds e s _ h
  cases ds with
  |nil=>trivial
  |cons d ds=>exact h.elim
 |cons o os ih=>
  intro ds e s j h
  cases ds with
  |nil=>exact h.elim
  |cons d ds=>
   simp only[Qs9,Qa4]at j;simp only[JN]at h
   simp only[Vj,HK];have p:Wo P C nt ops o (WC L ops o d e s) e s/\JN P C nt L ops os ds (Zs o.dst (WC L ops o d e s).v e) (Zw (WC L ops o d e s).l s):=by
    generalize hrest:JN P C nt L ops os ds (Zs o.dst (WC L ops o d e s).v e) (Zw (WC L ops o d e s).l s)=f at h;have i:∀{b:Bool} {c f:Prop},HW b c f->f:=by
     intro b c f q;cases b<;>first|exact q.2|exact q
    have g:∀{m:Bool} {r:SR} {f:Prop},Zi L m e s o=some r->HW (KU e o) r.cond f->r.cond:=by
     intro m r f n q
     cases hb:KU e o with
     |true=>rw[hb]at q;exact q.1
     |false=>exact Z2x hb n
    unfold gG at h;unfold WC
    split at h
    .exact ⟨by split<;>first|exact h.1|contradiction|(rename_i u t;cases t;exact h.1),h.2⟩
    .rename_i k
     split at h
     .rename_i r n
      simp only[k];exact⟨LQ hL j.1 n (g n h) k (Y4.refl _),i h⟩
     .exact h.elim
    .rename_i k
     split at h
     .rename_i r n
      simp only[k];exact⟨LQ hL j.1 n (g n h) k (Y4.refl _),i h⟩
     .exact h.elim
    .rename_i v k
     split at h
     .rename_i r n
      simp only[k];exact⟨LQ hL j.1 n (g n h) k (i h).1,(i h).2⟩
     .exact h.elim
    .rename_i k
     simp only[k];exact⟨Q5k j.1 k,h⟩
    .exact h.elim
   exact⟨p.1,ih ds _ _ j.2 p.2⟩
end
end
section
def lk(E:List (Nat×AVal)):U8:=λt=>(E.lookup t).getD .any
def ls(S:List (Nat×Obj)):J0:=λi=>S.lookup i
def GY(E:List (Nat×AVal))(S:List (Nat×Obj)):List Nat:=E.flatMap (λp=>p.2.refs)++S.flatMap λp=>p.1::p.2.refs
def J5(o o' : Obj):Prop:=(∀w X η C v,ORep w X η C v o->ORep w X η C v o')/\o'.ro=o.ro/\∀i∈o'.refs,i∈o.refs
theorem J5.refl(o:Obj):J5 o o:=⟨λ_ _ _ _ _ h=>h,rfl,λ_ h=>h⟩
theorem Y4.any(x:AVal):Y4 x .any:=⟨λ_ _ _ _ v _=>.any v,λ_ h=>by cases h⟩
theorem Y4.of_eq{x y:AVal}(h:x=y):Y4 x y:=h ▸ Y4.refl x
def CV.ren(ρ:Nat->Nat):CV->CV
  |.own i=>.own (ρ i)
  |.ptr i o=>.ptr (ρ i) o
  |.pte i es ix o=>.pte (ρ i) es ix o
  |.sub i es lo n=>.sub (ρ i) es lo n
  |.clo f ids=>.clo f (ids.map ρ)
  |.ap i=>.ap (ρ i)
  |.cp i j=>.cp (ρ i) j
  |x=>x
def TV.ren(ρ:Nat->Nat):TV->TV
  |.c x=>.c (x.ren ρ)
  |.g xs=>.g (xs.map (CV.ren ρ))
def AVal.ren(ρ:Nat->Nat):AVal->AVal
  |.any=>.any
  |.v x=>.v (x.ren ρ)
  |.t xs=>.t (xs.map (TV.ren ρ))
def Obj.ren(ρ:Nat->Nat):Obj->Obj
  |.box ro cs=>.box ro (cs.map (CV.ren ρ))
  |.exr refs p=>.exr (refs.map ρ) p
  |o=>o
section
variable {w:World} {X:Nat->Prop} {η:Nat->Value} {C:Ctx} {ρ:Nat->Nat}
theorem CRep.unren{x:CV}(h:CRep w X η C v (x.ren ρ)):CRep w X (fun i=>η (ρ i)) C v x:=by
  cases x with
  |d x=>cases h with|d _ _ h=>exact .d _ _ h
  |fl n f=>cases h with|fl _ _ _ h=>exact .fl _ _ _ h
  |own i=>cases h with|own _ _ h h1=>exact .own _ i h h1
  |ptr i o=>cases h with|ptr _ _ _ h=>exact .ptr _ i o h
  |pte i es ix o=>cases h with|pte _ _ _ _ _ _ _ h=>exact .pte _ _ _ i es ix o h
  | sub i es lo n=>cases h with
    |sub b N cap _ _ _ _ h h1 h2=>exact .sub b N cap i es lo n h h1 h2
    |subN ad ad' _ _ _ h=>exact .subN ad ad' _ i es h
  |elm cs=>cases h with|elm _ _ _ _ _ _ h1 h2 h3 h4=>exact .elm _ _ _ _ _ _ h1 h2 h3 h4
  |clo f ids=>cases h with|clo _ _ _ h=>exact .clo f ids _ (by rw[h,Qn3];rfl)
  |sem p=>cases h with|sem _ _ h h1=>exact .sem _ _ h h1
  |ap i=>cases h with|ap _ _ h h1=>exact .ap _ i h h1
  |bnd f cs=>cases h with|bnd _ _ _ h1 h2=>exact .bnd _ _ _ h1 h2
  |cp i j=>cases h with|cp _ _ _ _ h h1 h2=>exact .cp _ i j _ h h1 h2
theorem Qf.unren(h:Qf w X η C vs (cs.map (CV.ren ρ))):Qf w X (fun i=>η (ρ i)) C vs cs:=by
  refine⟨by simpa using h.1,λj b=>CRep.unren (ρ:=ρ) ?_⟩;have:=h.2 j (by simpa using b)
  grind
theorem TRep.unren{x:TV}(h:TRep w X η C v (x.ren ρ)):TRep w X (fun i=>η (ρ i)) C v x:=by
  cases x with
  |c x=>cases h with|c _ _ h=>exact .c _ _ h.unren
  |g xs=>cases h with|g _ _ h=>exact .g _ _ h.unren
theorem ARep.unren{x:AVal}(h:ARep w X η C v (x.ren ρ)):ARep w X (fun i=>η (ρ i)) C v x:=by
  cases x with
  |any=>exact .any v
  |v x=>cases h with|v _ _ h=>exact .v _ _ h.unren
  | t xs=>
    cases h with
    | t us _ h1 h2=>
      refine .t us xs (by simpa using h1) λj b=>TRep.unren (ρ:=ρ) ?_
      grind
theorem ORep.unren{o:Obj}(h:ORep w X η C v (o.ren ρ)):ORep w X (fun i=>η (ρ i)) C v o:=by
  cases o with
  |box ro cs=>cases h with|box b _ c e _ h1 h2=>exact .box b ro c e cs h1 h2.unren
  | arr es n f=>
    cases h with
    |nil ad _ _=>exact .nil ad _ _
    |arr b _ cap _ c e _ h1 h2 h3 h4 h5 h6 h7=>exact .arr b _ cap _ c e _ h1 h2 h3 h4 h5 h6 h7
  |ext p=>cases h with|ext _ _ h1 h2 h3=>exact .ext _ _ h1 h2 h3
  | exr refs p=>
    cases h with|exr _ _ _ h1 h2 h3=>
    rw[Qn3]at h1 h2;exact .exr _ refs p h1 h2 h3
theorem FP(o:Obj):(o.ren ρ).ro=o.ro:=by cases o<;>rfl
theorem Conc.conv{R R' : Nat->Prop}{e': U8}{s': J0}(h:Conc C nt R η e s a w)(ρ:Nat->Nat)(he:∀ t,Y4 (e t) ((e' t).ren ρ))(hs:∀ i o',s' i=some o' -> ∃ o,s (ρ i)=some o/\J5 o (o'.ren ρ))(hinj:∀ i j,s' i≠none->s' j≠none->ρ i=ρ j->i=j)(hR:∀ t i,i ∈ (e' t).refs->R' i)(hR2:∀ i o',s' i=some o' -> R' i/\∀ j ∈ o'.refs,R' j)(hpin:∀ i,C.pin i≠none->ρ i=i/\R' i):
    Conc C nt R' (λi=>η (ρ i)) e' s' a w:=by
  have u:QQ w w (XS C s η) (XS C s' fun i=>η (ρ i)):=by
    intro b x B;refine⟨rfl,λn=>B ?_⟩
    rcases n with G|⟨i,o',c,p⟩
    . exact .inl G
    . obtain ⟨o,f,_⟩:=hs i o' c
      exact .inr ⟨ρ i,o,f,p⟩
  refine⟨h.ok,h.df,h.sz,λt=>?_,hR,λi o' c=>?_,hR2,λi j b c y k q=>?_,λi o' b c x=>?_,h.fr,λi v c=>?_⟩
  . exact ARep.unren (((he t).1 _ _ _ _ _ (h.ev t)).mono u (λ_ _=>rfl))
  . obtain ⟨o,f,d⟩:=hs i o' c
    exact ORep.unren ((d.1 _ _ _ _ _ (h.st _ o f)).mono u (λ_ _=>rfl) (λ_ _=>rfl))
  . obtain ⟨D,g⟩:=Option.ne_none_iff_exists'.1 c
    obtain⟨H,m⟩:=Qa9.1 y;obtain⟨z,F,_⟩:=hs i D g
    obtain⟨E,A,_⟩:=hs j H m;exact hinj i j c y (h.ds _ _ b (by rw[F];simp) (by rw[A];simp) k q)
  . obtain ⟨o,f,d⟩:=hs i o' c
    have:=h.ow _ o b f x
    have r:o'.ro=o.ro:=by rw[<-d.2.1,FP]
    rw[r];exact this
  . have:=hpin i (by rw [c];simp)
    exact⟨by show η (ρ i)=v;rw[this.1];exact(h.pn i v c).1,this.2⟩
end
def J3(l:List (Nat×Nat))(i:Nat):Nat:=(l.lookup i).getD i
theorem Xt{t:Nat}:lk E t=.any\/(t,lk E t) ∈ E:=by
  unfold lk
  cases h:E.lookup t with
  |none=>exact .inl rfl
  | some x=>
    right
    obtain⟨c,d,b,_⟩:=Qi5.1 h;rw[b];simp
theorem Qd{i:Nat}{o:Obj}(h:ls S i=some o):(i,o) ∈ S:=by
  obtain⟨c,d,b,_⟩:=Qi5.1 h;rw[b];simp
def ZV:List Nat->Bool
  |[]=>true
  |x::r=> !r.contains x&&ZV r
theorem VW{l:List Nat}(h:ZV l=true):l.Nodup:=by
  induction l with
  |nil=>exact List.nodup_nil
  |cons x r ih=>simp[ZV]at h;exact Qr2.2 ⟨h.1,ih h.2⟩
theorem vk{ρ:Nat->Nat}(h:(S.map fun p=>ρ p.1).Nodup){i:Nat}(hi:ls S i≠none)(hj:ls S j≠none)(hij:ρ i=ρ j):i=j:=by
  obtain⟨o,b⟩:=Qa9.1 hi;obtain⟨q,c⟩:=Qa9.1 hj
  have g:=Qd b;have k:=Qd c
  rcases Nat.decEq i j with f|d
  . exfalso
    obtain⟨n,m,rfl⟩:=Ql3 g
    grind
  . exact d
section
variable {P:Program} {C:Ctx} {nt:Nat}
def Kn(C:Ctx)(nt:Nat)(E:List (Nat×AVal))(S:List (Nat×Obj))(K:Act->World->Prop):Prop:=
  ∀R η a w,Conc C nt R η (lk E) (ls S) a w->K a w
def AW(P:Program)(C:Ctx)(nt:Nat)(c:Code)(E:List (Nat×AVal))(S:List (Nat×Obj))(Q:Exit->Act->World->Prop):Prop:=Kn C nt E S (λa w=>c.wp P Q a w)
def pinsB(C:Ctx)(ρ:Nat->Nat):Prop:=∀i,C.pin i≠none->ρ i=i
theorem Conc.lit{R:Nat->Prop}(h:Conc C nt R η e s a w){ρ:Nat->Nat}(hpin:pinsB C ρ)(hE:∀ p ∈ E,Y4 (e p.1) (p.2.ren ρ))(hS:∀ p ∈ S,∃ o,s (ρ p.1)=some o/\J5 o (p.2.ren ρ))(hinj:(S.map fun p=>ρ p.1).Nodup):
    Conc C nt (λi=>i∈GY E S\/C.pin i≠none) (λi=>η (ρ i)) (lk E) (ls S) a w:=by
  refine h.conv ρ (λt=>?_) (λi g b=>hS _ (Qd b)) (λi j b f d=>vk hinj b f d) (λt i b=>.inl ?_) (λi g b=>⟨.inl ?_,λj f=>.inl ?_⟩) (λi b=>⟨hpin i b,.inr b⟩)
  . rcases Xt (E:=E) (t:=t) with c|c
    . rw[c];exact Y4.any _
    . exact hE _ c
  . rcases Xt (E:=E) (t:=t) with c|c
    . rw[c]at b;cases b
    . exact Qb2.2 (.inl (Qc1.2 ⟨_,c,b⟩))
  . exact Qb2.2 (.inr (Qc1.2 ⟨_,Qd b,Qg5⟩))
  . exact Qb2.2 (.inr (Qc1.2 ⟨_,Qd b,Qf9 _ f⟩))
theorem Conc.narrow{R:Nat->Prop}(h:Conc C nt R η (lk E) (ls S) a w):
    Conc C nt (λi=>i∈GY E S\/C.pin i≠none) η (lk E) (ls S) a w:=by
  refine⟨h.ok,h.df,h.sz,h.ev,λt i b=>.inl ?_,h.st,λi o b=>⟨.inl ?_,λj d=>.inl ?_⟩,h.ds,h.ow,h.fr,λi v b=>⟨(h.pn i v b).1,.inr (by rw[b];simp)⟩⟩
  . rcases Xt (E:=E) (t:=t) with c|c
    . rw[c]at b;cases b
    . exact Qb2.2 (.inl (Qc1.2 ⟨_,c,b⟩))
  . exact Qb2.2 (.inr (Qc1.2 ⟨_,Qd b,Qg5⟩))
  . exact Qb2.2 (.inr (Qc1.2 ⟨_,Qd b,Qf9 _ d⟩))
theorem Z5A{K:Act->World->Prop}(ρ:Nat->Nat)(hpin:pinsB C ρ)(hE:∀p∈E',Y4 (lk E p.1) (p.2.ren ρ))(hS:∀p∈S',∃o,ls S (ρ p.1)=some o/\J5 o (p.2.ren ρ))(hinj:(S'.map λp=>ρ p.1).Nodup)(h:Kn C nt E' S' K):Kn C nt E S K:=λR η a w b=>h _ _ a w (b.lit hpin hE hS hinj)
theorem JG{α β:Type}{l:List α}{f g:α->β}(h:l.map f=l.map g):∀ x ∈ l,f x=g x:=by
  induction l with
  |nil=>intro x b;cases b
  | cons y r ih=>
    grind
theorem Z5t{K:Act->World->Prop}(ρ:List (Nat×Nat))(hpin:pinsB C (J3 ρ))(hE:E'.map (fun p=>lk E p.1)=E'.map (fun p=>p.2.ren (J3 ρ)))(hS:S'.map (fun p=>ls S (J3 ρ p.1))=S'.map (fun p=>some (p.2.ren (J3 ρ))))(hinj:ZV (S'.map fun p=>J3 ρ p.1)=true)(h:Kn C nt E' S' K):Kn C nt E S K:=
  Z5A (J3 ρ) hpin (λp b=>Y4.of_eq (JG hE p b)) (λp b=>⟨_,JG hS p b,J5.refl _⟩) (VW hinj) h
theorem ky(x:CV):x.ren (λi=>i)=x:=by cases x<;>simp[CV.ren]
theorem Q3z(x:TV):x.ren (fun i=>i)=x:=by
  cases x with
  |c x=>simp[TV.ren,ky]
  | g xs=>
    simp only[TV.ren];congr 1;conv=>rhs;rw[<-Qx9 xs]
    exact Qh6 λy _=>ky y
theorem HX(x:AVal):x.ren (fun i=>i)=x:=by
  cases x with
  |any=>rfl
  |v x=>simp[AVal.ren,Q3z]
  | t xs=>
    simp only[AVal.ren];congr 1;conv=>rhs;rw[<-Qx9 xs]
    exact Qh6 λy _=>Q3z y
theorem HO(o:Obj):o.ren (fun i=>i)=o:=by
  cases o with
  | box ro cs=>
    simp only[Obj.ren];congr 1;conv=>rhs;rw[<-Qx9 cs]
    exact Qh6 λy _=>ky y
  |arr es n f=>rfl
  |ext p=>rfl
  |exr refs p=>simp[Obj.ren]
theorem Z5F{K:Act->World->Prop}{t:Nat}{x y:AVal}(hle:Y4 x y)(h:Kn C nt ((t,y)::E) S K):Kn C nt ((t,x)::E) S K:=by
  intro R η a w d;have c:∀ u,Y4 (lk ((t,x)::E) u) (lk ((t,y)::E) u):=by
    intro u;unfold lk
    rw[Qg7,Qg7]
    cases hut:u==t with
    |true=>exact hle
    |false=>exact Y4.refl _
  refine h R (λi=>η i) a w (d.conv (λi=>i) (λu=>by rw[HX];exact c u) (λi x b=>⟨x,b,by rw[HO];exact J5.refl _⟩) (λi j b k f=>f) (λu i b=>d.er u i ((c u).2 i b)) d.sr (λi b=>?_));obtain⟨v,g⟩:=Qa9.1 b
  exact⟨rfl,(d.pn i v g).2⟩
structure Fr (P:Program) (L:Lay) (C:Ctx) (pins:List Nat):Prop where
  mixed:P.follows .mixedOrders=true
  lay:Qi P L
  pin:∀i,C.pin i≠none->i∈pins
def FB(L:Lay)(pins:List Nat)(nt:Nat)(ops:Array Oper)(draw:Bool)(ds:List Dir)(E:List (Nat×AVal))(S:List (Nat×Obj))(ρ:List (Nat×Nat))(S' : List (Nat×Obj)):Bool:=
  let F:=Vj L ops ops.toList ds (lk E) (ls S)
  ops.toList.all (QJ nt)&&ZV (Yx F)&&(Yx F).all (λn=> !(GY E S).contains n && !pins.contains n)&&(!draw||Q2N ops.toList F)&&ZV (S'.map λp=>J3 ρ p.1)&&pins.all λi=>J3 ρ i==i
theorem Z6c{L:Lay}(Fm:Fr P L C pins){ops:Array Oper}{draw:Bool}{Q:Exit->Act->World->Prop}(ds:List Dir)(ρ:List (Nat×Nat))(hchk:FB L pins nt ops draw ds E S ρ S'=true)(hC:JN P C nt L ops ops.toList ds (lk E) (ls S))(he0:E'.map (fun p=>UL ops.toList (Vj L ops ops.toList ds (lk E) (ls S)) (lk E) p.1)=E'.map (fun p=>p.2.ren (J3 ρ)))(hs0:S'.map (fun p=>UK (Vj L ops ops.toList ds (lk E) (ls S)) (ls S) (J3 ρ p.1))=S'.map (fun p=>some (p.2.ren (J3 ρ))))(k:Kn C nt E' S' (Q .normal)):AW P C nt (.region id ops draw) E S Q:=by
  simp only[FB,Qa4]at hchk;obtain⟨⟨⟨⟨⟨K,c2⟩,H⟩,Y⟩,I⟩,N⟩:=hchk
  have b:=Z4K (P:=P) (C:=C) (nt:=nt) (L:=L) (ops:=ops) Fm.lay ops.toList ds (lk E) (ls S) K hC;generalize hF:Vj L ops ops.toList ds (lk E) (ls S)=F at *
  have m:pinsB C (J3 ρ):=fun i g=>by
    have:=Qb8.1 N i (Fm.pin i g)
    grind
  have h:=VW c2;intro R η a w U
  have d:=U.narrow;have q:∀ n ∈ Yx F,¬ (n ∈ GY E S\/C.pin n≠none):=by
    intro n Z t;have:=Qb8.1 H n Z
    simp at this
    rcases t with t|t
    . grind
    . exact this.2 (Fm.pin n t)
  have f:∀ η' c w',Conc C nt (fun i=>(i ∈ GY E S\/C.pin i≠none)\/i ∈ Yx F) η' (UL ops.toList F (lk E)) (UK F (ls S)) c w' -> Q .normal c w':=fun η' c w' r =>
    k _ _ c w' (r.lit m (λp A=>Y4.of_eq (JG he0 p A)) (λp A=>⟨_,JG hs0 p A,J5.refl _⟩) (VW I))
  cases draw with
  |false=>exact wp_region_list (Q7S ops.toList F _ η _ _ a w b h q d f)
  | true=>
    have v:Q2N ops.toList F=true:=by simpa using Y
    obtain⟨M,O,D⟩:=Z4o ops.toList F ops.toList F [] [] v rfl rfl rfl (λk i G=>by simp at G);have y:=Q7T (P:=P) (C:=C) (nt:=nt) (ops:=ops) ops.toList F ops.toList F 0 (lk E) (ls S) (λj=>by rw[Qd2]) (λj _=>by rw[Qd2]) D b
    obtain⟨B,u,x⟩:=y;simp only[Qd2,List.range_zero,List.reverse_nil]at B u x
    refine wp_region_any Fm.mixed (Z4P (R:=fun i=>i ∈ GY E S\/C.pin i≠none) (e0:=lk E) (s0:=ls S) D (fun j o e=>M j o e (Nat.zero_le _)) (fun i j V oj W J z=>O i j V oj W J z (Nat.zero_le _)) B h q (fun η' c w' r=>f η' c w' ?_)
      ops.size (Array.replicate ops.size false) [] η a _ (by simp) (λi g=>by simp[g]) (by simp) ⟨List.nodup_nil,λl1 k l2 T=>by simp at T⟩ (by simp) ?_)
    . have e2:UL ops.toList F (lk E)=hE ops.toList F (lk E) (List.range ops.size).reverse:=by rw [Array.length_toList] at u;exact u
      have e3:UK F (ls S)=hS F (ls S) (List.range ops.size).reverse:=by rw[Qo5]at x;exact x
      grind
    . exact d.drew.wider λi g=>.inl g
end
end
section
section
variable {P:Program} {C:Ctx} {nt:Nat} {L:Lay} {pins:List Nat} {E:List (Nat×AVal)} {S:List (Nat×Obj)} {Q:Exit->Act->World->Prop}
theorem Q3T{x y:Code}(h:AW P C nt x E S (Exit.then (y.wp P Q) Q)):AW P C nt (.seq x y) E S Q:=λR η a w b=>wp_seq (h R η a w b)
theorem Q3(h:Kn C nt E S (Q .normal)):AW P C nt .skip E S Q:=λR η a w b=>wp_skip (h R η a w b)
theorem Wz(h:Kn C nt E S (Q .ret)):AW P C nt .ret E S Q:=λR η a w b=>wp_ret (h R η a w b)
theorem YW(h:Kn C nt E S (Q (.exit id))):AW P C nt (.exit id) E S Q:=λR η a w b=>wp_exit (h R η a w b)
theorem Z6k{c:Code}(h:AW P C nt c E S (Exit.inBlock id Q)):AW P C nt (.block id c) E S Q:=λR η a w b=>wp_block (h R η a w b)
theorem VJ{t:Nat}{x y:Code}{b:Bool}(hb:lk E t=vb b)(ht:b=true->AW P C nt x E S Q)(hf:b=false->AW P C nt y E S Q):AW P C nt (.cond (.tmp t) x y) E S Q:=by
 intro R η a w c;have d:=c.ev t
 rw[hb]at d;have ev:a.eval (.tmp t)=.bool b:=FG d
 cases b with
 |true=>exact wp_cond_true ev (ht rfl R η a w c)
 |false=>exact Qw8 ev (hf rfl R η a w c)
def Ex{σ:Type}(C:Ctx)(nt:Nat)(I:σ->Prop)(E:σ->List (Nat×AVal))(S:σ->List (Nat×Obj))(a:Act)(w:World):Prop:=∃z,I z/\∃R η,Conc C nt R η (lk (E z)) (ls (S z)) a w
theorem Z5E{σ:Type}{I:σ->Prop}{E' : σ->List (Nat×AVal)}{S' : σ->List (Nat×Obj)}(z:σ)(hz:I z):Kn C nt (E' z) (S' z) (Ex C nt I E' S'):=λR η _ _ b=>⟨z,hz,R,η,b⟩
theorem Z6g{σ:Type}{c:Code}(I:σ->Prop)(μ:σ->Nat)(E' : σ->List (Nat×AVal))(S' : σ->List (Nat×Obj))(round:∀ z,I z->AW P C nt c (E' z) (S' z) (Exit.then (Ex C nt (fun z'=>I z' /\ μ z' < μ z) E' S') Q))(z0:σ)(h0:I z0):
  AW P C nt (.loop c) (E' z0) (S' z0) Q:=by
 classical
 intro R η a w x
 let J:Act->World->Nat->Prop:=λa w n=>∃z,I z/\μ z=n/\∃R η,Conc C nt R η (lk (E' z)) (ls (S' z)) a w
 let m:Act->World->Nat:=λa w=>if h:∃n,J a w n then h.choose else 0
 have d:∀(n:Nat) a w,J a w n->∃k,J a w k/\∀j,J a w j->k<=j:=by
  intro n
  induction n using Nat.strongRecOn with
  |_ n ih=>
   intro a w H;rcases Qn2 (∃j,j<n/\J a w j)with ⟨j,D,b⟩|G
   .exact ih j D a w b
   all_goals grind
 let μ' : Act->World->Nat:=λa w=>if h:∃n,J a w n then(d h.choose a w h.choose_spec).choose else 0
 have q:∀a w,(∃n,J a w n)->J a w (μ' a w)/\∀j,J a w j->μ' a w<=j:=by
  intro a w r
  grind
 refine wp_loop (λa w=>∃n,J a w n) μ' ⟨_,z0,h0,rfl,R,η,x⟩ λa w r=>?_
 obtain⟨⟨z,y,f,F,η',p⟩,_⟩:=q a w r;refine Code.wp_mono (λe v t u=>?_) (round z y F η' a w p)
 cases e with
 |normal=>
  obtain⟨z',⟨o,i⟩,A,B,g⟩:=u;have b:J v t (μ z'):=⟨z',o,rfl,A,B,g⟩
  exact⟨⟨_,b⟩,Nat.lt_of_le_of_lt ((q v t ⟨_,b⟩).2 _ b) (by rw[<-f];exact i)⟩
 |_=>exact u
def RK(L:Lay)(e:U8)(s:J0):ResultVar->Option TV
 |.tmp t=>match e t with
  |.v x=>some x
  |_=>none
 |.cell a t=>match L t with
  |some ti=>match rd s ti.size (e a)with
   |some (cs,_)=>if XE (e a)then none else match WW ti.kind.agg cs with
    |some (.v x)=>some x
    |_=>none
   |none=>none
  |none=>none
def Km(L:Lay)(e:U8)(s:J0):List ResultVar->Option (List TV)
 |[]=>some []
 |r::rs=>match RK L e s r,Km L e s rs with
  |some x,some xs=>some (x::xs)
  |_,_=>none
def VQ(L:Lay)(e:U8)(s:J0)(rs:List ResultVar):Option AVal:=
 match rs,Km L e s rs with
 |[_],some [x]=>some (.v x)
 |[_],_=>none
 |_,some xs=>some (.t xs)
 |_,none=>none
def Rw(tmps:Array Value):ResultVar->Sem Value
 |.tmp t=>pure (tmps.getD t undef)
 |.cell a t=>do loadVar t (<-asAddr (tmps.getD a undef))
theorem Q8x(hL:Qi P L){R:Nat->Prop}{η:Nat->Value}{e:U8}{s:J0}{a:Act}{w:World}(h:Conc C nt R η e s a w){r:ResultVar}{x:TV}(hr:RK L e s r=some x):
  ∃v,(Rw a.tmps r).run P w=.ok v w/\TRep w (XS C s η) η C v x:=by
 cases r with
 |tmp t=>
  simp only[RK]at hr;split at hr
  .rename_i y f
   cases hr
   have:=h.ev t
   rw[f]at this;refine⟨a.tmps.getD t undef,rfl,?_⟩
   generalize a.tmps.getD t undef=u at this
   cases this with
   |v _ _ hv=>exact hv
  .cases hr
 |cell a' t=>
  simp only[RK]at hr;split at hr
  .rename_i o N
   split at hr
   .rename_i U c k
    split at hr
    .cases hr
    .rename_i p
     split at hr
     .rename_i y f
      cases hr
      have J:c:=by
       unfold rd at k;split at k
       .grind
       .grind
       .rename_i M;rw[M]at p;simp[XE]at p
       .cases k
      obtain⟨i,d,z,D⟩:=hL t o N;obtain⟨b,m,A,V,fz,K,T,O,F,B,I⟩:=Q0i h k J (h.ev a')
      have G:o.kind.agg=false->o.size=1:=by
       intro n;rw[n]at f
       simp only[WW]at f
       grind
      have q:=cc (P:=P) D T O G;refine⟨if o.kind.agg then .agg (Zd A m o.size).toArray else A.getD m undef,?_,?_⟩
      .simp only[Rw,Qd8,K,asAddr,Qf3,Qc5,q]
      .unfold WW at f
       split at f
       .rename_i n
        cases f
        simp only[n,Qi8];refine .g _ _ ⟨by simp[Zd,F],λj H=>?_⟩
        rw[F]at H;have:(Zd A m o.size).toArray.getD j undef=A.getD (m+j) undef:=by simp[Zd,H]
        grind
       .rename_i n
        split at f
        .cases f
         simp only[n,Qi1,Qi0];have:=B 0 (by rw[G n];exact Nat.zero_lt_one)
         exact .c _ _ (by simpa using this)
        .cases f
     .cases hr
   .cases hr
  .cases hr
theorem Q8w(hL:Qi P L){R:Nat->Prop}{η:Nat->Value}{e:U8}{s:J0}{a:Act}{w:World}(h:Conc C nt R η e s a w):∀ (rs:List ResultVar) (xs:List TV),Km L e s rs=some xs ->
  ∃vs:List Value,(rs.mapM (Rw a.tmps)).run P w=.ok vs w/\vs.length=xs.length/\∀j,j<xs.length->TRep w (XS C s η) η C (vs.getD j undef) (xs.getD j (.c (.d .any))):=by
 intro rs
 induction rs with
 |nil=>intro xs b;cases b;exact⟨[],by simp,rfl,λj i=>by simp at i⟩
 |cons r rs ih=>
  intro xs b;simp only[Km]at b
  split at b
  .rename_i x g k f
   cases b
   obtain⟨v,n,q⟩:=Q8x hL h k;obtain⟨vs,m,o,p⟩:=ih g f
   refine⟨v::vs,?_,by simp[o],λj i=>?_⟩
   .simp only[List.mapM_cons,Qd8,n,m,Qc5,Qf3]
   all_goals grind
  .cases b
theorem Q8y(hL:Qi P L){R:Nat->Prop}(h:Conc C nt R η e s a w){x:AVal}(hr:VQ L e s fn.results.toList=some x):
  ∃v,(results fn a.tmps).run P w=.ok v w/\ARep w (XS C s η) η C v x:=by
 have i:∀g,Km L e s fn.results.toList=some g->∃b:List Value,(results fn a.tmps).run P w=.ok (if h:b.toArray.size=1 then b.toArray[0]else .tuple b.toArray) w/\b.length=g.length/\∀j,j<g.length->TRep w (XS C s η) η C (b.getD j undef) (g.getD j (.c (.d .any))):=by
  intro g f;obtain⟨b,p,k,o⟩:=Q8w hL h _ _ f
  refine⟨b,?_,k,o⟩;have q:results fn a.tmps=(do let b <-fn.results.mapM (Rw a.tmps);pure (if h:b.size=1 then b[0]else .tuple b)):=by
   unfold results;congr 1
  rw[q];simp only[Qd8,Array.mapM_eq_mapM_toList,Sem.run_map,p,Qc5,Qf3]
 unfold VQ at hr;split at hr
 .rename_i r F A f
  cases hr
  obtain⟨b,p,k,o⟩:=i _ f;refine⟨b.getD 0 undef,?_,.v _ _ (o 0 (by simp))⟩
  rw[p]
  cases b with
  |nil=>simp at k
  |cons v r=>cases r with
   |nil=>rfl
   |cons _ _=>simp at k
 .cases hr
 .skip
  rename_i g f _ u
  cases hr
  obtain⟨b,p,k,o⟩:=i _ f;refine⟨.tuple b.toArray,?_,.t _ _ (by simpa using k) (λj B=>by simpa[Qa0]using o j B)⟩
  rw[p];have n:∀(m:List ResultVar) (g:List TV),Km L e s m=some g->m.length=g.length:=by
   intro m
   induction m with
   |nil=>intro g h;cases h;rfl
   |cons r m ih=>
    intro g h;simp only[Km]at h
    grind
  have D:¬b.toArray.size=1:=by
   intro y;have z:b.length=1:=by simpa using y
   have:=n _ _ f
   rw[<-k,z]at this;obtain⟨r,hr⟩:=List.length_eq_one_iff.1 this
   exact u r hr
  rw[dif_neg D]
 .cases hr
end
end
section
def Qk(S:List (Nat×Obj))(w:World)(X:Nat->Prop)(η:Nat->Value):Ctx where
 w0:=w
 D:=Own (ls S) η
 M:=λb=>∃i o,ls S i=some o/\o.ro=false/\b∈V8 (η i)
 X:=X
 pin:=λi=>if(S.lookup i).isSome then some (η i)else none
structure Behind (C:Ctx) (r:AVal) (S' : List (Nat×Obj)) (v:Value) (η' : Nat->Value) (w' : World):Prop where
 stp:Stp C.M C.w0 w'
 res:ARep w' (XS C (ls S') η') η' C v r
 objs:∀i o,ls S' i=some o->ORep w' (XS C (ls S') η') η' C (η' i) o
 ds:∀i j b,ls S' i≠none->ls S' j≠none->b∈V8 (η' i)->b∈V8 (η' j)->i=j
 ow:∀i o b,ls S' i=some o->b∈V8 (η' i)->(o.ro=true/\C.D b)\/C.M b\/C.w0.heap.size<=b
 pn:∀i v,C.pin i=some v->η' i=v
def G4(P:Program)(f:Nat)(args:List AVal)(S:List (Nat×Obj))(r:AVal)(S' : List (Nat×Obj)):Prop:=
 ∀(w:World) (X:Nat->Prop) (η:Nat->Value) (vs:Array Value),(∀b,X b->b<w.heap.size)->(∀b,Own (ls S) η b->X b) ->
  (∀i o,ls S i=some o->ORep w X η (Qk S w X η) (η i) o)->(∀i j b,ls S i≠none->ls S j≠none->b∈V8 (η i)->b∈V8 (η j)->i=j) ->
  vs.size=args.length->(∀j,j<args.length->ARep w X η (Qk S w X η) (vs.getD j undef) (args.getD j .any)) ->
  Calls P f vs w λe w'=>∃v η',e=.returned v/\Behind (Qk S w X η) r S' v η' w'
def Pd(args:List AVal):List (Nat×AVal):=args.zipIdx.map λp=>(p.2,p.1)
def Ws(P:Program)(fn:Func)(C:Ctx)(r:AVal)(S' : List (Nat×Obj)):Exit->Act->World->Prop:=
 bodyPost P fn λe w'=>∃v η',e=.returned v/\Behind C r S' v η' w'
section
variable {P:Program} {L:Lay}
theorem Dv{X:Nat->Prop}(h:∀b,Own (ls S) η b->X b):XS (Qk S w X η) (ls S) η=X:=by
 funext b
 apply propext;constructor
 .rintro (⟨c,_⟩|c)
  .exact c
  .exact h b c
 .intro c
  rcases Qn2 (Own (ls S) η b)with d|d
  .exact .inr d
  .exact .inl ⟨c,d⟩
theorem Z4M(args:List AVal)(t:Nat):lk (Pd args) t=args.getD t .any:=by
 unfold lk Pd;have b:∀(l:List AVal) (k t:Nat),(((l.zipIdx k).map λp=>(p.2,p.1)).lookup t).getD .any=if t<k then .any else l.getD (t-k) .any:=by
  intro l
  induction l with
  |nil=>intro k t;simp
  |cons x l ih=>
   intro k t;simp only[Qq2,Qg4,Qg7]
   grind
 grind
theorem Z5U(hm:P.follows .mixedOrders=true)(hL:Qi P L){f:Nat}{c:Code}(hf:P.funcs[f]?=some fn)(hb:fn.body=some c){args:List AVal}{r:AVal}(hn0:Nat.ble args.length fn.ntmps=true)(h:∀C,Fr P L C (S.map (·.1))->AW P C fn.ntmps c (Pd args) S (Ws P fn C r S')):G4 P f args S r S':=by
 have G:args.length<=fn.ntmps:=Qw2 hn0;intro w X η p x g n j y k
 have A:(Qk S w X η).Ok:=⟨λb ⟨i,o,h1,_,h2⟩=>⟨i,o,h1,h2⟩,λb hb=>g b hb,x⟩;refine calls_of_wp hf hb (h (Qk S w X η) ⟨hm,hL,λi d=>?_⟩ (λ_=>True) η _ w ⟨A,rfl,?_,λt=>?_,λ_ _ _=>trivial,λi o d=>?_,λ_ _ _=>⟨trivial,λ_ _=>trivial⟩,j,λi o b d m=>?_,Stp.refl _ _,λi v d=>⟨?_,trivial⟩⟩)
 .simp only[Qk]at d
  split at d
  .rename_i B
   obtain⟨o,z⟩:=Ql9.1 B;obtain⟨F,D,q,_⟩:=Qi5.1 z
   rw[q];simp
  .exact absurd rfl d
 .simp;omega
 .rw [Dv g,Z4M]
  by_cases ht:t<args.length
  .have u:(p++Array.replicate (fn.ntmps-p.size) undef).getD t undef=p.getD t undef:=by
    have:t<p.size:=by omega
    simp[this,Qg2,Qe9]
   simp only[u];exact k t ht
  .rw [Qa0,Qh0 (by omega)]
   exact .any _
 .rw [Dv g];exact n i o d
 .cases hro:o.ro with
  |true=>exact .inl ⟨rfl,⟨i,o,d,m⟩⟩
  |false=>exact .inr (.inl ⟨i,o,d,hro,m⟩)
 .simp only[Qk]at d
  split at d
  .cases d;rfl
  .cases d
theorem Q3I(Fm:Fr P L C pins){r:AVal}(hr:VQ L (lk E) (ls S) fn.results.toList=some r)(hS:S'.map (λp=>ls S p.1)=S'.map (λp=>some p.2)):Kn C nt E S (Ws P fn C r S' .ret):=by
 intro R η a w f;obtain⟨v,t,n⟩:=Q8y (P:=P) Fm.lay f hr
 have d:∀i o,ls S' i=some o->ls S i=some o:=λi o c=>JG hS (i,o) (Qd c)
 have m:QQ w w (XS C (ls S) η) (XS C (ls S') η):=by
  intro b z q;refine⟨rfl,λh=>q ?_⟩
  rcases h with u|⟨i,o,c,k⟩
  .exact .inl u
  .exact .inr ⟨i,o,d i o c,k⟩
 have g:∀i,ls S' i≠none->ls S i≠none:=by
  intro i c;obtain⟨o,y⟩:=Qa9.1 c
  grind
 exact⟨f.df,v,t,v,η,rfl,f.fr,n.mono m (λ_ _=>rfl),λi o c=>(f.st i o (d i o c)).mono m (λ_ _=>rfl) (λ_ _=>rfl),
  λi j b c x=>f.ds i j b (g i c) (g j x),λi o b c=>f.ow i o b (d i o c),λi v c=>(f.pn i v c).1⟩
theorem kd(Fm:Fr P L C pins){r:AVal}(hr:VQ L (lk E) (ls S) fn.results.toList=some r)(hS:S'.map (λp=>ls S p.1)=S'.map (λp=>some p.2)):Kn C nt E S (Ws P fn C r S' .normal):=Q3I Fm hr hS
end
end
section
def Mc:Value->CV
 |.int k n=>.d (.int k n)
 |.bool b=>.d (.bool b)
 |.string s=>.d (.str s)
 |.slice none 0 0=>.fl 0 λ_=>[]
 |_=>.d .any
def Q0P:TypeDesc->TK
 |.int k=>.int k
 |.bool=>.bool
 |.string=>.str
 |.slice e=>.slice e
 |.struct fs=>.struct (fs.toList.map λf=>(f.offset,f.type))
 |.array n e=>.array n e
 |_=>.other
def Ty(P:Program)(t:Nat):Option TI:=
 match P.info? t,P.underlying t with
 |some i,some d=>match i.zero with
  |some z=>if z.cells.toList.all Value.oneCell' then some ⟨Q0P d,i.size,i.bytes,z.cells.toList.map Mc⟩else none
  |none=>none
 |_,_=>none
theorem kJ{X:Nat->Prop}(h:v.oneCell'=true):CRep w X η C v (Mc v)/\(Mc v).refs=[]:=by
 unfold Mc;split
 .exact ⟨.d _ _ (.int _ _),rfl⟩
 .exact ⟨.d _ _ (.bool _),rfl⟩
 .exact ⟨.d _ _ (.str _),rfl⟩
 .exact ⟨.fl _ _ _ (.nil _ _ _),rfl⟩
 .exact ⟨.d _ _ (.any _ h),rfl⟩
theorem Z1l(P:Program):Qi P (Ty P):=by
 intro t q h;unfold Ty at h
 split at h
 .rename_i i d p n
  split at h
  .rename_i z m
   split at h
   .rename_i b
    cases h
    rw[Qb8]at b;refine⟨i,d,z,p,n,rfl,rfl,m,λw X η C=>⟨by simp,λj o=>?_⟩,?_,?_⟩
    .have c : j<z.cells.size:=by simpa using o
     have g:z.cells[j]∈z.cells.toList:=by simp
     have:=(kJ (w:=w) (X:=X) (η:=η) (C:=C) (b _ g)).1
     simpa[Qa0,c]using this
    .rw [Qm2]
     intro x k;obtain⟨v,f,rfl⟩:=Qc7.1 k
     exact(kJ (w:=default) (X:=λ_=>False) (η:=λ_=>default) (C:=⟨default,λ_=>False,λ_=>False,λ_=>False,λ_=>none⟩) (b v f)).2
    .cases d<;>simp[Q0P,ZE]
   .cases h
  .cases h
 .cases h
def Jb(T:List (Nat×TI)):Lay:=λt=>T.lookup t
theorem Q5e{P:Program}{T:List (Nat×TI)}(h:T.map (λp=>Ty P p.1)=T.map (λp=>some p.2)):Qi P (Jb T):=by
 intro t b d;obtain⟨f,g,c,_⟩:=Qi5.1 d
 exact Z1l P t b (JG h (t,b) (by rw[c];simp))
section
variable {P:Program} {C:Ctx} {nt:Nat} {L:Lay} {pins:List Nat}
end
end
end
end Go.Ab
