/- Abstract states over the model. -/
import Derived.Test.YtdmkoclpbbcapaaGreatDoorAl
import Derived.Orders
import Derived.Laws.AppendOwn
import Derived.Below
import Derived.MapKept
import Derived.IntWalk
import Derived.Laws.Tables
import Derived.Tactics
import Derived.KernelRfl
set_option linter.unusedVariables false
set_option linter.unusedSimpArgs false
namespace Go.Ab
noncomputable section
variable {w w':World}{v z:Value}{b j d n k off id es el nt:Nat}{a:Act}{c vs:Array Value}{η:Nat->Value}{t:TypeId}{i:TypeInfo}{o:Oper}{x y:Operand}{n':Int}{m:Bool}{del h:List Nat}{ops:List Oper}{fn:Func}
section
inductive DVal where
 |any
 |int (k:IntKind) (n:Int)
 |bool (b:Bool)
 |str (s:ByteArray)
 |lst (n:Nat) (f:Nat->List DVal)
 |mp (n:Nat) (ks:Nat->Int) (vs:Nat->DVal)
inductive CV where
 |d (x:DVal)
 |fl (n:Nat) (f:Nat->List DVal)
 |own (id:Nat)
 |ptr (id off:Nat)
 |pte (id es idx off:Nat)
 |sub (id es lo n:Nat)
 |elm (cs:List DVal)
 |clo (f:Nat) (ids:List Nat)
 |sem (p:World->(Nat->Prop)->(Nat->Prop)->Value->Prop)
 |ap (id:Nat)
 |bnd (f:Nat) (cs:List DVal)
 |cp (id j:Nat)
inductive TV where
 |c (x:CV)
 |g (xs:List CV)
inductive AVal where
 |any
 |v (x:TV)
 |t (xs:List TV)
inductive Obj where
 |box (ro:Bool) (cs:List CV)
 |arr (es n:Nat) (f:Nat->List DVal)
 |ext (p:World->(Nat->Prop)->Value->Prop)
 |exr (refs:List Nat) (p:World->(Nat->Prop)->List Value->Value->Prop)
abbrev U4:=Nat->AVal
abbrev U6:=Nat->Option Obj
structure Ctx where
 w0:World
 D:Nat->Prop
 M:Nat->Prop
 X:Nat->Prop
 pin:Nat->Option Value
inductive DRep (w:World) (X:Nat->Prop):Value->DVal->Prop
 |any (v:Value):v.oneCell'=true->DRep w X v .any
 |int (k:IntKind) (n:Int):DRep w X (.int k n) (.int k n)
 |bool (b:Bool):DRep w X (.bool b) (.bool b)
 |str (s:ByteArray):DRep w X (.string s) (.str s)
 |nil (a:Option Addr) (cap:Nat) (f:Nat->List DVal):DRep w X (.slice a 0 cap) (.lst 0 f)
 | lst (b off n cap:Nat) (c:Array Value) (e:TypeId) (fz:Nat×Nat) (f:Nat->List DVal) (es:Nat) :
   ¬X b->w.heap[b]?=some (.cells c e fz)->n<=cap->off+n*es<=c.size->(∀i,i<n->(f i).length=es) ->
   (∀i j,i<n->j<es->DRep w X (c.getD (off+(i*es+j)) undef) ((f i).getD j .any)) ->
   DRep w X (.slice (some ⟨b,off,none⟩) n cap) (.lst n f)
 | mp (b:Nat) (es:Array MapEntry) (clock n:Nat) (ks:Nat->Int) (Ze:Nat->Value) (vs:Nat->DVal):¬ X b->w.heap[b]?=some (.map es clock)->MapKept.Stamped es clock->es.size=n ->
   (∀i,i<n->∃bo,es[i]?=some ⟨.int .i64 (ks i),Ze i,bo⟩)->(∀i,i<n->DRep w X (Ze i) (vs i))->DRep w X (.map (some b)) (.mp n ks vs)
theorem DRep.one{X:Nat->Prop}{x:DVal}(h:DRep w X v x):v.oneCell'=true:=by
 cases h<;>first|assumption|rfl
theorem J2{o:Go.Obj}(h:w.heap[b]?=some o):b<w.heap.size:=
 (Qg9.1 h).1
structure Stp (Z:Nat->Prop) (w w' : World):Prop where
 os:w'.os=w.os
 tape:w'.tape=w.tape
 output:w'.output=w.output
 size:w.heap.size<=w'.heap.size
 block:∀b,b<w.heap.size->¬Z b->w'.heap[b]?=w.heap[b]?
 dr:w.drawn<=w'.drawn
theorem Stp.refl(Z:Nat->Prop)(w:World):Stp Z w w:=⟨rfl,rfl,rfl,Qb4 _,λ_ _ _=>rfl,Qb4 _⟩
theorem Stp.mono{Z Z' : Nat->Prop}(h:Stp Z w w')(hz:∀b,b<w.heap.size->Z b->Z' b):Stp Z' w w' :=
 ⟨h.os,h.tape,h.output,h.size,λb a d=>h.block b a λc=>d (hz b a c),h.dr⟩
theorem Stp.trans{Z:Nat->Prop}{a b c:World}(h:Stp Z a b)(k:Stp (λx=>Z x\/a.heap.size<=x) b c):Stp Z a c:=
 ⟨k.os.trans h.os,k.tape.trans h.tape,k.output.trans h.output,Qc4 h.size k.size,
  λx f e=>(k.block x (Qb6 f h.size) λd=>by rcases d with d|d;exact e d;omega).trans (h.block x f e),Qc4 h.dr k.dr⟩
theorem Stp.drew(Z:Nat->Prop)(w:World):Stp Z w {w with drawn:=w.drawn+1}:=⟨rfl,rfl,rfl,Qb4 _,λ_ _ _=>rfl,Qn2 _⟩
theorem Stp.alloc(Z:Nat->Prop)(w:World)(o:Go.Obj):Stp Z w {w with heap:=w.heap.push o} :=
 ⟨rfl,rfl,rfl,by simp,λb a _=>by show(w.heap.push o)[b]?=_;rw[Ql2,Qa1 (by omega)],Qb4 _⟩
theorem Stp.below{Z:Nat->Prop}(h:Stp Z w w')(B:Nat)(hB:B<=w.heap.size)(hZ:∀b,b<B->¬Z b):Go.RowKit.Below B w w' :=
 ⟨h.os,h.tape,h.output,h.size,λk a=>h.block k (Qb6 a hB) (hZ k a)⟩
theorem DRep.mono{X X' : Nat->Prop}{x:DVal}(h:DRep w X v x)(hk:∀b,b<w.heap.size->¬X b->w'.heap[b]?=w.heap[b]? /\ ¬X' b):DRep w' X' v x:=by
 induction h with
 |any v hv=>exact .any v hv
 |int k n=>exact .int k n
 |bool b=>exact .bool b
 |str s=>exact .str s
 |nil a cap f=>exact .nil a cap f
 |lst b off n cap c e fz f es hX hb hn ho hf _ ih=>
  have d:=hk b (J2 hb) hX;exact .lst b off n cap c e fz f es d.2 (d.1.trans hb) hn ho hf ih
 |mp b es clock n ks Ze vs hX hb h1 h2 h3 _ ih=>
  have d:=hk b (J2 hb) hX;exact .mp b es clock n ks Ze vs d.2 (d.1.trans hb) h1 h2 h3 ih
def PM:Value->List Nat
 |.pointer (some a)=>[a.block]
 |.slice (some a) _ cap=>if cap=0 then[]else[a.block]
 |.map (some b)=>[b]
 |_=>[]
def Y7:Value->List Nat
 |.pointer (some a)=>[a.block]
 |.slice (some a) _ cap=>if cap=0 then[]else[a.block]
 |.map (some b)=>[b]
 |.agg vs=>vs.toList.flatMap PM
 |_=>[]
def QS(w w' : World)(X X' : Nat->Prop):Prop:=∀b,b<w.heap.size->¬X b->w'.heap[b]?=w.heap[b]? /\ ¬X' b
def Ba(p:World->(Nat->Prop)->Value->Prop)(v:Value):Prop:=∀w w' X X',QS w w' X X' -> (∀b∈Y7 v,w'.heap[b]?=w.heap[b]?)->p w X v->p w' X' v
section
variable (w:World) (X:Nat->Prop) (η:Nat->Value) (C:Ctx)
inductive CRep:Value->CV->Prop
 |d (v:Value) (x:DVal):DRep w X v x->CRep v (.d x)
 |fl (a:Option Addr) (n:Nat) (f:Nat->List DVal):DRep w X (.slice a n n) (.lst n f)->CRep (.slice a n n) (.fl n f)
 |own (v:Value) (id:Nat):v=η id->v.oneCell'=true->CRep v (.own id)
 |ptr (b id off:Nat):η id=.pointer (some ⟨b,0,none⟩)->CRep (.pointer (some ⟨b,off,none⟩)) (.ptr id off)
 |pte (b n cap id es idx off:Nat):η id=.slice (some ⟨b,0,none⟩) n cap->CRep (.pointer (some ⟨b,idx*es+off,none⟩)) (.pte id es idx off)
 |sub (b N cap id es lo n:Nat):η id=.slice (some ⟨b,0,none⟩) N cap->lo+n<=N->lo<cap->CRep (.slice (some ⟨b,lo*es,none⟩) n (cap-lo)) (.sub id es lo n)
 |subN (ad ad' : Option Addr) (N id es:Nat):η id=.slice ad N N->CRep (.slice ad' 0 0) (.sub id es N 0)
 | elm (b off:Nat) (c:Array Value) (e:TypeId) (fz:Nat×Nat) (cs:List DVal):¬ X b->w.heap[b]?=some (.cells c e fz)->off+cs.length<=c.size ->
   (∀j,j<cs.length->DRep w X (c.getD (off+j) undef) (cs.getD j .any))->CRep (.pointer (some ⟨b,off,none⟩)) (.elm cs)
 |clo (f:Nat) (ids:List Nat) (vs:Array Value):vs=(ids.map η).toArray->CRep (.func (.func f) #[] vs) (.clo f ids)
 |sem (v:Value) (p:World->(Nat->Prop)->(Nat->Prop)->Value->Prop):p C.w0 C.D C.X v->v.oneCell'=true->CRep v (.sem p)
 |ap (v:Value) (id:Nat):(η id=v\/η id=.tuple #[v]\/∃l,η id=.agg (v::l).toArray)->v.oneCell'=true->CRep v (.ap id)
 |bnd (f:Nat) (vs:Array Value) (cs:List DVal):vs.size=cs.length->(∀j,j<cs.length->DRep w X (vs.getD j undef) (cs.getD j .any))->CRep (.func (.func f) #[.agg vs] #[]) (.bnd f cs)
 |cp (v:Value) (id j:Nat) (vs:Array Value):η id=.agg vs->vs[j]?=some v->v.oneCell'=true->CRep v (.cp id j)
def y9(vs:Array Value)(cs:List CV):Prop:=vs.size=cs.length/\∀j,j<cs.length->CRep w X η C (vs.getD j undef) (cs.getD j (.d .any))
inductive TRep:Value->TV->Prop
 |c (v:Value) (x:CV):CRep w X η C v x->TRep v (.c x)
 |g (vs:Array Value) (xs:List CV):y9 w X η C vs xs->TRep (.agg vs) (.g xs)
inductive ARep:Value->AVal->Prop
 |any (v:Value):ARep v .any
 |v (u:Value) (x:TV):TRep w X η C u x->ARep u (.v x)
 |t (us:Array Value) (xs:List TV):us.size=xs.length->(∀j,j<xs.length->TRep w X η C (us.getD j undef) (xs.getD j (.c (.d .any))))->ARep (.tuple us) (.t xs)
inductive ORep:Value->Obj->Prop
 | box (b:Nat) (ro:Bool) (c:Array Value) (e:TypeId) (cs:List CV):w.heap[b]?=some (.cells c e (0,0))->y9 w X η C c cs ->
   ORep (.pointer (some ⟨b,0,none⟩)) (.box ro cs)
 |nil (ad:Option Addr) (es:Nat) (f:Nat->List DVal):ORep (.slice ad 0 0) (.arr es 0 f)
 | arr (b n cap es:Nat) (c:Array Value) (e:TypeId) (f:Nat->List DVal):w.heap[b]?=some (.cells c e (0,0))->c.size=cap*es->n<=cap->cap<=maxLen->0<cap ->
   (∀i,i<n->(f i).length=es)->(∀i j,i<n->j<es->DRep w X (c.getD (i*es+j) undef) ((f i).getD j .any)) ->
   ORep (.slice (some ⟨b,0,none⟩) n cap) (.arr es n f)
 |ext (v:Value) (p:World->(Nat->Prop)->Value->Prop):p w X v->Ba p v->(∀b∈Y7 v,b<w.heap.size)->ORep v (.ext p)
 |exr (v:Value) (refs:List Nat) (p:World->(Nat->Prop)->List Value->Value->Prop):p w X (refs.map η) v->Ba (λw X v=>p w X (refs.map η) v) v->(∀b∈Y7 v,b<w.heap.size)->ORep v (.exr refs p)
end
theorem CRep.one{X:Nat->Prop}{C:Ctx}{x:CV}(h:CRep w X η C v x):v.oneCell'=true:=by
 cases h with
 |d _ _ h=>exact h.one
 |own _ _ _ h=>exact h
 |sem _ _ _ h=>exact h
 |ap _ _ _ h=>exact h
 |cp _ _ _ _ _ _ h=>exact h
 |_=>rfl
def CV.refs:CV->List Nat
 |.own id=>[id]
 |.ptr id _=>[id]
 |.pte id _ _ _=>[id]
 |.sub id _ _ _=>[id]
 |.clo _ ids=>ids
 |.ap id=>[id]
 |.cp id _=>[id]
 |_=>[]
def TV.refs:TV->List Nat
 |.c x=>x.refs
 |.g xs=>xs.flatMap CV.refs
def AVal.refs:AVal->List Nat
 |.any=>[]
 |.v x=>x.refs
 |.t xs=>xs.flatMap TV.refs
def Obj.refs:Obj->List Nat
 |.box _ cs=>cs.flatMap CV.refs
 |.arr _ _ _=>[]
 |.ext _=>[]
 |.exr refs _=>refs
def Obj.ro:Obj->Bool
 |.box ro _=>ro
 |.arr _ _ _=>false
 |.ext _=>false
 |.exr _ _=>false
section
variable {w w' : World} {X X' : Nat->Prop} {η η' : Nat->Value} {C:Ctx}
theorem CRep.mono{x:CV}(h:CRep w X η C v x)(hk:QS w w' X X')(hη:∀i∈x.refs,η' i=η i):CRep w' X' η' C v x:=by
 cases h with
 |d _ _ h=>exact .d _ _ (h.mono hk)
 |fl a n f h=>exact .fl a n f (h.mono hk)
 |own _ id h h1=>exact .own _ id (by rw[hη id (by simp[CV.refs])];exact h) h1
 |ptr b id off h=>exact .ptr b id off (by rw[hη id (by simp[CV.refs])];exact h)
 |pte b n cap id es idx off h=>exact .pte b n cap id es idx off (by rw[hη id (by simp[CV.refs])];exact h)
 |sub b N cap id es lo n h h1 h2=>exact .sub b N cap id es lo n (by rw[hη id (by simp[CV.refs])];exact h) h1 h2
 |subN ad ad' N id es h=>exact .subN ad ad' N id es (by rw[hη id (by simp[CV.refs])];exact h)
 |elm b off c e fz cs hX hb ho hc=>
  have k:=hk b (J2 hb) hX;exact .elm b off c e fz cs k.2 (k.1.trans hb) ho λj g=>(hc j g).mono hk
 |clo f ids vs h=>
  refine .clo f ids vs ?_;rw[h]
  congr 1
  exact Qh5 λi l=>(hη i (by simpa[CV.refs]using l)).symm
 |sem _ p h h1=>exact .sem _ p h h1
 |ap _ id h h1=>exact .ap _ id (by rw[hη id (by simp[CV.refs])];exact h) h1
 |bnd f vs cs h1 h2=>exact .bnd f vs cs h1 λj g=>(h2 j g).mono hk
 |cp _ id j vs h h1 h2=>exact .cp _ id j vs (by rw[hη id (by simp[CV.refs])];exact h) h1 h2
theorem Yv{α:Type}{l:List α}{d:α}(h:j<l.length):l.getD j d∈l:=by
 grind
theorem y9.mono{cs:List CV}(h:y9 w X η C vs cs)(hk:QS w w' X X')(hη:∀i∈cs.flatMap CV.refs,η' i=η i):y9 w' X' η' C vs cs:=
 ⟨h.1,λj a=>(h.2 j a).mono hk λi b=>hη i (Qb8.2 ⟨_,Yv a,b⟩)⟩
theorem TRep.mono{x:TV}(h:TRep w X η C v x)(hk:QS w w' X X')(hη:∀i∈x.refs,η' i=η i):TRep w' X' η' C v x:=by
 cases h with
 |c _ x h=>exact .c _ x (h.mono hk hη)
 |g vs xs h=>exact .g vs xs (h.mono hk hη)
theorem ARep.mono{x:AVal}(h:ARep w X η C v x)(hk:QS w w' X X')(hη:∀i∈x.refs,η' i=η i):ARep w' X' η' C v x:=by
 cases h with
 |any=>exact .any v
 |v _ x h=>exact .v _ x (h.mono hk hη)
 |t us xs hs h=>exact .t us xs hs λj a=>(h j a).mono hk λi b=>hη i (Qb8.2 ⟨_,Yv a,b⟩)
theorem ORep.mono{o:Obj}(h:ORep w X η C v o)(hk:QS w w' X X')(hη:∀i∈o.refs,η' i=η i)(hb:∀b,b∈Y7 v->w'.heap[b]?=w.heap[b]?):ORep w' X' η' C v o:=by
 cases h with
 |box b ro c e cs hh hc=>exact .box b ro c e cs ((hb b (by simp[Y7])).trans hh) (hc.mono hk hη)
 |nil ad es f=>exact .nil ad es f
 |arr b n cap es c e f hh hs hn hm hc hl he=>
  exact .arr b n cap es c e f ((hb b (by simp[Y7];omega)).trans hh) hs hn hm hc hl λi j a k=>(he i j a k).mono hk
 |ext _ p h h1 h2=>
  refine .ext _ p (h1 w w' X X' hk hb h) h1 λb d=>?_
  grind
 |exr _ refs p h h1 h2=>
  have g:refs.map η'=refs.map η:=Qh5 λi a=>hη i a
  refine .exr _ refs p (by rw[g];exact h1 w w' X X' hk hb h) (by rw[g];exact h1) λb d=>?_
  grind
theorem ORep.lt{o:Obj}(h:ORep w X η C v o)(hb:b∈Y7 v):b<w.heap.size:=by
 cases h with
 |box b' ro c e cs hh hc=>simp[Y7]at hb;subst hb;exact J2 hh
 |nil ad es f=>cases ad<;>simp[Y7]at hb
 |arr b' n cap es c e f hh hs hn hm hc hl he=>simp[Y7]at hb;obtain⟨_,rfl⟩:=hb;exact J2 hh
 |ext _ p h h1 h2=>exact h2 b hb
 |exr _ refs p h h1 h2=>exact h2 b hb
end
def Own(s:U6)(η:Nat->Value)(b:Nat):Prop:=∃i o,s i=some o/\b∈Y7 (η i)
def XS(C:Ctx)(s:U6)(η:Nat->Value)(b:Nat):Prop:=(C.X b/\¬C.D b)\/Own s η b
structure Ctx.Ok (C:Ctx):Prop where
 md:∀b,C.M b->C.D b
 dx:∀b,C.D b->C.X b
 lt:∀b,C.X b->b<C.w0.heap.size
structure Conc (C:Ctx) (nt:Nat) (R:Nat->Prop) (η:Nat->Value) (e:U4) (s:U6) (a:Act) (w:World):Prop where
 ok:C.Ok
 df:a.defers=[]
 sz:a.tmps.size=nt
 ev:∀t,ARep w (XS C s η) η C (a.tmps.getD t undef) (e t)
 er:∀t i,i∈(e t).refs->R i
 st:∀i o,s i=some o->ORep w (XS C s η) η C (η i) o
 sr:∀i o,s i=some o->R i/\∀j∈o.refs,R j
 ds:∀i j b,s i≠none->s j≠none->b∈Y7 (η i)->b∈Y7 (η j)->i=j
 ow:∀i o b,s i=some o->b∈Y7 (η i)->(o.ro=true/\C.D b)\/C.M b\/C.w0.heap.size<=b
 fr:Stp C.M C.w0 w
 pn:∀i v,C.pin i=some v->η i=v/\R i
end
variable {e:U4}{cs xs:List CV}{f g:Nat->List DVal}{C:Ctx}{s:U6}{E E':List (Nat×AVal)}{S S':List (Nat×Obj)}
section
structure SR where
 v:AVal:=.any
 del:List Nat:=[]
 upd:Option (Nat×Obj):=none
 new:Option Obj:=none
 cond:Prop:=True
def SR.env(r:SR)(d:Option Tmp)(e:U4):U4:=
 match d with
 |some d=>λt=>if t=d then r.v else e t
 |none=>e
def SR.sto(r:SR)(d:Option Tmp)(s:U6):U6:=λi=>
 match r.new,d with
 |some o,some d=>if i=d then some o else
  match r.upd with
  |some (k,o')=>if i=k then some o' else if r.del.contains i then none else s i
  |none=>if r.del.contains i then none else s i
 |_,_=>
  match r.upd with
  |some (k,o')=>if i=k then some o' else if r.del.contains i then none else s i
  |none=>if r.del.contains i then none else s i
def SR.eta(r:SR)(d:Option Tmp)(v:Value)(η:Nat->Value):Nat->Value:=λi=>
 match r.new,d with
 |some _,some d=>if i=d then v else η i
 |_,_=>η i
def SR.rng(r:SR)(d:Option Tmp)(R:Nat->Prop):Nat->Prop:=λi=>R i\/(r.new≠none/\d=some i)
theorem To(a:Act)(d:Option Tmp)(v:Value)(t:Nat)(hd:∀ x,d=some x->x<a.tmps.size):
  (a.put d v).tmps.getD t undef=if d=some t then v else a.tmps.getD t undef:=by
 cases d with
 |none=>simp[Act.put]
 |some x=>
  have b:=hd x rfl;simp only[Act.put,Qj8]
  by_cases h:x=t
  .subst h;simp[b]
  .simp [h]
theorem Q0m(a:Act)(d:Option Tmp)(v:Value):(a.put d v).tmps.size=a.tmps.size:=by cases d<;>simp[Act.put]
theorem Q0n(a:Act)(d:Option Tmp)(v:Value):(a.put d v).defers=a.defers:=by cases d<;>rfl
section
variable {C:Ctx} {nt:Nat} {R:Nat->Prop} {η:Nat->Value} {e:U4} {s:U6} {a:Act} {w:World}
theorem Conc.lt(h:Conc C nt R η e s a w)(hb:Own s η b):b<w.heap.size:=by
 obtain⟨i,o,c,hb⟩:=hb;exact(h.st i o c).lt hb
theorem LY(r:SR)(d:Option Tmp):∀i o,r.sto d s i=some o->(r.new=some o/\d=some i)\/(r.upd=some (i,o)/\(r.new=none\/d≠some i))\/(s i=some o/\i∉r.del/\(∀o',r.upd≠some (i,o'))/\(r.new=none\/d≠some i)):=by
 intro i o c;have b:(match r.upd with|some (k,o')=>if i=k then some o' else if r.del.contains i then none else s i|none=>if r.del.contains i then none else s i)=some o ->
   r.upd=some (i,o)\/(s i=some o/\i∉r.del/\∀o',r.upd≠some (i,o')):=by
  intro f
  cases hu:r.upd with
  |none=>
   grind
  |some ko=>
   grind
 unfold SR.sto at c
 cases hn:r.new with
 |none=>
  grind
 |some on=>
  grind
theorem CR(r:SR)(d:Option Tmp)(v:Value):∀i,(r.new=none\/d≠some i)->r.eta d v η i=η i:=by
 intro i b;unfold SR.eta
 grind
theorem Z0I(r:SR)(d:Option Tmp)(v:Value)(N:Nat->Prop)(hnew:∀o dd,r.new=some o->d=some dd->∀b,b∈Y7 v->N b\/Own s η b)(hupd:∀k o,r.upd=some (k,o)->s k≠none):∀b,Own (r.sto d s) (r.eta d v η) b->N b\/Own s η b:=by
 rintro b ⟨i,o,l,c⟩;rcases LY r d i o l with ⟨h,f⟩|⟨n,g⟩|⟨m,_,_,g⟩
 .rw [show r.eta d v η i=v from by simp[SR.eta,h,f]]at c
  exact hnew o i h f b c
 .rw [CR r d v i g]at c
  obtain⟨p,j⟩:=Qa7.1 (hupd i o n);exact .inr ⟨i,p,j,c⟩
 .rw [CR r d v i g]at c
  exact .inr ⟨i,o,m,c⟩
theorem Jj{w: World}(r:SR)(d:Option Tmp)(v:Value)(Z:Nat->Prop)(hstep:Stp Z w w')(hZ:∀b,Z b->Own s η b)(hnew:∀o dd,r.new=some o->d=some dd->∀b,b∈Y7 v->w.heap.size<=b\/Own s η b)(hupd:∀k o,r.upd=some (k,o)->s k≠none):QS w w' (XS C s η) (XS C (r.sto d s) (r.eta d v η)):=by
 intro b l i;have f:¬Own s η b:=λc=>i (.inr c)
 refine⟨hstep.block b l λj=>f (hZ b j),λg=>?_⟩;rcases g with c|c
 .exact i (.inl c)
 .rcases Z0I r d v _ hnew hupd b c with h|h
  .omega
  .exact f h
theorem Z3U{R:Nat->Prop}(r:SR)(d:Option Tmp)(v:Value)(hR:∀o dd,r.new=some o->d=some dd->¬R dd):∀i,R i->r.eta d v η i=η i:=by
 intro i c;refine CR r d v i ?_
 cases hn:r.new with
 |none=>exact .inl rfl
 |some o=>right;intro b;exact hR o i hn b c
theorem Conc.stepG(h:Conc C nt R η e s a w)(d:Option Tmp)(hd:∀ x,d=some x->x<nt)(r:SR)(v u:Value)(w' : World)(Z:Nat->Prop)(hstep:Stp Z w w')(hZ:∀ b,Z b->(∃ i,(i ∈ r.del\/∃ o,r.upd=some (i,o))/\s i≠none/\b ∈ Y7 (η i))/\(C.M b\/C.w0.heap.size<=b))(hnew:∀ o dd,r.new=some o->d=some dd->¬ R dd/\o.ro=false/\(∀ j ∈ o.refs,R j)/\ORep w' (XS C (r.sto d s) (r.eta d u η)) (r.eta d u η) C u o /\
   (∀b,b∈Y7 u->w.heap.size<=b\/((∃i∈r.del,s i≠none/\b∈Y7 (η i))/\(C.M b\/C.w0.heap.size<=b))))(hupd:∀k o,r.upd=some (k,o)->(∃o0,s k=some o0/\o0.ro=false)/\o.ro=false/\k∉r.del/\(∀j∈o.refs,R j)/\ORep w' (XS C (r.sto d s) (r.eta d u η)) (r.eta d u η) C (η k) o)(hv:d≠none->ARep w' (XS C (r.sto d s) (r.eta d u η)) (r.eta d u η) C v r.v/\∀j∈r.v.refs,r.rng d R j):
  Conc C nt (r.rng d R) (r.eta d u η) (r.env d e) (r.sto d s) (a.put d v) w':=by
 have Y:=LY (s:=s) r d;have g:=CR (η:=η) r d u
 have l:∀o i,r.new=some o->d=some i->r.eta d u η i=u:=by
  intro o i K h2;simp[SR.eta,K,h2]
 have q:∀i,R i->r.eta d u η i=η i:=by
  intro i f;refine g i ?_
  cases p:r.new with
  |none=>exact .inl rfl
  |some o=>right;intro c;exact(hnew o i p c).1 f
 have b6:∀b,Own (r.sto d s) (r.eta d u η) b->w.heap.size<=b\/Own s η b:=by
  rintro b ⟨i,o,f,m⟩;rcases Y i o f with ⟨p,c⟩|⟨N,A⟩|⟨E,_,_,A⟩
  .rw [l o i p c]at m
   rcases(hnew o i p c).2.2.2.2 b m with W|⟨⟨j,_,n,Q⟩,_⟩
   .exact .inl W
   .obtain ⟨F,y⟩:=Qa7.1 n
    exact .inr ⟨j,F,y,Q⟩
  .rw [g i A]at m
   obtain⟨o0,T,_⟩:=(hupd i o N).1;exact .inr ⟨i,o0,T,m⟩
  .rw [g i A]at m
   exact .inr ⟨i,o,E,m⟩
 have J:QS w w' (XS C s η) (XS C (r.sto d s) (r.eta d u η)):=by
  intro b m hX;have a7:¬Own s η b:=λO=>hX (.inr O)
  refine⟨hstep.block b m λV=>?_,λb4=>?_⟩
  .obtain ⟨⟨i,_,f,a8⟩,_⟩:=hZ b V
   obtain⟨L,D⟩:=Qa7.1 f;exact a7 ⟨i,L,D,a8⟩
  .rcases b4 with O|O
   .exact hX (.inl O)
   all_goals grind
 refine⟨h.ok,by rw[Q0n];exact h.df,by rw[Q0m];exact h.sz,?_,?_,?_,?_,?_,?_,?_,λi u' f=>⟨(q i (h.pn i u' f).2).trans (h.pn i u' f).1,.inl (h.pn i u' f).2⟩⟩
 .intro t
  rw[To a d v t (by rw[h.sz];exact hd)]
  by_cases ht:d=some t
  .subst ht
   simp only[Qh8,SR.env];exact(hv (by simp)).1
  .rw [Qa1 ht]
   have:r.env d e t=e t:=by
    unfold SR.env
    cases d with
    |none=>rfl
    |some x=>simp only[];rw[Qa1];intro O;subst O;exact ht rfl
   rw[this];exact(h.ev t).mono J λi f=>q i (h.er t i f)
 .intro t i f
  by_cases ht:d=some t
  .subst ht
   simp only[SR.env,Qh8]at f;exact(hv (by simp)).2 i f
  .have:r.env d e t=e t:=by
    unfold SR.env
    cases d with
    |none=>rfl
    |some x=>simp only[];rw[Qa1];intro O;subst O;exact ht rfl
   rw[this]at f;exact .inl (h.er t i f)
 .intro i o f
  rcases Y i o f with ⟨p,c⟩|⟨N,A⟩|⟨E,G,P,A⟩
  .rw [l o i p c];exact(hnew o i p c).2.2.2.1
  .rw [g i A];exact(hupd i o N).2.2.2.2
  .rw [g i A]
   refine(h.st i o E).mono J (λj n=>q j ((h.sr i o E).2 j n)) λb m=>?_
   refine hstep.block b ((h.st i o E).lt m) λV=>?_
   obtain⟨⟨j,n,a6,Q⟩,_⟩:=hZ b V;have a0:i=j:=h.ds i j b (by rw[E];simp) a6 m Q
   subst a0;rcases n with n|⟨S,a5⟩
   .exact G n
   .exact P S a5
 .intro i o f
  rcases Y i o f with ⟨p,c⟩|⟨N,A⟩|⟨E,G,P,A⟩
  .exact ⟨.inr ⟨by rw[p];simp,c⟩,λj n=>.inl ((hnew o i p c).2.2.1 j n)⟩
  .obtain ⟨o0,T,_⟩:=(hupd i o N).1
   exact⟨.inl (h.sr i o0 T).1,λj n=>.inl ((hupd i o N).2.2.2.1 j n)⟩
  .exact ⟨.inl (h.sr i o E).1,λj n=>.inl ((h.sr i o E).2 j n)⟩
 .
  have H:∀i o,r.sto d s i=some o->¬(r.new=some o/\d=some i)->s i≠none/\i∉r.del/\r.eta d u η i=η i:=by
   grind
  have I:∀i o j S,r.sto d s j=some S -> (r.new=some o/\d=some i)->¬(r.new=some S /\ d=some j)->∀b,b∈Y7 u->b∈Y7 (η j)->False:=by
   intro i o j S n p b2 b m U;obtain⟨K,h2,_⟩:=H j S n b2
   obtain⟨F,y⟩:=Qa7.1 K;rcases(hnew o i p.1 p.2).2.2.2.2 b m with W|⟨⟨k,hk,b0,a2⟩,_⟩
   .have:=(h.st j F y).lt U;omega
   .have:j=k:=h.ds j k b K b0 U a2
    grind
  intro i j b f n z B;obtain⟨L,D⟩:=Qa7.1 f
  obtain⟨F,y⟩:=Qa7.1 n
  by_cases ni:r.new=some L/\d=some i
  .by_cases nj:r.new=some F/\d=some j
   .have:=ni.2.symm.trans nj.2;simpa using this
   .exfalso
    rw[l L i ni.1 ni.2]at z;rw[(H j F y nj).2.2]at B
    exact I i L j F y ni nj b z B
  .by_cases nj:r.new=some F/\d=some j
   .exfalso
    rw[l F j nj.1 nj.2]at B;rw[(H i L D ni).2.2]at z
    exact I j F i L D nj ni b B z
   .obtain ⟨a1,_,a3⟩:=H i L D ni
    obtain⟨b1,_,b3⟩:=H j F y nj;rw[a3]at z;rw[b3]at B
    exact h.ds i j b a1 b1 z B
 .intro i o b f m
  rcases Y i o f with ⟨p,c⟩|⟨N,A⟩|⟨E,G,P,A⟩
  .rw [l o i p c]at m
   rcases(hnew o i p c).2.2.2.2 b m with W|⟨_,hm⟩
   .exact .inr (.inr (Qc4 h.fr.size W))
   .exact .inr hm
  .rw [g i A]at m
   obtain⟨o0,T,a9⟩:=(hupd i o N).1;rcases h.ow i o0 b T m with ⟨K,_⟩|K
   .rw [a9]at K;cases K
   .exact .inr K
  .rw [g i A]at m
   exact h.ow i o b E m
 .refine h.fr.trans (hstep.mono λb _ V=>?_)
  exact(hZ b V).2
theorem Conc.step(h:Conc C nt R η e s a w)(d:Option Tmp)(hd:∀ x,d=some x->x<nt)(r:SR)(v:Value)(w' : World)(Z:Nat->Prop)(hstep:Stp Z w w')(hZ:∀ b,Z b->(∃ i,(i ∈ r.del\/∃ o,r.upd=some (i,o))/\s i≠none/\b ∈ Y7 (η i))/\(C.M b\/C.w0.heap.size<=b))(hnew:∀ o dd,r.new=some o->d=some dd->¬ R dd/\o.ro=false/\(∀ j ∈ o.refs,R j)/\ORep w' (XS C (r.sto d s) (r.eta d v η)) (r.eta d v η) C v o /\
   (∀b,b∈Y7 v->w.heap.size<=b\/((∃i∈r.del,s i≠none/\b∈Y7 (η i))/\(C.M b\/C.w0.heap.size<=b))))(hupd:∀k o,r.upd=some (k,o)->(∃o0,s k=some o0/\o0.ro=false)/\o.ro=false/\k∉r.del/\(∀j∈o.refs,R j)/\ORep w' (XS C (r.sto d s) (r.eta d v η)) (r.eta d v η) C (η k) o)(hv:d≠none->ARep w' (XS C (r.sto d s) (r.eta d v η)) (r.eta d v η) C v r.v/\∀j∈r.v.refs,r.rng d R j):
  Conc C nt (r.rng d R) (r.eta d v η) (r.env d e) (r.sto d s) (a.put d v) w' :=
 h.stepG d hd r v v w' Z hstep hZ hnew hupd hv
theorem Conc.val(h:Conc C nt R η e s a w)(d:Option Tmp)(hd:∀ x,d=some x->x<nt)(x:AVal)(v:Value)(hv:d≠none->ARep w (XS C s η) η C v x/\∀ j ∈ x.refs,R j):
  Conc C nt R η (SR.env {v:=x} d e) s (a.put d v) w:=by
 have f:SR.sto {v:=x} d s=s:=by funext i;simp[SR.sto]
 have l:SR.eta {v:=x} d v η=η:=by funext i;simp[SR.eta]
 have g:SR.rng {v:=x} d R=R:=by funext i;simp[SR.rng]
 have:=h.step d hd {v:=x} v w (λ_=>False) (Stp.refl _ _) (λb n=>n.elim) (λo dd c=>by cases c) (λk o c=>by cases c)
  (λm=>by rw[f,l,g];exact hv m)
 rwa [f,l,g]at this
theorem Conc.drew(h:Conc C nt R η e s a w):Conc C nt R η e s a {w with drawn:=w.drawn+1}:=by
 have c:QS w {w with drawn:=w.drawn+1} (XS C s η) (XS C s η):=λb _ d=>⟨rfl,d⟩
 exact⟨h.ok,h.df,h.sz,λt=>(h.ev t).mono c λ_ _=>rfl,h.er,λi o f=>(h.st i o f).mono c (λ_ _=>rfl) λ_ _=>rfl,h.sr,h.ds,h.ow,
  ⟨h.fr.os,h.fr.tape,h.fr.output,h.fr.size,h.fr.block,Qq0 h.fr.dr⟩,h.pn⟩
end
end
variable {r:SR}
inductive TK where
 |int (k:IntKind)
 |bool
 |str
 |slice (e:Nat)
 |struct (fs:List (Nat×Nat))
 |array (n e:Nat)
 |other
def TK.agg:TK->Bool
 |.struct _=>true
 |.array _ _=>true
 |_=>false
structure TI where
 kind:TK
 size:Nat
 bytes:Nat
 zero:List CV
variable {ti te:TI}
abbrev Lay:=Nat->Option TI
def Q8(n:Int):Prop:= -9223372036854775808<=n/\n<=9223372036854775807
def Z9:Nat:=4294967296
def vi(n:Int):AVal:=.v (.c (.d (.int .i64 n)))
def vb(b:Bool):AVal:=.v (.c (.d (.bool b)))
def FQ:Value->AVal
 |.int k n=>.v (.c (.d (.int k n)))
 |.bool b=>.v (.c (.d (.bool b)))
 |.string s=>.v (.c (.d (.str s)))
 |.slice none 0 0=>.v (.c (.fl 0 λ_=>[]))
 |_=>.any
def Y2(e:U4):Operand->AVal
 |.tmp t=>e t
 |.const v=>FQ v
 |.func f=>.v (.c (.clo f []))
 |.global _=>.any
def Xd:AVal->Option (List CV)
 |.v (.c x)=>some [x]
 |.v (.g xs)=>some xs
 |_=>none
def Vn(agg:Bool)(cs:List CV):Option AVal:=
 match agg with
 |true=>some (.v (.g cs))
 |false=>match cs with
  |[x]=>some (.v (.c x))
  |_=>none
def LD:CV->Option DVal
 |.d x=>some x
 |.fl n f=>some (.lst n f)
 |_=>none
def VE:List CV->Option (List DVal)
 |[]=>some []
 |x::xs=>match LD x,VE xs with
  |some a,some b=>some (a::b)
  |_,_=>none
def rd(s:U6)(n:Nat):AVal->Option (List CV×Prop)
 |.v (.c (.ptr id off))=>match s id with
  |some (.box _ cs)=>if off+n<=cs.length then some ((cs.drop off).take n,True)else none
  |_=>none
 |.v (.c (.elm cs))=>if n<=cs.length then some ((cs.take n).map .d,True)else none
 |.v (.c (.pte id es idx off))=>match s id with
  |some (.arr es' k f)=>if es=es' /\ off+n<=es/\(f idx).length=es then some ((((f idx).drop off).take n).map .d,idx<k)else none
  |_=>none
 |_=>none
def Yo{α:Type}(cs:List α)(off:Nat)(xs:List α):List α:=cs.take off++(xs++cs.drop (off+xs.length))
def wr(s:U6)(xs:List CV):AVal->Option SR
 |.v (.c (.ptr id off))=>match s id with
  |some (.box false cs)=>if off+xs.length<=cs.length then some {upd:=some (id,.box false (Yo cs off xs))}else none
  |_=>none
 |.v (.c (.pte id es idx off))=>match s id with
  |some (.arr es' k f)=>match VE xs with
   | some ds=>if es=es' /\ off+ds.length<=es/\(f idx).length=es then
     some {upd:=some (id,.arr es k λj=>if j=idx then Yo (f idx) off ds else f j),cond:=idx<k}else none
   |none=>none
  |_=>none
 |_=>none
def UL(m:Bool)(k:IntKind)(n:Int)(c:Prop):SR:=
 match k,m with
 |.i64,false=> {v:=vi n,cond:=Q8 n/\c}
 |k,_=> {v:=.v (.c (.d (.int k (k.wrap n)))),cond:=c}
def QO(k:IntKind)(x y:Int):Int:=k.wrap (BitVec.ofInt k.bits x &&& BitVec.ofInt k.bits y).toNat
def G5(k:IntKind)(x y:Int):Int:=k.wrap (BitVec.ofInt k.bits x ||| BitVec.ofInt k.bits y).toNat
def xJ(k:IntKind)(x y:Int):Int:=k.wrap (BitVec.ofInt k.bits x ^^^ BitVec.ofInt k.bits y).toNat
def Xe(m:Bool)(op:BinOp)(x y:AVal):Option SR:=
 match x,y with
 |.v (.c (.d (.int k a))),.v (.c (.d (.int k' b)))=>
  match op with
  |.shl=>some (UL m k (a*2 ^ (min b.toNat k.bits)) (0<=b))
  |.shr=>some {v:=.v (.c (.d (.int k (a.fdiv (2 ^ (min b.toNat k.bits)))))),cond:=0<=b}
  |op=>if k=k' then match op with
   |.add=>some (UL m k (a+b) True)
   |.sub=>some (UL m k (a-b) True)
   |.mul=>some (UL m k (a*b) True)
   |.quo=>some (UL m k (a.tdiv b) (b≠0))
   |.rem=>some {v:=.v (.c (.d (.int k (a.tmod b)))),cond:=b≠0}
   |.and=>some {v:=.v (.c (.d (.int k (QO k a b))))}
   |.or=>some {v:=.v (.c (.d (.int k (G5 k a b))))}
   |.xor=>some {v:=.v (.c (.d (.int k (xJ k a b))))}
   |.eql=>some {v:=vb (a==b)}
   |.neq=>some {v:=vb (a != b)}
   |.lss=>some {v:=vb (a<b)}
   |.leq=>some {v:=vb (a<=b)}
   |.gtr=>some {v:=vb (b<a)}
   |.geq=>some {v:=vb (b<=a)}
   |_=>none else none
 |_,_=>none
def FJ(m:Bool)(op:UnOp)(x:AVal):Option SR:=
 match op,x with
 |.not,.v (.c (.d (.bool b)))=>some {v:=vb (!b)}
 |.neg,.v (.c (.d (.int k n)))=>some (UL m k (0-n) True)
 |_,_=>none
def Qa(a b:Int):Int:=if b<a then b else a
def K8(a b:Int):Int:=if a<b then b else a
def ZK:AVal->Option Int
 |.v (.c (.d (.int _ n)))=>some n
 |_=>none
def Wt(s:U6):AVal->Option (Nat×(Nat->List DVal))
 |.v (.c (.d (.lst n f)))=>some (n,f)
 |.v (.c (.fl n f))=>some (n,f)
 |.v (.c (.own id))=>match s id with
  |some (.arr _ n f)=>some (n,f)
  |_=>none
 |.v (.c (.sub id es lo n))=>match s id with
  |some (.arr es' _ f)=>if es=es' then some (n,λj=>f (lo+j))else none
  |_=>none
 |_=>none
def Qv(n:Nat)(f g:Nat->List DVal):Nat->List DVal:=λi=>if i<n then f i else g (i-n)
def VA(s:U6)(es m:Nat):AVal->Option (List Nat×Nat×(Nat->List DVal)×Prop)
 |.v (.c (.own id))=>match s id with
  |some (.arr es' n f)=>if es=es' then some ([id],n,f,True)else none
  |_=>none
 |.v (.c (.fl n f))=>if n=0\/0<m then some ([],n,f,∀j,j<n->(f j).length=es)else none
 |_=>none
def UB(pl:Nat->Option (Nat×Nat))(cells:List CV):List (Nat×AVal)->Option (List CV)
 |[]=>some cells
 |(i,x)::rest=>match pl i,Xd x with
  |some (off,size),some xs=>if xs.length=size/\off+size<=cells.length then UB pl (Yo cells off xs) rest else none
  |_,_=>none
def Pv(L:Lay):List (Nat×Nat)->Option (List (Nat×Nat))
 |[]=>some []
 |(off,t)::r=>match L t,Pv L r with
  |some ti,some l=>some ((off,ti.size)::l)
  |_,_=>none
def VM{α:Type}(n:Nat)(xs:List α):List α:=match n with|0=>[]|n+1=>xs++VM n xs
def Kv(L:Lay)(s:U6)(b:Builtin)(tys:Array TypeId)(xs:List AVal):Option SR:=
 match b,xs with
 |.len,[x]=>match tys.toList with
  |[t]=>match L t with
   |some {kind:=.slice _,..}=>match Wt s x with
    |some (n,_)=>some {v:=vi n}
    |none=>none
   |some {kind:=.array n _,..}=>some {v:=vi n}
   |some {kind:=.str,..}=>match x with
    |.v (.c (.d (.str b)))=>some {v:=vi b.size}
    |_=>none
   |_=>none
  |_=>none
 |.min,[.v (.c (.d (.int k a))),.v (.c (.d (.int _ b)))]=>some {v:=.v (.c (.d (.int k (Qa a b))))}
 |.max,[.v (.c (.d (.int k a))),.v (.c (.d (.int _ b)))]=>some {v:=.v (.c (.d (.int k (K8 a b))))}
 |.append,[x,y]=>match tys.toList with
  |[t,t']=>if t=t' then match L t with
   |some {kind:=.slice el,..}=>match L el with
    |some te=>match Wt s y with
     |some (k,g)=>match VA s te.size k x with
      | some (del,n,f,c)=>if 0<te.size/\te.bytes<=8192/\te.zero.length=te.size then
        some {v:=.any,del:=del,new:=some (.arr te.size (n+k) (Qv n f g)),cond:=n+k<=Z9/\(∀j,j<k->(g j).length=te.size)/\c}else none
      |none=>none
     |none=>none
    |none=>none
   |_=>none else none
  |_=>none
 |_,_=>none
def sl(n:Nat)(f:Nat->List DVal)(lo hi:Option Int):(Nat×(Nat->List DVal))×Prop:=
 match lo,hi with
 |none,none=>((n,f),True)
 |some l,none=>((n-l.toNat,λi=>f (l.toNat+i)),0<=l/\l<=n)
 |none,some h=>((h.toNat,f),0<=h/\h<=n)
 |some l,some h=>((h.toNat-l.toNat,λi=>f (l.toNat+i)),0<=l/\l<=h/\h<=n)
def oI(e:U4):Option Operand->Option (Option Int)
 |none=>some none
 |some x=>match ZK (Y2 e x)with
  |some n=>some (some n)
  |none=>none
def Zj(L:Lay)(m:Bool)(e:U4)(s:U6)(o:Oper):Option SR:=
 match o.op with
 |.move x=>some {v:=Y2 e x}
 |.assign x=>match m,Y2 e x,o.dst with
  |false,x,_=>some {v:=x}
  |true,.v (.c (.fl 0 f)),some d=>match L o.type with
   |some {kind:=.slice el,..}=>match L el with
    |some te=>some {v:=.v (.c (.own d)),new:=some (.arr te.size 0 f)}
    |none=>none
   |_=>none
  |_,_,_=>none
 |.pick c x y=>match Y2 e c with
  |.v (.c (.d (.bool true)))=>some {v:=Y2 e x}
  |.v (.c (.d (.bool false)))=>some {v:=Y2 e y}
  |_=>none
 |.alloc t=>match L t,o.dst with
  |some ti,some d=>some {v:=.v (.c (.ptr d 0)),new:=some (.box false ti.zero)}
  |_,_=>none
 |.box _ x=>match Xd (Y2 e x),o.dst with
  |some xs,some d=>some {v:=.v (.c (.ptr d 0)),new:=some (.box false xs)}
  |_,_=>none
 |.build t ps=>match L t with
  |some {kind:=.struct fs,zero:=z,..}=>match Pv L fs with
   |some pl=>match UB (λi=>pl[i]?) z (ps.toList.map λp=>(p.1,Y2 e p.2))with
    |some cs=>some {v:=.v (.g cs)}
    |none=>none
   |none=>none
  |some {kind:=.array _ el,zero:=z,..}=>match L el with
   |some te=>match UB (λi=>some (i*te.size,te.size)) z (ps.toList.map λp=>(p.1,Y2 e p.2))with
    |some cs=>some {v:=.v (.g cs)}
    |none=>none
   |none=>none
  |_=>none
 |.buildSlice t len ps=>match L t with
  |some {kind:=.slice el,..}=>match L el with
   | some te=>if len*te.size<=16777216/\te.zero.length=te.size/\0<te.size then
     match UB (λi=>some (i*te.size,te.size)) (VM len te.zero) (ps.toList.map λp=>(p.1,Y2 e p.2))with
     |some cs=>match VE cs with
      |some ds=>match m,o.dst with
       |false,_=>some {v:=.v (.c (.d (.lst len λi=>(ds.drop (i*te.size)).take te.size)))}
       |true,some d=>some {v:=.v (.c (.own d)),new:=some (.arr te.size len λi=>(ds.drop (i*te.size)).take te.size)}
       |_,_=>none
      |none=>none
     |none=>none else none
   |none=>none
  |_=>none
 |.load t x=>match L t with
  |some ti=>match rd s ti.size (Y2 e x)with
   |some (cs,c)=>match Vn ti.kind.agg cs with
    |some v=>some {v:=v,cond:=c}
    |none=>none
   |none=>none
  |none=>none
 |.store t x y=>match L t,Xd (Y2 e y)with
  |some ti,some xs=>if xs.length=ti.size then wr s xs (Y2 e x)else none
  |_,_=>none
 |.nilCheck x=>match Y2 e x with
  |.v (.c (.ptr id off))=>some {v:=.v (.c (.ptr id off))}
  |.v (.c (.pte id es idx off))=>some {v:=.v (.c (.pte id es idx off))}
  |.v (.c (.elm cs))=>some {v:=.v (.c (.elm cs))}
  |_=>none
 |.binOp op _ x y _=>Xe m op (Y2 e x) (Y2 e y)
 |.unOp op _ x=>FJ m op (Y2 e x)
 |.convert src dst x=>match L src,L dst,Y2 e x with
  |some {kind:=.int _,..},some {kind:=.int k,..},.v (.c (.d (.int _ n)))=>some (UL m k n True)
  |some {kind:=.str,..},some {kind:=.str,..},.v (.c (.d (.str b)))=>some {v:=.v (.c (.d (.str b)))}
  |_,_,_=>none
 | .makeFunc (.func f) first caps=>if first.size=0 then match cloIds (caps.toList.map (Y2 e)) with
   |some ids=>some {v:=.v (.c (.clo f ids))}
   |none=>none else none
 |.slice t x lo hi none=>match L t with
  |some {kind:=.slice el,..}=>match L el with
   |some te=>match m,Y2 e x,oI e lo,oI e hi with
    |false,x,some lo,some hi=>match asF x with
     |some (n,f)=>some {v:=.v (.c (.d (.lst (sl n f lo hi).1.1 (sl n f lo hi).1.2))),cond:=(sl n f lo hi).2/\∀j,j<n->(f j).length=te.size}
     |none=>none
    |true,.v (.c (.own id)),some none,some (some h)=>match s id,o.dst with
     |some (.arr es n f),some d=>some {v:=.v (.c (.own d)),del:=[id],new:=some (.arr es h.toNat f),cond:=0<=h/\h<=n}
     |_,_=>none
    |_,_,_,_=>none
   |none=>none
  |_=>none
 |.slice t x none (some h) (some mx)=>match L t with
  |some {kind:=.slice el,..}=>match L el,asF (Y2 e x),ZK (Y2 e h),ZK (Y2 e mx)with
   | some te,some (n,f),some h,some mx=>if h=mx/\0<h then
     some {v:=.v (.c (.fl h.toNat f)),cond:=h<=n/\∀j,j<n->(f j).length=te.size}else none
   |_,_,_,_=>none
  |_=>none
 |.fieldAddr t x k=>match L t with
  |some {kind:=.struct fs,..}=>match fs[k]? with
   |some (off,ft)=>match L ft with
    |some tf=>if tf.size=0 then none else match Y2 e x with
     |.v (.c (.ptr id o))=>some {v:=.v (.c (.ptr id (o+off)))}
     |.v (.c (.pte id es idx o))=>some {v:=.v (.c (.pte id es idx (o+off)))}
     |.v (.c (.elm cs))=>if off<=cs.length then some {v:=.v (.c (.elm (cs.drop off)))}else none
     |_=>none
    |none=>none
   |none=>none
  |_=>none
 |.field t x k=>match L t with
  |some {kind:=.struct fs,..}=>match fs[k]?,Y2 e x with
   |some (off,ft),.v (.g cs)=>match L ft with
    | some tf=>if off+tf.size<=cs.length then match Vn tf.kind.agg ((cs.drop off).take tf.size) with
      |some v=>some {v:=v}
      |none=>none else none
    |none=>none
   |_,_=>none
  |_=>none
 |.indexAddr t x i=>match L t,ZK (Y2 e i)with
  |some {kind:=.slice el,..},some i=>match L el with
   |some te=>match Y2 e x with
    |.v (.c (.own id))=>match s id with
     |some (.arr es n _)=>if es=te.size then some {v:=.v (.c (.pte id es i.toNat 0)),cond:=0<=i/\i<n}else none
     |_=>none
    |x=>match asF x with
     |some (n,f)=>if(f i.toNat).length=te.size then some {v:=.v (.c (.elm (f i.toNat))),cond:=0<=i/\i<n}else none
     |none=>none
   |none=>none
  |some {kind:=.array n el,..},some i=>match L el,Y2 e x with
   |some te,.v (.c (.ptr id off))=>if 0<=i/\i<n then some {v:=.v (.c (.ptr id (off+i.toNat*te.size)))}else none
   |_,_=>none
  |_,_=>none
 |.index t x i=>match L t,ZK (Y2 e i),Y2 e x with
  |some {kind:=.array n el,..},some i,.v (.g cs)=>match L el with
   | some te=>if 0<=i/\i<n/\i.toNat*te.size+te.size<=cs.length then match Vn te.kind.agg ((cs.drop (i.toNat*te.size)).take te.size) with
     |some v=>some {v:=v}
     |none=>none else none
   |none=>none
  |_,_,_=>none
 |.makeSlice t l c=>match L t,ZK (Y2 e l),ZK (Y2 e c),o.dst with
  |some {kind:=.slice el,..},some l,some c,some d=>match L el with
   |some te=>match VE te.zero with
    |some z=>if 0<te.size/\te.bytes<=8192/\te.zero.length=te.size then some {v:=.v (.c (.own d)),new:=some (.arr te.size l.toNat λ_=>z),cond:=0<=l/\l=c/\l<=Z9}else none
    |none=>none
   |none=>none
  |_,_,_,_=>none
 |.extract x k=>match Y2 e x with
  |.t xs=>match xs[k]? with
   |some v=>some {v:=.v v}
   |none=>none
  |_=>none
 |.call {callee:=.builtin b,args,argTypes}=>match Kv L s b argTypes (args.toList.map (Y2 e)),o.dst with
  |some r,d=>match r.new,d with
   |some _,some d=>some {r with v:=.v (.c (.own d))}
   |some _,none=>none
   |none,_=>some r
  |none,_=>none
 |_=>none
where
 cloIds:List AVal->Option (List Nat)
  |[]=>some []
  |.v (.c (.ptr id 0))::r=>match cloIds r with
   |some ids=>some (id::ids)
   |none=>none
  |_::_=>none
 asF:AVal->Option (Nat×(Nat->List DVal))
  |.v (.c (.d (.lst n f)))=>some (n,f)
  |.v (.c (.fl n f))=>some (n,f)
  |_=>none
section
def ZL(d:TypeDesc):TK->Prop
 |.int k=>d=.int k
 |.bool=>d=.bool
 |.str=>d=.string
 |.slice e=>d=.slice e
 |.struct fs=>∃fields,d=.struct fields/\fields.toList.map (λf=>(f.offset,f.type))=fs
 |.array n e=>d=.array n e
 |.other=>(∀fs,d≠.struct fs)/\∀n e,d≠.array n e
structure TIOk (P:Program) (t:Nat) (ti:TI) (i:TypeInfo) (d:TypeDesc) (z:Value):Prop where
 info:P.info? t=some i
 und:P.underlying t=some d
 size:i.size=ti.size
 bytes:i.bytes=ti.bytes
 zero:i.zero=some z
 zrep:∀w X η C,y9 w X η C z.cells ti.zero
 zrefs:ti.zero.flatMap CV.refs=[]
 kind:ZL d ti.kind
def y4(P:Program)(L:Lay):Prop:=∀t ti,L t=some ti->∃i d z,TIOk P t ti i d z
section
variable {P:Program} {L:Lay}
theorem BP{t:Nat}{d:TypeDesc}(h:TIOk P t ti i d z)(w:World):(isAgg t).run P w=.ok ti.kind.agg w:=by
 have b:=h.kind;simp only[isAgg,Qd9,Qc1 h.und,Qd0]
 cases hkk:ti.kind<;>simp only[hkk,ZL]at b
 all_goals first
  |(subst b;rfl)
  |(obtain⟨f,rfl,_⟩:=b;rfl)
  |skip
 split
 .grind
 .grind
 .rfl
theorem Yq{t:Nat}{d:TypeDesc}(h:TIOk P t ti i d z)(w:World):(sizeOf t).run P w=.ok ti.size w:=by
 simp[sizeOf,typeInfo,h.info,h.size]
theorem RP{t:Nat}{d:TypeDesc}(h:TIOk P t ti i d z)(w:World):(zeroValue t).run P w=.ok z w:=by
 simp[zeroValue,typeInfo,h.info,h.zero]
theorem add_lit(b o n:Nat):(⟨b,o,none⟩:Addr).add n=⟨b,o+n,none⟩:=by unfold Addr.add;split<;>simp_all
theorem HN{e:TypeId}{fz:Nat×Nat}(h:w.heap[b]?=some (.cells c e fz))(j:Nat)(hj:j<c.size):
  w.cell? ⟨b,j,none⟩=some (c.getD j undef):=by
 rw[cell_of_row w b j c e fz h];simp[hj]
def Ze(c:Array Value)(off n:Nat):List Value:=(List.range n).map λj=>c.getD (off+j) undef
theorem jY{t:Nat}{ti:TI}{i:TypeInfo}{d:TypeDesc}{z:Value}(h:TIOk P t ti i d z){w:World}{b off:Nat}{c:Array Value}{e:TypeId}{fz:Nat×Nat}(hb:w.heap[b]?=some (.cells c e fz))(ho:off+ti.size<=c.size)(h1:ti.kind.agg=false->ti.size=1):
  (loadVar t ⟨b,off,none⟩).run P w=.ok (if ti.kind.agg then .agg (Ze c off ti.size).toArray else c.getD off undef) w:=by
 simp only[loadVar,Qd9,BP h,Qd0]
 cases ha:ti.kind.agg with
 |true=>
  have:=run_loadCells (P:=P) w ⟨b,off,none⟩ ti.size (λj=>c.getD (off+j) undef) (λj f=>by rw[add_lit];exact HN hb _ (by omega))
  simp only[Qd9,Yq h,Qd0,this,Qh8,Qe9,Ze]
 |false=>
  have:=h1 ha
  simp only[Qh1,Qh2];rw[run_load,HN hb off (by omega)]
theorem Bi{K:Act->World->Prop}{Q:Exit->Act->World->Prop}(h:(execOp a.eval o).run P w=.ok (.value v) w')(hK:K (a.put o.dst v) w'):o.wp P a w K Q:=by
 unfold Oper.wp;rw[h];exact hK
theorem kI{K:Act->World->Prop}{Q:Exit->Act->World->Prop}(h:(execOp a.eval o).run P w=.ok .skip w')(hK:K (a.put o.dst undef) w'):o.wp P a w K Q:=by
 unfold Oper.wp;rw[h];exact hK
end
section
variable {P:Program} {L:Lay} {C:Ctx} {nt:Nat} {R:Nat->Prop} {η:Nat->Value} {e:U4} {s:U6} {a:Act} {w:World}
def y3(P:Program)(C:Ctx)(nt:Nat)(R:Nat->Prop)(η:Nat->Value)(e:U4)(s:U6)(a:Act)(w:World)(o:Oper)(r:SR):Prop:=
 ∃v w',((execOp a.eval o).run P w=.ok (.value v) w' \/ ((execOp a.eval o).run P w=.ok .skip w' /\ v=undef)) /\
  Conc C nt (r.rng o.dst R) (r.eta o.dst v η) (r.env o.dst e) (r.sto o.dst s) (a.put o.dst v) w'
theorem y3.wp(h:y3 P C nt R η e s a w o r){K:Act->World->Prop}{Q:Exit->Act->World->Prop}(hK:∀η' a' w',Conc C nt (r.rng o.dst R) η' (r.env o.dst e) (r.sto o.dst s) a' w' -> K a' w'):o.wp P a w K Q:=by
 obtain⟨v,w',b|⟨b,rfl⟩,c⟩:=h
 .exact Bi b (hK _ _ _ c)
 .exact kI b (hK _ _ _ c)
theorem Q8G(d:Option Tmp)(x:AVal)(c:Prop):SR.rng {v:=x,cond:=c} d R=R:=by funext i;simp[SR.rng]
theorem Q5P(d:Option Tmp)(x:AVal)(c:Prop):SR.sto {v:=x,cond:=c} d s=s:=by funext i;simp[SR.sto]
theorem Z3T(d:Option Tmp)(x:AVal)(c:Prop)(v:Value):SR.eta {v:=x,cond:=c} d v η=η:=by funext i;simp[SR.eta]
theorem Z3X(d:Option Tmp)(x:AVal)(c:Prop):SR.env {v:=x,cond:=c} d e=SR.env {v:=x} d e:=rfl
theorem QY(h:Conc C nt R η e s a w)(hd:∀x,o.dst=some x->x<nt){x:AVal}{c:Prop}(hr:(execOp a.eval o).run P w=.ok (.value v) w)(hv:ARep w (XS C s η) η C v x)(hx:∀j∈x.refs,R j):y3 P C nt R η e s a w o {v:=x,cond:=c}:=by
 refine⟨v,w,.inl hr,?_⟩;rw[Q8G,Q5P,Z3T,Z3X]
 exact h.val o.dst hd x v λ_=>⟨hv,hx⟩
theorem Z5O(v:Value)(X:Nat->Prop):ARep w X η C v (FQ v)/\(FQ v).refs=[]:=by
 unfold FQ;split
 .exact ⟨.v _ _ (.c _ _ (.d _ _ (.int _ _))),rfl⟩
 .exact ⟨.v _ _ (.c _ _ (.d _ _ (.bool _))),rfl⟩
 .exact ⟨.v _ _ (.c _ _ (.d _ _ (.str _))),rfl⟩
 .exact ⟨.v _ _ (.c _ _ (.fl _ _ _ (.nil _ _ _))),rfl⟩
 .exact ⟨.any _,rfl⟩
theorem J9(h:Conc C nt R η e s a w)(x:Operand):ARep w (XS C s η) η C (a.eval x) (Y2 e x)/\∀j∈(Y2 e x).refs,R j:=by
 cases x with
 |tmp t=>exact⟨h.ev t,h.er t⟩
 |const v=>
  obtain⟨b,d⟩:=Z5O (w:=w) (η:=η) (C:=C) v (XS C s η);exact⟨b,by simp only[Y2];rw[d];simp⟩
 |global g=>exact⟨.any _,by simp[Y2,AVal.refs]⟩
 |func f=>exact⟨.v _ _ (.c _ _ (.clo f [] #[] rfl)),by simp[Y2,AVal.refs,TV.refs,CV.refs]⟩
theorem vv{α β:Type}(f:α->List β)(l:List α)(n:Nat):∀j∈(l.take n).flatMap f,j∈l.flatMap f:=by
 grind
theorem vw{α β:Type}(f:α->List β)(l:List α)(n:Nat):∀j∈(l.drop n).flatMap f,j∈l.flatMap f:=by
 grind
theorem cU(ds:List DVal):(ds.map CV.d).flatMap CV.refs=[]:=by
 induction ds with
 |nil=>rfl
 |cons x r ih=>simp[CV.refs]
theorem vp{α:Type}(l:List α)(off n j:Nat)(x:α)(hj:j<n):((l.drop off).take n).getD j x=l.getD (off+j) x:=by
 grind
theorem Q0j(h:Conc C nt R η e s a w){x:AVal}{c:Prop}(hr:rd s n x=some (cs,c))(hc:c)(hv:ARep w (XS C s η) η C v x):
  ∃b off c' e' fz,v=.pointer (some ⟨b,off,none⟩)/\w.heap[b]?=some (.cells c' e' fz)/\off+n<=c'.size/\cs.length=n /\
   (∀j,j<n->CRep w (XS C s η) η C (c'.getD (off+j) undef) (cs.getD j (.d .any)))/\∀j∈cs.flatMap CV.refs,R j:=by
 unfold rd at hr;split at hr
 .rename_i r off
  split at hr
  .rename_i B A q
   split at hr
   .rename_i m
    cases hr
    have i:=h.st r _ q
    cases hv with
    |v _ _ hv=>
    cases hv with
    |c _ _ hv=>
    cases hv with
    |ptr b _ _ he=>
    rw[he]at i
    cases i with
    |box _ _ c' e' _ hb hcs=>
    have t:=hcs.1;refine⟨b,off,c',e',(0,0),rfl,hb,by omega,by simp;omega,λj l=>?_,λj l=>?_⟩
    .rw [vp _ _ _ _ _ l];exact hcs.2 (off+j) (by omega)
    .exact (h.sr r _ q).2 j (vw _ _ _ j (vv _ _ _ j l))
   .cases hr
  .cases hr
 .rename_i u
  split at hr
  .rename_i m
   cases hr
   cases hv with
   |v _ _ hv=>
   cases hv with
   |c _ _ hv=>
   cases hv with
   |elm b off c' e' fz _ hX hb p hd=>
   refine⟨b,off,c',e',fz,rfl,hb,by omega,by simp;omega,λj l=>?_,λj l=>?_⟩
   .have:((u.take n).map CV.d).getD j (.d .any)=.d (u.getD j .any):=by
     grind
    rw[this];exact .d _ _ (hd j (by omega))
   .rw [cU]at l;cases l
  .cases hr
 .rename_i r o g off
  split at hr
  .rename_i y k f q
   split at hr
   .rename_i m
    obtain⟨rfl,m,p⟩:=m;cases hr
    have i:=h.st r _ q
    cases hv with
    |v _ _ hv=>
    cases hv with
    |c _ _ hv=>
    cases hv with
    |pte b n' cap _ _ _ _ he=>
    rw[he]at i
    cases i with
    |nil=>exact absurd hc (by omega)
    |arr _ _ _ _ c' e' _ hb t hn hm hc0 hl hel=>
    have z:g*o+o<=cap*o:=by
     have:(g+1)*o<=cap*o:=Qb3 _ (by omega)
     grind
    refine⟨b,g*o+off,c',e',(0,0),rfl,hb,by omega,by simp;omega,λj l=>?_,λj l=>?_⟩
    .have:(((((f g).drop off).take n).map CV.d)).getD j (.d .any)=.d ((f g).getD (off+j) .any):=by
      grind
     rw[this];have:=hel g (off+j) hc (by omega)
     rw[Qi5];exact .d _ _ this
    .rw [cU]at l;cases l
   .cases hr
  .cases hr
 .cases hr
end
end
section
section
variable {P:Program} {L:Lay} {C:Ctx} {nt:Nat} {R:Nat->Prop} {η:Nat->Value} {e:U4} {s:U6} {a:Act} {w:World}
theorem kH{n:Int}(h:Q8 n):IntKind.i64.wrap n=n:=by
  obtain ⟨b,c⟩:=h;have e:IntKind.i64.wrap n=if n % 18446744073709551616 ≥ 9223372036854775808 then n % 18446744073709551616-18446744073709551616 else n % 18446744073709551616:=by
    simp[IntKind.wrap,IntKind.bits,IntKind.signed]
  grind
theorem WV{k:IntKind}{n:Int}(h:ARep w (XS C s η) η C v (.v (.c (.d (.int k n))))):v=.int k n:=by
  cases h with|v _ _ h=>cases h with|c _ _ h=>cases h with|d _ _ h=>cases h;rfl
theorem FF{b:Bool}(h:ARep w (XS C s η) η C v (.v (.c (.d (.bool b))))):v=.bool b:=by
  cases h with|v _ _ h=>cases h with|c _ _ h=>cases h with|d _ _ h=>cases h;rfl
theorem KH{b:ByteArray}(h:ARep w (XS C s η) η C v (.v (.c (.d (.str b))))):v=.string b:=by
  cases h with|v _ _ h=>cases h with|c _ _ h=>cases h with|d _ _ h=>cases h;rfl
theorem WF(X:Nat->Prop)(k:IntKind)(n:Int):ARep w X η C (.int k n) (.v (.c (.d (.int k n)))):=.v _ _ (.c _ _ (.d _ _ (.int _ _)))
theorem FD(X:Nat->Prop)(b:Bool):ARep w X η C (.bool b) (.v (.c (.d (.bool b)))):=.v _ _ (.c _ _ (.d _ _ (.bool _)))
def ye(r:SR)(v:Value):Prop:=∃x c,r={v:=x,cond:=c} /\ (c->∀(w:World) (X:Nat->Prop) (η:Nat->Value) (C:Ctx),ARep w X η C v x)/\x.refs=[]
theorem FO(m:Bool)(k:IntKind)(n:Int)(c:Prop):(UL m k n c).cond->ye (UL m k n c) (.int k (k.wrap n))/\c:=by
  unfold UL;split
  . intro h
    refine⟨⟨_,_,rfl,λ_ w X η C=>?_,rfl⟩,h.2⟩;rw[kH h.1];exact WF _ _ _
  . intro h
    exact⟨⟨_,_,rfl,λ_ w X η C=>WF _ _ _,rfl⟩,h⟩
theorem Z5Q(op:BinOp)(t:TypeId)(m:Bool){k k' : IntKind}{n: Int}(w:World)(hr:Xe m op (.v (.c (.d (.int k n)))) (.v (.c (.d (.int k' n'))))=some r)(hc:r.cond):
    ∃v,(binOp op t (.int k n) (.int k' n')).run P w=.ok v w/\ye r v:=by
  simp only[Xe]at hr;split at hr
  . cases hr
    obtain⟨b,g⟩:=FO m k _ _ hc;refine⟨_,?_,b⟩
    have:¬n' < 0:=by omega
    simp[binOp,Op.shift,this]
  . cases hr
    have:¬n' < 0:=by have:(0:Int)<=n':=hc;omega
    exact⟨.int k (n.fdiv (2 ^ min n'.toNat k.bits)),by simp[binOp,Op.shift,this],_,_,rfl,λ_ _ _ _ _=>WF _ _ _,rfl⟩
  . rename_i i h
    split at hr
    . rename_i j
      subst j;split at hr <;> first
        |(cases hr;done)
        | (cases hr
           obtain⟨b,g⟩:=FO m k _ _ hc;refine⟨_,?_,b⟩
           first
             |(simp[binOp,Op.intArith];done)
             |(simp[binOp,Op.intDiv,g];done))
        | (cases hr
           have f : n' ≠ 0:=hc;exact⟨.int k (n.tmod n'),by simp[binOp,Op.intDiv,f],_,_,rfl,λ_ _ _ _ _=>WF _ _ _,rfl⟩)
        |(cases hr;refine⟨.int k (QO k n n'),?_,_,_,rfl,λ_ _ _ _ _=>WF _ _ _,rfl⟩;simp[binOp,Op.intBits,QO];done)
        |(cases hr;refine⟨.int k (G5 k n n'),?_,_,_,rfl,λ_ _ _ _ _=>WF _ _ _,rfl⟩;simp[binOp,Op.intBits,G5];done)
        |(cases hr;refine⟨.int k (xJ k n n'),?_,_,_,rfl,λ_ _ _ _ _=>WF _ _ _,rfl⟩;simp[binOp,Op.intBits,xJ];done)
        |(cases hr;refine⟨.bool _,?_,_,_,rfl,λ_ _ _ _ _=>FD _ _,rfl⟩;simp[binOp,Op.intCmp];done)
    . cases hr
theorem Q8x(op:BinOp)(t:TypeId)(x y:Operand)(k k' : IntKind)(n n' : Int)(w:World):(eqGuard op t x y (.int k n) (.int k' n')).run P w=.ok () w:=by
  unfold eqGuard;split<;>rfl
theorem Rf(h:Conc C nt R η e s a w)(hd:∀ x,o.dst=some x->x<nt)(hn:ye r v)(hc:r.cond)(hr:(execOp a.eval o).run P w=.ok (.value v) w):y3 P C nt R η e s a w o r:=by
  obtain⟨x,c,rfl,b,d⟩:=hn;exact QY h hd hr (b hc _ _ _ _) (by rw[d];simp)
theorem Q7m(h:Conc C nt R η e s a w)(hd:∀ x,o.dst=some x->x<nt){op:BinOp}{t': TypeId}(hop:o.op=.binOp op t x y t')(hr:Xe m op (Y2 e x) (Y2 e y)=some r)(hc:r.cond):y3 P C nt R η e s a w o r:=by
  have f:=(J9 h x).1;have b:=(J9 h y).1
  unfold Xe at hr;split at hr
  . rename_i k n z g q u
    rw[q]at f;rw[u]at b
    have p:=WV f;have l:=WV b
    obtain⟨v,i,j⟩:=Z5Q (P:=P) op t m w (show Xe m op (.v (.c (.d (.int k n)))) (.v (.c (.d (.int z g))))=some r from hr) hc;refine Rf h hd j hc ?_
    simp only[execOp,hop,Qd9,p,l,Q8x,i,Qd0,Qe9]
  . cases hr
theorem Q6V(h:Conc C nt R η e s a w)(hd:∀ x,o.dst=some x->x<nt){op:UnOp}(hop:o.op=.unOp op t x)(hr:FJ m op (Y2 e x)=some r)(hc:r.cond):y3 P C nt R η e s a w o r:=by
  have c:=(J9 h x).1;unfold FJ at hr
  split at hr
  . rename_i b f
    cases hr
    rw[f]at c;have d:=FF c
    exact Rf h hd ⟨_,_,rfl,λ_ _ _ _ _=>FD _ _,rfl⟩ hc (by simp[execOp,hop,d,Op.unary])
  . rename_i k n f
    cases hr
    rw[f]at c;have d:=WV c
    obtain⟨g,_⟩:=FO m k (0-n) _ hc;exact Rf h hd g hc (by simp[execOp,hop,d,Op.unary,Op.intArith])
  . cases hr
theorem gZ(h:Conc C nt R η e s a w)(hd:∀ x,o.dst=some x->x<nt)(hop:o.op=.move x\/o.op=.assign x):y3 P C nt R η e s a w o { v:=Y2 e x }:=by
  obtain⟨b,c⟩:=J9 h x;refine QY h hd ?_ b c
  rcases hop with hop|hop<;>simp[execOp,hop]
theorem gX(h:Conc C nt R η e s a w)(hd:∀ x,o.dst=some x->x<nt){c:Operand}(hop:o.op=.pick c x y){b:Bool}(hb:Y2 e c=.v (.c (.d (.bool b)))):
    y3 P C nt R η e s a w o {v:=Y2 e (if b then x else y)}:=by
  have f:=(J9 h c).1;rw[hb]at f
  have j:=FF f;obtain⟨g,i⟩:=J9 h (if b then x else y)
  refine QY h hd ?_ g i
  cases b<;>simp[execOp,hop,j,asBool]
theorem Q7c(hL:y4 P L)(h:Conc C nt R η e s a w)(hd:∀ x,o.dst=some x->x<nt)(hop:o.op=.load t x)(ht:L t=some ti){c:Prop}(hr:rd s ti.size (Y2 e x)=some (cs,c)){v:AVal}(hv:Vn ti.kind.agg cs=some v)(hc:c):y3 P C nt R η e s a w o { v:=v,cond:=c }:=by
  obtain⟨i,d,z,r⟩:=hL t ti ht;obtain⟨b,f,q,F,fz,E,D,B,A,l,m⟩:=Q0j h hr hc (J9 h x).1
  have u:ti.kind.agg=false->ti.size=1:=by
    intro k;rw[k]at hv
    simp only[Vn]at hv
    grind
  have n:=jY r D B u;refine QY h hd (v:=if ti.kind.agg then .agg (Ze q f ti.size).toArray else q.getD f undef) ?_ ?_ ?_
  . simp only[execOp,hop,Qd9,Instr.loadAt,E,Instr.sureAddr,Qe9,Qd0,n]
  . unfold Vn at hv
    split at hv
    . rename_i k
      cases hv
      simp only[k,Qh8];refine .v _ _ (.g _ _ ⟨by simp[Ze,A],λj p=>?_⟩)
      rw[A]at p;have:(Ze q f ti.size).toArray.getD j undef=q.getD (f+j) undef:=by simp[Ze,p]
      rw[this];exact l j p
    . rename_i k
      split at hv
      . cases hv
        rename_i y
        simp only[k,Qh1,Qh2];have:=l 0 (by rw[u k];exact Nat.zero_lt_one)
        exact .v _ _ (.c _ _ (by simpa using this))
      . cases hv
  . unfold Vn at hv
    split at hv
    . cases hv;exact m
    . split at hv
      . cases hv;intro j p;exact m j (by simpa[AVal.refs,TV.refs]using p)
      . cases hv
theorem Q7j(hL:y4 P L)(h:Conc C nt R η e s a w)(hd:∀ x,o.dst=some x->x<nt)(hop:o.op=.fieldAddr t x k)(ht:L t=some ti){fs:List (Nat×Nat)}(hk:ti.kind=.struct fs){ft:Nat}(hf:fs[k]?=some (off,ft)){tf:TI}(hft:L ft=some tf)(hz:tf.size≠0){v:AVal}(hv:∀ b o',a.eval x=.pointer (some ⟨b,o',none⟩)->ARep w (XS C s η) η C (.pointer (some ⟨b,o' + off,none⟩)) v)(hx:∀ j ∈ v.refs,R j)(hp:∃ b o',a.eval x=.pointer (some ⟨b,o',none⟩)):y3 P C nt R η e s a w o { v:=v }:=by
  obtain⟨i,d,z,g⟩:=hL t ti ht;obtain⟨y,u,A,p⟩:=hL ft tf hft
  have l:=g.kind;rw[hk]at l
  obtain⟨c,rfl,r⟩:=l;obtain⟨b,o',q⟩:=hp
  have m : ∃ f,c[k]?=some f/\f.offset=off/\f.type=ft:=by
    grind
  obtain⟨f,n,rfl,rfl⟩:=m;refine QY h hd ?_ (hv b o' q) hx
  simp only[execOp,hop,Qd9,Instr.fieldAt,Qc1 g.und,Qd0,n,q,Instr.sureAddr,Qe9,fieldPlace,Yq p,hz,Qh2,add_lit]
theorem zP(X:Nat->Prop)(h:η id=.pointer (some ⟨b,0,none⟩)):ARep w X η C (.pointer (some ⟨b,off,none⟩)) (.v (.c (.ptr id off))):=.v _ _ (.c _ _ (.ptr _ _ _ h))
theorem DI(h:ARep w (XS C s η) η C v (.v (.c (.ptr id off)))):∃ b,v=.pointer (some ⟨b,off,none⟩)/\η id=.pointer (some ⟨b,0,none⟩):=by
  cases h with|v _ _ h=>cases h with|c _ _ h=>cases h with|ptr b _ _ h=>exact⟨b,rfl,h⟩
theorem zQ{idx:Nat}(h:ARep w (XS C s η) η C v (.v (.c (.pte id es idx off)))):∃ b n cap,v=.pointer (some ⟨b,idx*es+off,none⟩)/\η id=.slice (some ⟨b,0,none⟩) n cap:=by
  cases h with|v _ _ h=>cases h with|c _ _ h=>cases h with|pte b n cap _ _ _ _ h=>exact⟨b,n,cap,rfl,h⟩
theorem Q2q{cs:List DVal}(h:ARep w (XS C s η) η C v (.v (.c (.elm cs)))):∃ b off c e' fz,v=.pointer (some ⟨b,off,none⟩)/\¬ XS C s η b/\w.heap[b]?=some (.cells c e' fz) /\
    off+cs.length<=c.size/\∀j,j<cs.length->DRep w (XS C s η) (c.getD (off+j) undef) (cs.getD j .any):=by
  cases h with|v _ _ h=>cases h with|c _ _ h=>cases h with|elm b off c e' fz _ hX hb ho hc=>exact⟨b,off,c,e',fz,rfl,hX,hb,ho,hc⟩
theorem WA(h:ARep w (XS C s η) η C v (.v (.c (.own id)))):v=η id:=by
  cases h with|v _ _ h=>cases h with|c _ _ h=>cases h with|own _ _ h _=>exact h
theorem Z3Y{e' : TypeId}{fz:Nat×Nat}{cs:List DVal}(X:Nat->Prop)(hX:¬ X b)(hb:w.heap[b]?=some (.cells c e' fz))(ho:off+cs.length<=c.size)(hc:∀ j,j<cs.length->DRep w X (c.getD (off+j) undef) (cs.getD j .any))(k:Nat)(hk:k<=cs.length):
    ARep w X η C (.pointer (some ⟨b,off+k,none⟩)) (.v (.c (.elm (cs.drop k)))):=by
  refine .v _ _ (.c _ _ (.elm b (off+k) c e' fz _ hX hb (by simp;omega) λj f=>?_));have d : k+j<cs.length:=by simp at f;omega
  have:=hc (k+j) d
  have g:(cs.drop k).getD j .any=cs.getD (k+j) .any:=by simp[Qa0]
  rw[g,Qi5];exact this
theorem xP{x:AVal}(h:ARep w (XS C s η) η C v x)(hx:Zj.asF x=some (n,f)):
    ∃ad cap,v=.slice ad n cap/\DRep w (XS C s η) v (.lst n f):=by
  unfold Zj.asF at hx;split at hx
  . cases hx
    cases h with|v _ _ h=>cases h with|c _ _ h=>cases h with|d _ _ h=>
    cases h with
    |nil ad cap _=>exact⟨ad,cap,rfl,.nil _ _ _⟩
    |lst b off _ cap c e' fz _ es h1 h2 h3 h4 h5 h6=>exact⟨_,cap,rfl,.lst b off _ cap c e' fz _ es h1 h2 h3 h4 h5 h6⟩
  . cases hx
    cases h with|v _ _ h=>cases h with|c _ _ h=>cases h with|fl ad _ _ h=>exact⟨ad,_,rfl,h⟩
  . cases hx
end
end
section
theorem Z5R(h:v.oneCell'=true):v.cells=#[v]:=by
 cases v<;>first|rfl|(simp[Value.oneCell']at h)
section
variable {P:Program} {L:Lay} {C:Ctx} {nt:Nat} {R:Nat->Prop} {η:Nat->Value} {e:U4} {s:U6} {a:Act} {w:World}
theorem xF{X:Nat->Prop}{x:AVal}(h:ARep w X η C v x)(hx:Xd x=some xs):y9 w X η C v.cells xs/\∀j∈xs.flatMap CV.refs,j∈x.refs:=by
 unfold Xd at hx;split at hx
 .cases hx
  cases h with|v _ _ h=>cases h with|c _ _ h=>
  rw[Z5R h.one];exact⟨⟨rfl,λj b=>by
   have:j=0:=by simp at b;omega
   subst this;simpa using h⟩,λj b=>by simpa[AVal.refs,TV.refs]using b⟩
 .cases hx
  cases h with|v _ _ h=>cases h with|g vs _ h=>
  exact⟨h,λj b=>b⟩
 .cases hx
theorem KK{α:Type}(cs xs:List α)(off:Nat)(h:off+xs.length<=cs.length):(Yo cs off xs).length=cs.length:=by
 simp[Yo];omega
theorem Re{α:Type}(cs xs:List α)(off t:Nat)(d:α)(h:off+xs.length<=cs.length):
  (Yo cs off xs).getD t d=if off<=t/\t<off+xs.length then xs.getD (t-off) d else cs.getD t d:=by
 unfold Yo;simp only[Qa0,Qf1,Qd7,Qk2,Qt2]
 have b:min off cs.length=off:=by omega
 rw[b]
 by_cases h1:t<off
 .rw [Qa2 h1,Qa2 h1,Qa1 (by omega)]
 .rw [Qa1 h1]
  by_cases h2:t<off+xs.length
  .rw [Qa2 (by omega),Qa2 (by omega)]
  .rw [Qa1 (by omega),Qa1 (by omega)]
   congr 2;omega
theorem gH{α:Type}(cs xs:List α)(off:Nat):∀x∈Yo cs off xs,x∈cs\/x∈xs:=by
 intro x b;unfold Yo at b
 grind
theorem Z3l(off:Nat)(vs:List Value):∀ (k:Nat) (cs:Array Value),off+k+vs.length<=cs.size ->
  ((vs.zipIdx k).foldl (λcs p=>cs.setIfInBounds (off+p.2) p.1) cs).size=cs.size /\
  ∀t,((vs.zipIdx k).foldl (λcs p=>cs.setIfInBounds (off+p.2) p.1) cs).getD t undef=if off+k<=t/\t<off+k+vs.length then vs.getD (t-off-k) undef else cs.getD t undef:=by
 induction vs with
 |nil=>intro k cs _;refine⟨rfl,λt=>?_⟩;rw[Qa1 (by simp)];rfl
 |cons v r ih=>
  intro k cs h;simp only[Qb1]at h
  obtain⟨b,c⟩:=ih (k+1) (cs.setIfInBounds (off+k) v) (by simp;omega);refine⟨by simpa[Qq4]using b,λt=>?_⟩
  simp only[Qq4,Qr0,Qb1];rw[c t]
  by_cases h3:off+(k+1)<=t/\t<off+(k+1)+r.length
  .grind
  .rw [Qa1 h3]
   by_cases h4:t=off+k
   .subst h4
    rw[Qa2 (by omega)];have:off+k<cs.size:=by omega
    simp[this]
   .rw [Qa1 (by omega)]
    simp[Ne.symm h4]
theorem Q1Y{X:Nat->Prop}{pl:Nat->Option (Nat×Nat)}:∀ (ps:List (Nat×AVal)) (vs:List (Nat×Value)) (cells:List CV) (vc:Array Value) (cs:List CV),
  UB pl cells ps=some cs->y9 w X η C vc cells->vs.map (·.1)=ps.map (·.1)->(∀(j:Nat) x v,ps[j]?=some x->vs[j]?=some v->ARep w X η C v.2 x.2) ->
  ∃vc',Instr.fill pl vc vs=some vc' /\ y9 w X η C vc' cs/\∀j∈cs.flatMap CV.refs,j∈cells.flatMap CV.refs\/∃x∈ps,j∈x.2.refs:=by
 intro ps
 induction ps with
 |nil=>
  intro vs cells vc cs h r g _;cases h
  have:vs=[]:=by simpa using g
  subst this;exact⟨vc,rfl,r,λj d=>.inl d⟩
 |cons p ps ih=>
  intro vs cells vc cs h r g I;obtain⟨i,x⟩:=p
  cases vs with
  |nil=>simp at g
  |cons v vs=>
   obtain⟨O,v⟩:=v;simp only[Qf7,Qm8]at g
   obtain⟨rfl,g⟩:=g;simp only[UB]at h
   split at h
   .rename_i b c H F D
    split at h
    .rename_i q
     obtain⟨f,q⟩:=q;have B:ARep w X η C v x:=I 0 _ _ rfl rfl
     obtain⟨m,E⟩:=xF B D;have o:v.cells.size=c:=by rw[m.1,f]
     have A:vc.size=cells.length:=r.1;have G:=Z3l b v.cells.toList 0 vc (by simp[o];omega)
     have k:v.cells.zipIdx.foldl (λcs (p:Value×Nat)=>cs.setIfInBounds (b+p.2) p.1) vc=(v.cells.toList.zipIdx 0).foldl (λcs p=>cs.setIfInBounds (b+p.2) p.1) vc:=by
      rw[<-Array.foldl_toList,Array.toList_zipIdx]
     have n:y9 w X η C (v.cells.zipIdx.foldl (λcs (p:Value×Nat)=>cs.setIfInBounds (b+p.2) p.1) vc) (Yo cells b H):=by
      rw[k];refine⟨by rw[G.1,KK _ _ _ (by omega)];exact A,λt J=>?_⟩
      rw[G.2 t,Re _ _ _ _ _ (by omega)];rw[KK _ _ _ (by omega)]at J
      simp only[Qh3,Qr1,Qo8,o,f]
      by_cases l:b<=t/\t<b+c
      .rw [Qa2 l,Qa2 l]
       have:=m.2 (t-b) (by omega)
       simpa[Qa0]using this
      .rw [Qa1 l,Qa1 l]
       exact r.2 t J
     obtain⟨vc',Q,M,l⟩:=ih vs (Yo cells b H) _ cs h n g (λj x v K B=>I (j+1) x v (by simpa using K) (by simpa using B));refine⟨vc',?_,M,λj d=>?_⟩
     .simp only[Instr.fill,F]
      grind
     .rcases l j d with d|⟨y,N,d⟩
      .obtain ⟨z,u,d⟩:=Qb8.1 d
       rcases gH _ _ _ z u with u|u
       .grind
       .exact .inr ⟨_,Qh9,E j (Qb8.2 ⟨z,u,d⟩)⟩
      all_goals grind
    .cases h
   .cases h
theorem Q8u(hL:y4 P L):∀ (fields:List Field) (fs:List (Nat×Nat)) (pl:List (Nat×Nat)),fields.map (fun f=>(f.offset,f.type))=fs->Pv L fs=some pl ->
  fields.mapM (λf=>(P.info? f.type).map λi=>(f.offset,i.size))=some pl:=by
 intro fields
 induction fields with
 |nil=>intro fs pl g b;subst g;simpa[Pv]using b
 |cons f r ih=>
  intro fs pl g b;subst g
  simp only[Qf7,Pv]at b;split at b
  .rename_i k l h j
   cases b
   obtain⟨i,d,z,c⟩:=hL _ _ h;have:=ih _ l rfl j
   simp[List.mapM_cons,c.info,this,c.size]
  .cases b
theorem Q2m(h:Conc C nt R η e s a w)(ps:Array (Nat×Operand)):
  ((ps.map λ(p:Nat×Operand)=>(p.1,a.eval p.2)).toList).map (·.1)=(ps.toList.map λp=>(p.1,Y2 e p.2)).map (·.1) /\
  (∀(j:Nat) x v,(ps.toList.map λp=>(p.1,Y2 e p.2))[j]?=some x->((ps.map λ(p:Nat×Operand)=>(p.1,a.eval p.2)).toList)[j]?=some v->ARep w (XS C s η) η C v.2 x.2) /\
  ∀x∈(ps.toList.map λp=>(p.1,Y2 e p.2)),∀j∈x.2.refs,R j:=by
 refine⟨by simp,λj x v b c=>?_,λx b j d=>?_⟩
 .rw [Qk9]at b
  simp only[Array.toList_map,Qk9]at c
  cases hp:ps.toList[j]? with
  |none=>rw[hp]at b;cases b
  |some p=>
   rw[hp]at b c
   cases b;cases c
   exact(J9 h p.2).1
 .obtain ⟨p,_,rfl⟩:=Qc5.1 b
  exact(J9 h p.2).2 j d
theorem jd(hL:y4 P L)(h:Conc C nt R η e s a w)(hd:∀x,o.dst=some x->x<nt){ps:Array (Nat×Operand)}(hop:o.op=.build t ps)(ht:L t=some ti){pl:Nat->Option (Nat×Nat)}(hpl:(∃fs l,ti.kind=.struct fs/\Pv L fs=some l/\pl=λi=>l[i]?)\/(∃n el te,ti.kind=.array n el/\L el=some te/\pl=λi=>some (i*te.size,te.size)))(hf:UB pl ti.zero (ps.toList.map λp=>(p.1,Y2 e p.2))=some cs):y3 P C nt R η e s a w o {v:=.v (.g cs)}:=by
 obtain⟨i,d,z,b⟩:=hL t ti ht;obtain⟨G,E,H⟩:=Q2m h ps
 obtain⟨A,c,q,y⟩:=Q1Y _ _ _ _ _ hf (b.zrep w (XS C s η) η C) G E;refine QY h hd (v:=.agg A) ?_ (.v _ _ (.g _ _ q)) λj m=>?_
 .have F:P.built t (ps.map fun (p:Nat×Operand)=>(p.1,a.eval p.2)).toList=some A:=by
   have r:=b.kind;rcases hpl with ⟨fs,l,k,I,rfl⟩|⟨n,el,te,k,D,rfl⟩
   .rw [k]at r
    obtain⟨u,rfl,B⟩:=r;have:=Q8u hL _ _ _ B I
    simp only[Program.built,b.info,b.und,b.zero,this];simpa using c
   .rw [k]at r
    simp only[ZL]at r;subst r
    obtain⟨M,K,N,f⟩:=hL el te D;simp only[Program.built,b.info,b.und,b.zero,f.info,f.size]
    exact c
  simp only[execOp,hop,Qd9];rw[run_build w t _ A F];rfl
 .rcases y j m with m|⟨x,J,m⟩
  .rw [b.zrefs]at m;cases m
  .exact H x J j m
theorem gY(h:Conc C nt R η e s a w)(hd:o.dst=some d)(hdn:d<nt)(hR:¬ R d){ety:TypeId}(hrun:(execOp a.eval o).run P w=.ok (.value (.pointer (some ⟨w.heap.size,0,none⟩))) { w with heap:=w.heap.push (.cells vs ety) })(hcs:y9 w (XS C s η) η C vs cs)(hrf:∀ j ∈ cs.flatMap CV.refs,R j):
  y3 P C nt R η e s a w o {v:=.v (.c (.ptr d 0)),new:=some (.box false cs)}:=by
 refine⟨_,_,.inl hrun,?_⟩;have i:∀b,b∈Y7 (.pointer (some (⟨w.heap.size,0,none⟩:Addr)))->w.heap.size<=b:=by intro b g;simp[Y7]at g;omega
 have r:=Jj (C:=C) (s:=s) (η:=η) {v:=.v (.c (.ptr d 0)),new:=some (.box false cs)} o.dst (.pointer (some ⟨w.heap.size,0,none⟩)) (λ_=>False) (Stp.alloc _ w (.cells vs ety)) (λb g=>g.elim)
  (λ_ _ _ _ b g=>.inl (i b g)) (λk o m=>by cases m)
 have p:=Z3U (η:=η) (R:=R) {v:=.v (.c (.ptr d 0)),new:=some (.box false cs)} o.dst (.pointer (some ⟨w.heap.size,0,none⟩)) (λ_ dd _ f=>by rw[hd]at f;cases f;exact hR);refine h.step o.dst (λx q=>by rw[hd]at q;cases q;exact hdn) _ _ _ (λ_=>False) (Stp.alloc _ w _) (λb g=>g.elim) ?_ (λk o m=>by cases m) ?_
 .intro t dd n f
  cases n
  rw[hd]at f;cases f
  exact⟨hR,rfl,hrf,.box _ _ vs ety cs (by simp) (hcs.mono r λj l=>p j (hrf j l)),λb g=>.inl (i b g)⟩
 .intro _
  refine⟨zP _ (by simp[SR.eta,hd]),λj l=>?_⟩;simp[AVal.refs,TV.refs,CV.refs]at l
  exact .inr ⟨by simp,by rw[hd,l]⟩
theorem Q7o(hL:y4 P L)(h:Conc C nt R η e s a w)(hd:o.dst=some d)(hdn:d<nt)(hR:¬ R d)(hop:o.op=.alloc t)(ht:L t=some ti):
  y3 P C nt R η e s a w o {v:=.v (.c (.ptr d 0)),new:=some (.box false ti.zero)}:=by
 obtain⟨i,dd,z,b⟩:=hL t ti ht;refine gY h hd hdn hR (vs:=z.cells) (ety:=t) ?_ (b.zrep _ _ _ _) (by rw[b.zrefs];simp)
 simp[execOp,hop,Instr.alloc,RP b,newVar,newRow]
theorem Q7l(h:Conc C nt R η e s a w)(hd:o.dst=some d)(hdn:d<nt)(hR:¬ R d)(hop:o.op=.box t x)(hx:Xd (Y2 e x)=some xs):
  y3 P C nt R η e s a w o {v:=.v (.c (.ptr d 0)),new:=some (.box false xs)}:=by
 obtain⟨g,b⟩:=J9 h x;obtain⟨k,f⟩:=xF g hx
 refine gY h hd hdn hR (vs:=(a.eval x).cells) (ety:=t) ?_ k λj i=>b j (f j i)
 simp[execOp,hop,Instr.box,newVar,newRow]
end
end
section
section
variable {P:Program} {L:Lay} {C:Ctx} {nt:Nat} {R:Nat->Prop} {η:Nat->Value} {e:U4} {s:U6} {a:Act} {w:World}
theorem Q5j{X:Nat->Prop}{x:CV}{y:DVal}(h:CRep w X η C v x)(hx:LD x=some y):DRep w X v y:=by
 unfold LD at hx;split at hx
 .cases hx;cases h with|d _ _ h=>exact h
 .cases hx;cases h with|fl _ _ _ h=>exact h
 .cases hx
theorem kQ{X:Nat->Prop}:∀ (cs:List CV) (ds:List DVal) (c:Array Value) (off:Nat),VE cs=some ds->(∀ j,j<cs.length->CRep w X η C (c.getD (off+j) undef) (cs.getD j (.d .any))) ->
  ds.length=cs.length/\∀j,j<ds.length->DRep w X (c.getD (off+j) undef) (ds.getD j .any):=by
 intro cs
 induction cs with
 |nil=>intro ds c off h _;cases h;exact⟨rfl,λj b=>by simp at b⟩
 |cons x r ih=>
  intro ds c off h g;simp only[VE]at h
  split at h
  .rename_i y m k f
   cases h
   obtain⟨i,l⟩:=ih m c (off+1) f (λj b=>by have:=g (j+1) (by simp;omega);rwa [Qi5,Ql7 1 j]);refine⟨by simp[i],λj b=>?_⟩
   cases j with
   |zero=>exact Q5j (g 0 (by simp)) k
   |succ j=>have:=l j (by simpa using b);rw[Qi5,Ql7 1 j]at this;simpa using this
  .cases h
theorem setRow_stp(w:World)(b:Nat)(cs:Array Value):Stp (λx=>x=b) w (w.setRow b cs):=
 ⟨rfl,rfl,rfl,by simp,λx _ c=>setRow_other w b x cs c,Qb4 _⟩
theorem RF(c:Array Value)(off:Nat)(vs:List Value)(h:off+vs.length<=c.size):
  (c.toList.take off++vs++c.toList.drop (off+vs.length)).toArray.size=c.size /\
  ∀t,(c.toList.take off++vs++c.toList.drop (off+vs.length)).toArray.getD t undef=if off<=t/\t<off+vs.length then vs.getD (t-off) undef else c.getD t undef:=by
 have b:off+vs.length<=c.toList.length:=by simpa using h
 have d:c.toList.take off++vs++c.toList.drop (off+vs.length)=Yo c.toList off vs:=by simp[Yo]
 rw[d];refine⟨by simp[KK _ _ _ b],λt=>?_⟩
 have:=Re c.toList vs off t undef b
 simpa[Qa0,Qd4]using this
theorem gW(h:Conc C nt R η e s a w)(hd:o.dst=none){ob ob' : Obj}(hs:s id=some ob)(hro:ob.ro=false)(hro' : ob'.ro=false)(hrf:∀j∈ob'.refs,R j){cs:Array Value}{c:Prop}(hb:b∈Y7 (η id))(hrun:(execOp a.eval o).run P w=.ok .skip (w.setRow b cs))(hob:∀X',QS w (w.setRow b cs) (XS C s η) X' -> ORep (w.setRow b cs) X' η C (η id) ob'):y3 P C nt R η e s a w o {upd:=some (id,ob'),cond:=c}:=by
 have l:Own s η b:=⟨id,ob,hs,hb⟩;have n:=Jj (C:=C) (s:=s) (η:=η) {upd:=some (id,ob'),cond:=c} o.dst undef (λx=>x=b) (setRow_stp w b cs) (λx g=>by subst g;exact l) (λ_ _ d=>by cases d)
  (λk o d=>by cases d;rw[hs];simp)
 have f:SR.eta {upd:=some (id,ob'),cond:=c} o.dst undef η=η:=by funext i;simp[SR.eta]
 refine⟨undef,_,.inr ⟨hrun,rfl⟩,?_⟩;refine h.step o.dst (λx g=>by rw[hd]at g;cases g) _ _ _ (λx=>x=b) (setRow_stp w b cs) ?_ (λ_ _ d=>by cases d) ?_ (λd=>absurd hd d)
 .intro x g
  subst g;refine⟨⟨id,.inr ⟨ob',rfl⟩,by rw[hs];simp,hb⟩,?_⟩
  rcases h.ow id ob _ hs hb with ⟨m,_⟩|m
  .rw [hro]at m;cases m
  .exact m
 .intro k p d
  cases d
  refine⟨⟨ob,hs,hro⟩,hro',by simp,hrf,?_⟩;rw[f]
  rw[f]at n;exact hob _ n
theorem Q6W(hL:y4 P L)(h:Conc C nt R η e s a w)(hd:o.dst=none)(hop:o.op=.store t x y)(ht:L t=some ti)(hy:Xd (Y2 e y)=some xs)(hsz:xs.length=ti.size)(hr:wr s xs (Y2 e x)=some r)(hc:r.cond):y3 P C nt R η e s a w o r:=by
 obtain⟨i,dd,z,Z⟩:=hL t ti ht;obtain⟨a5,a3⟩:=J9 h y
 obtain⟨A,W⟩:=xF a5 hy;have G:=(J9 h x).1
 have N:∀v∈(a.eval y).cells.toList,v.oneCell'=true:=by
  intro v hv;obtain⟨j,p,rfl⟩:=Qc7 hv
  have T : j<(a.eval y).cells.size:=by simpa using p
  have:=(A.2 j (by rw[<-A.1];exact T)).one
  simpa[T]using this
 have g:(a.eval y).cells.toList.length=xs.length:=by simpa using A.1
 have S:∀ (b d:Nat) (c:Array Value) (E : TypeId),a.eval x=.pointer (some ⟨b,d,none⟩)->w.heap[b]?=some (.cells c E (0,0))->d+xs.length<=c.size ->
   (execOp a.eval o).run P w=.ok .skip (w.setRow b (c.toList.take d++(a.eval y).cells.toList++c.toList.drop (d+(a.eval y).cells.toList.length)).toArray):=by
  intro b d c E O I ho;have:=Qq1 P b d E (a.eval y).cells.toList 0 c w I (by rw[g];omega) N
  simp only[Qh3]at this;have n : (a.eval y).cells.size=ti.size:=by rw[<-Qo8,g,hsz]
  simp only[execOp,hop,Qd9,Instr.storeAt,O,Instr.sureAddr,Qe9,Qd0,storeVar,Yq Z,n,ne_eq,not_true,Qh2,Sem.run_ite,this]
 unfold wr at hr;split at hr
 .rename_i V d e1
  rw[e1]at G;obtain⟨b,O,K⟩:=DI G
  split at hr
  .rename_i bs M
   split at hr
   .rename_i q
    cases hr
    have F:=h.st V _ M;rw[K]at F
    cases F with
    |box _ _ c E _ I hbs=>
    have B:=RF c d (a.eval y).cells.toList (by rw[g,hbs.1];omega);refine gW h hd M rfl rfl (λj p=>?_) (b:=b) (by rw[K];simp[Y7]) (S b d c E O I (by rw[hbs.1];omega)) λX' J=>?_
    .obtain ⟨u,Q,p⟩:=Qb8.1 p
     rcases gH _ _ _ u Q with Q|Q
     .exact (h.sr V _ M).2 j (Qb8.2 ⟨u,Q,p⟩)
     .exact a3 j (W j (Qb8.2 ⟨u,Q,p⟩))
    .rw [K]
     refine .box b false _ E _ (Qw2 w b c _ E _ I) ⟨by rw[B.1,KK _ _ _ q];exact hbs.1,λj p=>?_⟩;rw[KK _ _ _ q]at p
     rw[B.2 j,Re _ _ _ _ _ q]
     by_cases h3:d<=j/\j<d+xs.length
     .rw [Qa2 (by rw[g];exact h3),Qa2 h3]
      have:=(A.2 (j-d) (by omega)).mono J (λ_ _=>rfl)
      simpa[Qa0]using this
     .rw [Qa1 (by rw[g];exact h3),Qa1 h3]
      exact(hbs.2 j p).mono J (λ_ _=>rfl)
   .cases hr
  .cases hr
 .rename_i V m l d e1
  rw[e1]at G;obtain⟨b,n0,D,O,K⟩:=zQ G
  split at hr
  .rename_i b2 k f M
   split at hr
   .rename_i ds a2
    split at hr
    .rename_i q
     obtain⟨rfl,q,a1⟩:=q;cases hr
     have F:=h.st V _ M;rw[K]at F
     cases F with
     |nil=>exact absurd hc (by simp)
     |arr _ _ _ _ c E _ I n hn hm hc0 hl hel=>
     have b1:l*m+m<=D*m:=by
      have J:l<n0:=hc;have:(l+1)*m<=D*m:=Qb3 _ (by omega)
      grind
     obtain⟨b3,Y⟩:=kQ (w:=w) (η:=η) (C:=C) (X:=XS C s η) xs ds (a.eval y).cells 0 a2 (λj p=>by rw[Qd1];exact A.2 j p);have H:l*m+d+xs.length<=c.size:=by rw[n];omega
     have B:=RF c (l*m+d) (a.eval y).cells.toList (by rw[g];exact H);refine gW h hd M rfl rfl (by simp[Obj.refs]) (b:=b) (by rw[K];simp[Y7];omega) (S b _ c E O I H) λX' J=>?_
     rw[K];refine .arr b n0 D m _ E _ (Qw2 w b c _ E _ I) (by rw[B.1];exact n) hn hm hc0 (λi U=>?_) λi j U p=>?_
     .by_cases hii:i=l
      .subst hii;simp only[Qh8];rw[KK _ _ _ (by omega)];exact a1
      .simp only[hii,Qh2];exact hl i U
     .rw [B.2]
      by_cases hii:i=l
      .subst hii
       simp only[Qh8];rw[Re _ _ _ _ _ (by omega)]
       by_cases h3:d<=j/\j<d+ds.length
       .rw [Qa2 (by rw[g];omega),Qa2 h3]
        have:=(Y (j-d) (by omega)).mono J
        have e3:i*m+j-(i*m+d)=j-d:=by omega
        rw[e3];simpa[Qa0]using this
       .rw [Qa1 (by rw[g];omega),Qa1 h3]
        exact(hel i j U p).mono J
      .simp only[hii,Qh2]
       have a4:¬(l*m+d<=i*m+j/\i*m+j<l*m+d+xs.length):=by
        rintro⟨h4,h5⟩;rcases Nat.lt_or_gt_of_ne hii with h6|h6
        .have:(i+1)*m<=l*m:=Qb3 _ h6
         grind
        .have:(l+1)*m<=i*m:=Qb3 _ h6
         grind
       rw[Qa1 (by rw[g];exact a4)];exact(hel i j U p).mono J
    .cases hr
   .cases hr
  .cases hr
 .cases hr
end
end
section
section
variable {P:Program} {L:Lay} {C:Ctx} {nt:Nat} {R:Nat->Prop} {η:Nat->Value} {e:U4} {s:U6} {a:Act} {w:World}
theorem Uk(h:Conc C nt R η e s a w)(hd:o.dst=some d)(hdn:d<nt)(hR:¬ R d){c:Prop}{Z:Nat->Prop}(hrun:(execOp a.eval o).run P w=.ok (.value v) w')(hstep:Stp Z w w')(hone:v.oneCell'=true)(hZ:∀ b,Z b->∃ i ∈ del,s i≠none/\b ∈ Y7 (η i))(hdel:∀ i ∈ del,∀ o',s i=some o' -> o'.ro=false)(hv:∀ b,b ∈ Y7 v->w.heap.size<=b\/∃ i ∈ del,s i≠none/\b ∈ Y7 (η i))(hob:∀ X',QS w w' (XS C s η) X' -> ORep w' X' (SR.eta { v:=.v (.c (.own d)),del:=del,new:=some (.arr es n f),cond:=c } o.dst v η) C v (.arr es n f)):
  y3 P C nt R η e s a w o {v:=.v (.c (.own d)),del:=del,new:=some (.arr es n f),cond:=c}:=by
 have q:∀i∈del,s i≠none->∀b,b∈Y7 (η i)->C.M b\/C.w0.heap.size<=b:=by
  intro i m r b p;obtain⟨o',l⟩:=Qa7.1 r
  rcases h.ow i o' b l p with ⟨y,_⟩|y
  all_goals grind
 have B:=Jj (C:=C) (s:=s) (η:=η) {v:=.v (.c (.own d)),del:=del,new:=some (.arr es n f),cond:=c} o.dst v Z hstep
  (λb p=>by
   obtain⟨i,_,m,g⟩:=hZ b p;obtain⟨o',l⟩:=Qa7.1 m
   exact⟨i,o',l,g⟩)
  (λ_ _ _ _ b p=>(hv b p).imp id λ⟨i,_,m,g⟩=>by
   obtain⟨o',l⟩:=Qa7.1 m;exact⟨i,o',l,g⟩)
  (λk o u=>by cases u)
 refine⟨v,w',.inl hrun,h.step o.dst (λx z=>by rw[hd]at z;cases z;exact hdn) _ _ _ Z hstep ?_ ?_ (λk o u=>by cases u) ?_⟩
 .intro b p
  obtain⟨i,m,r,g⟩:=hZ b p;exact⟨⟨i,.inl m,r,g⟩,q i m r b g⟩
 .intro o' dd l t
  cases l
  rw[hd]at t;cases t
  refine⟨hR,rfl,by simp[Obj.refs],hob _ B,λb p=>?_⟩;rcases hv b p with y|⟨i,m,r,g⟩
  .exact .inl y
  .exact .inr ⟨⟨i,m,r,g⟩,q i m r b g⟩
 .intro _
  refine⟨.v _ _ (.c _ _ (.own _ _ (by simp[SR.eta,hd]) hone)),λj A=>?_⟩;simp[AVal.refs,TV.refs,CV.refs]at A
  exact .inr ⟨by simp,by rw[hd,A]⟩
theorem Q3O(h:Conc C nt R η e s a w){x:AVal}(hv:ARep w (XS C s η) η C v x)(hx:Wt s x=some (n,f)):
  ∃ad cap,v=.slice ad n cap/\n<=cap/\(n=0\/∃b off c e' fz es,ad=some ⟨b,off,none⟩/\w.heap[b]?=some (.cells c e' fz)/\off+n*es<=c.size/\(∀i,i<n->(f i).length=es) /\
   ∀i j,i<n->j<es->DRep w (XS C s η) (c.getD (off+(i*es+j)) undef) ((f i).getD j .any)):=by
 have k:∀ {v:Value},DRep w (XS C s η) v (.lst n f)->∃ ad cap,v=.slice ad n cap/\n<=cap/\(n=0\/∃ b off c e' fz es,ad=some ⟨b,off,none⟩/\w.heap[b]?=some (.cells c e' fz)/\off+n*es<=c.size/\(∀ i,i<n->(f i).length=es) /\
   ∀i j,i<n->j<es->DRep w (XS C s η) (c.getD (off+(i*es+j)) undef) ((f i).getD j .any)):=by
  intro v t
  cases t with
  |nil ad cap _=>exact⟨ad,cap,rfl,Qc3 _,.inl rfl⟩
  |lst b off _ cap c e' fz _ es h1 h2 h3 h4 h5 h6=>exact⟨_,cap,rfl,h3,.inr ⟨b,off,c,e',fz,es,rfl,h2,h4,h5,h6⟩⟩
 unfold Wt at hx;split at hx
 .cases hx
  cases hv with|v _ _ hv=>cases hv with|c _ _ hv=>cases hv with|d _ _ hv=>exact k hv
 .cases hx
  cases hv with|v _ _ hv=>cases hv with|c _ _ hv=>cases hv with|fl _ _ _ hv=>exact k hv
 .split at hx
  .rename_i l _ es y z o
   cases hx
   have g:=h.st l _ o;have ev:=WA hv
   rw[ev];generalize η l=u at g
   cases g with
   |nil _ es _=>exact⟨_,_,rfl,Qb4 _,.inl rfl⟩
   |arr b _ cap es c e' _ hb hsz hn hm hc hl hel=>
    exact⟨_,cap,rfl,hn,.inr ⟨b,0,c,e',(0,0),es,rfl,hb,by rw[Qd1,hsz];exact Qb3 _ hn,hl,λi j m q=>by rw[Qd1];exact hel i j m q⟩⟩
  .cases hx
 .split at hx
  .rename_i l es r y _ A N z o
   split at hx
   .rename_i p
    subst p;cases hx
    have g:=h.st l _ o
    cases hv with|v _ _ hv=>cases hv with|c _ _ hv=>cases hv with
    |sub b N' cap _ _ _ _ hη h1 h2=>
     rw[hη]at g
     cases g with
     |nil=>exact absurd h2 (Qc9 _)
     |arr b _ cap es c e' _ hb hsz hn hm hc hl hel=>
      refine⟨_,cap-r,rfl,by omega,.inr ⟨b,r*es,c,e',(0,0),es,rfl,hb,?_,λi m=>hl _ (by omega),λi j m q=>?_⟩⟩
      .rw [hsz, <-Qf8];exact Qb3 _ (by omega)
      all_goals grind
    |subN ad ad' N' _ _ hη=>exact⟨_,_,rfl,Qb4 _,.inl rfl⟩
   .cases hx
  .cases hx
 .cases hx
theorem Q7f(hL:y4 P L)(h:Conc C nt R η e s a w)(hd:∀x,o.dst=some x->x<nt)(hop:o.op=.call {callee:=.builtin .len,args:= #[x],argTypes:= #[t]})(ht:L t=some ti)(hk:ti.kind=.slice el)(hx:Wt s (Y2 e x)=some (n,f)):y3 P C nt R η e s a w o {v:=vi n}:=by
 obtain⟨i,dd,z,c⟩:=hL t ti ht;have b:=c.kind
 rw[hk]at b;simp only[ZL]at b
 obtain⟨g,d,ev,_⟩:=Q3O h (J9 h x).1 hx;refine QY h hd (v:=.int .i64 n) ?_ (WF _ _ _) (by simp[vi,AVal.refs,TV.refs,CV.refs])
 simp[execOp,hop,resolve,invoke,builtin,Builtin.len_,Qc1 c.und,b,ev,goInt]
theorem Q7e(hL:y4 P L)(h:Conc C nt R η e s a w)(hd:∀x,o.dst=some x->x<nt)(hop:o.op=.call {callee:=.builtin .len,args:= #[x],argTypes:= #[t]})(ht:L t=some ti)(hk:ti.kind=.array n el):y3 P C nt R η e s a w o {v:=vi n}:=by
 obtain⟨i,dd,z,c⟩:=hL t ti ht;have b:=c.kind
 rw[hk]at b;simp only[ZL]at b
 refine QY h hd (v:=.int .i64 n) ?_ (WF _ _ _) (by simp[vi,AVal.refs,TV.refs,CV.refs]);simp[execOp,hop,resolve,invoke,builtin,Builtin.len_,Qc1 c.und,b,goInt]
theorem Q7d(hL:y4 P L)(h:Conc C nt R η e s a w)(hd:∀x,o.dst=some x->x<nt)(hop:o.op=.call {callee:=.builtin .len,args:= #[x],argTypes:= #[t]})(ht:L t=some ti)(hk:ti.kind=.str){b:ByteArray}(hx:Y2 e x=.v (.c (.d (.str b)))):y3 P C nt R η e s a w o {v:=vi b.size}:=by
 obtain⟨i,dd,z,g⟩:=hL t ti ht;have f:=g.kind
 rw[hk]at f;simp only[ZL]at f
 have j:=(J9 h x).1;rw[hx]at j
 have ev:=KH j;refine QY h hd (v:=.int .i64 b.size) ?_ (WF _ _ _) (by simp[vi,AVal.refs,TV.refs,CV.refs])
 simp[execOp,hop,resolve,invoke,builtin,Builtin.len_,Qc1 g.und,f,ev,goInt]
theorem ja(h:Conc C nt R η e s a w)(hd:∀ x,o.dst=some x->x<nt){tys:Array TypeId}{bi:Builtin}(hop:o.op=.call { callee:=.builtin bi,args:= #[x,y],argTypes:=tys }){k k' : IntKind}{n: Int}(hx:Y2 e x=.v (.c (.d (.int k n))))(hy:Y2 e y=.v (.c (.d (.int k' n')))){u:Int}(hu:(bi=.min/\u=Qa n n')\/(bi=.max/\u=K8 n n')):
  y3 P C nt R η e s a w o {v:=.v (.c (.d (.int k u)))}:=by
 have i:=(J9 h x).1;have f:=(J9 h y).1
 rw[hx]at i;rw[hy]at f
 have b:=WV i;have g:=WV f
 refine QY h hd (v:=.int k u) ?_ (WF _ _ _) (by simp[AVal.refs,TV.refs,CV.refs]);rcases hu with ⟨rfl,rfl⟩|⟨rfl,rfl⟩
 .simp [execOp,hop,resolve,invoke,builtin,Builtin.min_,Builtin.min2,b,g,Qa]
 .simp [execOp,hop,resolve,invoke,builtin,Builtin.max_,Builtin.max2,b,g,K8]
theorem Ul(v:Int)(m:Nat)(code:BoundsCode)(h:0<=v/\v<=m)(k:IntKind):(Instr.sliceBound (.int k v) m code).run P w=.ok v.toNat w:=by
 simp[Instr.sliceBound,asIntOf,h]
theorem Tx(h:Conc C nt R η e s a w){x:Option Operand}{n:Option Int}(hx:oI e x=some n):(x=none/\n=none)\/∃k m,x.map a.eval=some (.int k m)/\n=some m:=by
 unfold oI at hx;split at hx
 .grind
 .rename_i y
  split at hx
  .rename_i m b
   cases hx
   unfold ZK at b;split at b
   .rename_i k f d
    cases b
    have c:=(J9 h y).1;rw[d]at c
    exact .inr ⟨k,m,by simp[WV c],rfl⟩
   .cases b
  .cases hx
theorem jy(h:Conc C nt R η e s a w){lo hi:Option Operand}{l u:Option Int}(hl:oI e lo=some l)(hu:oI e hi=some u)(n cap:Nat)(hn:n<=cap)(f:Nat->List DVal)(hc:(sl n f l u).2):
  (Instr.sliceBounds true n cap (lo.map a.eval) (hi.map a.eval) none).run P w=.ok ((l.getD 0).toNat,(u.getD n).toNat,cap) w/\(l.getD 0).toNat<=(u.getD n).toNat/\(u.getD n).toNat<=n /\
   (sl n f l u).1.1=(u.getD n).toNat-(l.getD 0).toNat/\∀i,(sl n f l u).1.2 i=f ((l.getD 0).toNat+i):=by
 rcases Tx h hl with ⟨h1,h2⟩|⟨k,m,h1,h2⟩<;>rcases Tx h hu with ⟨h3,h4⟩|⟨k',m',h3,h4⟩<;>subst h2<;>subst h4<;>simp only[sl]at hc
 .subst h1;subst h3
  simp[Instr.sliceBounds,sl]
 .subst h1
  simp[Instr.sliceBounds,sl,h3,Ul m' cap _ ⟨hc.1,by omega⟩];omega
 .subst h3
  simp[Instr.sliceBounds,sl,h1,Ul m n _ hc];omega
 .have b:=Ul (P:=P) (w:=w) m m'.toNat .sliceB ⟨hc.1,by omega⟩ k
  simp[Instr.sliceBounds,sl,h1,h3,Ul m' cap _ ⟨by omega,by omega⟩,b];omega
theorem Q2y{X:Nat->Prop}{ad:Option Addr}{cap:Nat}(h:DRep w X (.slice ad n cap) (.lst n f))(hes:∀ j,j<n->(f j).length=es)(l u:Nat)(hlu:l<=u)(hun:u<=n)(m:Nat)(hm:u-l<=m)(g:Nat->List DVal)(hg:∀ i,g i=f (l+i)):
  DRep w X (.slice (if cap=l then ad else ad.map (·.add (l*es))) (u-l) m) (.lst (u-l) g):=by
 by_cases h0:u-l=0
 .rw [h0];exact .nil _ _ _
 .cases h with
  |nil=>omega
  |lst b off _ _ c e' fz _ es' h1 h2 h3 h4 h5 h6=>
   have k:es'=es:=by rw[<-h5 l (by omega),hes l (by omega)]
   subst k;have o:¬cap=l:=by omega
   simp only[o,Qh2,Qj0,add_lit];have d:l*es' + (u-l)*es' <= n*es':=by rw[<-Qf8];exact Qb3 _ (by omega)
   refine .lst b (off+l*es') _ m c e' fz _ es' h1 h2 hm (by omega) (λi p=>by rw[hg];exact h5 _ (by omega)) λi j p q=>?_
   grind
theorem Q6Y(hL:y4 P L)(h:Conc C nt R η e s a w)(hd:∀ x,o.dst=some x->x<nt){lo hi:Option Operand}(hop:o.op=.slice t x lo hi none)(ht:L t=some ti)(hk:ti.kind=.slice el)(hte:L el=some te){l u:Option Int}(hl:oI e lo=some l)(hu:oI e hi=some u)(hx:Zj.asF (Y2 e x)=some (n,f)){c:Prop}(hc:(sl n f l u).2)(hes:∀ j,j<n->(f j).length=te.size):
  y3 P C nt R η e s a w o {v:=.v (.c (.d (.lst (sl n f l u).1.1 (sl n f l u).1.2))),cond:=c}:=by
 obtain⟨i,dd,z,p⟩:=hL t ti ht;obtain⟨G,F,I,q⟩:=hL el te hte
 have k:=p.kind;rw[hk]at k
 simp only[ZL]at k;obtain⟨H,m,ev,b⟩:=xP (J9 h x).1 hx
 rw[ev]at b;have B:n<=m:=by cases b with|nil=>exact Qc3 _|lst _ _ _ _ _ _ _ _ _ _ _ r=>exact r
 obtain⟨A,D,E,r,y⟩:=jy (P:=P) h hl hu n m B f hc;have g:=Q2y b hes (l.getD 0).toNat (u.getD n).toNat D E (m-(l.getD 0).toNat) (by omega) (sl n f l u).1.2 y
 rw[<-r]at g;refine QY h hd ?_ (.v _ _ (.c _ _ (.d _ _ g))) (by simp[AVal.refs,TV.refs,CV.refs])
 simp only[execOp,hop,Qd9,Instr.sliceAt,Qc1 p.und,Qd0,k,Instr.slice,ev,Qr2,A,Yq q,Qe9,r]
theorem Q6X(hL:y4 P L)(h:Conc C nt R η e s a w)(hd:∀ x,o.dst=some x->x<nt){hx mx:Operand}(hop:o.op=.slice t x none (some hx) (some mx))(ht:L t=some ti)(hk:ti.kind=.slice el)(hte:L el=some te){u:Int}(hu:ZK (Y2 e hx)=some u)(hm:ZK (Y2 e mx)=some u)(h0:0<u)(hxx:Zj.asF (Y2 e x)=some (n,f)){c:Prop}(hc:u<=n)(hes:∀ j,j<n->(f j).length=te.size):
  y3 P C nt R η e s a w o {v:=.v (.c (.fl u.toNat f)),cond:=c}:=by
 obtain⟨i,dd,z,A⟩:=hL t ti ht;obtain⟨M,K,O,B⟩:=hL el te hte
 have p:=A.kind;rw[hk]at p
 simp only[ZL]at p;obtain⟨D,q,ev,g⟩:=xP (J9 h x).1 hxx
 rw[ev]at g;have N:n<=q:=by cases g with|nil=>exact Qc3 _|lst _ _ _ _ _ _ _ _ _ _ _ h3=>exact h3
 have b:∀{y:Operand} {m:Int},ZK (Y2 e y)=some m->∃k,a.eval y=.int k m:=by
  intro y m hm;unfold ZK at hm
  split at hm
  .rename_i k Q F
   cases hm
   have G:=(J9 h y).1;rw[F]at G
   exact⟨k,WV G⟩
  .cases hm
 obtain⟨k1,F⟩:=b hu;obtain⟨k2,J⟩:=b hm
 have d:=Q2y g hes 0 u.toNat (Qc3 _) (by omega) u.toNat (by omega) f (λi=>by rw[Qd1]);have r:¬q=0:=by omega
 simp only[r,Qh2,Qr3,Qr1]at d;have l:D.map (λx:Addr=>x.add 0)=D:=by cases D<;>simp[Addr.add]
 rw[l]at d;refine QY h hd (v:=.slice D u.toNat u.toNat) ?_ (.v _ _ (.c _ _ (.fl _ _ _ d))) (by simp[AVal.refs,TV.refs,CV.refs])
 have H:=Ul (P:=P) (w:=w) u q .slice3Acap ⟨by omega,by omega⟩ k2;have I:=Ul (P:=P) (w:=w) u u.toNat .slice3B ⟨by omega,by omega⟩ k1
 have E:¬u.toNat=0:=by omega
 simp only[execOp,hop,Qd9,Instr.sliceAt,Qc1 A.und,Qd0,p,Instr.slice,ev,Instr.sliceBounds,Qj0,Qr2,Qh8,F,J,H,I,Qe9,Yq B,E,Qh2,Qr3,Qr1,l]
end
end
section
section
variable {P:Program} {L:Lay} {C:Ctx} {nt:Nat} {R:Nat->Prop} {η:Nat->Value} {e:U4} {s:U6} {a:Act} {w:World}
theorem Q0I{X:Nat->Prop}{ad:Option Addr}(hn:n≠0)(h:n=0\/∃ b off c e' fz es',ad=some ⟨b,off,none⟩/\w.heap[b]?=some (.cells c e' fz)/\off+n*es' <= c.size/\(∀ i,i<n->(g i).length=es') /\
   ∀i j,i<n->j<es' -> DRep w X (c.getD (off+(i*es' + j)) undef) ((g i).getD j .any))(hes:∀i,i<n->(g i).length=es):
  ∃b off,ad=some ⟨b,off,none⟩/\∃news:List Value,news.length=n*es/\(∀j u,news[j]?=some u->w.cell? ((⟨b,off,none⟩:Addr).add j)=some u)/\(∀u∈news,u.oneCell'=true) /\
   ∀i j,i<n->j<es->DRep w X (news.getD (i*es+j) undef) ((g i).getD j .any):=by
 rcases h with h|⟨b,off,c,e',fz,es',rfl,r,y,x,q⟩
 .exact absurd h hn
 .have f:es'=es:=by rw[<-x 0 (by omega),hes 0 (by omega)]
  subst f;refine⟨b,off,rfl,Ze c off (n*es'),by simp[Ze],λj u d=>?_,λu d=>?_,λi j p o=>?_⟩
  .simp only[Ze,Qk9]at d
   by_cases o:j<n*es'
   .rw [Qo9 o]at d
    cases d
    rw[add_lit];exact HN r _ (by omega)
   .rw [Qg7 (by simp;omega)]at d;cases d
  .simp only[Ze]at d
   obtain⟨k,m,rfl⟩:=Qc5.1 d;rw[Qf2]at m
   by_cases hz:es'=0
   .subst hz;simp at m
   .have t:k / es' < n:=Qr4 (by rw[Qp3];exact m)
    have v:k % es' < es':=Qr5 _ (by omega);have:=(q (k / es') (k % es') t v).one
    rwa [show k / es' * es' + k % es'=k from by rw[Qp3];exact Qv7 k es']at this
  .have l:i*es' + j<n*es':=by
    have:(i+1)*es' <= n*es':=Qb3 _ p
    grind
   have:(Ze c off (n*es')).getD (i*es' + j) undef=c.getD (off+(i*es' + j)) undef:=by simp[Ze,Qa0,l]
   rw[this];exact q i j p o
theorem Q3D(h:n<=Z9)(hb:b<=8192):n*b<=140737488355328:=by
 have:=Qk3 h hb
 simp only[Z9]at this;omega
theorem gt{t:Nat}{xs:List Value}(h:c.toList.take k=xs)(ht:t<k):c.getD t undef=xs.getD t undef:=by
 rw[<-h];simp[Qa0,ht]
theorem Q3S{X:Nat->Prop}{olds news:List Value}(hc:c.toList.take ((n+k)*es)=olds++news)(ho:olds.length=n*es)(h1:∀ i j,i<n->j<es->DRep w X (olds.getD (i*es+j) undef) ((f i).getD j .any))(h2:∀ i j,i<k->j<es->DRep w X (news.getD (i*es+j) undef) ((g i).getD j .any)):
  ∀i j,i<n+k->j<es->DRep w X (c.getD (i*es+j) undef) ((Qv n f g i).getD j .any):=by
 intro i j m l;have d:i*es+j<(n+k)*es:=by
  have:(i+1)*es<=(n+k)*es:=Qb3 _ m
  grind
 rw[gt hc d];unfold Qv
 by_cases h3:i<n
 .have b : i*es+j<olds.length:=by
   have:(i+1)*es<=n*es:=Qb3 _ h3
   grind
  rw[Qa2 h3];have:(olds++news).getD (i*es+j) undef=olds.getD (i*es+j) undef:=by simp[Qa0,Qf1,b]
  rw[this];exact h1 i j h3 l
 .have o:n*es<=i*es:=Qb3 _ (by omega)
  rw[Qa1 h3];have:(olds++news).getD (i*es+j) undef=news.getD ((i-n)*es+j) undef:=by
   have h:i*es+j-olds.length=(i-n)*es+j:=by rw[ho,Nat.sub_mul];omega
   grind
  rw[this];exact h2 (i-n) j (by omega) l
theorem Q3R(t ty:TypeId){el:TypeId}(hu:P.underlying t=some (.slice el))(hi:P.info? el=some i)(base:Option Addr)(n cap:Nat)(hn:n<=cap)(ad:Option Addr)(c:Nat):
  (Builtin.append_ #[t,t] ty #[.slice base n cap,.slice ad 0 c]).run P w=.ok (.slice base n cap) w:=by
 have b:(Builtin.firstCells i.size 0 (.slice ad 0 c)).run P w=.ok #[] w:=by cases ad<;>simp[Builtin.firstCells,loadCells,loadCellsFrom]
 cases base<;>simp[Builtin.append_,Qc1 hu,sizeOf,typeInfo,hi,Builtin.lenOf,hn,b,storeCells]
theorem Q8z(t ty e e' : TypeId)(i:TypeInfo)(ht:P.underlying t=some (.slice e))(hi:P.info? e=some i)(g sLen sCap:Nat)(cur:Array Value)(hg:w.heap[g]?=some (.cells cur e' (0,0)))(a:Addr)(m c:Nat)(news:List Value)(hl:news.length=m*i.size)(hnews:∀ j u,news[j]?=some u->w.cell? (a.add j)=some u)(h1:∀ u ∈ news,u.oneCell'=true)(hroom:sLen+m<=sCap)(hfit:sLen*i.size+news.length<=cur.size):
  (Builtin.append_ #[t,t] ty #[.slice (some ⟨g,0,none⟩) sLen sCap,.slice (some a) m c]).run P w =
   .ok (.slice (some ⟨g,0,none⟩) (sLen+m) sCap) (w.setRow g (cur.toList.take (sLen*i.size)++news++cur.toList.drop (sLen*i.size+news.length)).toArray):=by
 have d:=run_firstCells_some (P:=P) w i.size m a m c news hl hnews;have b:=Qq1 P g (sLen*i.size) e' news 0 cur w hg (by simpa using hfit) h1
 simp only[Qh3]at b;simp[Builtin.append_,Qc1 ht,sizeOf,typeInfo,hi,Builtin.lenOf,hroom,d,Addr.add_lit,b]
theorem Z4l(Z:Nat->Prop)(w:World)(o:Go.Obj):Stp Z w (w.drew.alloc o):=
 ⟨rfl,rfl,rfl,by simp,λb c _=>by rw[heap_alloc_old w.drew o b c];rfl,Qn2 _⟩
theorem jc(h:Conc C nt R η e s a w)(hd:o.dst=some d)(hdn:d<nt)(hR:¬ R d)(hdel:∀ i ∈ del,∀ o',s i=some o' -> o'.ro=false){gc:Nat}{c:Prop}{olds news:List Value}{z:Array Value}{el:TypeId}(hrun:(execOp a.eval o).run P w=.ok (.value (.slice (some ⟨w.heap.size,0,none⟩) (n+k) gc)) (w.drew.alloc (.cells (olds.toArray++news.toArray++Builtin.zeroCells z (gc-(n+k))) el)))(hz:z.size=es)(ho:olds.length=n*es)(hnl:news.length=k*es)(hgc:n+k<=gc)(hgm:gc<=maxLen)(hk:0<k)(hfl:∀ i,i<n->(f i).length=es)(hgl:∀ i,i<k->(g i).length=es)(h1:∀ i j,i<n->j<es->DRep w (XS C s η) (olds.getD (i*es+j) undef) ((f i).getD j .any))(h2:∀ i j,i<k->j<es->DRep w (XS C s η) (news.getD (i*es+j) undef) ((g i).getD j .any)):
  y3 P C nt R η e s a w o {v:=.v (.c (.own d)),del:=del,new:=some (.arr es (n+k) (Qv n f g)),cond:=c}:=by
 refine Uk h hd hdn hR (Z:=λ_=>False) hrun (Z4l _ w _) rfl (λb q=>q.elim) hdel (λb q=>.inl (by simp[Y7]at q;omega)) λX' l=>?_
 refine .arr _ _ gc es _ el _ (heap_alloc_new w.drew _) ?_ hgc hgm (by omega) (λi p=>?_) ?_
 .simp only[Qt7,Qm1,Qs9,hz,ho,hnl, <-Qf8]
  congr 1;omega
 .unfold Qv
  by_cases h3:i<n
  .rw [Qa2 h3];exact hfl i h3
  .rw [Qa1 h3];exact hgl _ (by omega)
 .refine Q3S (olds:=olds) (news:=news) ?_ ho (λi j p r=>(h1 i j p r).mono l) (λi j p r=>(h2 i j p r).mono l)
  have m:(olds++news).length=(n+k)*es:=by rw[Qb7,ho,hnl,Qf8]
  simp only[Qp0,Qh6];rw[<-Qh6, <-m]
  exact List.take_left
theorem BC(hL:y4 P L)(h:Conc C nt R η e s a w){o:Oper}{d:Nat}(hd:o.dst=some d)(hdn:d<nt)(hR:¬ R d){t:TypeId}{x y:Operand}(hop:o.op=.call { callee:=.builtin .append,args:= #[x,y],argTypes:= #[t,t] }){ti:TI}(ht:L t=some ti){el:Nat}(hk:ti.kind=.slice el){te:TI}(hte:L el=some te)(hby:te.bytes<=8192)(hzl:te.zero.length=te.size){del:List Nat}(hdel:∀ i ∈ del,∀ o',s i=some o' -> o'.ro=false){n k cap:Nat}{f g:Nat->List DVal}{c:Prop}(hlim:n+k<=Z9){base:Option Addr}(ex:a.eval x=.slice base n cap)(hcap:cap<n+k)(hb0:base=none->n=0/\cap=0){olds:List Value}(holdl:olds.length=n*te.size)(holds:∀ b0,base=some b0->∀ j u,olds[j]?=some u->w.cell? (b0.add j)=some u){b2:Addr}{cy:Nat}(ey:a.eval y=.slice (some b2) k cy){news:List Value}(hnl:news.length=k*te.size)(hncell:∀ j u,news[j]?=some u->w.cell? (b2.add j)=some u)(hk0:0<k)(hfl:∀ i,i<n->(f i).length=te.size)(hgl:∀ i,i<k->(g i).length=te.size)(h1:∀ i j,i<n->j<te.size->DRep w (XS C s η) (olds.getD (i*te.size+j) undef) ((f i).getD j .any))(h2:∀ i j,i<k->j<te.size->DRep w (XS C s η) (news.getD (i*te.size+j) undef) ((g i).getD j .any)):
  y3 P C nt R η e s a w o {v:=.v (.c (.own d)),del:=del,new:=some (.arr te.size (n+k) (Qv n f g)),cond:=c}:=by
 obtain⟨i,dd,z,p⟩:=hL t ti ht;obtain⟨D,G,A,b⟩:=hL el te hte
 have q:=p.kind;rw[hk]at q
 simp only[ZL]at q;subst q
 have r:A.cells.size=te.size:=by rw[(b.zrep w (λ_=>False) η C).1,hzl]
 have l:∀{v:Value} {w' : World},(Builtin.append_ #[t,t] o.type #[a.eval x,a.eval y]).run P w=.ok v w' -> (execOp a.eval o).run P w=.ok (.value v) w':=by
  intro v w' F;simp[execOp,hop,resolve,invoke,builtin,F]
 cases base with
 |none=>
  obtain⟨rfl,rfl⟩:=hb0 rfl;have:olds=[]:=Qe0 (by rw[holdl,Qr3])
  subst this;have B:=run_append_nil (P:=P) w t o.type el D A p.und b.info b.zero b2 k cy news (by rw[b.size];exact hnl) hncell (by omega) (by simp only[Z9]at hlim;omega)
   (by have:=Q3D (n:=k) (by omega) hby;rw[b.bytes];omega)
  have E:=l (by rw[ex,ey];exact B);have m : (execOp a.eval o).run P w=.ok (.value (.slice (some ⟨w.heap.size,0,none⟩) (0+k) (grownCap w k 0 el))) (w.drew.alloc (.cells (([]:List Value).toArray++news.toArray++Builtin.zeroCells A.cells (grownCap w k 0 el-(0+k))) el)):=by
   grind
  exact jc h hd hdn hR hdel m r (by simp) hnl (by have:=Qt1 w k 0 el;omega) (Qp4 w k 0 el (by simp only[Z9]at hlim;simp only[maxLen];omega)) (by omega) hfl hgl h1 h2
 |some b0=>
  have B:=run_append_grow (P:=P) w t o.type el D A p.und b.info b.zero b0 n cap olds (by rw[b.size];exact holdl) (holds b0 rfl) b2 k cy news (by rw[b.size];exact hnl) hncell (by omega) (by simp only[Z9]at hlim;omega)
   (growslice_fits (by omega) (by rw[b.bytes];exact Q3D hlim hby))
  exact jc h hd hdn hR hdel (l (by rw[ex,ey];exact B)) r holdl hnl (Qt1 w (n+k) cap el) (Qp4 w (n+k) cap el (by simp only[Z9]at hlim;simp only[maxLen];omega)) (by omega) hfl hgl h1 h2
theorem Rg(hL:y4 P L)(h:Conc C nt R η e s a w)(hd:o.dst=some d)(hdn:d<nt)(hR:¬ R d)(hop:o.op=.call { callee:=.builtin .append,args:= #[x,y],argTypes:= #[t,t] })(ht:L t=some ti)(hk:ti.kind=.slice el)(hte:L el=some te)(hy:Wt s (Y2 e y)=some (k,g)){c0:Prop}(hx:VA s te.size k (Y2 e x)=some (del,n,f,c0))(hc0:c0)(hby:te.bytes<=8192)(hzl:te.zero.length=te.size){c:Prop}(hlim:n+k<=Z9)(hgl:∀ j,j<k->(g j).length=te.size):
  y3 P C nt R η e s a w o {v:=.v (.c (.own d)),del:=del,new:=some (.arr te.size (n+k) (Qv n f g)),cond:=c}:=by
 obtain⟨i,dd,z,Q⟩:=hL t ti ht;obtain⟨i2,e3,z2,B⟩:=hL el te hte
 have a5:=Q.kind;rw[hk]at a5
 simp only[ZL]at a5;subst a5
 obtain⟨ad,cy,ey,d7,Y⟩:=Q3O h (J9 h y).1 hy;have d8:z2.cells.size=te.size:=by rw[(B.zrep w (λ_=>False) η C).1,hzl]
 have I:∀{v:Value} {w' : World},(Builtin.append_ #[t,t] o.type #[a.eval x,a.eval y]).run P w=.ok v w' -> (execOp a.eval o).run P w=.ok (.value v) w':=by
  intro v w' hh;simp[execOp,hop,resolve,invoke,builtin,hh]
 unfold VA at hx;split at hx
 .
  rename_i S e1
  split at hx
  .rename_i b9 n' f' hs
   split at hx
   .rename_i c4
    cases hx
    subst c4;have r:=(J9 h x).1
    rw[e1]at r;have ex:=WA r
    have O:=h.st S _ hs
    by_cases hk0:k=0
    .
     subst hk0;have U:=O
     generalize hu:η S=u at O ex;have hn:∃l D,u=.slice l n D/\n<=D:=by
      cases O with
      |nil=>exact⟨_,_,rfl,Qb4 _⟩
      |arr b _ D _ c' e' _ _ _ hn _ _ _ _=>exact⟨_,_,rfl,hn⟩
     obtain⟨l,D,b7,hn⟩:=hn;refine Uk h hd hdn hR (Z:=λ_=>False) (v:=u) (w':=w) (I (by rw[ex,ey,b7];exact Q3R t o.type Q.und B.info l n D hn ad cy)) (Stp.refl _ _) (by rw[b7];rfl) (λb M=>M.elim)
      (λi' p o' H=>by simp at p;subst p;rw[hs]at H;cases H;rfl) (λb M=>.inr ⟨S,by simp,by rw[hs];simp,by rw[hu];exact M⟩) λX' G=>?_
     rw[hu]at U;have c3 : ∀b,b∈Y7 u->w.heap[b]?=w.heap[b]?:=λ_ _=>rfl
     have:=U.mono (η':=SR.eta {v:=.v (.c (.own d)),del:=[S],new:=some (.arr te.size (n+0) (Qv n f g)),cond:=c} o.dst u η) G (by simp[Obj.refs]) c3
     cases this with
     |nil=>exact .nil _ _ _
     |arr b _ cap' _ c' e' _ q1 q2 q3 q4 q5 q6 q7=>
      refine .arr b n cap' _ c' e' _ q1 q2 q3 q4 q5 (λi E=>?_) λi j E A=>?_
      .simp only[Qv,Qa2 E];exact q6 i E
      .simp only[Qv,Qa2 E];exact q7 i j E A
    .obtain ⟨b2,V,a6,news,F,m,K,q⟩:=Q0I hk0 Y hgl
     subst a6;generalize hu:η S=u at O ex
     cases O with
     |nil l _ _=>
      exact BC hL h hd hdn hR hop ht hk hte hby hzl (λi' p o' H=>by simp at p;subst p;rw[hs]at H;cases H;rfl) hlim ex (by omega) (λ_=>⟨rfl,rfl⟩) (olds:=[]) (by simp) (λ_ _ j u A=>by simp at A) ey F m (by omega)
       (λi E=>by omega) hgl (λi j E=>by omega) q
     |arr b _ D _ c' e' _ M hsz hn hm hc hl hel=>
      have a0:∀i'∈[S],∀o',s i'=some o' -> o'.ro=false:=λi' p o' H=>by simp at p;subst p;rw[hs]at H;cases H;rfl
      have d9:n*te.size<=D*te.size:=Qb3 _ hn;have J:(c'.toList.take (n*te.size)).length=n*te.size:=by simp;omega
      have T:∀i j,i<n->j<te.size->DRep w (XS C s η) ((c'.toList.take (n*te.size)).getD (i*te.size+j) undef) ((f i).getD j .any):=by
       intro i j E A;have b4:i*te.size+j<n*te.size:=by
        have:(i+1)*te.size<=n*te.size:=Qb3 _ E
        grind
       rw[<-gt rfl b4];exact hel i j E A
      by_cases hroom:n+k<=D
      .have N:n*i2.size+news.length<=c'.size:=by rw[B.size,F,hsz, <-Qf8];exact Qb3 _ hroom
       have hr:=Q8z (P:=P) t o.type el e' i2 Q.und B.info b n D c' M ⟨b2,V,none⟩ k cy news (by rw[B.size];exact F) m K hroom N;rw[B.size]at hr N
       have b6:=I (by rw[ex,ey];exact hr);have W:b∈Y7 (η S):=by rw[hu];simp[Y7];omega
       refine Uk h hd hdn hR (Z:=λx=>x=b) b6 (setRow_stp w b _) rfl (λx hx=>⟨S,by simp,by rw[hs];simp,by rw[hx];exact W⟩) a0 (λx hx=>.inr ⟨S,by simp,by rw[hs];simp,by simp[Y7]at hx;rw[hx.2];exact W⟩) λX' G=>?_
       refine .arr b (n+k) D te.size _ e' _ (Qw2 w b c' _ e' _ M) (by rw[(RF c' (n*te.size) news N).1];exact hsz) hroom hm hc (λi E=>?_) ?_
       .unfold Qv
        grind
       .refine Q3S (olds:=c'.toList.take (n*te.size)) (news:=news) ?_ J (λi j E A=>(T i j E A).mono G) (λi j E A=>(q i j E A).mono G)
        have c7:(c'.toList.take (n*te.size)++news).length=(n+k)*te.size:=by rw[Qb7,J,F,Qf8]
        grind
      .have a3:∀ j u,(c'.toList.take (n*te.size))[j]?=some u->w.cell? ((⟨b,0,none⟩:Addr).add j)=some u:=by
        intro j u A;rw[Qk2]at A
        split at A
        .rw [add_lit,Qd1,cell_of_row w b j c' e' (0,0) M];simpa using A
        .cases A
       exact BC hL h hd hdn hR hop ht hk hte hby hzl a0 hlim ex (by omega) (λhh=>by cases hh) J (λb0 a4=>by cases a4;exact a3) ey F m (by omega) hl hgl T q
   .cases hx
  .cases hx
 .
  rename_i n' f' e1
  split at hx
  .rename_i e2
   cases hx
   have r:=(J9 h x).1;rw[e1]at r
   generalize hex:a.eval x=u at r;have c2:∃l,u=.slice l n n/\DRep w (XS C s η) (.slice l n n) (.lst n f):=by
    cases r with|v _ _ r=>cases r with|c _ _ r=>cases r with|fl l _ _ r=>exact⟨l,rfl,r⟩
   obtain⟨l,rfl,b8⟩:=c2
   by_cases hk0:k=0
   .subst hk0
    have a9:n=0:=by omega
    subst a9;exact Uk h hd hdn hR (del:=[]) (Z:=λ_=>False) (v:=.slice l 0 0) (w':=w) (I (by rw[hex,ey];exact Q3R t o.type Q.und B.info l 0 0 (Qb4 _) ad cy)) (Stp.refl _ _) rfl (λb M=>M.elim)
     (λi' p=>by cases p) (λb M=>by cases l<;>simp[Y7]at M) λX' _=>.nil _ _ _
   .obtain ⟨b2,V,a6,news,F,m,K,q⟩:=Q0I hk0 Y hgl
    subst a6
    cases b8 with
    |nil _ _ _=>
     exact BC hL h hd hdn hR hop ht hk hte hby hzl (λi' p=>by cases p) hlim hex (by omega) (λ_=>⟨rfl,rfl⟩) (olds:=[]) (by simp) (λ_ _ j u A=>by simp at A) ey F m (by omega)
      (λi E=>by omega) hgl (λi j E=>by omega) q
    |lst b off _ _ c' e' fz _ b9 q1 q2 q3 q4 q5 q6=>
     by_cases a9:n=0
     .subst a9
      exact BC hL h hd hdn hR hop ht hk hte hby hzl (λi' p=>by cases p) hlim hex (by omega) (λhh=>by cases hh) (olds:=[]) (by simp) (λ_ _ j u A=>by simp at A) ey F m (by omega)
       (λi E=>by omega) hgl (λi j E=>by omega) q
     have c6:b9=te.size:=by rw[<-q5 0 (by omega),hc0 0 (by omega)]
     subst c6;have hv:∀j,j<n*te.size->(Ze c' off (n*te.size)).getD j undef=c'.getD (off+j) undef:=λj A=>by simp[Ze,Qa0,A]
     refine BC hL h hd hdn hR hop ht hk hte hby hzl (λi' p=>by cases p) hlim hex (by omega) (λhh=>by cases hh) (olds:=Ze c' off (n*te.size)) (by simp[Ze]) (λb0 a4 j u A=>?_) ey F m (by omega)
      q5 hgl (λi j E A=>?_) q
     .cases a4
      simp only[Ze,Qk9]at A
      by_cases hjj:j<n*te.size
      .rw [Qo9 hjj]at A
       cases A
       rw[add_lit];exact HN q2 _ (by omega)
      all_goals grind
     .have b4:i*te.size+j<n*te.size:=by
       have:(i+1)*te.size<=n*te.size:=Qb3 _ E
       grind
      grind
  .cases hx
 .cases hx
end
end
section
section
variable {P:Program} {L:Lay} {C:Ctx} {nt:Nat} {R:Nat->Prop} {η:Nat->Value} {e:U4} {s:U6} {a:Act} {w:World}
theorem qM{α:Type}(n:Nat)(xs:List α):(VM n xs).length=n*xs.length:=by
 induction n with
 |zero=>simp[VM]
 |succ n ih=>simp[VM,ih,Qf8];omega
theorem Q9i{α:Type}(n:Nat)(xs:List α)(d:α)(i:Nat)(h:i<n*xs.length):(VM n xs).getD i d=xs.getD (i % xs.length) d:=by
 induction n generalizing i with
 |zero=>simp at h
 |succ n ih=>
  rw[Qf8,Nat.one_mul]at h
  by_cases h1:i<xs.length
  .simp [VM,Qa0,Qf1,h1,Qo2 h1]
  .have:=ih (i-xs.length) (by omega)
   have b:(i-xs.length) % xs.length=i % xs.length:=by rw[<-Nat.mod_eq_sub_mod (by omega)]
   rw[b]at this;rw[<-this]
   simp[VM,Qa0,Qf1,h1]
theorem zO(n:Nat)(f:Nat->Value)(j:Nat)(hj:j<n):((Array.range n).map f).getD j undef=f j:=by
 have h:j<((Array.range n).map f).size:=by simpa using hj
 have:((Array.range n).map f).getD j undef=((Array.range n).map f)[j]:=by simp only[Array.getD,h,dite_true];rfl
 grind
theorem zN(f:Nat->Value):(Array.range 0).map f=#[]:=Qr6 (by simp)
theorem Q4O{X:Nat->Prop}{z:Array Value}{zs:List CV}(h:y9 w X η C z zs)(len:Nat):y9 w X η C ((Array.range (len*zs.length)).map (z[· % z.size]!)) (VM len zs):=by
 refine⟨by simp[qM],λj c=>?_⟩;rw[qM]at c
 rw[Q9i _ _ _ _ c];have b:0<zs.length:=by rcases Qi6 zs.length with d|d;simp[d]at c;exact d
 have f:=Qr5 j b;have:=h.2 _ f
 have g:((Array.range (len*zs.length)).map (z[· % z.size]!)).getD j undef=z.getD (j % zs.length) undef:=by
  have:j % z.size<z.size:=by rw[h.1];exact f
  rw[zO _ _ _ c, <-h.1];simp[this]
 grind
theorem Q8y{el:TypeId}(hti:TIOk P t ti i (.slice el) z){i2:TypeInfo}{d2:TypeDesc}{z2:Value}(hte:TIOk P el te i2 d2 z2)(len:Nat)(hl:len*te.size<=16777216){Gq:Array (Nat×Value)}{cells:Array Value}(hf:Instr.fill (fun i=>some (i*te.size,te.size)) ((Array.range (len*te.size)).map (z2.cells[· % z2.cells.size]!)) Gq.toList=some cells):
  (Instr.buildSlice t len Gq).run P w=.ok (.slice (some ⟨w.heap.size,0,none⟩) len len) {w with heap:=w.heap.push (.cells cells el)}:=by
 have b:¬(16777216<len*te.size):=by omega
 by_cases h0:len*te.size=0
 .rw [h0,zN]at hf
  simp only[Instr.buildSlice,Qd9,Qc1 hti.und,Qd0,Yq hte,gt_iff_lt,Nat.reducePow,h0,Qh8,Qe9,Sem.run_ite,zN];rw[hf]
  simp[newRow]
 .simp only[Instr.buildSlice,Qd9,Qc1 hti.und,Qd0,Yq hte,b,gt_iff_lt,Nat.reducePow,Qh2,h0,Qe9,Sem.run_ite,RP hte]
  rw[hf];simp[newRow]
theorem LC{X:Nat->Prop}{ds:List DVal}(h:y9 w X η C c cs)(hd:VE cs=some ds):ds.length=c.size/\∀j,j<ds.length->DRep w X (c.getD j undef) (ds.getD j .any):=by
 obtain⟨f,d⟩:=kQ cs ds c 0 hd (λj b=>by rw[Qd1];exact h.2 j b);exact⟨by rw[f,h.1],λj b=>by have:=d j b;rwa [Qd1]at this⟩
theorem Q7k(hL:y4 P L)(h:Conc C nt R η e s a w)(hdn:∀ x,o.dst=some x->x<nt){len:Nat}{ps:Array (Nat×Operand)}(hop:o.op=.buildSlice t len ps)(ht:L t=some ti)(hk:ti.kind=.slice el)(hte:L el=some te)(hle:len*te.size<=16777216)(hzl:te.zero.length=te.size)(hf:UB (fun i=>some (i*te.size,te.size)) (VM len te.zero) (ps.toList.map fun p=>(p.1,Y2 e p.2))=some cs){ds:List DVal}(hds:VE cs=some ds):
  y3 P C nt R η e s a w o {v:=.v (.c (.d (.lst len λi=>(ds.drop (i*te.size)).take te.size)))} /\
  ∀d,o.dst=some d->¬R d->0<te.size->y3 P C nt R η e s a w o {v:=.v (.c (.own d)),new:=some (.arr te.size len λi=>(ds.drop (i*te.size)).take te.size)}:=by
 obtain⟨i,dd,z,E⟩:=hL t ti ht;obtain⟨i2,d2,z2,m⟩:=hL el te hte
 have y:=E.kind;rw[hk]at y
 simp only[ZL]at y;subst y
 obtain⟨m1,m2,_⟩:=Q2m h ps;have hz:=m.zrep w (XS C s η) η C
 have a6:z2.cells.size=te.size:=by rw[hz.1,hzl]
 have H:=Q4O hz len;rw[hzl]at H
 obtain⟨M,q,k,_⟩:=Q1Y _ _ _ _ _ hf H m1 m2;have F:=Q8y (w:=w) E m len hle q
 have f:(execOp a.eval o).run P w=.ok (.value (.slice (some ⟨w.heap.size,0,none⟩) len len)) {w with heap:=w.heap.push (.cells M el)}:=by
  simp only[execOp,hop,Qd9];rw[F];rfl
 obtain⟨u,a9⟩:=LC k hds;have l:ds.length=len*te.size:=by
  have:=k.1
  have T:cs.length=(VM len te.zero).length:=by
   have U:∀(ps:List (Nat×AVal)) (pl:Nat->Option (Nat×Nat)) (Q cs:List CV),UB pl Q ps=some cs->cs.length=Q.length:=by
    intro ps pl
    induction ps with
    |nil=>intro Q cs h;cases h;rfl
    |cons p r ih=>
     intro Q cs h;obtain⟨i,x⟩:=p
     simp only[UB]at h;split at h
     .split at h
      .rename_i Y;rw[ih _ _ h,KK _ _ _ (by omega)]
      .cases h
     .cases h
   exact U _ _ _ _ hf
  rw[u,this,T,qM,hzl]
 have K:∀i,i<len->((ds.drop (i*te.size)).take te.size).length=te.size:=by
  intro i D;have:(i+1)*te.size<=len*te.size:=Qb3 _ D
  grind
 have B:∀i j,i<len->j<te.size->DRep w (XS C s η) (M.getD (i*te.size+j) undef) (((ds.drop (i*te.size)).take te.size).getD j .any):=by
  grind
 have S:QS w {w with heap:=w.heap.push (.cells M el)} (XS C s η) (XS C s η):=λb g hX=>⟨by show(w.heap.push _)[b]?=_;rw[Ql2,Qa1 (by omega)],hX⟩
 have W:¬XS C s η w.heap.size:=by
  rintro(⟨hx,_⟩|hx)
  .have:=h.ok.lt _ hx;have:=h.fr.size;omega
  .have:=h.lt hx;omega
 refine⟨?_,λd O hR N=>?_⟩
 .refine ⟨_,_,.inl f,?_⟩
  have G:∀v,SR.eta {v:=.v (.c (.d (.lst len λi=>(ds.drop (i*te.size)).take te.size)))} o.dst v η=η:=λv=>by funext i;simp[SR.eta]
  have J:SR.sto {v:=.v (.c (.d (.lst len λi=>(ds.drop (i*te.size)).take te.size)))} o.dst s=s:=by funext i;simp[SR.sto]
  refine h.step o.dst hdn _ _ _ (λ_=>False) (Stp.alloc _ w _) (λb g=>g.elim) (λ_ _ V=>by cases V) (λ_ _ V=>by cases V) λ_=>?_
  rw[G,J];refine⟨.v _ _ (.c _ _ (.d _ _ ?_)),λj I=>by simp[AVal.refs,TV.refs,CV.refs]at I⟩
  refine .lst w.heap.size 0 len len M el (0,0) _ te.size W (by simp) (Qb4 _) (by rw[Qd1, <-u,l];exact Qb4 _) K λi j D I=>?_
  rw[Qd1];exact(B i j D I).mono S
 .by_cases hl0:len=0
  .subst hl0
   exact Uk h O (hdn d O) hR (del:=[]) (Z:=λ_=>False) f (Stp.alloc _ w _) rfl (λb g=>g.elim) (λi' n=>by cases n) (λb g=>by simp[Y7]at g) λX' _=>.nil _ _ _
  .refine Uk h O (hdn d O) hR (del:=[]) (Z:=λ_=>False) f (Stp.alloc _ w _) rfl (λb g=>g.elim) (λi' n=>by cases n) (λb g=>.inl (by simp[Y7]at g;omega)) λX' A=>?_
   refine .arr w.heap.size len len te.size M el _ (by simp) (by rw[<-u,l]) (Qb4 _) ?_ (by omega) K λi j D I=>(B i j D I).mono A
   have:len*1<=len*te.size:=Qx3 _ N
   simp only[maxLen];omega
theorem Q7b(hL:y4 P L)(h:Conc C nt R η e s a w)(hd:o.dst=some d)(hdn:d<nt)(hR:¬R d){l c:Operand}(hop:o.op=.makeSlice t l c)(ht:L t=some ti)(hk:ti.kind=.slice el)(hte:L el=some te){n: Int}(hl:ZK (Y2 e l)=some n)(hc:ZK (Y2 e c)=some n')(h0:0<te.size)(hby:te.bytes<=8192)(hzl:te.zero.length=te.size){zd:List DVal}(hz:VE te.zero=some zd){c0:Prop}(hn:0<=n/\n=n' /\ n<=Z9):y3 P C nt R η e s a w o {v:=.v (.c (.own d)),new:=some (.arr te.size n.toNat λ_=>zd),cond:=c0}:=by
 obtain⟨i,dd,z,u⟩:=hL t ti ht;obtain⟨i2,d2,G,f⟩:=hL el te hte
 have D:=u.kind;rw[hk]at D
 simp only[ZL]at D;subst D
 obtain⟨a1,rfl,B⟩:=hn;have p:∀{y:Operand} {m:Int},ZK (Y2 e y)=some m->∃k,a.eval y=.int k m:=by
  intro y m F;unfold ZK at F
  split at F
  .rename_i k m' M
   cases F
   have J:=(J9 h y).1;rw[M]at J
   exact⟨k,WV J⟩
  .cases F
 obtain⟨k1,M⟩:=p hl;obtain⟨k2,W⟩:=p hc
 have hw:IntKind.i64.wrap n=n:=kH ⟨by omega,by simp only[Z9]at B;omega⟩;have r:(te.bytes:Int)*n<=2 ^ 48:=by
  have hh:te.bytes*n.toNat<=8192*4294967296:=Qk3 hby (by simp only[Z9]at B;omega)
  grind
 have q:G.cells.size=te.size:=by rw[(f.zrep w (XS C s η) η C).1,hzl]
 have T:(decide (n<0)||decide ((te.bytes:Int)*n > 2 ^ 48))=false:=by simp;omega
 have g:∃K,(execOp a.eval o).run P w=.ok (.value (.slice (some ⟨w.heap.size,0,none⟩) n.toNat n.toNat)) {w with heap:=w.heap.push (.cells K el)} /\ K.size=n.toNat*te.size/\∀j,j<n.toNat*te.size->K.getD j undef=G.cells.getD (j % te.size) undef:=by
  by_cases hz0:n.toNat*te.size=0
  .have V:n.toNat=0:=by rcases Nat.mul_eq_zero.1 hz0 with J|J;exact J;omega
   have N:n=0:=by omega
   subst N;refine⟨#[],?_,by simp,λj H=>by simp at H⟩
   simp[execOp,hop,Instr.makeSlice,M,W,asInt,asIntOf,Qc1 u.und,typeInfo,f.info,newRow,IntKind.wrap,IntKind.bits,IntKind.signed,Yq f,zN]
  .refine ⟨(Array.range (n.toNat*te.size)).map (G.cells[· % G.cells.size]!),?_,by simp,λj H=>?_⟩
   .have x:¬n<0:=by omega
    have S:¬(281474976710656:Int)<(te.bytes:Int)*n:=by omega
    simp[execOp,hop,Instr.makeSlice,M,W,asInt,asIntOf,Qc1 u.und,typeInfo,f.info,f.bytes,newRow,hw,x,S,Yq f,RP f,hz0]
   .have:j % G.cells.size<G.cells.size:=by rw[q];exact Qr5 _ h0
    rw[zO _ _ _ H, <-q];simp[this]
 obtain⟨K,g,O,Q⟩:=g;obtain⟨I,U⟩:=LC (f.zrep w (XS C s η) η C) hz
 by_cases hl0:n.toNat=0
 .rw [hl0]at g⊢
  exact Uk h hd hdn hR (del:=[]) (Z:=λ_=>False) g (Stp.alloc _ w _) rfl (λb r=>r.elim) (λi' A=>by cases A) (λb r=>by simp[Y7]at r) λX' _=>.nil _ _ _
 .refine Uk h hd hdn hR (del:=[]) (Z:=λ_=>False) g (Stp.alloc _ w _) rfl (λb r=>r.elim) (λi' A=>by cases A) (λb r=>.inl (by simp[Y7]at r;omega)) λX' E=>?_
  refine .arr w.heap.size n.toNat n.toNat te.size K el _ (by simp) O (Qb4 _) (by simp only[maxLen];simp only[Z9]at B;omega) (by omega) (λi _=>by rw[I,q]) λi j Y H=>?_
  have x:i*te.size+j<n.toNat*te.size:=by
   have:(i+1)*te.size<=n.toNat*te.size:=Qb3 _ Y
   grind
  rw[Q _ x];have F:(i*te.size+j) % te.size=j:=by rw[Ql7,Qm0,Qo2 H]
  rw[F];exact(U j (by rw[I,q];exact H)).mono E
end
end
section
section
variable {P:Program} {L:Lay} {C:Ctx} {nt:Nat} {R:Nat->Prop} {η:Nat->Value} {e:U4} {s:U6} {a:Act} {w:World}
theorem PR(h:Conc C nt R η e s a w){m:Int}(hm:ZK (Y2 e y)=some m):∃k,a.eval y=.int k m:=by
 unfold ZK at hm;split at hm
 .rename_i k d c
  cases hm
  have b:=(J9 h y).1;rw[c]at b
  exact⟨k,WV b⟩
 .cases hm
theorem Q0w(hL:y4 P L){X:Nat->Prop}(h:y9 w X η C vs cs){t:Nat}(ht:L t=some ti)(ho:off+ti.size<=cs.length){v:AVal}(hv:Vn ti.kind.agg ((cs.drop off).take ti.size)=some v):
  ∃u,(part t vs off).run P w=.ok u w/\ARep w X η C u v/\∀j∈v.refs,j∈cs.flatMap CV.refs:=by
 obtain⟨i,d,z,k⟩:=hL t ti ht;have r:=h.1
 unfold Vn at hv;split at hv
 .rename_i n
  cases hv
  refine⟨.agg (vs.extract off (off+ti.size)),?_,.v _ _ (.g _ _ ⟨by simp;omega,λj l=>?_⟩),λj l=>vw _ _ _ j (vv _ _ _ j l)⟩
  .simp only[part,Qd9,BP k,Qd0,n,Qh8,Yq k,Qe9]
  .have m : j<ti.size:=by simp at l;omega
   rw[vp _ _ _ _ _ m];have f:off+j<vs.size:=by omega
   have:(vs.extract off (off+ti.size)).getD j undef=vs.getD (off+j) undef:=by
    have q:j<min (off+ti.size) vs.size-off:=by omega
    simp[f,q]
   rw[this];exact h.2 _ (by omega)
 .rename_i n
  split at hv
  .rename_i y p
   cases hv
   have b:((cs.drop off).take ti.size).length=ti.size:=by simp;omega
   rw[p]at b;have x:ti.size=1:=by simpa using b.symm
   have f:off<vs.size:=by omega
   refine⟨vs.getD off undef,?_,.v _ _ (.c _ _ ?_),λj l=>?_⟩
   .simp [part,BP k,n,f]
   .have:=h.2 off (by omega)
    have o:cs.getD off (.d .any)=y:=by
     have A:=vp cs off ti.size 0 (.d .any) (by omega)
     grind
    rwa [o]at this
   .refine vw _ _ off j (vv _ _ ti.size j ?_)
    rw[p];simpa[AVal.refs,TV.refs]using l
  .cases hv
theorem Z5b(h:Conc C nt R η e s a w):∀(xs:List Operand) (ids:List Nat),Zj.cloIds (xs.map (Y2 e))=some ids->xs.map a.eval=ids.map η/\∀j∈ids,R j:=by
 intro xs
 induction xs with
 |nil=>intro ids c;cases c;exact⟨rfl,by simp⟩
 |cons x r ih=>
  intro ids c;obtain⟨m,n⟩:=J9 h x
  rw[Qf7]at c;unfold Zj.cloIds at c
  split at c
  .grind
  .rename_i t q i
   injection i with i e2
   subst e2;split at c
   .rename_i l d
    cases c
    obtain⟨p,o⟩:=ih _ d;rw[i]at m n
    obtain⟨b,g,f⟩:=DI m;refine⟨by rw[Qf7,Qf7,p,g,f],λj k=>?_⟩
    rcases Qf0.1 k with rfl|k
    .exact n _ (by simp[AVal.refs,TV.refs,CV.refs])
    .exact o j k
   .cases c
  .cases c
theorem Z3s(h:Conc C nt R η e s a w){v:AVal}(hv:(match Y2 e x with
     |.v (.c (.ptr id o))=>some ({v:=.v (.c (.ptr id (o+off)))}:SR)
     |.v (.c (.pte id es idx o))=>some {v:=.v (.c (.pte id es idx (o+off)))}
     |.v (.c (.elm cs))=>if off<=cs.length then some {v:=.v (.c (.elm (cs.drop off)))}else none
     |_=>none)=some {v:=v}):
  (∀b o',a.eval x=.pointer (some ⟨b,o',none⟩)->ARep w (XS C s η) η C (.pointer (some ⟨b,o' + off,none⟩)) v)/\(∀j∈v.refs,R j)/\∃b o',a.eval x=.pointer (some ⟨b,o',none⟩):=by
 obtain⟨i,l⟩:=J9 h x;split at hv
 .rename_i id o k
  cases hv
  rw[k]at i l;obtain⟨b,d,g⟩:=DI i
  exact⟨λr o' f=>by rw[d]at f;cases f;exact zP _ g,λj q=>l j (by simpa[AVal.refs,TV.refs,CV.refs]using q),b,o,d⟩
 .rename_i id es idx o k
  cases hv
  rw[k]at i l;obtain⟨b,n,m,d,g⟩:=zQ i
  exact⟨λr o' f=>by rw[d]at f;cases f;rw[Qi5];exact .v _ _ (.c _ _ (.pte b n m _ _ _ _ g)),λj q=>l j (by simpa[AVal.refs,TV.refs,CV.refs]using q),b,_,d⟩
 .rename_i cs k
  split at hv
  .rename_i p
   cases hv
   rw[k]at i;obtain⟨b,o,c,A,fz,d,z,y,u,t⟩:=Q2q i
   exact⟨λr o' f=>by rw[d]at f;cases f;exact Z3Y _ z y u t off p,by simp[AVal.refs,TV.refs,CV.refs],b,o,d⟩
  .cases hv
 .cases hv
theorem Q7h(hL:y4 P L)(h:Conc C nt R η e s a w){o:Oper}(hd:∀ x,o.dst=some x->x<nt){t:TypeId}{x i:Operand}(hop:o.op=.indexAddr t x i){ti:TI}(ht:L t=some ti){el:Nat}(hk:ti.kind=.slice el){te:TI}(hte:L el=some te){m:Int}(hi:ZK (Y2 e i)=some m){n:Nat}{f:Nat->List DVal}(hx:Zj.asF (Y2 e x)=some (n,f))(hf:(f m.toNat).length=te.size){c:Prop}(hc:0<=m/\m<n):
  y3 P C nt R η e s a w o {v:=.v (.c (.elm (f m.toNat))),cond:=c}:=by
 obtain⟨B,d1,z,l⟩:=hL t ti ht;obtain⟨D,A,F,p⟩:=hL el te hte
 have g:=l.kind;rw[hk]at g
 simp only[ZL]at g;subst g
 obtain⟨k,y⟩:=PR h hi;obtain⟨E,u,ev,d⟩:=xP (J9 h x).1 hx
 rw[ev]at d
 cases d with
 |nil=>omega
 |lst b off _ _ c' e' fz _ es h1 h2 h3 h4 h5 h6=>
  have r:es=te.size:=by rw[<-h5 m.toNat (by omega),hf]
  subst r;have q:m.toNat*te.size+te.size<=n*te.size:=by
   have:(m.toNat+1)*te.size<=n*te.size:=Qb3 _ (by omega)
   grind
  refine QY h hd (v:=.pointer (some ⟨b,off+m.toNat*te.size,none⟩)) ?_ (.v _ _ (.c _ _ (.elm b _ c' e' fz _ h1 h2 (by rw[hf];omega) λj G=>?_))) (by simp[AVal.refs,TV.refs,CV.refs])
  .simp [execOp,hop,Instr.indexAt,y,ev,asIntOf,Qc1 l.und,hc,Yq p,add_lit]
  all_goals grind
theorem Q7g(hL:y4 P L)(h:Conc C nt R η e s a w){o:Oper}(hd:∀ x,o.dst=some x->x<nt){t:TypeId}{x i:Operand}(hop:o.op=.indexAddr t x i){ti:TI}(ht:L t=some ti){el:Nat}(hk:ti.kind=.slice el){te:TI}(hte:L el=some te){m:Int}(hi:ZK (Y2 e i)=some m){id:Nat}(hx:Y2 e x=.v (.c (.own id))){n:Nat}{f:Nat->List DVal}(hs:s id=some (.arr te.size n f)){c:Prop}(hc:0<=m/\m<n):
  y3 P C nt R η e s a w o {v:=.v (.c (.pte id te.size m.toNat 0)),cond:=c}:=by
 obtain⟨F,d1,A,l⟩:=hL t ti ht;obtain⟨D,B,E,g⟩:=hL el te hte
 have d:=l.kind;rw[hk]at d
 simp only[ZL]at d;subst d
 obtain⟨k,z⟩:=PR h hi;obtain⟨q,r⟩:=J9 h x
 rw[hx]at q r;have ev:=WA q
 have p:=h.st id _ hs;generalize hu:η id=u at p ev
 cases p with
 |nil=>omega
 |arr b _ cap _ c' e' _ hb hsz hn hm hc0 hl hel=>
  refine QY h hd (v:=.pointer (some ⟨b,m.toNat*te.size+0,none⟩)) ?_ (.v _ _ (.c _ _ (.pte b n cap _ _ _ _ hu))) (λj y=>r j (by simpa[AVal.refs,TV.refs,CV.refs]using y));simp[execOp,hop,Instr.indexAt,z,ev,asIntOf,Qc1 l.und,hc,Yq g,add_lit]
theorem Q7i(hL:y4 P L)(h:Conc C nt R η e s a w)(hd:∀ x,o.dst=some x->x<nt){i:Operand}(hop:o.op=.indexAddr t x i)(ht:L t=some ti)(hk:ti.kind=.array n el)(hte:L el=some te){m:Int}(hi:ZK (Y2 e i)=some m)(hx:Y2 e x=.v (.c (.ptr id off)))(hc:0<=m/\m<n):
  y3 P C nt R η e s a w o {v:=.v (.c (.ptr id (off+m.toNat*te.size)))}:=by
 obtain⟨B,d1,y,g⟩:=hL t ti ht;obtain⟨D,z,A,f⟩:=hL el te hte
 have d:=g.kind;rw[hk]at d
 simp only[ZL]at d;subst d
 obtain⟨k,r⟩:=PR h hi;obtain⟨l,p⟩:=J9 h x
 rw[hx]at l p;obtain⟨b,ev,u⟩:=DI l
 refine QY h hd (v:=.pointer (some ⟨b,off+m.toNat*te.size,none⟩)) ?_ (zP _ u) (λj q=>p j (by simpa[AVal.refs,TV.refs,CV.refs]using q));simp[execOp,hop,Instr.indexAt,r,ev,asIntOf,Qc1 g.und,hc,Yq f,add_lit,Instr.sureAddr]
end
end
section
section
variable {P:Program} {L:Lay} {C:Ctx} {nt:Nat} {R:Nat->Prop} {η:Nat->Value} {e:U4} {s:U6} {a:Act} {w:World}
theorem ym{α β:Type}{f:α->β}{l:List α}{u v:β}(h:l.map f=[u,v]):∃x y,l=[x,y]/\f x=u/\f y=v:=by
 match l,h with
 |[],h=>simp at h
 |[_],h=>simp at h
 |[x,y],h=>simp at h;exact⟨x,y,rfl,h.1,h.2⟩
 |_::_::_::_,h=>simp at h
theorem Q3U(hL:y4 P L)(h:Conc C nt R η e s a w)(m:Bool)(o:Oper)(hd:∀x,o.dst=some x->x<nt)(hr:Zj L m e s o=some r)(hc:r.cond)(hR:∀d,o.dst=some d->r.new≠none->¬R d)(hst:∀t x y,o.op=.store t x y->o.dst=none):y3 P C nt R η e s a w o r:=by
 unfold Zj at hr;split at hr
 .
  rename_i x p
  cases hr
  exact gZ h hd (.inl p)
 .
  rename_i x p
  split at hr
  .cases hr
   exact gZ h hd (.inr p)
  .rename_i f d G A
   split at hr
   .rename_i el U H zz F
    split at hr
    .rename_i te D
     cases hr
     have T:=(J9 h x).1;rw[G]at T
     have e5:∃ad,a.eval x=.slice ad 0 0:=by
      generalize a.eval x=u at T
      cases T with|v _ _ T=>cases T with|c _ _ T=>cases T with|fl ad _ _ T=>exact⟨ad,rfl⟩
     obtain⟨ad,Y⟩:=e5;exact Uk h A (hd d A) (hR d A (by simp)) (del:=[]) (v:=.slice ad 0 0) (Z:=λ_=>False) (by simp[execOp,p,Y]) (Stp.refl _ _) rfl (λb I=>I.elim) (λi hi=>by cases hi) (λb I=>by cases ad<;>simp[Y7]at I) (λX' _=>.nil _ _ _)
    .cases hr
   .cases hr
  .cases hr
 .
  rename_i c x y p
  split at hr
  .rename_i I;cases hr;exact gX h hd p I
  .rename_i I;cases hr;exact gX h hd p I
  .cases hr
 .
  rename_i t p
  split at hr
  .rename_i ti d F A
   cases hr
   exact Q7o hL h A (hd d A) (hR d A (by simp)) p F
  .cases hr
 .
  rename_i t x p
  split at hr
  .rename_i xs d G A
   cases hr
   exact Q7l h A (hd d A) (hR d A (by simp)) p G
  .cases hr
 .
  rename_i t ps p
  split at hr
  .rename_i fs U H z F
   split at hr
   .rename_i pl i7
    split at hr
    .rename_i cs hf
     cases hr
     exact jd hL h hd p F (.inl ⟨fs,pl,rfl,i7,rfl⟩) hf
    .cases hr
   .cases hr
  .rename_i n el U H z F
   split at hr
   .rename_i te D
    split at hr
    .rename_i cs hf
     cases hr
     exact jd hL h hd p F (.inr ⟨n,el,te,rfl,D,rfl⟩) hf
    .cases hr
   .cases hr
  .cases hr
 .
  rename_i t j3 ps p
  split at hr
  .rename_i el U H z F
   split at hr
   .rename_i te D
    split at hr
    .rename_i a6
     split at hr
     .rename_i cs hf
      split at hr
      .rename_i ds j2
       obtain⟨B,K⟩:=Q7k hL h hd p F rfl D a6.1 a6.2.1 hf j2;split at hr
       .cases hr;exact B
       .rename_i d A
        cases hr
        exact K d A (hR d A (by simp)) a6.2.2
       .cases hr
      .cases hr
     .cases hr
    .cases hr
   .cases hr
  .cases hr
 .
  rename_i t x p
  split at hr
  .rename_i ti F
   split at hr
   .rename_i cs c i3
    split at hr
    .rename_i v T
     cases hr
     exact Q7c hL h hd p F i3 T hc
    .cases hr
   .cases hr
  .cases hr
 .
  rename_i t x y p
  split at hr
  .rename_i ti xs F hy
   split at hr
   .rename_i h8
    exact Q6W hL h (hst t x y p) p F hy h8 hr hc
   .cases hr
  .cases hr
 .
  rename_i x p
  obtain⟨B,K⟩:=J9 h x;split at hr
  .rename_i id a2 e1
   cases hr
   rw[e1]at B K;obtain⟨b,W,c7⟩:=DI B
   exact QY h hd (v:=a.eval x) (by simp[execOp,p,W]) B K
  .rename_i id es l1 a2 e1
   cases hr
   rw[e1]at B K;obtain⟨b,n,J,W,c7⟩:=zQ B
   exact QY h hd (v:=a.eval x) (by simp[execOp,p,W]) B K
  .rename_i cs e1
   cases hr
   rw[e1]at B K;obtain⟨b,a2,c,e',fz,W,_⟩:=Q2q B
   exact QY h hd (v:=a.eval x) (by simp[execOp,p,W]) B K
  .cases hr
 .
  rename_i op t x y t' p
  exact Q7m h hd p hr hc
 .
  rename_i op t x p
  exact Q6V h hd p hr hc
 .
  rename_i l0 dst x p
  split at hr
  .rename_i k0 s1 b1 z1 k s2 b2 z2 k1 n c5 d6 G
   cases hr
   obtain⟨i1,d1,h9,Q⟩:=hL _ _ c5;obtain⟨i2,d2,j4,O⟩:=hL _ _ d6
   have b5:=Q.kind;have b4:=O.kind
   simp only[ZL]at b5 b4;subst b5;subst b4
   have B:=(J9 h x).1;rw[G]at B
   have Y:=WV B;obtain⟨g1,_⟩:=FO m k n _ hc
   refine Rf h hd g1 hc ?_;simp[execOp,p,convert,Qc1 Q.und,Qc1 O.und,Y,Conv.intToInt]
  .rename_i s1 b1 z1 s2 b2 z2 b c5 d6 G
   cases hr
   obtain⟨i1,d1,h9,Q⟩:=hL _ _ c5;obtain⟨i2,d2,j4,O⟩:=hL _ _ d6
   have b5:=Q.kind;have b4:=O.kind
   simp only[ZL]at b5 b4;subst b5;subst b4
   obtain⟨B,K⟩:=J9 h x;rw[G]at B
   have Y:=KH B;refine QY h hd (v:=.string b) ?_ (by rw[Y]at B;exact B) (by simp[AVal.refs,TV.refs,CV.refs])
   simp[execOp,p,convert,Qc1 Q.und,Qc1 O.und,Y]
  .cases hr
 .
  rename_i f c8 e3 p
  split at hr
  .rename_i j7
   split at hr
   .rename_i g9 e6
    cases hr
    obtain⟨g1,g2⟩:=Z5b h _ _ e6;have g0:c8=#[]:=by simpa using j7
    subst g0;refine QY h hd (v:=.func (.func f) #[] (e3.map a.eval)) (by simp[execOp,p,Instr.makeFunc]) (.v _ _ (.c _ _ (.clo f g9 _ ?_))) (λj hj=>g2 j (by simpa[AVal.refs,TV.refs,CV.refs]using hj))
    rw[<-g1];exact Qw8 (by simp)
   .cases hr
  .cases hr
 .
  rename_i t x lo hi p
  split at hr
  .rename_i el U H z F
   split at hr
   .rename_i te D
    split at hr
    .rename_i y l u hl hu
     split at hr
     .rename_i n f G
      cases hr
      exact Q6Y hL h hd p F rfl D hl hu G hc.1 hc.2
     .cases hr
    .rename_i id u G hl hu
     split at hr
     .rename_i es n f d hs A
      cases hr
      obtain⟨i1,d1,z1,S⟩:=hL _ _ F;obtain⟨i2,d2,z2,a5⟩:=hL _ _ D
      have V:=S.kind;simp only[ZL]at V
      subst V;have B:=(J9 h x).1
      rw[G]at B;have Y:=WA B
      have a0:=h.st id _ hs;have d4:0<=u/\u<=n:=hc
      have hn:∃E J,η id=.slice E n J/\n<=J:=by
       generalize η id=v at a0
       cases a0 with
       |nil=>exact⟨_,_,rfl,Qb4 _⟩
       |arr b _ J _ c' e' _ _ _ hn _ _ _ _=>exact⟨_,_,rfl,hn⟩
      obtain⟨E,J,d5,hn⟩:=hn;obtain⟨I,g1,g2,g3,g4⟩:=jy (P:=P) h hl hu n J hn f (by simpa[sl]using d4)
      simp only[Option.getD_none,Qq5,Int.toNat_zero]at I g1 g2;have e9:E.map (λx:Addr=>x.add 0)=E:=by cases E<;>simp[Addr.add]
      have c4:(execOp a.eval o).run P w=.ok (.value (.slice E u.toNat J)) w:=by
       have d7:(if J=0 then E else E.map (λx:Addr=>x.add 0))=E:=by rw[e9];split<;>rfl
       simp only[execOp,p,Qd9,Instr.sliceAt,Qc1 S.und,Qd0,Instr.slice,Y,d5,Qr2,I,Yq a5,Qe9,Qr3,Qr1];rw[d7]
      have h6:Y7 (.slice E u.toNat J)=Y7 (.slice E n J):=by cases E<;>rfl
      refine Uk h A (hd d A) (hR d A (by simp)) (Z:=λ_=>False) c4 (Stp.refl _ _) rfl (λb I=>I.elim) (λi' e7 o' e8=>by simp at e7;subst e7;rw[hs]at e8;cases e8;rfl)
       (λb I=>.inr ⟨id,by simp,by rw[hs];simp,by rw[d5, <-h6];exact I⟩) λX' c9=>?_
      rw[d5]at a0;have:=a0.mono (η':=SR.eta {v:=.v (.c (.own d)),del:=[id],new:=some (.arr es u.toNat f),cond:=0<=u/\u<=n} o.dst (.slice E u.toNat J) η) c9 (by simp[Obj.refs]) (λ_ _=>rfl)
      cases this with
      |nil=>
       have h0:u.toNat=0:=by omega
       rw[h0];exact .nil _ _ _
      |arr b _ _ _ c' e' _ q1 q2 q3 q4 q5 q6 q7=>
       exact .arr b u.toNat J _ c' e' _ q1 q2 (by omega) q4 q5 (λi hi=>q6 i (by omega)) λi j hi hj=>q7 i j (by omega) hj
     .cases hr
    .cases hr
   .cases hr
  .cases hr
 .
  rename_i t x G mx p
  split at hr
  .rename_i el U H z F
   split at hr
   .rename_i te n f u u' D i5 hu hm
    split at hr
    .rename_i j1
     obtain⟨rfl,h0⟩:=j1;cases hr
     exact Q6X hL h hd p F rfl D hu hm h0 i5 hc.1 hc.2
    .cases hr
   .cases hr
  .cases hr
 .
  rename_i t x k p
  split at hr
  .rename_i fs U H z F
   split at hr
   .rename_i a2 ft hf
    split at hr
    .rename_i tf d9
     split at hr
     .cases hr
     .rename_i hz
      have f2:∃v,r={v:=v}:=by
       grind
      obtain⟨v,rfl⟩:=f2;obtain⟨g1,g2,g3⟩:=Z3s h hr
      exact Q7j hL h hd p F rfl hf d9 hz g1 g2 g3
    .cases hr
   .cases hr
  .cases hr
 .
  rename_i t x k p
  split at hr
  .rename_i fs U H z F
   split at hr
   .rename_i a2 ft cs hf G
    split at hr
    .rename_i tf d9
     split at hr
     .rename_i a6
      split at hr
      .rename_i v T
       cases hr
       obtain⟨i1,d1,z1,S⟩:=hL _ _ F;have V:=S.kind
       obtain⟨c1,rfl,l3⟩:=V;have h5 : ∃f,c1[k]?=some f/\f.offset=a2/\f.type=ft:=by
        grind
       obtain⟨f,g5,rfl,rfl⟩:=h5;obtain⟨B,K⟩:=J9 h x
       rw[G]at B K;have a9:∃vs,a.eval x=.agg vs/\y9 w (XS C s η) η C vs cs:=by
        generalize a.eval x=u at B
        cases B with|v _ _ B=>cases B with|g vs _ B=>exact⟨vs,rfl,B⟩
       obtain⟨vs,Y,d8⟩:=a9;obtain⟨u,g1,g2,g3⟩:=Q0w (P:=P) hL d8 d9 a6 T
       refine QY h hd (v:=u) ?_ g2 (λj hj=>K j (by simpa[AVal.refs,TV.refs]using g3 j hj));simp only[execOp,p,Qd9,Instr.field,Qc1 S.und,Qd0,g5,Y,asAgg,Qe9,g1]
      .cases hr
     .cases hr
    .cases hr
   .cases hr
  .cases hr
 .
  rename_i t x i p
  split at hr
  .rename_i el U H z m' F hi
   split at hr
   .rename_i te D
    split at hr
    .rename_i id G
     split at hr
     .rename_i es n f hs
      split at hr
      .rename_i g7
       subst g7;cases hr
       exact Q7g hL h hd p F rfl D hi G hs hc
      .cases hr
     .cases hr
    .split at hr
     .rename_i n f G
      split at hr
      .rename_i hf
       cases hr
       exact Q7h hL h hd p F rfl D hi G hf hc
      .cases hr
     .cases hr
   .cases hr
  .rename_i n el U H z m' F hi
   split at hr
   .rename_i te id a2 D G
    split at hr
    .rename_i I
     cases hr
     exact Q7i hL h hd p F rfl D hi G I
    .cases hr
   .cases hr
  .cases hr
 .
  rename_i t x i p
  split at hr
  .rename_i n el U H z m' cs F hi G
   split at hr
   .rename_i te D
    split at hr
    .rename_i I
     obtain⟨W,c7,i8⟩:=I;split at hr
     .rename_i v T
      cases hr
      obtain⟨i1,d1,z1,S⟩:=hL _ _ F;obtain⟨i2,d2,z2,a5⟩:=hL _ _ D
      have V:=S.kind;simp only[ZL]at V
      subst V;obtain⟨k,ei⟩:=PR h hi
      obtain⟨B,K⟩:=J9 h x;rw[G]at B K
      have a9:∃vs,a.eval x=.agg vs/\y9 w (XS C s η) η C vs cs:=by
       generalize a.eval x=u at B
       cases B with|v _ _ B=>cases B with|g vs _ B=>exact⟨vs,rfl,B⟩
      obtain⟨vs,Y,d8⟩:=a9;obtain⟨u,g1,g2,g3⟩:=Q0w (P:=P) hL d8 D i8 T
      refine QY h hd (v:=u) ?_ g2 (λj hj=>K j (by simpa[AVal.refs,TV.refs]using g3 j hj));simp[execOp,p,Instr.index,ei,Y,asIntOf,Qc1 S.und,W,c7,Yq a5,g1]
     .cases hr
    .cases hr
   .cases hr
  .cases hr
 .
  rename_i t l c p
  split at hr
  .rename_i el U H z n n' d F hl d4 A
   split at hr
   .rename_i te D
    split at hr
    .rename_i zd hz
     split at hr
     .rename_i I
      cases hr
      exact Q7b hL h A (hd d A) (hR d A (by simp)) p F rfl D hl d4 I.1 I.2.1 I.2.2 hz hc
     .cases hr
    .cases hr
   .cases hr
  .cases hr
 .
  rename_i x k p
  split at hr
  .rename_i xs G
   split at hr
   .rename_i v T
    cases hr
    obtain⟨B,K⟩:=J9 h x;rw[G]at B K
    have a9:∃us,a.eval x=.tuple us/\us.size=xs.length/\∀j,j<xs.length->TRep w (XS C s η) η C (us.getD j undef) (xs.getD j (.c (.d .any))):=by
     generalize a.eval x=u at B
     cases B with|t us _ g1 g2=>exact⟨us,rfl,g1,g2⟩
    obtain⟨us,Y,g1,g2⟩:=a9;have hk:k<xs.length:=by
     grind
    have i4 : k<us.size:=by omega
    have h3:=g2 k hk;have h4 : xs.getD k (.c (.d .any))=v:=by rw[Qa0,T];rfl
    rw[h4]at h3;refine QY h hd (v:=us.getD k undef) ?_ (.v _ _ h3) (λj hj=>K j ?_)
    .simp [execOp,p,Instr.extract,Y,i4]
    .exact Qb8.2 ⟨v,Qf4 T,hj⟩
   .cases hr
  .cases hr
 .
  rename_i b N f6 p
  split at hr
  .rename_i r' d q
   unfold Kv at q;split at q
   .
    rename_i y M
    obtain⟨x,hargs,hy⟩:∃x,N=#[x]/\y=Y2 e x:=by
     match hl:N.toList,M with
     |[x],M=>simp at M;exact⟨x,Qw8 hl,M.symm⟩
    subst hargs;subst hy
    split at q
    .rename_i t b3
     have d0:f6=#[t]:=Qw8 b3;subst d0
     split at q
     .rename_i el U H z F
      split at q
      .rename_i n f G
       cases q
       simp only at hr;cases hr
       exact Q7f hL h hd p F rfl G
      .cases q
     .rename_i n el U H z F
      cases q
      simp only at hr;cases hr
      exact Q7e hL h hd p F rfl
     .rename_i U H z F
      split at q
      .rename_i bb G
       cases q
       simp only at hr;cases hr
       exact Q7d hL h hd p F rfl G
      .cases q
     .cases q
    .cases q
   .
    rename_i k n k' n' M
    obtain⟨x,y,hargs,G,hy⟩:∃x y,N=#[x,y]/\Y2 e x=.v (.c (.d (.int k n)))/\Y2 e y=.v (.c (.d (.int k' n'))):=by
     obtain⟨x,y,hl,B,K⟩:=ym M
     grind
    subst hargs;cases q
    simp only at hr;cases hr
    exact ja h hd p G hy (.inl ⟨rfl,rfl⟩)
   .
    rename_i k n k' n' M
    obtain⟨x,y,hargs,G,hy⟩:∃x y,N=#[x,y]/\Y2 e x=.v (.c (.d (.int k n)))/\Y2 e y=.v (.c (.d (.int k' n'))):=by
     obtain⟨x,y,hl,B,K⟩:=ym M
     grind
    subst hargs;cases q
    simp only at hr;cases hr
    exact ja h hd p G hy (.inr ⟨rfl,rfl⟩)
   .
    rename_i u1 u2 M
    obtain⟨x,y,hargs,G,hy⟩:∃x y,N=#[x,y]/\Y2 e x=u1/\Y2 e y=u2:=by
     obtain⟨x,y,hl,B,K⟩:=ym M
     grind
    subst hargs;subst G;subst hy
    split at q
    .rename_i t t' b3
     split at q
     .rename_i e4
      subst e4;have d0:f6=#[t,t]:=Qw8 b3
      subst d0;split at q
      .rename_i el U H z F
       split at q
       .rename_i te D
        split at q
        .rename_i k g hy
         split at q
         .rename_i del n f c G
          split at q
          .rename_i I
           cases q
           simp only at hr;split at hr
           .rename_i dd k3 A
            cases hr
            exact Rg hL h A (hd _ A) (hR _ A (by simp)) p F rfl D hy G hc.2.2 I.2.1 I.2.2 hc.1 hc.2.1
           .cases hr
           .cases ‹some _=none›
          .cases q
         .cases q
        .cases q
       .cases q
      .cases q
     .cases q
    .cases q
   .cases q
  .cases hr
 .cases hr
end
end
section
def Zu(d:Option Tmp)(v:AVal)(e:U4):U4:=
 match d with
 |some d=>λt=>if t=d then v else e t
 |none=>e
def ZC(l:List (Nat×Option Obj))(s:U6):U6:=λi=>
 match l.lookup i with
 |some o=>o
 |none=>s i
structure Eff where
 rd:List Nat
 ids:List Nat
 v:AVal
 l:List (Nat×Option Obj)
 news:List Nat
section
variable (P:Program) (C:Ctx) (nt:Nat) (ops:Array Oper)
def Wu(o:Oper)(f:Eff)(e:U4)(s:U6):Prop:=
 ∀R η e0 s0 a w,(∀t∈f.rd,e0 t=e t)->(∀i∈f.ids,s0 i=s i)->(∀n∈f.news,¬R n)->Conc C nt R η e0 s0 a w ->
  ∀(K:Act->World->Prop) (Q:Exit->Act->World->Prop),(∀η' a' w',Conc C nt (λi=>R i\/i∈f.news) η' (Zu o.dst f.v e0) (ZC f.l s0) a' w' -> K a' w') ->
   if Region.wanted o (yielded ops a.tmps)then o.wp P a w K Q else K (a.put o.dst undef) w
def HZ:List Oper->List Eff->U4->U6->Prop
 |[],[],_,_=>True
 |o::os,f::fs,e,s=>Wu P C nt ops o f e s/\HZ os fs (Zu o.dst f.v e) (ZC f.l s)
 |_,_,_,_=>False
end
def Jp:List Oper->List Eff->U4->U4
 |o::os,f::fs,e=>Jp os fs (Zu o.dst f.v e)
 |_,_,e=>e
def Jo:List Eff->U6->U6
 |f::fs,s=>Jo fs (ZC f.l s)
 |_,s=>s
def YD(fs:List Eff):List Nat:=fs.flatMap (·.news)
theorem Conc.wider{R R' : Nat->Prop}(h:Conc C nt R η e s a w)(hR:∀i,R i->R' i):Conc C nt R' η e s a w:=
 ⟨h.ok,h.df,h.sz,h.ev,λt i b=>hR i (h.er t i b),h.st,λi o c=>⟨hR i (h.sr i o c).1,λj d=>hR j ((h.sr i o c).2 j d)⟩,h.ds,h.ow,h.fr,λi v b=>⟨(h.pn i v b).1,hR i (h.pn i v b).2⟩⟩
section
variable {P:Program} {C:Ctx} {nt:Nat} {ops:Array Oper}
theorem Q8A{Q:Exit->Act->World->Prop}:∀ (os:List Oper) (fs:List Eff) (R:Nat->Prop) (η:Nat->Value) (e:U4) (s:U6) (a:Act) (w:World),HZ P C nt ops os fs e s->(YD fs).Nodup->(∀ n ∈ YD fs,¬ R n)->Conc C nt R η e s a w ->
  (∀η' a' w',Conc C nt (λi=>R i\/i∈YD fs) η' (Jp os fs e) (Jo fs s) a' w' -> Q .normal a' w')->wpList P ops Q os a w:=by
 intro os
 induction os with
 |nil=>
  intro fs R η e s a w h _ _ j g
  cases fs with
  |nil=>exact g η a w (j.wider λi p=>.inl p)
  |cons f fs=>exact h.elim
 |cons o os ih=>
  intro fs R η e s a w h c d j g
  cases fs with
  |nil=>exact h.elim
  |cons f fs=>
   obtain⟨v,y⟩:=h;have b:YD (f::fs)=f.news++YD fs:=rfl
   rw[b]at c d g;have m:=v R η e s a w (λ_ _=>rfl) (λ_ _=>rfl) (λn q=>d n (Qa9.2 (.inl q))) j
   refine wpList_step λK x=>?_
   refine m K Q λη' a' w' k=>x a' w' ?_
   refine ih fs _ η' _ _ a' w' y (Qn4.1 c).2.1 (λn q z=>?_) k λu t r l=>g u t r (l.wider λi p=>?_)
   all_goals grind
end
def UH(oi oj:Oper)(fi fj:Eff):Bool:=
 (match oi.dst with|some d=>fj.rd.contains d||oj.dst==some d|none=>false)||(match oj.dst with|some d=>fi.rd.contains d|none=>false) ||
 (fi.l.any λp=>fj.ids.contains p.1||fj.l.any (·.1==p.1))||(fj.l.any λp=>fi.ids.contains p.1)
def Jg(acc:List Nat):List Edge->Nat
 |[]=>0
 |e::r=>if Region.binds .any e then(2 ^ e.on ||| acc.getD e.on 0) ||| Jg acc r else Jg acc r
def PH:List Oper->List Eff->List Nat->List (Oper×Eff)->Bool
 |o::os,f::fs,acc,seen=>
  let m:=Jg acc o.after.toList
  (o.after.toList.all λe=> !Region.binds .any e||decide (e.on<acc.length)) &&
  (seen.zipIdx.all λp=> !UH p.1.1 o p.1.2 f||m.testBit p.2)&&PH os fs (acc++[m]) (seen++[(o,f)])
 |[],[],_,_=>true
 |_,_,_,_=>false
def Q2V(ops:List Oper)(fs:List Eff):Bool:=PH ops fs [] []
inductive Anc (ops:List Oper):Nat->Nat->Prop
 |edge (j:Nat) (o:Oper) (e:Edge):ops[j]?=some o->e∈o.after.toList->Region.binds .any e=true->Anc ops e.on j
 |trans (i j k:Nat):Anc ops i j->Anc ops j k->Anc ops i k
theorem Z1u{acc:List Nat}(ho:ops[j]?=some o)(hacc:∀k i,(acc.getD k 0).testBit i=true->Anc ops i k):∀(es:List Edge),(∀e∈es,e∈o.after.toList)->∀i,(Jg acc es).testBit i=true->Anc ops i j:=by
 intro es
 induction es with
 |nil=>intro _ i c;simp[Jg]at c
 |cons e r ih=>
  intro b i c;have f:=ih (λg d=>b g (Qi9 _ d))
  simp only[Jg]at c;split at c
  .rename_i h
   have l:Anc ops e.on j:=.edge j o e ho (b e Qh9) h;rw[Nat.testBit_or,Nat.testBit_or]at c
   rcases(by simpa using c:((2 ^ e.on).testBit i=true\/(acc.getD e.on 0).testBit i=true)\/(Jg acc r).testBit i=true)with (h1|h1)|h1
   .grind
   .exact .trans _ _ _ (hacc _ _ h1) l
   .exact f i h1
  .exact f i c
theorem Z4R(ops:List Oper)(fs:List Eff):∀ (os:List Oper) (gs:List Eff) (acc:List Nat) (seen:List (Oper×Eff)),PH os gs acc seen=true ->
  acc.length=seen.length->ops=seen.map (·.1)++os->fs=seen.map (·.2)++gs->(∀k i,(acc.getD k 0).testBit i=true->Anc ops i k) ->
  (∀j o e,seen.length<=j->ops[j]?=some o->e∈o.after.toList->Region.binds .any e=true->e.on<j) /\
  (∀i j oi oj fi fj,i<j->seen.length<=j->ops[i]?=some oi->ops[j]?=some oj->fs[i]?=some fi->fs[j]?=some fj->UH oi oj fi fj=true->Anc ops i j)/\os.length=gs.length:=by
 intro os
 induction os with
 |nil=>
  intro gs acc seen h y n l _
  cases gs with
  |cons g gs=>simp[PH]at h
  |nil=>
   grind
 |cons o os ih=>
  intro gs acc seen h y n l f
  cases gs with
  |nil=>simp[PH]at h
  |cons g gs=>
   simp only[PH,Qa4]at h;obtain⟨⟨J,K⟩,D⟩:=h
   have d:ops[seen.length]?=some o:=by rw[n];simp
   have q:fs[seen.length]?=some g:=by rw[l];simp
   have u:∀i,(Jg acc o.after.toList).testBit i=true->Anc ops i seen.length:=Z1u d f _ (λe t=>t);obtain⟨H,G,z⟩:=ih gs (acc++[Jg acc o.after.toList]) (seen++[(o,g)]) D (by simp[y]) (by simp[n]) (by simp[l]) (λk i I=>by
    by_cases hk1:k<acc.length
    .grind
    .by_cases hk2:k=acc.length
     all_goals grind)
   refine⟨λj E e B b t A=>?_,λi j oi oj fi fj m B p b r c v=>?_,by simp[z]⟩
   .by_cases hjs:j=seen.length
    .grind
    .exact H j E e (by simp;omega) b t A
   .by_cases hjs:j=seen.length
    .subst hjs
     rw[d]at b;cases b
     rw[q]at c;cases c
     have F:seen[i]?=some (oi,fi):=by
      grind
     have x:((oi,fi),i)∈seen.zipIdx:=by
      grind
     grind
    .exact G i j oi oj fi fj m (by simp;omega) p b r c v
end
section
instance:Inhabited Eff:=⟨⟨[],[],.any,[],[]⟩⟩
section
variable (l:List Oper) (fs:List Eff)
def Vv(i:Nat):Option Tmp:=(l[i]?).bind (·.dst)
def Qp(i:Nat):Eff:=fs.getD i default
def hE(e0:U4):List Nat->U4
 |[]=>e0
 |i::h=>Zu (Vv l i) (Qp fs i).v (hE e0 h)
def hS(s0:U6):List Nat->U6
 |[]=>s0
 |i::h=>ZC (Qp fs i).l (hS s0 h)
def UP(t:Nat)(j:Nat):Bool:=Vv l j==some t
def JA(i:Nat)(j:Nat):Bool:=((Qp fs j).l.lookup i).isSome
theorem Q1B(e0:U4)(t:Nat):∀h,hE l fs e0 h t=match h.find? (UP l t)with|some j=>(Qp fs j).v|none=>e0 t:=by
 intro h
 induction h with
 |nil=>rfl
 |cons i h ih=>
  simp only[hE,Qv8,Zu]
  cases hd:Vv l i with
  |none=>simp[UP,hd,ih]
  |some d=>
   by_cases hdt:t=d
   .subst hdt;simp[UP,hd]
   .have:UP l t i=false:=by simp[UP,hd];exact λb=>hdt b.symm
    grind
theorem Q1A(s0:U6)(k:Nat):∀h,hS fs s0 h k=match h.find? (JA fs k)with|some j=>((Qp fs j).l.lookup k).getD none|none=>s0 k:=by
 intro h
 induction h with
 |nil=>rfl
 |cons i h ih=>
  simp only[hS,Qv8,ZC]
  cases hl:(Qp fs i).l.lookup k with
  |none=>simp[JA,hl,ih]
  |some o=>simp[JA,hl]
end
structure Hist (ops:List Oper) (h:List Nat):Prop where
 nd:h.Nodup
 ord:∀l1 k l2,h=l1++k::l2->∀i,Anc ops i k->i∈l2
theorem Hist.anc(H:Hist ops h){i:Nat}(hk:k∈h)(ha:Anc ops i k):i∈h:=by
 obtain⟨b,c,rfl⟩:=Ql8 hk;exact Qa9.2 (.inr (Qi9 _ (H.ord b k c rfl i ha)))
theorem Q1T(H:Hist ops h){p:Nat->Bool}{f g:Nat}(hf:h.find? p=some f)(hg:g∈h)(hp:p g=true)(ha:Anc ops f g):False:=by
 obtain⟨_,d,i,rfl,m⟩:=List.find?_eq_some_iff_append.1 hf;have b:g∈i:=by
  rcases Qa9.1 hg with j|j
  .grind
  .rcases Qf0.1 j with c|c
   .subst c
    have:=H.ord d g i rfl g ha
    exact this
   .exact c
 obtain⟨k,n,rfl⟩:=Ql8 b;have:=H.ord (d++f::k) g n (by simp) f ha
 have o:=H.nd
 grind
theorem Q1U{h1 h2:List Nat}(H1:Hist ops h1)(H2:Hist ops h2){p:Nat->Bool}(hord:∀j k,j<k->k∈h1->k∈h2->j∈h1->p j=true->p k=true->Anc ops j k)(hset:∀j,p j=true->(j∈h1↔j∈h2)):h1.find? p=h2.find? p:=by
 cases hf:h1.find? p with
 |none=>
  grind
 |some f=>
  have b:p f=true:=Qv9 hf;have i:f∈h1:=Qk6 hf
  have c:=(hset f b).1 i
  cases hg:h2.find? p with
  |none=>rw[Qi0]at hg;exact absurd b (hg f c)
  |some g=>
   have d:p g=true:=Qv9 hg;have h:g∈h2:=Qk6 hg
   have m:=(hset g d).2 h;rcases Qn5 f g with n|o|n
   .exact (Q1T H1 hf m d (hord f g n m h i b d)).elim
   .rw [o]
   .exact (Q1T H2 hg c b (hord g f n i c m d b)).elim
section
variable {P:Program} {C:Ctx} {nt:Nat} {ops:Array Oper} {fs:List Eff}
theorem Z5F{l:List Oper}(hb:∀j o e,l[j]?=some o->e∈o.after.toList->Region.binds .any e=true->e.on<j){i:Nat}(h:Anc l i k):i<k:=by
 induction h with
 |edge j o e h1 h2 h3=>exact hb j o e h1 h2 h3
 |trans i j k _ _ ih1 ih2=>omega
theorem Mz{l:List Oper}(hb:∀j o e,l[j]?=some o->e∈o.after.toList->Region.binds .any e=true->e.on<j)(n:Nat):Hist l (List.range n).reverse:=by
 refine⟨by unfold List.Nodup;rw[List.pairwise_reverse];exact(List.nodup_range (n:=n)).imp (λh=>Ne.symm h),?_⟩
 induction n with
 |zero=>intro b k c h;simp at h
 |succ n ih=>
  intro b k c h i d;rw[Ql9,Qs4,Qq2,Qq8]at h
  cases b with
  |nil=>
   simp only[Qm9,Qm8]at h;obtain⟨rfl,rfl⟩:=h
   have:=Z5F hb d
   grind
  |cons x b=>
   grind
theorem Z1j{fs:List Eff}(hnd:(YD fs).Nodup){i:Nat}(hij:i≠j){x:Nat}(hi:x∈(Qp fs i).news)(hj:x∈(Qp fs j).news):False:=by
 induction fs generalizing i j with
 |nil=>simp[Qp,default]at hi
 |cons f r ih=>
  have d:YD (f::r)=f.news++YD r:=rfl;rw[d,Qn4]at hnd
  have b:∀k,x∈(Qp r k).news->x∈YD r:=by
   intro k c
   by_cases hkl:k<r.length
   .exact Qb8.2 ⟨_,Yv hkl,c⟩
   .have:Qp r k=default:=by unfold Qp;rw[Qa0,Qg7 (by omega)];rfl
    rw[this]at c;cases c
  cases i with
  |zero=>
   cases j with
   |zero=>exact hij rfl
   |succ j=>exact hnd.2.2 x hi x (b j hj) rfl
  |succ i=>
   cases j with
   |zero=>exact hnd.2.2 x hj x (b i hi) rfl
   |succ j=>exact ih hnd.2.1 (by omega) hi hj
theorem Q2x{fs:List Eff}{x:Nat}(hx:x∈(Qp fs k).news):x∈YD fs:=by
 by_cases hk:k<fs.length
 .exact Qb8.2 ⟨_,Yv hk,hx⟩
 .have:Qp fs k=default:=by unfold Qp;rw[Qa0,Qg7 (by omega)];rfl
  rw[this]at hx;cases hx
theorem Q8B:∀ (os:List Oper) (gs:List Eff) (l:List Oper) (fs:List Eff) (k:Nat) (e0:U4) (s0:U6),(∀ j,os[j]?=l[k+j]?)->(∀ j,j<gs.length->gs[j]?=fs[k+j]?)->os.length=gs.length ->
  HZ P C nt ops os gs (hE l fs e0 (List.range k).reverse) (hS fs s0 (List.range k).reverse) ->
  (∀j o,os[j]?=some o->Wu P C nt ops o (Qp fs (k+j)) (hE l fs e0 (List.range (k+j)).reverse) (hS fs s0 (List.range (k+j)).reverse)) /\
  Jp os gs (hE l fs e0 (List.range k).reverse)=hE l fs e0 (List.range (k+os.length)).reverse/\Jo gs (hS fs s0 (List.range k).reverse)=hS fs s0 (List.range (k+os.length)).reverse:=by
 intro os
 induction os with
 |nil=>
  intro gs l fs k e0 s0 _ _ d _
  cases gs with
  |nil=>exact⟨λj o h=>by simp at h,rfl,rfl⟩
  |cons g gs=>simp at d
 |cons o os ih=>
  intro gs l fs k e0 s0 n i d t
  cases gs with
  |nil=>simp at d
  |cons g gs=>
   obtain⟨y,u⟩:=t;have r:Vv l k=o.dst:=by
    have:=n 0;simp at this;simp[Vv, <-this]
   have m:Qp fs k=g:=by
    have:=i 0 (by simp);simp at this;simp[Qp,Qa0, <-this]
   have b:hE l fs e0 (List.range (k+1)).reverse=Zu o.dst g.v (hE l fs e0 (List.range k).reverse):=by
    rw[Ql9,Qs4,Qq2,Qq8];simp only[hE,r,m]
   have c:hS fs s0 (List.range (k+1)).reverse=ZC g.l (hS fs s0 (List.range k).reverse):=by
    rw[Ql9,Qs4,Qq2,Qq8];simp only[hS,m]
   obtain⟨z,p,f⟩:=ih gs l fs (k+1) e0 s0 (λj=>by have:=n (j+1);simp at this;rw[this];congr 1;omega) (λj q=>by have:=i (j+1) (by simpa using q);simp at this;rw[this];congr 1;omega) (by simpa using d)
    (by rw[b,c];exact u)
   refine⟨λj x q=>?_,?_,?_⟩
   .grind
   .rw [b]at p
    simp only[Jp];rw[p];congr 3;simp;omega
   .rw [c]at f
    simp only[Jo];rw[f];congr 3;simp;omega
theorem Z1a:∀(n:Nat) (l:List Nat),l.Nodup->(∀x∈l,x<n)->l.length<=n:=by
 intro n
 induction n with
 |zero=>intro l _ h;cases l with
  |nil=>simp
  |cons x r=>exact absurd (h x Qh9) (by omega)
 |succ n ih=>
  intro l b h
  by_cases hn:n∈l
  .have c:=ih (l.erase n) (b.erase n) (fun x d=>by
    grind)
   grind
  all_goals grind
theorem Z1o{listed:Array Bool}(hsz:listed.size=n)(hl:∀i,i<n->(listed.getD i false=true↔i∈h))(hb:∀i∈h,i<n)(i:Nat):listed.getD i false=true↔i∈h:=by
 grind
theorem zM{ops:Array Oper}{listed:Array Bool}(hsz:listed.size=ops.size)(i:Nat):i∈Region.ready .any ops listed↔∃o,ops[i]?=some o/\listed.getD i false=false/\∀e∈o.after.toList,Region.binds .any e=true->listed.getD e.on false=true:=by
 unfold Region.ready;rw[Qf9,Qf2]
 constructor
 .rintro ⟨b,d⟩
  refine⟨ops[i],by simp[b],?_,?_⟩
  .grind
  .intro e g f
   simp only[Qa4]at d;have c:=d.2
   simp only[Qe3 b,Qj0,Qq5]at c;rw[Array.all_eq_true']at c
   grind
 all_goals grind
theorem Z5E{Q:Exit->Act->World->Prop}{e0:U4}{s0:U6}{R:Nat->Prop}(hlen:ops.toList.length=fs.length)(hback:∀ j o e,ops.toList[j]?=some o->e ∈ o.after.toList->Region.binds .any e=true->e.on<j)(hconf:∀ i j oi oj fi fj,i<j->ops.toList[i]?=some oi->ops.toList[j]?=some oj->fs[i]?=some fi->fs[j]?=some fj->UH oi oj fi fj=true->Anc ops.toList i j)(hst:∀ j o,ops.toList[j]?=some o->Wu P C nt ops o (Qp fs j) (hE ops.toList fs e0 (List.range j).reverse) (hS fs s0 (List.range j).reverse))(hnd:(YD fs).Nodup)(hfr:∀ n ∈ YD fs,¬ R n)(hq:∀ η a w,Conc C nt (fun i=>R i\/i ∈ YD fs) η (hE ops.toList fs e0 (List.range ops.size).reverse) (hS fs s0 (List.range ops.size).reverse) a w->Q .normal a w):
  ∀(fuel:Nat) (listed:Array Bool) (h:List Nat) (η:Nat->Value) (a:Act) (w:World),listed.size=ops.size->(∀i,i<ops.size->(listed.getD i false=true↔i∈h))->(∀i∈h,i<ops.size)->Hist ops.toList h->ops.size<=fuel+h.length ->
   Conc C nt (λi=>R i\/∃j∈h,i∈(Qp fs j).news) η (hE ops.toList fs e0 h) (hS fs s0 h) a w->wpAny P .any ops Q fuel listed a w:=by
 have b:∀{i:Nat},i<ops.size->∃o,ops.toList[i]?=some o/\ops[i]?=some o:=λ{i} d=>⟨ops[i],by simp[d],by simp[d]⟩
 have Y:∀{i:Nat},i<ops.size->fs[i]?=some (Qp fs i):=by
  intro i d;have:i<fs.length:=by rw[<-hlen];simpa using d
  simp[Qp,Qa0,this]
 have hC:∀i j oi oj,i<j->j<ops.size->ops.toList[i]?=some oi->ops.toList[j]?=some oj->UH oi oj (Qp fs i) (Qp fs j)=true->Anc ops.toList i j:=by
  grind
 have E:∀(M A:List Nat),Hist ops.toList M->Hist ops.toList A->(∀i∈M,i<ops.size)->∀t,(∀j,j<ops.size->Vv ops.toList j=some t->(j∈M↔j∈A))->(∀i∈A,i<ops.size)->hE ops.toList fs e0 M t=hE ops.toList fs e0 A t:=by
  intro M A H1 H2 q t hw c5;rw[Q1B,Q1B,Q1U (p:=UP ops.toList t) H1 H2 ?_ ?_]
  .intro j k c1 b2 _ S O b1
   obtain⟨oj,c,_⟩:=b (q j S);obtain⟨ok,a9,_⟩:=b (q k b2)
   refine hC j k oj ok c1 (q k b2) c a9 ?_;simp[UP,Vv,c]at O
   simp[UP,Vv,a9]at b1
   simp[UH,O,b1]
  .intro j hp
   have hd:Vv ops.toList j=some t:=by simpa[UP]using hp
   grind
 have D:∀(M A:List Nat),Hist ops.toList M->Hist ops.toList A->(∀i∈M,i<ops.size)->∀k,(∀j,j<ops.size->JA fs k j=true->(j∈M↔j∈A))->(∀i∈A,i<ops.size)->hS fs s0 M k=hS fs s0 A k:=by
  intro M A H1 H2 q k hw c5;have V:∀j,JA fs k j=true->∃o,(k,o)∈(Qp fs j).l:=by
   intro j g;simp only[JA,Qm3]at g
   grind
  rw[Q1A,Q1A,Q1U (p:=JA fs k) H1 H2 ?_ ?_]
  .intro i j b6 S _ c0 d0 O
   obtain⟨oi,c2,_⟩:=b (q i c0);obtain⟨oj,c,_⟩:=b (q j S)
   refine hC i j oi oj b6 (q j S) c2 c ?_;obtain⟨u,hu⟩:=V i d0
   obtain⟨v,hv⟩:=V j O;have:((Qp fs i).l.any λp=>(Qp fs j).ids.contains p.1||(Qp fs j).l.any (·.1==p.1))=true:=by
    grind
   simp only[UH,this,Qx7,Qx8]
  all_goals grind
 have r:∀n,n<=ops.size->(∀i∈(List.range n).reverse,i<ops.size):=by intro n hn i d;simp at d;omega
 have K:∀ (listed:Array Bool) (h:List Nat) (η:Nat->Value) (a:Act) (w:World),(∀ i ∈ h,i<ops.size)->Hist ops.toList h->(∀ i,i<ops.size->i ∈ h) ->
   Conc C nt (λi=>R i\/∃j∈h,i∈(Qp fs j).news) η (hE ops.toList fs e0 h) (hS fs s0 h) a w->Q .normal a w:=by
  intro listed h η a w N H B hc;have e1:hE ops.toList fs e0 h=hE ops.toList fs e0 (List.range ops.size).reverse:=
   funext λt=>E _ _ H (Mz hback _) N t (λj g _=>⟨λ_=>by simp;exact g,λ_=>B j g⟩) (r _ (Qb4 _))
  have e2:hS fs s0 h=hS fs s0 (List.range ops.size).reverse:=
   funext λk=>D _ _ H (Mz hback _) N k (λj g _=>⟨λ_=>by simp;exact g,λ_=>B j g⟩) (r _ (Qb4 _))
  rw[e1,e2]at hc;refine hq η a w (hc.wider λi d=>?_)
  rcases d with d|⟨j,_,d⟩
  .exact .inl d
  .exact .inr (Q2x d)
 intro fuel
 induction fuel with
 |zero=>
  intro listed h η a w J hl N H hf hc;have B:∀i,i<ops.size->i∈h:=by
   intro i d;rcases Qk7 (i∈h)with f|f
   .exact f
   .have:=Z1a ops.size (i::h) (Qr7.2 ⟨f,H.nd⟩) (λx G=>by rcases Qf0.1 G with rfl|G;exact d;exact N x G)
    grind
  refine⟨?_,K listed h η a w N H B hc⟩;refine List.eq_nil_iff_forall_not_mem.2 λi d=>?_
  obtain⟨o,Z,A,_⟩:=(zM J i).1 d
  grind
 |succ fuel ih=>
  intro listed h η a w J hl N H hf hc;have a6:=Z1o J hl N
  refine⟨λd8=>?_,λi d=>?_⟩
  .refine K listed h η a w N H (λi d=>?_) hc
   induction i using Nat.strongRecOn with
   |_ i ihi=>
    rcases Qk7 (i∈h)with f|f
    .exact f
    .exfalso
     obtain⟨o,Z,b7⟩:=b d;have:i∈Region.ready .any ops listed:=(zM J i).2 ⟨o,b7,by
      grind,λe he a5=>(a6 e.on).2 (ihi e.on (hback i o e Z he a5) (by have:=hback i o e Z he a5;omega))⟩
     grind
  .obtain ⟨o,Z,A,h3⟩:=(zM J i).1 d
   have T : i<ops.size:=(Qg9.1 Z).1;have f:i∉h:=λhh=>by rw[(a6 i).2 hh]at A;cases A
   have I:ops.toList[i]?=some o:=by simpa using Z
   have a0 : ∀k z,Anc ops.toList k z->(z=i\/z∈h)->k∈h:=by
    intro k z F
    induction F with
    |edge j o' e g1 g2 g3=>
     intro hz;rcases hz with rfl|hz
     .grind
     .exact H.anc hz (.edge j o' e g1 g2 g3)
    |trans x y z _ _ ih1 ih2=>intro hz;exact ih1 (.inr (ih2 hz))
   have d6:∀k,Anc ops.toList k i->k∈h:=λk F=>a0 k i F (.inl rfl)
   have e9:=Y T;have c8 : Hist ops.toList (i::h):=by
    refine⟨Qr7.2 ⟨f,H.nd⟩,λl1 k l2 hh x G=>?_⟩
    cases l1 with
    |nil=>
     grind
    |cons y l1=>
     simp only[Ql3,Qm8]at hh;exact H.ord l1 k l2 hh.2 x G
   have a8:=r i (Nat.le_of_lt T);have c3:∀t∈(Qp fs i).rd,hE ops.toList fs e0 h t=hE ops.toList fs e0 (List.range i).reverse t:=by
    intro t ht;refine E _ _ H (Mz hback i) N t (λj g hd=>?_) a8
    obtain⟨oj,c,_⟩:=b g;have a7:oj.dst=some t:=by simpa[Vv,c]using hd
    rcases Qn5 j i with m|rfl|m
    .have:=hC j i oj o m T c I (by simp[UH,a7,ht])
     grind
    .grind
    .have:=hC i j o oj m g I c (by simp[UH,a7,ht])
     grind
   have d2:∀k∈(Qp fs i).ids,hS fs s0 h k=hS fs s0 (List.range i).reverse k:=by
    intro k F;refine D _ _ H (Mz hback i) N k (λj g hw=>?_) a8
    obtain⟨oj,c,_⟩:=b g;simp only[JA,Qm3]at hw
    obtain⟨u,hu⟩:=hw;obtain⟨l1,l2,c6,_⟩:=Qi7.1 hu
    have W:(k,u)∈(Qp fs j).l:=by rw[c6];simp
    rcases Qn5 j i with m|rfl|m
    .have G:((Qp fs j).l.any fun p=>(Qp fs i).ids.contains p.1||(Qp fs i).l.any (·.1==p.1))=true:=by
      rw[Qc6];exact⟨_,W,by simp[F]⟩
     have:=hC j i oj o m T c I (by simp only[UH,G,Qx7,Qx8])
     grind
    .grind
    .have G:((Qp fs j).l.any fun p=>(Qp fs i).ids.contains p.1)=true:=by
      rw[Qc6];exact⟨_,W,by simp[F]⟩
     have:=hC i j o oj m g I c (by simp only[UH,G,Qx7])
     grind
   have U:∀n∈(Qp fs i).news,¬(R n\/∃j∈h,n∈(Qp fs j).news):=by
    rintro n hn (G|⟨j,g,G⟩)
    .exact hfr n (Q2x hn) G
    .exact Z1j hnd (λhh=>f (hh ▸ g):i≠j) hn G
   have b8:=hst i o I _ η _ _ a w c3 d2 U hc (wpAny P .any ops Q fuel (listed.setIfInBounds i true)) Q λη' a' w' c4=>by
    refine ih (listed.setIfInBounds i true) (i::h) η' a' w' (by simp[J]) (λk F=>?_) (λk F=>?_) c8 (by simp;omega) ?_
    .have a4 : k<listed.size:=by omega
     by_cases hki:i=k
     .subst hki;simp[Array.getD,a4]
     .have:=hl k F
      simp[Array.getD,a4]at this⊢
      grind
    .grind
    .have hd:Vv ops.toList i=o.dst:=by simp[Vv,I]
     simp only[hE,hS,hd];refine c4.wider λk F=>?_
     rcases F with (F|⟨j,g,F⟩)|F
     all_goals grind
   simp only[wpOp,Z]
   grind
end
end
section
section
variable {L:Lay} {e e0:U4} {s s0:U6}
theorem Z0p{x:AVal}(h:∀i∈x.refs,s0 i=s i):rd s0 n x=rd s n x:=by
 unfold rd;split
 .rename_i b c;rw[h b (by simp[AVal.refs,TV.refs,CV.refs])]
 .rfl
 .rename_i b f d c;rw[h b (by simp[AVal.refs,TV.refs,CV.refs])]
 .rfl
theorem Q4T{x:AVal}(h:∀i∈x.refs,s0 i=s i):wr s0 xs x=wr s xs x:=by
 unfold wr;split
 .rename_i b c;rw[h b (by simp[AVal.refs,TV.refs,CV.refs])]
 .rename_i b f d c;rw[h b (by simp[AVal.refs,TV.refs,CV.refs])]
 .rfl
theorem FN{x:AVal}(h:∀i∈x.refs,s0 i=s i):Wt s0 x=Wt s x:=by
 unfold Wt;split
 .rfl
 .rfl
 .rename_i b;rw[h b (by simp[AVal.refs,TV.refs,CV.refs])]
 .rename_i b c d n;rw[h b (by simp[AVal.refs,TV.refs,CV.refs])]
 .rfl
theorem Z5y{x:AVal}{m:Nat}(h:∀i∈x.refs,s0 i=s i):VA s0 es m x=VA s es m x:=by
 unfold VA;split
 .rename_i b;rw[h b (by simp[AVal.refs,TV.refs,CV.refs])]
 .rfl
 .rfl
theorem Z5P{b:Builtin}{tys:Array TypeId}{xs:List AVal}(h:∀x∈xs,∀i∈x.refs,s0 i=s i):Kv L s0 b tys xs=Kv L s b tys xs:=by
 unfold Kv;split
 .rename_i x
  rw[FN (h x (by simp))]
 .rfl
 .rfl
 .rename_i x y
  rw[FN (h y (by simp))];simp only[Z5y (h x (by simp))]
 .rfl
theorem Ty{x:Option Operand}(h:∀y,x=some y->Y2 e0 y=Y2 e y):oI e0 x=oI e x:=by
 cases x with
 |none=>rfl
 |some y=>simp only[oI,h y rfl]
theorem Q3V(m:Bool)(o:Oper)(he:∀x∈o.op.operands.toList,Y2 e0 x=Y2 e x)(hs:∀x∈o.op.operands.toList,∀i∈(Y2 e x).refs,s0 i=s i):Zj L m e0 s0 o=Zj L m e s o:=by
 have g:∀(v:Array Operand),(∀x∈v.toList,Y2 e0 x=Y2 e x)->v.toList.map (Y2 e0)=v.toList.map (Y2 e):=λv h=>Qh5 h
 unfold Zj
 cases ho:o.op<;>simp only[ho,Op.operands]at he hs<;>try rfl
 case move x=>simp only[he x (by simp)]
 case assign x=>simp only[he x (by simp)]
 case pick c a b=>simp only[he c (by simp),he a (by simp),he b (by simp)]
 case box t x=>simp only[he x (by simp)]
 case build t ps=>
  have:ps.toList.map (λp=>(p.1,Y2 e0 p.2))=ps.toList.map (λp=>(p.1,Y2 e p.2)):=Qh5 λp B=>by rw[he p.2 (by simp;exact⟨p.1,by simpa using B⟩)]
  simp only[this]
 case buildSlice t n ps=>
  have:ps.toList.map (λp=>(p.1,Y2 e0 p.2))=ps.toList.map (λp=>(p.1,Y2 e p.2)):=Qh5 λp B=>by rw[he p.2 (by simp;exact⟨p.1,by simpa using B⟩)]
  simp only[this]
 case load t x=>simp only[he x (by simp),Z0p (hs x (by simp))]
 case store t x y=>simp only[he x (by simp),he y (by simp),Q4T (hs x (by simp))]
 case nilCheck x=>simp only[he x (by simp)]
 case binOp op t x y t'=>simp only[he x (by simp),he y (by simp)]
 case unOp op t x=>simp only[he x (by simp)]
 case convert src dst x=>simp only[he x (by simp)]
 case makeFunc fn first caps=>
  cases fn<;>try rfl
  simp only[g caps (λx q=>he x (by simp;exact .inr (by simpa using q)))]
 case makeSlice t l c=>simp only[he l (by simp),he c (by simp)]
 case slice t x lo hi mx=>
  have q:=he x (by simp);have z:oI e0 lo=oI e lo:=Ty λy A=>he y (by subst A;simp)
  have D:oI e0 hi=oI e hi:=Ty λy A=>he y (by subst A;simp)
  have f:=hs x (by simp)
  cases mx with
  |none=>
   simp only[q,z,D];split
   .split
    .split<;>try rfl
     rename_i E u j _ _
     rw[j]at f;simp only[f E (by simp[AVal.refs,TV.refs,CV.refs])]
    .rfl
   .rfl
  |some mx=>
   cases lo with
   |some lo=>rfl
   |none=>
    cases hi with
    |none=>rfl
    |some hi=>simp only[q,he hi (by simp),he mx (by simp)]
 case fieldAddr t x k=>simp only[he x (by simp)]
 case field t x k=>simp only[he x (by simp)]
 case indexAddr t x i=>
  have f:=hs x (by simp);simp only[he x (by simp),he i (by simp)]
  split
  .split
   .split
    .rename_i E j
     rw[j]at f;simp only[f E (by simp[AVal.refs,TV.refs,CV.refs])]
    .rfl
   .rfl
  .rfl
  .rfl
 case index t x i=>simp only[he x (by simp),he i (by simp)]
 case extract x k=>simp only[he x (by simp)]
 case call c=>
  obtain⟨F,d,r⟩:=c
  cases F<;>try rfl
  rename_i b
  simp only[Call.operands]at he hs;have G:d.toList.map (Y2 e0)=d.toList.map (Y2 e):=g d (λx q=>he x (by simpa using q))
  have H:Kv L s0 b r (d.toList.map (Y2 e))=Kv L s b r (d.toList.map (Y2 e)):=Z5P λx q=>by
   grind
  simp only[G,H]
end
end
section
def Po:AVal->Bool
 |.v (.c (.pte _ _ _ _))=>true
 |_=>false
def GD(e:U4)(o:Oper):Bool:=
 match o.op with
 |.binOp op _ _ _ _=>match op with
  |.add|.sub|.mul|.quo|.rem|.shl|.shr=>true
  |_=>false
 |.unOp op _ _=>match op with
  |.neg=>true
  |_=>false
 |.convert _ _ _=>true
 |.load _ x=>Po (Y2 e x)
 |.store _ x _=>Po (Y2 e x)
 |.slice _ _ _ _ _=>true
 |.indexAddr _ _ _=>true
 |.makeSlice _ _ _=>true
 |.call {callee:=.builtin .append,..}=>true
 |_=>false
theorem Z2T{L:Lay}(h:GD e o=false)(hr:Zj L m e s o=some r):r.cond:=by
 unfold GD at h;unfold Zj at hr
 split at hr
 case h_1=>cases hr;trivial
 case h_2=>
  split at hr
  .cases hr;trivial
  .split at hr
   .split at hr
    .cases hr;trivial
    .cases hr
   .cases hr
  .cases hr
 case h_3=>split at hr<;>first|(cases hr;done)|(cases hr;trivial)
 case h_4=>split at hr<;>first|(cases hr;done)|(cases hr;trivial)
 case h_5=>split at hr<;>first|(cases hr;done)|(cases hr;trivial)
 case h_6=>
  split at hr
  .split at hr
   .split at hr<;>first|(cases hr;done)|(cases hr;trivial)
   .cases hr
  .split at hr
   .split at hr<;>first|(cases hr;done)|(cases hr;trivial)
   .cases hr
  .cases hr
 case h_7=>
  split at hr
  .split at hr
   .split at hr
    .split at hr
     .split at hr
      .split at hr<;>first|(cases hr;done)|(cases hr;trivial)
      .cases hr
     .cases hr
    .cases hr
   .cases hr
  .cases hr
 case h_8 t x hop=>
  rw[hop]at h;simp only at h
  split at hr
  .split at hr
   .rename_i j c g
    split at hr
    .cases hr
     unfold rd at g;split at g
     .split at g
      .split at g<;>first|(cases g;done)|(cases g;trivial)
      .cases g
     .split at g<;>first|(cases g;done)|(cases g;trivial)
     .rename_i i;rw[i]at h;simp[Po]at h
     .cases g
    .cases hr
   .cases hr
  .cases hr
 case h_9 t x y hop=>
  rw[hop]at h;simp only at h
  split at hr
  .split at hr
   .unfold wr at hr
    split at hr
    .split at hr
     .split at hr<;>first|(cases hr;done)|(cases hr;trivial)
     .cases hr
    .rename_i i;rw[i]at h;simp[Po]at h
    .cases hr
   .cases hr
  .cases hr
 case h_10=>split at hr<;>first|(cases hr;done)|(cases hr;trivial)
 case h_11 op t x y t' hop=>
  rw[hop]at h;unfold Xe at hr
  split at hr
  .split at hr
   .simp at h
   .simp at h
   .split at hr
    .split at hr<;>first|(cases hr;done)|(simp at h;done)|(cases hr;trivial)
    .cases hr
  .cases hr
 case h_12 op t x hop=>
  rw[hop]at h;unfold FJ at hr
  split at hr
  .cases hr;trivial
  .simp at h
  .cases hr
 case h_13 hop=>rw[hop]at h;simp at h
 case h_14=>
  split at hr
  .split at hr<;>first|(cases hr;done)|(cases hr;trivial)
  .cases hr
 case h_15 hop=>rw[hop]at h;simp at h
 case h_16 hop=>rw[hop]at h;simp at h
 case h_17=>
  split at hr
  .split at hr
   .split at hr
    .split at hr
     .cases hr
     .split at hr
      .cases hr;trivial
      .cases hr;trivial
      .split at hr<;>first|(cases hr;done)|(cases hr;trivial)
      .cases hr
    .cases hr
   .cases hr
  .cases hr
 case h_18=>
  split at hr
  .split at hr
   .split at hr
    .split at hr
     .split at hr<;>first|(cases hr;done)|(cases hr;trivial)
     .cases hr
    .cases hr
   .cases hr
  .cases hr
 case h_19 hop=>rw[hop]at h;simp at h
 case h_20=>
  split at hr
  .split at hr
   .split at hr
    .split at hr<;>first|(cases hr;done)|(cases hr;trivial)
    .cases hr
   .cases hr
  .cases hr
 case h_21 hop=>rw[hop]at h;simp at h
 case h_22=>
  split at hr
  .split at hr<;>first|(cases hr;done)|(cases hr;trivial)
  .cases hr
 case h_23 b args tys hop=>
  rw[hop]at h;split at hr
  .rename_i k d f
   unfold Kv at f;split at f
   .split at f
    .split at f
     .split at f
      .cases f;simp only at hr;cases hr;trivial
      .cases f
     .cases f;simp only at hr;cases hr;trivial
     .split at f
      .cases f;simp only at hr;cases hr;trivial
      .cases f
     .cases f
    .cases f
   .cases f;simp only at hr;cases hr;trivial
   .cases f;simp only at hr;cases hr;trivial
   .simp at h
   .cases f
  .cases hr
 case h_24=>cases hr
inductive Dir where
 |s
 |m
 |w (v:AVal)
 |k (f:Array Oper->Oper->U4->Eff)
def QD(o:Oper):List Nat:=o.op.operands.toList.filterMap λ|.tmp t=>some t|_=>none
def WG(e:U4)(o:Oper):List Nat:=o.op.operands.toList.flatMap λx=>(Y2 e x).refs
def Qo(ops:Array Oper)(o:Oper):List Nat:=
 match o.guard with
 |some (j,_)=>((ops[j]?).bind (·.dst)).toList
 |none=>[]
def QX(ops:Array Oper)(e:U4)(o:Oper):Option Bool:=
 match o.guard with
 |none=>some true
 |some (j,want)=>match (ops[j]?).bind (·.dst)with
  |some d=>match e d with
   |.v (.c (.d (.bool b)))=>some (b==want)
   |.t []=>some false
   |_=>none
  |none=>none
def SR.l(r:SR)(d:Option Tmp):List (Nat×Option Obj):=
 (match r.new,d with|some o,some d=>[(d,some o)]|_,_=>[])++((match r.upd with|some (k,o)=>[(k,some o)]|none=>[])++r.del.map λi=>(i,none))
def SR.nw(r:SR)(d:Option Tmp):List Nat:=match r.new,d with|some _,some d=>[d]|_,_=>[]
def GO(ops:Array Oper)(o:Oper)(e:U4)(r:SR)(v:AVal):Eff:= {rd:=QD o++Qo ops o,ids:=WG e o,v:=v,l:=r.l o.dst,news:=r.nw o.dst}
def HW(o:Oper):Bool:=match o.op with
 |.move _|.assign _|.pick _ _ _|.extract _ _|.field _ _ _=>true
 |_=>false
def GN(ops:Array Oper)(o:Oper)(e:U4)(r:SR)(v:AVal):Eff:= {rd:=QD o++Qo ops o,ids:=if HW o then[]else WG e o,v:=v,l:=r.l o.dst,news:=r.nw o.dst}
def Ff(ops:Array Oper)(o:Oper):Eff:= {rd:=Qo ops o,ids:=[],v:=.t [],l:=[],news:=[]}
def WO(L:Lay)(ops:Array Oper)(o:Oper)(d:Dir)(e:U4)(s:U6):Eff:=
 match QX ops e o,d with
 |_,.k f=>f ops o e
 |some true,.s=>match Zj L false e s o with|some r=>GN ops o e r r.v|none=>default
 |some true,.m=>match Zj L true e s o with|some r=>GN ops o e r r.v|none=>default
 |some true,.w v=>match Zj L false e s o with|some r=>GN ops o e r v|none=>default
 |_,_=>Ff ops o
def Y5(x y:AVal):Prop:=(∀w X η C v,ARep w X η C v x->ARep w X η C v y)/\∀i∈y.refs,i∈x.refs
def Ml(b:Bool)(c rest:Prop):Prop:=match b with|true=>c/\rest|false=>rest
def gB(P:Program)(C:Ctx)(nt:Nat)(L:Lay)(ops:Array Oper)(o:Oper)(d:Dir)(e:U4)(s:U6)(rest:Prop):Prop:=
 match QX ops e o,d with
 |_,.k f=>Wu P C nt ops o (f ops o e) e s/\rest
 |some true,.s=>match Zj L false e s o with|some r=>Ml (GD e o) r.cond rest|none=>False
 |some true,.m=>match Zj L true e s o with|some r=>Ml (GD e o) r.cond rest|none=>False
 |some true,.w v=>match Zj L false e s o with|some r=>Ml (GD e o) r.cond (Y5 r.v v/\rest)|none=>False
 |some false,.s=>rest
 |_,_=>False
def QL(nt:Nat)(o:Oper):Bool:=
 (match o.dst with|some d=>decide (d<nt)|none=>true)&&(match o.op with|.store _ _ _=>o.dst.isNone|_=>true)
section
variable (P:Program) (C:Ctx) (nt:Nat) (L:Lay) (ops:Array Oper)
def VB:List Oper->List Dir->U4->U6->List Eff
 |o::os,d::ds,e,s=>let f:=WO L ops o d e s;f::VB os ds (Zu o.dst f.v e) (ZC f.l s)
 |_,_,_,_=>[]
def Ks:List Oper->List Dir->U4->U6->Prop
 |o::os,d::ds,e,s=>gB P C nt L ops o d e s (Ks os ds (Zu o.dst (WO L ops o d e s).v e) (ZC (WO L ops o d e s).l s))
 |[],[],_,_=>True
 |_,_,_,_=>False
end
theorem qa(r:SR)(d:Option Tmp)(s:U6):ZC (r.l d) s=r.sto d s:=by
 have c:∀(l:List Nat) (i:Nat),(l.map λi=>(i,(none:Option Obj))).lookup i=if l.contains i then some none else none:=by
  intro l i
  induction l with
  |nil=>rfl
  |cons x l ih=>
   simp only[Qf7,Qh0,List.contains_cons]
   by_cases hx:i=x
   .subst hx;simp
   .have:(i==x)=false:=by simpa using hx
    simp only[this,Qk0];exact ih
 funext i
 unfold ZC SR.sto SR.l;rw[Qt3,Qt3,c]
 cases hn:r.new with
 |none=>
  cases hu:r.upd with
  |none=>by_cases hc:i∈r.del<;>simp[hc]
  |some ko=>
   obtain⟨k,o⟩:=ko
   by_cases hk:i=k
   .subst hk;simp
   .have:(i==k)=false:=by simpa using hk
    by_cases hc:i∈r.del<;>simp[Qh0,this,hk,hc]
 |some o=>
  cases d with
  |none=>
   cases hu:r.upd with
   |none=>by_cases hc:i∈r.del<;>simp[hc]
   |some ko=>
    obtain⟨k,o⟩:=ko
    by_cases hk:i=k
    .subst hk;simp
    .have:(i==k)=false:=by simpa using hk
     by_cases hc:i∈r.del<;>simp[Qh0,this,hk,hc]
  |some d=>
   by_cases hd:i=d
   .subst hd;simp
   .have b:(i==d)=false:=by simpa using hd
    cases hu:r.upd with
    |none=>by_cases hc:i∈r.del<;>simp[Qh0,b,hd,hc]
    |some ko=>
     obtain⟨k,o⟩:=ko
     by_cases hk:i=k
     .subst hk;simp[Qh0,b,hd]
     .have:(i==k)=false:=by simpa using hk
      by_cases hc:i∈r.del<;>simp[Qh0,b,hd,this,hk,hc]
theorem qb(r:SR)(d:Option Tmp)(R:Nat->Prop):∀i,r.rng d R i->R i\/i∈r.nw d:=by
 intro i b;rcases b with b|⟨g,f⟩
 .exact .inl b
 .right
  obtain⟨o,c⟩:=Qa7.1 g;simp[SR.nw,c,f]
section
variable {P:Program} {C:Ctx} {nt:Nat} {L:Lay} {ops:Array Oper}
theorem Q4Z{X:Nat->Prop}{C:Ctx}(h:ARep w X η C v (.t [])):v=.tuple #[]:=by
 cases h with|t us _ h _=>exact congrArg Value.tuple (Array.size_eq_zero_iff.1 h)
theorem UR{R:Nat->Prop}{e0:U4}(h:Conc C nt R η e0 s a w)(hg:∀ t ∈ Qo ops o,e0 t=e t){b:Bool}(hb:QX ops e o=some b):
  Region.wanted o (yielded ops a.tmps)=b:=by
 unfold QX at hb;unfold Region.wanted
 split at hb
 .rename_i c;rw[c];cases hb;rfl
 .rename_i j g c
  rw[c];split at hb
  .rename_i d p
   split at hb
   .rename_i r i
    cases hb
    have v:e0 d=e d:=hg d (by simp[Qo,c,p]);have k:=h.ev d
    rw[v,i]at k;have ev:=FF k
    have n:d<a.tmps.size:=by
     rcases Qd3 d a.tmps.size with f|f
     .exact f
     .simp [f,undef]at ev
    have m:a.tmps[d]?=some (.bool r):=by
     rw[Qe3 n];simpa[n]using ev
    have q:yielded ops a.tmps j=some r:=by
     unfold yielded;rw[p];simp only[Option.bind_some,m]
    simp only[q]
    cases r<;>cases g<;>rfl
   .rename_i i
    cases hb
    have v:e0 d=e d:=hg d (by simp[Qo,c,p]);have k:=h.ev d
    rw[v,i]at k;have ev:=Q4Z k
    have q:yielded ops a.tmps j=none:=by
     unfold yielded;rw[p];simp only[Option.bind_some]
     rcases Qd3 d a.tmps.size with f|f
     .rw [Qe3 f]
      have u : a.tmps[d]=.tuple #[]:=by simpa[f,Array.getD]using ev
      rw[u]
     .rw [Array.getElem?_eq_none f]
    simp only[q]
    cases g<;>rfl
   .cases hb
  .cases hb
theorem Z5D{e0:U4}{s0:U6}(m:Bool)(o:Oper)(he:∀x∈o.op.operands.toList,Y2 e0 x=Y2 e x)(ha:HW o=true):Zj L m e0 s0 o=Zj L m e s o:=by
 unfold HW at ha;unfold Zj
 cases ho:o.op<;>simp only[ho,Op.operands]at he ha<;>first|(cases ha;done)|skip
 case move x=>simp only[he x (by simp)]
 case assign x=>simp only[he x (by simp)]
 case pick c a b=>simp only[he c (by simp),he a (by simp),he b (by simp)]
 case field t x k=>simp only[he x (by simp)]
 case extract x k=>simp only[he x (by simp)]
theorem LZ(hL:y4 P L)(hdo:QL nt o=true)(hr:Zj L m e s o=some r)(hc:r.cond)(hg:QX ops e o=some true){v:AVal}(hv:Y5 r.v v):
  Wu P C nt ops o (GN ops o e r v) e s:=by
 intro R η e0 s0 a w p z G j K Q T;have k:∀x∈o.op.operands.toList,Y2 e0 x=Y2 e x:=by
  intro x k
  cases x with
  |tmp t=>exact p t (Qa9.2 (.inl (Qp5.2 ⟨_,k,rfl⟩)))
  |const v=>rfl
  |global g=>rfl
  |func f=>rfl
 have M:Zj L m e0 s0 o=some r:=by
  rcases Bool.eq_false_or_eq_true (HW o)with E|E
  .rw [Z5D m o k E];exact hr
  .have B:∀ x ∈ o.op.operands.toList,∀ i ∈ (Y2 e x).refs,s0 i=s i:=fun x k i h=>z i (by
    show i∈if HW o=true then[]else WG e o;rw[E];exact Qb8.2 ⟨x,k,h⟩)
   rw[Q3V m o k B];exact hr
 have H:∀x,o.dst=some x->x<nt:=by
  intro x k;simp only[QL,k,Qa4,Qb5]at hdo
  exact hdo.1
 have I:∀t x y,o.op=.store t x y->o.dst=none:=by
  intro t x y J;simp only[QL,J,Qa4]at hdo
  simpa using hdo.2
 have N:=UR (e:=e) j (λt S=>p t (Qa9.2 (.inr S))) hg;rw[Qa2 N]
 have q:=Q3U hL j m o H M hc (λd n F=>G d (by
  obtain⟨U,A⟩:=Qa7.1 F;simp[GN,SR.nw,A,n])) I
 refine q.wp λη' O w' D=>T η' O w' ?_
 have b:=D.wider (qb r o.dst R);have u:ZC (GN ops o e r v).l s0=r.sto o.dst s0:=qa r o.dst s0
 rw[u];have F:(GN ops o e r v).news=r.nw o.dst:=rfl
 rw[F];refine⟨b.ok,b.df,b.sz,λt=>?_,λt i h=>?_,b.st,b.sr,b.ds,b.ow,b.fr,b.pn⟩
 .have c:=b.ev t
  unfold Zu;unfold SR.env at c
  cases n:o.dst with
  |none=>rw[n]at c;exact c
  |some d=>
   rw[n]at c;simp only at c⊢
   by_cases htd:t=d
   .rw [Qa2 htd]at c⊢;exact hv.1 _ _ _ _ _ c
   .rw [Qa1 htd]at c⊢;exact c
 .have c:=b.er t
  unfold Zu at h;unfold SR.env at c
  cases n:o.dst with
  |none=>rw[n]at c h;exact c i h
  |some d=>
   rw[n]at c h;simp only at c h
   by_cases htd:t=d
   .rw [Qa2 htd]at c h;exact c i (hv.2 i h)
   .rw [Qa1 htd]at c h;exact c i h
theorem Y5.refl(x:AVal):Y5 x x:=⟨λ_ _ _ _ _ h=>h,λ_ h=>h⟩
theorem Q5Q(hdo:QL nt o=true)(hg:QX ops e o=some false):Wu P C nt ops o (Ff ops o) e s:=by
 intro R η e0 s0 a w d f q b K Q p;have h:=UR (e:=e) b (λt m=>d t m) hg
 rw[Qa1 (by rw[h];simp)];refine p η _ w ?_
 have c:∀x,o.dst=some x->x<nt:=by
  intro x r;simp only[QL,r,Qa4,Qb5]at hdo
  exact hdo.1
 have:=b.val o.dst c (.t []) undef λ_=>⟨.t #[] [] rfl (λj u=>absurd u (Qc9 j)),by simp[AVal.refs]⟩
 have n:ZC (Ff ops o).l s0=s0:=by funext i;rfl
 rw[n];have k:Zu o.dst (Ff ops o).v e0=SR.env {v:=.t []} o.dst e0:=rfl
 rw[k];exact this.wider λi g=>.inl g
theorem Z5z(hL:y4 P L):∀(os:List Oper) (ds:List Dir) (e:U4) (s:U6),(os.all (QL nt))=true->Ks P C nt L ops os ds e s->HZ P C nt ops os (VB L ops os ds e s) e s:=by
 intro os
 induction os with
 |nil=>
  intro ds e s _ h
  cases ds with
  |nil=>trivial
  |cons d ds=>exact h.elim
 |cons o os ih=>
  intro ds e s j h
  cases ds with
  |nil=>exact h.elim
  |cons d ds=>
   simp only[Qx1,Qa4]at j;simp only[Ks]at h
   simp only[VB,HZ];have p:Wu P C nt ops o (WO L ops o d e s) e s/\Ks P C nt L ops os ds (Zu o.dst (WO L ops o d e s).v e) (ZC (WO L ops o d e s).l s):=by
    generalize hrest:Ks P C nt L ops os ds (Zu o.dst (WO L ops o d e s).v e) (ZC (WO L ops o d e s).l s)=f at h;have i:∀{b:Bool} {c f:Prop},Ml b c f->f:=by
     intro b c f q;cases b<;>first|exact q.2|exact q
    have g:∀{m:Bool} {r:SR} {f:Prop},Zj L m e s o=some r->Ml (GD e o) r.cond f->r.cond:=by
     intro m r f n q
     cases hb:GD e o with
     |true=>rw[hb]at q;exact q.1
     |false=>exact Z2T hb n
    unfold gB at h;unfold WO
    split at h
    .exact ⟨by split<;>first|exact h.1|contradiction|(rename_i u t;cases t;exact h.1),h.2⟩
    .rename_i k
     split at h
     .rename_i r n
      simp only[k];exact⟨LZ hL j.1 n (g n h) k (Y5.refl _),i h⟩
     .exact h.elim
    .rename_i k
     split at h
     .rename_i r n
      simp only[k];exact⟨LZ hL j.1 n (g n h) k (Y5.refl _),i h⟩
     .exact h.elim
    .rename_i v k
     split at h
     .rename_i r n
      simp only[k];exact⟨LZ hL j.1 n (g n h) k (i h).1,(i h).2⟩
     .exact h.elim
    .rename_i k
     simp only[k];exact⟨Q5Q j.1 k,h⟩
    .exact h.elim
   exact⟨p.1,ih ds _ _ j.2 p.2⟩
end
end
section
def lk(E:List (Nat×AVal)):U4:=λt=>(E.lookup t).getD .any
def ls(S:List (Nat×Obj)):U6:=λi=>S.lookup i
def XM(E:List (Nat×AVal))(S:List (Nat×Obj)):List Nat:=E.flatMap (λp=>p.2.refs)++S.flatMap λp=>p.1::p.2.refs
def J3(o o' : Obj):Prop:=(∀w X η C v,ORep w X η C v o->ORep w X η C v o')/\o'.ro=o.ro/\∀i∈o'.refs,i∈o.refs
theorem J3.refl(o:Obj):J3 o o:=⟨λ_ _ _ _ _ h=>h,rfl,λ_ h=>h⟩
theorem Y5.any(x:AVal):Y5 x .any:=⟨λ_ _ _ _ v _=>.any v,λ_ h=>by cases h⟩
theorem Y5.of_eq{x y:AVal}(h:x=y):Y5 x y:=h ▸ Y5.refl x
def CV.ren(ρ:Nat->Nat):CV->CV
  |.own i=>.own (ρ i)
  |.ptr i o=>.ptr (ρ i) o
  |.pte i es ix o=>.pte (ρ i) es ix o
  |.sub i es lo n=>.sub (ρ i) es lo n
  |.clo f ids=>.clo f (ids.map ρ)
  |.ap i=>.ap (ρ i)
  |.cp i j=>.cp (ρ i) j
  |x=>x
def TV.ren(ρ:Nat->Nat):TV->TV
  |.c x=>.c (x.ren ρ)
  |.g xs=>.g (xs.map (CV.ren ρ))
def AVal.ren(ρ:Nat->Nat):AVal->AVal
  |.any=>.any
  |.v x=>.v (x.ren ρ)
  |.t xs=>.t (xs.map (TV.ren ρ))
def Obj.ren(ρ:Nat->Nat):Obj->Obj
  |.box ro cs=>.box ro (cs.map (CV.ren ρ))
  |.exr refs p=>.exr (refs.map ρ) p
  |o=>o
section
variable {w:World} {X:Nat->Prop} {η:Nat->Value} {C:Ctx} {ρ:Nat->Nat}
theorem CRep.unren{x:CV}(h:CRep w X η C v (x.ren ρ)):CRep w X (fun i=>η (ρ i)) C v x:=by
  cases x with
  |d x=>cases h with|d _ _ h=>exact .d _ _ h
  |fl n f=>cases h with|fl _ _ _ h=>exact .fl _ _ _ h
  |own i=>cases h with|own _ _ h h1=>exact .own _ i h h1
  |ptr i o=>cases h with|ptr _ _ _ h=>exact .ptr _ i o h
  |pte i es ix o=>cases h with|pte _ _ _ _ _ _ _ h=>exact .pte _ _ _ i es ix o h
  | sub i es lo n=>cases h with
    |sub b N cap _ _ _ _ h h1 h2=>exact .sub b N cap i es lo n h h1 h2
    |subN ad ad' _ _ _ h=>exact .subN ad ad' _ i es h
  |elm cs=>cases h with|elm _ _ _ _ _ _ h1 h2 h3 h4=>exact .elm _ _ _ _ _ _ h1 h2 h3 h4
  |clo f ids=>cases h with|clo _ _ _ h=>exact .clo f ids _ (by rw[h,Qn8];rfl)
  |sem p=>cases h with|sem _ _ h h1=>exact .sem _ _ h h1
  |ap i=>cases h with|ap _ _ h h1=>exact .ap _ i h h1
  |bnd f cs=>cases h with|bnd _ _ _ h1 h2=>exact .bnd _ _ _ h1 h2
  |cp i j=>cases h with|cp _ _ _ _ h h1 h2=>exact .cp _ i j _ h h1 h2
theorem y9.unren(h:y9 w X η C vs (cs.map (CV.ren ρ))):y9 w X (fun i=>η (ρ i)) C vs cs:=by
  refine⟨by simpa using h.1,λj b=>CRep.unren (ρ:=ρ) ?_⟩;have:=h.2 j (by simpa using b)
  grind
theorem TRep.unren{x:TV}(h:TRep w X η C v (x.ren ρ)):TRep w X (fun i=>η (ρ i)) C v x:=by
  cases x with
  |c x=>cases h with|c _ _ h=>exact .c _ _ h.unren
  |g xs=>cases h with|g _ _ h=>exact .g _ _ h.unren
theorem ARep.unren{x:AVal}(h:ARep w X η C v (x.ren ρ)):ARep w X (fun i=>η (ρ i)) C v x:=by
  cases x with
  |any=>exact .any v
  |v x=>cases h with|v _ _ h=>exact .v _ _ h.unren
  | t xs=>
    cases h with
    | t us _ h1 h2=>
      refine .t us xs (by simpa using h1) λj b=>TRep.unren (ρ:=ρ) ?_
      grind
theorem ORep.unren{o:Obj}(h:ORep w X η C v (o.ren ρ)):ORep w X (fun i=>η (ρ i)) C v o:=by
  cases o with
  |box ro cs=>cases h with|box b _ c e _ h1 h2=>exact .box b ro c e cs h1 h2.unren
  | arr es n f=>
    cases h with
    |nil ad _ _=>exact .nil ad _ _
    |arr b _ cap _ c e _ h1 h2 h3 h4 h5 h6 h7=>exact .arr b _ cap _ c e _ h1 h2 h3 h4 h5 h6 h7
  |ext p=>cases h with|ext _ _ h1 h2 h3=>exact .ext _ _ h1 h2 h3
  | exr refs p=>
    cases h with|exr _ _ _ h1 h2 h3=>
    rw[Qn8]at h1 h2;exact .exr _ refs p h1 h2 h3
theorem FU(o:Obj):(o.ren ρ).ro=o.ro:=by cases o<;>rfl
theorem Conc.conv{R R' : Nat->Prop}{e': U4}{s': U6}(h:Conc C nt R η e s a w)(ρ:Nat->Nat)(he:∀ t,Y5 (e t) ((e' t).ren ρ))(hs:∀ i o',s' i=some o' -> ∃ o,s (ρ i)=some o/\J3 o (o'.ren ρ))(hinj:∀ i j,s' i≠none->s' j≠none->ρ i=ρ j->i=j)(hR:∀ t i,i ∈ (e' t).refs->R' i)(hR2:∀ i o',s' i=some o' -> R' i/\∀ j ∈ o'.refs,R' j)(hpin:∀ i,C.pin i≠none->ρ i=i/\R' i):
    Conc C nt R' (λi=>η (ρ i)) e' s' a w:=by
  have x:QS w w (XS C s η) (XS C s' fun i=>η (ρ i)):=by
    intro b u F;refine⟨rfl,λr=>F ?_⟩
    rcases r with H|⟨i,o',c,m⟩
    . exact .inl H
    . obtain ⟨o,f,_⟩:=hs i o' c
      exact .inr ⟨ρ i,o,f,m⟩
  refine⟨h.ok,h.df,h.sz,λt=>?_,hR,λi o' c=>?_,hR2,λi j b c y n q=>?_,λi o' b c u=>?_,h.fr,λi v c=>?_⟩
  . exact ARep.unren (((he t).1 _ _ _ _ _ (h.ev t)).mono x (λ_ _=>rfl))
  . obtain ⟨o,f,d⟩:=hs i o' c
    exact ORep.unren ((d.1 _ _ _ _ _ (h.st _ o f)).mono x (λ_ _=>rfl) (λ_ _=>rfl))
  . obtain ⟨z,g⟩:=Option.ne_none_iff_exists'.1 c
    obtain⟨D,k⟩:=Qa7.1 y;obtain⟨A,E,_⟩:=hs i z g
    obtain⟨B,G,_⟩:=hs j D k;exact hinj i j c y (h.ds _ _ b (by rw[E];simp) (by rw[G];simp) n q)
  . obtain ⟨o,f,d⟩:=hs i o' c
    have:=h.ow _ o b f u
    have p:o'.ro=o.ro:=by rw[<-d.2.1,FU]
    rw[p];exact this
  . have:=hpin i (by rw [c];simp)
    exact⟨by show η (ρ i)=v;rw[this.1];exact(h.pn i v c).1,this.2⟩
end
def J0(l:List (Nat×Nat))(i:Nat):Nat:=(l.lookup i).getD i
theorem Pf{t:Nat}:lk E t=.any\/(t,lk E t) ∈ E:=by
  unfold lk
  cases h:E.lookup t with
  |none=>exact .inl rfl
  | some x=>
    right
    obtain⟨c,d,b,_⟩:=Qi7.1 h;rw[b];simp
theorem y8{i:Nat}{o:Obj}(h:ls S i=some o):(i,o) ∈ S:=by
  obtain⟨c,d,b,_⟩:=Qi7.1 h;rw[b];simp
def Yc:List Nat->Bool
  |[]=>true
  |x::r=> !r.contains x&&Yc r
theorem Ut{l:List Nat}(h:Yc l=true):l.Nodup:=by
  induction l with
  |nil=>exact List.nodup_nil
  |cons x r ih=>simp[Yc]at h;exact Qr7.2 ⟨h.1,ih h.2⟩
theorem yS{ρ:Nat->Nat}(h:(S.map fun p=>ρ p.1).Nodup){i:Nat}(hi:ls S i≠none)(hj:ls S j≠none)(hij:ρ i=ρ j):i=j:=by
  obtain⟨m,b⟩:=Qa7.1 hi;obtain⟨k,c⟩:=Qa7.1 hj
  have d:=y8 b;have o:=y8 c
  rcases Nat.decEq i j with f|g
  . exfalso
    obtain⟨q,n,rfl⟩:=Ql8 d
    grind
  . exact g
section
variable {P:Program} {C:Ctx} {nt:Nat}
def Kn(C:Ctx)(nt:Nat)(E:List (Nat×AVal))(S:List (Nat×Obj))(K:Act->World->Prop):Prop:=
  ∀R η a w,Conc C nt R η (lk E) (ls S) a w->K a w
def AW(P:Program)(C:Ctx)(nt:Nat)(c:Code)(E:List (Nat×AVal))(S:List (Nat×Obj))(Q:Exit->Act->World->Prop):Prop:=Kn C nt E S (λa w=>c.wp P Q a w)
def pinsB(C:Ctx)(ρ:Nat->Nat):Prop:=∀i,C.pin i≠none->ρ i=i
theorem Conc.lit{R:Nat->Prop}(h:Conc C nt R η e s a w){ρ:Nat->Nat}(hpin:pinsB C ρ)(hE:∀ p ∈ E,Y5 (e p.1) (p.2.ren ρ))(hS:∀ p ∈ S,∃ o,s (ρ p.1)=some o/\J3 o (p.2.ren ρ))(hinj:(S.map fun p=>ρ p.1).Nodup):
    Conc C nt (λi=>i∈XM E S\/C.pin i≠none) (λi=>η (ρ i)) (lk E) (ls S) a w:=by
  refine h.conv ρ (λt=>?_) (λi g b=>hS _ (y8 b)) (λi j b f d=>yS hinj b f d) (λt i b=>.inl ?_) (λi g b=>⟨.inl ?_,λj f=>.inl ?_⟩) (λi b=>⟨hpin i b,.inr b⟩)
  . rcases Pf (E:=E) (t:=t) with c|c
    . rw[c];exact Y5.any _
    . exact hE _ c
  . rcases Pf (E:=E) (t:=t) with c|c
    . rw[c]at b;cases b
    . exact Qa9.2 (.inl (Qb8.2 ⟨_,c,b⟩))
  . exact Qa9.2 (.inr (Qb8.2 ⟨_,y8 b,Qh9⟩))
  . exact Qa9.2 (.inr (Qb8.2 ⟨_,y8 b,Qi9 _ f⟩))
theorem Conc.narrow{R:Nat->Prop}(h:Conc C nt R η (lk E) (ls S) a w):
    Conc C nt (λi=>i∈XM E S\/C.pin i≠none) η (lk E) (ls S) a w:=by
  refine⟨h.ok,h.df,h.sz,h.ev,λt i b=>.inl ?_,h.st,λi o b=>⟨.inl ?_,λj d=>.inl ?_⟩,h.ds,h.ow,h.fr,λi v b=>⟨(h.pn i v b).1,.inr (by rw[b];simp)⟩⟩
  . rcases Pf (E:=E) (t:=t) with c|c
    . rw[c]at b;cases b
    . exact Qa9.2 (.inl (Qb8.2 ⟨_,c,b⟩))
  . exact Qa9.2 (.inr (Qb8.2 ⟨_,y8 b,Qh9⟩))
  . exact Qa9.2 (.inr (Qb8.2 ⟨_,y8 b,Qi9 _ d⟩))
theorem Z6u{K:Act->World->Prop}(ρ:Nat->Nat)(hpin:pinsB C ρ)(hE:∀p∈E',Y5 (lk E p.1) (p.2.ren ρ))(hS:∀p∈S',∃o,ls S (ρ p.1)=some o/\J3 o (p.2.ren ρ))(hinj:(S'.map λp=>ρ p.1).Nodup)(h:Kn C nt E' S' K):Kn C nt E S K:=λR η a w b=>h _ _ a w (b.lit hpin hE hS hinj)
theorem Km{α β:Type}{l:List α}{f g:α->β}(h:l.map f=l.map g):∀ x ∈ l,f x=g x:=by
  induction l with
  |nil=>intro x b;cases b
  | cons y r ih=>
    grind
theorem Z6n{K:Act->World->Prop}(ρ:List (Nat×Nat))(hpin:pinsB C (J0 ρ))(hE:E'.map (fun p=>lk E p.1)=E'.map (fun p=>p.2.ren (J0 ρ)))(hS:S'.map (fun p=>ls S (J0 ρ p.1))=S'.map (fun p=>some (p.2.ren (J0 ρ))))(hinj:Yc (S'.map fun p=>J0 ρ p.1)=true)(h:Kn C nt E' S' K):Kn C nt E S K:=
  Z6u (J0 ρ) hpin (λp b=>Y5.of_eq (Km hE p b)) (λp b=>⟨_,Km hS p b,J3.refl _⟩) (Ut hinj) h
theorem kv(x:CV):x.ren (λi=>i)=x:=by cases x<;>simp[CV.ren]
theorem Q4b(x:TV):x.ren (fun i=>i)=x:=by
  cases x with
  |c x=>simp[TV.ren,kv]
  | g xs=>
    simp only[TV.ren];congr 1;conv=>rhs;rw[<-Qy3 xs]
    exact Qh5 λy _=>kv y
theorem Mn(x:AVal):x.ren (fun i=>i)=x:=by
  cases x with
  |any=>rfl
  |v x=>simp[AVal.ren,Q4b]
  | t xs=>
    simp only[AVal.ren];congr 1;conv=>rhs;rw[<-Qy3 xs]
    exact Qh5 λy _=>Q4b y
theorem Mc(o:Obj):o.ren (fun i=>i)=o:=by
  cases o with
  | box ro cs=>
    simp only[Obj.ren];congr 1;conv=>rhs;rw[<-Qy3 cs]
    exact Qh5 λy _=>kv y
  |arr es n f=>rfl
  |ext p=>rfl
  |exr refs p=>simp[Obj.ren]
theorem Z6z{K:Act->World->Prop}{t:Nat}{x y:AVal}(hle:Y5 x y)(h:Kn C nt ((t,y)::E) S K):Kn C nt ((t,x)::E) S K:=by
  intro R η a w d;have c:∀ u,Y5 (lk ((t,x)::E) u) (lk ((t,y)::E) u):=by
    intro u;unfold lk
    rw[Qh0,Qh0]
    cases hut:u==t with
    |true=>exact hle
    |false=>exact Y5.refl _
  refine h R (λi=>η i) a w (d.conv (λi=>i) (λu=>by rw[Mn];exact c u) (λi x b=>⟨x,b,by rw[Mc];exact J3.refl _⟩) (λi j b k f=>f) (λu i b=>d.er u i ((c u).2 i b)) d.sr (λi b=>?_));obtain⟨v,g⟩:=Qa7.1 b
  exact⟨rfl,(d.pn i v g).2⟩
structure Fr (P:Program) (L:Lay) (C:Ctx) (pins:List Nat):Prop where
  mixed:P.follows .mixedOrders=true
  lay:y4 P L
  pin:∀i,C.pin i≠none->i∈pins
def Fw(L:Lay)(pins:List Nat)(nt:Nat)(ops:Array Oper)(draw:Bool)(ds:List Dir)(E:List (Nat×AVal))(S:List (Nat×Obj))(ρ:List (Nat×Nat))(S' : List (Nat×Obj)):Bool:=
  let F:=VB L ops ops.toList ds (lk E) (ls S)
  ops.toList.all (QL nt)&&Yc (YD F)&&(YD F).all (λn=> !(XM E S).contains n && !pins.contains n)&&(!draw||Q2V ops.toList F)&&Yc (S'.map λp=>J0 ρ p.1)&&pins.all λi=>J0 ρ i==i
theorem Z6Y{L:Lay}{pins:List Nat}(Fm:Fr P L C pins){ops:Array Oper}{draw:Bool}{Q:Exit->Act->World->Prop}(ds:List Dir)(ρ:List (Nat×Nat))(hchk:Fw L pins nt ops draw ds E S ρ S'=true)(hC:Ks P C nt L ops ops.toList ds (lk E) (ls S))(he0:E'.map (fun p=>Jp ops.toList (VB L ops ops.toList ds (lk E) (ls S)) (lk E) p.1)=E'.map (fun p=>p.2.ren (J0 ρ)))(hs0:S'.map (fun p=>Jo (VB L ops ops.toList ds (lk E) (ls S)) (ls S) (J0 ρ p.1))=S'.map (fun p=>some (p.2.ren (J0 ρ))))(k:Kn C nt E' S' (Q .normal)):AW P C nt (.region id ops draw) E S Q:=by
  simp only[Fw,Qa4]at hchk;obtain⟨⟨⟨⟨⟨G,Y⟩,c3⟩,O⟩,U⟩,H⟩:=hchk
  have b:=Z5z (P:=P) (C:=C) (nt:=nt) (L:=L) (ops:=ops) Fm.lay ops.toList ds (lk E) (ls S) G hC;generalize hF:VB L ops ops.toList ds (lk E) (ls S)=F at *
  have q:pinsB C (J0 ρ):=fun i f=>by
    have:=Qc0.1 H i (Fm.pin i f)
    grind
  have g:=Ut Y;intro R η a w I
  have r:=I.narrow;have m:∀ n ∈ YD F,¬ (n ∈ XM E S\/C.pin n≠none):=by
    intro n N t;have:=Qc0.1 c3 n N
    simp at this
    rcases t with t|t
    . grind
    . exact this.2 (Fm.pin n t)
  have h:∀ η' c w',Conc C nt (fun i=>(i ∈ XM E S\/C.pin i≠none)\/i ∈ YD F) η' (Jp ops.toList F (lk E)) (Jo F (ls S)) c w' -> Q .normal c w':=fun η' c w' d =>
    k _ _ c w' (d.lit q (λp v=>Y5.of_eq (Km he0 p v)) (λp v=>⟨_,Km hs0 p v,J3.refl _⟩) (Ut U))
  cases draw with
  |false=>exact wp_region_list (Q8A ops.toList F _ η _ _ a w b g m r h)
  | true=>
    have A:Q2V ops.toList F=true:=by simpa using O
    obtain⟨g1,Z,B⟩:=Z4R ops.toList F ops.toList F [] [] A rfl rfl rfl (λk i T=>by simp at T);have x:=Q8B (P:=P) (C:=C) (nt:=nt) (ops:=ops) ops.toList F ops.toList F 0 (lk E) (ls S) (λj=>by rw[Qd1]) (λj _=>by rw[Qd1]) B b
    obtain⟨D,z,y⟩:=x;simp only[Qd1,List.range_zero,List.reverse_nil]at D z y
    refine wp_region_any Fm.mixed (Z5E (R:=fun i=>i ∈ XM E S\/C.pin i≠none) (e0:=lk E) (s0:=ls S) B (fun j o e=>g1 j o e (Nat.zero_le _)) (fun i j J M K W u=>Z i j J M K W u (Nat.zero_le _)) D g m (fun η' c w' d=>h η' c w' ?_)
      ops.size (Array.replicate ops.size false) [] η a _ (by simp) (λi f=>by simp[f]) (by simp) ⟨List.nodup_nil,λl1 k l2 V=>by simp at V⟩ (by simp) ?_)
    . have e2:Jp ops.toList F (lk E)=hE ops.toList F (lk E) (List.range ops.size).reverse:=by rw [Array.length_toList] at z;exact z
      have e3:Jo F (ls S)=hS F (ls S) (List.range ops.size).reverse:=by rw[Qo8]at y;exact y
      grind
    . exact r.drew.wider λi f=>.inl f
end
end
section
section
variable {P:Program} {C:Ctx} {nt:Nat} {L:Lay} {pins:List Nat} {E:List (Nat×AVal)} {S:List (Nat×Obj)} {Q:Exit->Act->World->Prop}
theorem Q4y{x y:Code}(h:AW P C nt x E S (Exit.then (y.wp P Q) Q)):AW P C nt (.seq x y) E S Q:=λR η a w b=>wp_seq (h R η a w b)
theorem Q5(h:Kn C nt E S (Q .normal)):AW P C nt .skip E S Q:=λR η a w b=>wp_skip (h R η a w b)
theorem Uf(h:Kn C nt E S (Q .ret)):AW P C nt .ret E S Q:=λR η a w b=>wp_ret (h R η a w b)
theorem Jx(h:Kn C nt E S (Q (.exit id))):AW P C nt (.exit id) E S Q:=λR η a w b=>wp_exit (h R η a w b)
theorem Z7i{c:Code}(h:AW P C nt c E S (Exit.inBlock id Q)):AW P C nt (.block id c) E S Q:=λR η a w b=>wp_block (h R η a w b)
theorem Ug{t:Nat}{x y:Code}{b:Bool}(hb:lk E t=vb b)(ht:b=true->AW P C nt x E S Q)(hf:b=false->AW P C nt y E S Q):AW P C nt (.cond (.tmp t) x y) E S Q:=by
 intro R η a w c;have d:=c.ev t
 rw[hb]at d;have ev:a.eval (.tmp t)=.bool b:=FF d
 cases b with
 |true=>exact wp_cond_true ev (ht rfl R η a w c)
 |false=>exact Qx2 ev (hf rfl R η a w c)
def Ex{σ:Type}(C:Ctx)(nt:Nat)(I:σ->Prop)(E:σ->List (Nat×AVal))(S:σ->List (Nat×Obj))(a:Act)(w:World):Prop:=∃z,I z/\∃R η,Conc C nt R η (lk (E z)) (ls (S z)) a w
theorem Z6y{σ:Type}{I:σ->Prop}{E' : σ->List (Nat×AVal)}{S' : σ->List (Nat×Obj)}(z:σ)(hz:I z):Kn C nt (E' z) (S' z) (Ex C nt I E' S'):=λR η _ _ b=>⟨z,hz,R,η,b⟩
theorem Z7c{σ:Type}{c:Code}(I:σ->Prop)(μ:σ->Nat)(E' : σ->List (Nat×AVal))(S' : σ->List (Nat×Obj))(round:∀ z,I z->AW P C nt c (E' z) (S' z) (Exit.then (Ex C nt (fun z'=>I z' /\ μ z' < μ z) E' S') Q))(z0:σ)(h0:I z0):
  AW P C nt (.loop c) (E' z0) (S' z0) Q:=by
 classical
 intro R η a w x
 let J:Act->World->Nat->Prop:=λa w n=>∃z,I z/\μ z=n/\∃R η,Conc C nt R η (lk (E' z)) (ls (S' z)) a w
 let m:Act->World->Nat:=λa w=>if h:∃n,J a w n then h.choose else 0
 have p:∀(n:Nat) a w,J a w n->∃k,J a w k/\∀j,J a w j->k<=j:=by
  intro n
  induction n using Nat.strongRecOn with
  |_ n ih=>
   intro a w H;rcases Qk7 (∃j,j<n/\J a w j)with ⟨j,G,b⟩|D
   .exact ih j G a w b
   all_goals grind
 let μ' : Act->World->Nat:=λa w=>if h:∃n,J a w n then(p h.choose a w h.choose_spec).choose else 0
 have q:∀a w,(∃n,J a w n)->J a w (μ' a w)/\∀j,J a w j->μ' a w<=j:=by
  intro a w r
  grind
 refine wp_loop (λa w=>∃n,J a w n) μ' ⟨_,z0,h0,rfl,R,η,x⟩ λa w r=>?_
 obtain⟨⟨z,F,i,A,η',f⟩,_⟩:=q a w r;refine Code.wp_mono (λe v t u=>?_) (round z F A η' a w f)
 cases e with
 |normal=>
  obtain⟨z',⟨g,o⟩,B,y,d⟩:=u;have b:J v t (μ z'):=⟨z',g,rfl,B,y,d⟩
  exact⟨⟨_,b⟩,Nat.lt_of_le_of_lt ((q v t ⟨_,b⟩).2 _ b) (by rw[<-i];exact o)⟩
 |_=>exact u
def RZ(L:Lay)(e:U4)(s:U6):ResultVar->Option TV
 |.tmp t=>match e t with
  |.v x=>some x
  |_=>none
 |.cell a t=>match L t with
  |some ti=>match rd s ti.size (e a)with
   |some (cs,_)=>if Po (e a)then none else match Vn ti.kind.agg cs with
    |some (.v x)=>some x
    |_=>none
   |none=>none
  |none=>none
def KW(L:Lay)(e:U4)(s:U6):List ResultVar->Option (List TV)
 |[]=>some []
 |r::rs=>match RZ L e s r,KW L e s rs with
  |some x,some xs=>some (x::xs)
  |_,_=>none
def Jb(L:Lay)(e:U4)(s:U6)(rs:List ResultVar):Option AVal:=
 match rs,KW L e s rs with
 |[_],some [x]=>some (.v x)
 |[_],_=>none
 |_,some xs=>some (.t xs)
 |_,none=>none
def RO(tmps:Array Value):ResultVar->Sem Value
 |.tmp t=>pure (tmps.getD t undef)
 |.cell a t=>do loadVar t (<-asAddr (tmps.getD a undef))
theorem Q9g(hL:y4 P L){R:Nat->Prop}{η:Nat->Value}{e:U4}{s:U6}{a:Act}{w:World}(h:Conc C nt R η e s a w){r:ResultVar}{x:TV}(hr:RZ L e s r=some x):
  ∃v,(RO a.tmps r).run P w=.ok v w/\TRep w (XS C s η) η C v x:=by
 cases r with
 |tmp t=>
  simp only[RZ]at hr;split at hr
  .rename_i y f
   cases hr
   have:=h.ev t
   rw[f]at this;refine⟨a.tmps.getD t undef,rfl,?_⟩
   generalize a.tmps.getD t undef=u at this
   cases this with
   |v _ _ hv=>exact hv
  .cases hr
 |cell a' t=>
  simp only[RZ]at hr;split at hr
  .rename_i o N
   split at hr
   .rename_i U c k
    split at hr
    .cases hr
    .rename_i p
     split at hr
     .rename_i y f
      cases hr
      have I:c:=by
       unfold rd at k;split at k
       .grind
       .grind
       .rename_i T;rw[T]at p;simp[Po]at p
       .cases k
      obtain⟨i,d,z,D⟩:=hL t o N;obtain⟨b,m,A,V,fz,O,M,K,G,B,J⟩:=Q0j h k I (h.ev a')
      have F:o.kind.agg=false->o.size=1:=by
       intro n;rw[n]at f
       simp only[Vn]at f
       grind
      have q:=jY (P:=P) D M K F;refine⟨if o.kind.agg then .agg (Ze A m o.size).toArray else A.getD m undef,?_,?_⟩
      .simp only[RO,Qd9,O,asAddr,Qe9,Qd0,q]
      .unfold Vn at f
       split at f
       .rename_i n
        cases f
        simp only[n,Qh8];refine .g _ _ ⟨by simp[Ze,G],λj H=>?_⟩
        rw[G]at H;have:(Ze A m o.size).toArray.getD j undef=A.getD (m+j) undef:=by simp[Ze,H]
        grind
       .rename_i n
        split at f
        .cases f
         simp only[n,Qh1,Qh2];have:=B 0 (by rw[F n];exact Nat.zero_lt_one)
         exact .c _ _ (by simpa using this)
        .cases f
     .cases hr
   .cases hr
  .cases hr
theorem Q9f(hL:y4 P L){R:Nat->Prop}{η:Nat->Value}{e:U4}{s:U6}{a:Act}{w:World}(h:Conc C nt R η e s a w):∀ (rs:List ResultVar) (xs:List TV),KW L e s rs=some xs ->
  ∃vs:List Value,(rs.mapM (RO a.tmps)).run P w=.ok vs w/\vs.length=xs.length/\∀j,j<xs.length->TRep w (XS C s η) η C (vs.getD j undef) (xs.getD j (.c (.d .any))):=by
 intro rs
 induction rs with
 |nil=>intro xs b;cases b;exact⟨[],by simp,rfl,λj i=>by simp at i⟩
 |cons r rs ih=>
  intro xs b;simp only[KW]at b
  split at b
  .rename_i x f n g
   cases b
   obtain⟨v,m,p⟩:=Q9g hL h n;obtain⟨vs,k,o,q⟩:=ih f g
   refine⟨v::vs,?_,by simp[o],λj i=>?_⟩
   .simp only[List.mapM_cons,Qd9,m,k,Qd0,Qe9]
   all_goals grind
  .cases b
theorem Q9h(hL:y4 P L){R:Nat->Prop}(h:Conc C nt R η e s a w){x:AVal}(hr:Jb L e s fn.results.toList=some x):
  ∃v,(results fn a.tmps).run P w=.ok v w/\ARep w (XS C s η) η C v x:=by
 have i:∀g,KW L e s fn.results.toList=some g->∃b:List Value,(results fn a.tmps).run P w=.ok (if h:b.toArray.size=1 then b.toArray[0]else .tuple b.toArray) w/\b.length=g.length/\∀j,j<g.length->TRep w (XS C s η) η C (b.getD j undef) (g.getD j (.c (.d .any))):=by
  intro g f;obtain⟨b,p,k,m⟩:=Q9f hL h _ _ f
  refine⟨b,?_,k,m⟩;have o:results fn a.tmps=(do let b <-fn.results.mapM (RO a.tmps);pure (if h:b.size=1 then b[0]else .tuple b)):=by
   unfold results;congr 1
  rw[o];simp only[Qd9,Array.mapM_eq_mapM_toList,Sem.run_map,p,Qd0,Qe9]
 unfold Jb at hr;split at hr
 .rename_i r F z f
  cases hr
  obtain⟨b,p,k,m⟩:=i _ f;refine⟨b.getD 0 undef,?_,.v _ _ (m 0 (by simp))⟩
  rw[p]
  cases b with
  |nil=>simp at k
  |cons v r=>cases r with
   |nil=>rfl
   |cons _ _=>simp at k
 .cases hr
 .skip
  rename_i g f _ u
  cases hr
  obtain⟨b,p,k,m⟩:=i _ f;refine⟨.tuple b.toArray,?_,.t _ _ (by simpa using k) (λj D=>by simpa[Qa0]using m j D)⟩
  rw[p];have n:∀(q:List ResultVar) (g:List TV),KW L e s q=some g->q.length=g.length:=by
   intro q
   induction q with
   |nil=>intro g h;cases h;rfl
   |cons r q ih=>
    intro g h;simp only[KW]at h
    grind
  have A:¬b.toArray.size=1:=by
   intro y;have B:b.length=1:=by simpa using y
   have:=n _ _ f
   rw[<-k,B]at this;obtain⟨r,hr⟩:=List.length_eq_one_iff.1 this
   exact u r hr
  rw[dif_neg A]
 .cases hr
end
end
section
def Qd(S:List (Nat×Obj))(w:World)(X:Nat->Prop)(η:Nat->Value):Ctx where
 w0:=w
 D:=Own (ls S) η
 M:=λb=>∃i o,ls S i=some o/\o.ro=false/\b∈Y7 (η i)
 X:=X
 pin:=λi=>if(S.lookup i).isSome then some (η i)else none
structure Behind (C:Ctx) (r:AVal) (S' : List (Nat×Obj)) (v:Value) (η' : Nat->Value) (w' : World):Prop where
 stp:Stp C.M C.w0 w'
 res:ARep w' (XS C (ls S') η') η' C v r
 objs:∀i o,ls S' i=some o->ORep w' (XS C (ls S') η') η' C (η' i) o
 ds:∀i j b,ls S' i≠none->ls S' j≠none->b∈Y7 (η' i)->b∈Y7 (η' j)->i=j
 ow:∀i o b,ls S' i=some o->b∈Y7 (η' i)->(o.ro=true/\C.D b)\/C.M b\/C.w0.heap.size<=b
 pn:∀i v,C.pin i=some v->η' i=v
def G3(P:Program)(f:Nat)(args:List AVal)(S:List (Nat×Obj))(r:AVal)(S' : List (Nat×Obj)):Prop:=
 ∀(w:World) (X:Nat->Prop) (η:Nat->Value) (vs:Array Value),(∀b,X b->b<w.heap.size)->(∀b,Own (ls S) η b->X b) ->
  (∀i o,ls S i=some o->ORep w X η (Qd S w X η) (η i) o)->(∀i j b,ls S i≠none->ls S j≠none->b∈Y7 (η i)->b∈Y7 (η j)->i=j) ->
  vs.size=args.length->(∀j,j<args.length->ARep w X η (Qd S w X η) (vs.getD j undef) (args.getD j .any)) ->
  Calls P f vs w λe w'=>∃v η',e=.returned v/\Behind (Qd S w X η) r S' v η' w'
def PS(args:List AVal):List (Nat×AVal):=args.zipIdx.map λp=>(p.2,p.1)
def WS(P:Program)(fn:Func)(C:Ctx)(r:AVal)(S' : List (Nat×Obj)):Exit->Act->World->Prop:=
 bodyPost P fn λe w'=>∃v η',e=.returned v/\Behind C r S' v η' w'
section
variable {P:Program} {L:Lay}
theorem XZ{X:Nat->Prop}(h:∀b,Own (ls S) η b->X b):XS (Qd S w X η) (ls S) η=X:=by
 funext b
 apply propext;constructor
 .rintro (⟨c,_⟩|c)
  .exact c
  .exact h b c
 .intro c
  rcases Qk7 (Own (ls S) η b)with d|d
  .exact .inr d
  .exact .inl ⟨c,d⟩
theorem Z5C(args:List AVal)(t:Nat):lk (PS args) t=args.getD t .any:=by
 unfold lk PS;have b:∀(l:List AVal) (k t:Nat),(((l.zipIdx k).map λp=>(p.2,p.1)).lookup t).getD .any=if t<k then .any else l.getD (t-k) .any:=by
  intro l
  induction l with
  |nil=>intro k t;simp
  |cons x l ih=>
   intro k t;simp only[Qq4,Qf7,Qh0]
   grind
 grind
theorem Z6P(hm:P.follows .mixedOrders=true)(hL:y4 P L){f:Nat}{c:Code}(hf:P.funcs[f]?=some fn)(hb:fn.body=some c){args:List AVal}{r:AVal}(hn0:Nat.ble args.length fn.ntmps=true)(h:∀C,Fr P L C (S.map (·.1))->AW P C fn.ntmps c (PS args) S (WS P fn C r S')):G3 P f args S r S':=by
 have G:args.length<=fn.ntmps:=Qq9 hn0;intro w X η p z g n k x j
 have q:(Qd S w X η).Ok:=⟨λb ⟨i,o,h1,_,h2⟩=>⟨i,o,h1,h2⟩,λb hb=>g b hb,z⟩;refine calls_of_wp hf hb (h (Qd S w X η) ⟨hm,hL,λi d=>?_⟩ (λ_=>True) η _ w ⟨q,rfl,?_,λt=>?_,λ_ _ _=>trivial,λi o d=>?_,λ_ _ _=>⟨trivial,λ_ _=>trivial⟩,k,λi o b d m=>?_,Stp.refl _ _,λi v d=>⟨?_,trivial⟩⟩)
 .simp only[Qd]at d
  split at d
  .rename_i y
   obtain⟨o,u⟩:=Qm3.1 y;obtain⟨F,D,B,_⟩:=Qi7.1 u
   rw[B];simp
  .exact absurd rfl d
 .simp;omega
 .rw [XZ g,Z5C]
  by_cases ht:t<args.length
  .have A:(p++Array.replicate (fn.ntmps-p.size) undef).getD t undef=p.getD t undef:=by
    have:t<p.size:=by omega
    simp[this,Qf3,Qd4]
   simp only[A];exact j t ht
  .rw [Qa0,Qg7 (by omega)]
   exact .any _
 .rw [XZ g];exact n i o d
 .cases hro:o.ro with
  |true=>exact .inl ⟨rfl,⟨i,o,d,m⟩⟩
  |false=>exact .inr (.inl ⟨i,o,d,hro,m⟩)
 .simp only[Qd]at d
  split at d
  .cases d;rfl
  .cases d
theorem Z6A{pins:List Nat}(Fm:Fr P L C pins){r:AVal}(hr:Jb L (lk E) (ls S) fn.results.toList=some r)(hS:S'.map (λp=>ls S p.1)=S'.map (λp=>some p.2)):Kn C nt E S (WS P fn C r S' .ret):=by
 intro R η a w f;obtain⟨v,n,t⟩:=Q9h (P:=P) Fm.lay f hr
 have d:∀i o,ls S' i=some o->ls S i=some o:=λi o c=>Km hS (i,o) (y8 c)
 have m:QS w w (XS C (ls S) η) (XS C (ls S') η):=by
  intro b z q;refine⟨rfl,λk=>q ?_⟩
  rcases k with u|⟨i,o,c,h⟩
  .exact .inl u
  .exact .inr ⟨i,o,d i o c,h⟩
 have g:∀i,ls S' i≠none->ls S i≠none:=by
  intro i c;obtain⟨o,y⟩:=Qa7.1 c
  grind
 exact⟨f.df,v,n,v,η,rfl,f.fr,t.mono m (λ_ _=>rfl),λi o c=>(f.st i o (d i o c)).mono m (λ_ _=>rfl) (λ_ _=>rfl),
  λi j b c x=>f.ds i j b (g i c) (g j x),λi o b c=>f.ow i o b (d i o c),λi v c=>(f.pn i v c).1⟩
end
end
section
def Ms:Value->CV
 |.int k n=>.d (.int k n)
 |.bool b=>.d (.bool b)
 |.string s=>.d (.str s)
 |.slice none 0 0=>.fl 0 λ_=>[]
 |_=>.d .any
def Q0Y:TypeDesc->TK
 |.int k=>.int k
 |.bool=>.bool
 |.string=>.str
 |.slice e=>.slice e
 |.struct fs=>.struct (fs.toList.map λf=>(f.offset,f.type))
 |.array n e=>.array n e
 |_=>.other
def TH(P:Program)(t:Nat):Option TI:=
 match P.info? t,P.underlying t with
 |some i,some d=>match i.zero with
  |some z=>if z.cells.toList.all Value.oneCell' then some ⟨Q0Y d,i.size,i.bytes,z.cells.toList.map Ms⟩else none
  |none=>none
 |_,_=>none
theorem kF{X:Nat->Prop}(h:v.oneCell'=true):CRep w X η C v (Ms v)/\(Ms v).refs=[]:=by
 unfold Ms;split
 .exact ⟨.d _ _ (.int _ _),rfl⟩
 .exact ⟨.d _ _ (.bool _),rfl⟩
 .exact ⟨.d _ _ (.str _),rfl⟩
 .exact ⟨.fl _ _ _ (.nil _ _ _),rfl⟩
 .exact ⟨.d _ _ (.any _ h),rfl⟩
theorem Z1M(P:Program):y4 P (TH P):=by
 intro t q h;unfold TH at h
 split at h
 .rename_i i d g k
  split at h
  .rename_i z n
   split at h
   .rename_i b
    cases h
    rw[Qc0]at b;refine⟨i,d,z,g,k,rfl,rfl,n,λw X η C=>⟨by simp,λj p=>?_⟩,?_,?_⟩
    .have c : j<z.cells.size:=by simpa using p
     have m:z.cells[j]∈z.cells.toList:=by simp
     have:=(kF (w:=w) (X:=X) (η:=η) (C:=C) (b _ m)).1
     simpa[Qa0,c]using this
    .rw [Qp8]
     intro x o;obtain⟨v,f,rfl⟩:=Qc5.1 o
     exact(kF (w:=default) (X:=λ_=>False) (η:=λ_=>default) (C:=⟨default,λ_=>False,λ_=>False,λ_=>False,λ_=>none⟩) (b v f)).2
    .cases d<;>simp[Q0Y,ZL]
   .cases h
  .cases h
 .cases h
def UT(T:List (Nat×TI)):Lay:=λt=>T.lookup t
theorem Q5K{P:Program}{T:List (Nat×TI)}(h:T.map (λp=>TH P p.1)=T.map (λp=>some p.2)):y4 P (UT T):=by
 intro t b c;obtain⟨f,g,d,_⟩:=Qi7.1 c
 exact Z1M P t b (Km h (t,b) (by rw[d];simp))
section
variable {P:Program} {C:Ctx} {nt:Nat} {L:Lay} {pins:List Nat}
end
end
end
end Go.Ab
