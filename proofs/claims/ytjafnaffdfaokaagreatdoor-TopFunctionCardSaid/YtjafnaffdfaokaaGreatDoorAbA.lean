/- Abstract states over the model. -/
import Derived.Orders
import Derived.Laws.AppendOwn
import Derived.Below
import Derived.MapKept
import Derived.IntWalk
import Derived.Laws.Tables
import Derived.Tactics
import Derived.KernelRfl
set_option linter.unusedVariables false
set_option linter.unusedSimpArgs false
namespace Go.Ab
noncomputable section
section
inductive DVal where
 | any
 | int (k:IntKind) (n:Int)
 | bool (b:Bool)
 | str (s:ByteArray)
 | lst (n:Nat) (f:Nat->List DVal)
 | mp (n:Nat) (ks:Nat->Int) (vs:Nat->DVal)
inductive CV where
 | d (x:DVal)
 | fl (n:Nat) (f:Nat->List DVal)
 | own (id:Nat)
 | ptr (id off:Nat)
 | pte (id es idx off:Nat)
 | sub (id es lo n:Nat)
 | elm (cs:List DVal)
 | clo (f:Nat) (ids:List Nat)
 | sem (p:World->(Nat->Prop)->(Nat->Prop)->Value->Prop)
 | ap (id:Nat)
 | bnd (f:Nat) (cs:List DVal)
 | cp (id j:Nat)
inductive TV where
 | c (x:CV)
 | g (xs:List CV)
inductive AVal where
 | any
 | v (x:TV)
 | t (xs:List TV)
inductive Obj where
 | box (ro:Bool) (cs:List CV)
 | arr (es n:Nat) (f:Nat->List DVal)
 | ext (p:World->(Nat->Prop)->Value->Prop)
 | exr (refs:List Nat) (p:World->(Nat->Prop)->List Value->Value->Prop)
abbrev U3:=Nat->AVal
abbrev U5:=Nat->Option Obj
structure Ctx where
 w0:World
 D:Nat->Prop
 M:Nat->Prop
 X:Nat->Prop
 pin:Nat->Option Value
inductive DRep (w:World) (X:Nat->Prop):Value->DVal->Prop
 | any (v:Value):v.oneCell'=true->DRep w X v .any
 | int (k:IntKind) (n:Int):DRep w X (.int k n) (.int k n)
 | bool (b:Bool):DRep w X (.bool b) (.bool b)
 | str (s:ByteArray):DRep w X (.string s) (.str s)
 | nil (a:Option Addr) (cap:Nat) (f:Nat->List DVal):DRep w X (.slice a 0 cap) (.lst 0 f)
 | lst (b off n cap:Nat) (c:Array Value) (e:TypeId) (fz:Nat×Nat) (f:Nat->List DVal) (es:Nat) :
   ¬ X b->w.heap[b]?=some (.cells c e fz)->n<=cap->off+n*es<=c.size->(∀ i,i<n->(f i).length=es) ->
   (∀ i j,i<n->j<es->DRep w X (c.getD (off+(i*es+j)) undef) ((f i).getD j .any)) ->
   DRep w X (.slice (some ⟨b,off,none⟩) n cap) (.lst n f)
 | mp (b:Nat) (es:Array MapEntry) (clock n:Nat) (ks:Nat->Int) (Ze:Nat->Value) (vs:Nat->DVal):¬ X b->w.heap[b]?=some (.map es clock)->MapKept.Stamped es clock->es.size=n ->
   (∀ i,i<n->∃ bo,es[i]?=some ⟨.int .i64 (ks i),Ze i,bo⟩)->(∀ i,i<n->DRep w X (Ze i) (vs i))->DRep w X (.map (some b)) (.mp n ks vs)
theorem DRep.one{w:World}{X:Nat->Prop}{v:Value}{x:DVal}(h:DRep w X v x):v.oneCell'=true:=by
 cases h <;> first|assumption|rfl
theorem J5{w:World}{b:Nat}{o:Go.Obj}(h:w.heap[b]?=some o):b<w.heap.size:=
 (Array.getElem?_eq_some_iff.1 h).1
structure Stp (Z:Nat->Prop) (w w' : World):Prop where
 os:w'.os=w.os
 tape:w'.tape=w.tape
 output:w'.output=w.output
 size:w.heap.size<=w'.heap.size
 block:∀ b,b<w.heap.size->¬ Z b->w'.heap[b]?=w.heap[b]?
 dr:w.drawn<=w'.drawn
theorem Stp.refl(Z:Nat->Prop)(w:World):Stp Z w w:=⟨rfl,rfl,rfl,Nat.le_refl _,fun _ _ _=>rfl,Nat.le_refl _⟩
theorem Stp.mono{Z Z' : Nat->Prop}{w w' : World}(h:Stp Z w w')(hz:∀ b,b<w.heap.size->Z b->Z' b):Stp Z' w w' :=
 ⟨h.os,h.tape,h.output,h.size,fun b a c=>h.block b a fun d=>c (hz b a d),h.dr⟩
theorem Stp.trans{Z:Nat->Prop}{a b c:World}(h:Stp Z a b)(k:Stp (fun x=>Z x\/a.heap.size<=x) b c):Stp Z a c:=
 ⟨k.os.trans h.os,k.tape.trans h.tape,k.output.trans h.output,Nat.le_trans h.size k.size,
  fun x e f=>(k.block x (Nat.lt_of_lt_of_le e h.size) fun d=>by rcases d with d|d;exact f d;omega).trans (h.block x e f),Nat.le_trans h.dr k.dr⟩
theorem Stp.drew(Z:Nat->Prop)(w:World):Stp Z w { w with drawn:=w.drawn+1 }:=⟨rfl,rfl,rfl,Nat.le_refl _,fun _ _ _=>rfl,Nat.le_succ _⟩
theorem Stp.alloc(Z:Nat->Prop)(w:World)(o:Go.Obj):Stp Z w { w with heap:=w.heap.push o } :=
 ⟨rfl,rfl,rfl,by simp,fun b a _=>by show (w.heap.push o)[b]?=_;rw [Array.getElem?_push,if_neg (by omega)],Nat.le_refl _⟩
theorem Stp.below{Z:Nat->Prop}{w w' : World}(h:Stp Z w w')(B:Nat)(hB:B<=w.heap.size)(hZ:∀ b,b<B->¬ Z b):Go.RowKit.Below B w w' :=
 ⟨h.os,h.tape,h.output,h.size,fun k a=>h.block k (Nat.lt_of_lt_of_le a hB) (hZ k a)⟩
theorem DRep.mono{w w' : World}{X X' : Nat->Prop}{v:Value}{x:DVal}(h:DRep w X v x)(hk:∀ b,b<w.heap.size->¬ X b->w'.heap[b]?=w.heap[b]? /\ ¬ X' b):DRep w' X' v x:=by
 induction h with
 | any v hv=>exact .any v hv
 | int k n=>exact .int k n
 | bool b=>exact .bool b
 | str s=>exact .str s
 | nil a cap f=>exact .nil a cap f
 | lst b off n cap c e fz f es hX hb hn ho hf _ ih=>
  have d:=hk b (J5 hb) hX;exact .lst b off n cap c e fz f es d.2 (d.1.trans hb) hn ho hf ih
 | mp b es clock n ks Ze vs hX hb h1 h2 h3 _ ih=>
  have d:=hk b (J5 hb) hX;exact .mp b es clock n ks Ze vs d.2 (d.1.trans hb) h1 h2 h3 ih
def Pb:Value->List Nat
 | .pointer (some a)=>[a.block]
 | .slice (some a) _ cap=>if cap=0 then [] else [a.block]
 | .map (some b)=>[b]
 | _=>[]
def Y9:Value->List Nat
 | .pointer (some a)=>[a.block]
 | .slice (some a) _ cap=>if cap=0 then [] else [a.block]
 | .map (some b)=>[b]
 | .agg vs=>vs.toList.flatMap Pb
 | _=>[]
def QR(w w' : World)(X X' : Nat->Prop):Prop:=∀ b,b<w.heap.size->¬ X b->w'.heap[b]?=w.heap[b]? /\ ¬ X' b
def Pi(p:World->(Nat->Prop)->Value->Prop)(v:Value):Prop:=∀ w w' X X',QR w w' X X' -> (∀ b ∈ Y9 v,w'.heap[b]?=w.heap[b]?)->p w X v->p w' X' v
section
variable (w:World) (X:Nat->Prop) (η:Nat->Value) (C:Ctx)
inductive CRep:Value->CV->Prop
 | d (v:Value) (x:DVal):DRep w X v x->CRep v (.d x)
 | fl (a:Option Addr) (n:Nat) (f:Nat->List DVal):DRep w X (.slice a n n) (.lst n f)->CRep (.slice a n n) (.fl n f)
 | own (v:Value) (id:Nat):v=η id->v.oneCell'=true->CRep v (.own id)
 | ptr (b id off:Nat):η id=.pointer (some ⟨b,0,none⟩)->CRep (.pointer (some ⟨b,off,none⟩)) (.ptr id off)
 | pte (b n cap id es idx off:Nat):η id=.slice (some ⟨b,0,none⟩) n cap->CRep (.pointer (some ⟨b,idx*es+off,none⟩)) (.pte id es idx off)
 | sub (b N cap id es lo n:Nat):η id=.slice (some ⟨b,0,none⟩) N cap->lo+n<=N->lo<cap->CRep (.slice (some ⟨b,lo*es,none⟩) n (cap-lo)) (.sub id es lo n)
 | subN (ad ad' : Option Addr) (N id es:Nat):η id=.slice ad N N->CRep (.slice ad' 0 0) (.sub id es N 0)
 | elm (b off:Nat) (c:Array Value) (e:TypeId) (fz:Nat×Nat) (cs:List DVal):¬ X b->w.heap[b]?=some (.cells c e fz)->off+cs.length<=c.size ->
   (∀ j,j<cs.length->DRep w X (c.getD (off+j) undef) (cs.getD j .any))->CRep (.pointer (some ⟨b,off,none⟩)) (.elm cs)
 | clo (f:Nat) (ids:List Nat) (vs:Array Value):vs=(ids.map η).toArray->CRep (.func (.func f) #[] vs) (.clo f ids)
 | sem (v:Value) (p:World->(Nat->Prop)->(Nat->Prop)->Value->Prop):p C.w0 C.D C.X v->v.oneCell'=true->CRep v (.sem p)
 | ap (v:Value) (id:Nat):(η id=v\/η id=.tuple #[v]\/∃ l,η id=.agg (v::l).toArray)->v.oneCell'=true->CRep v (.ap id)
 | bnd (f:Nat) (vs:Array Value) (cs:List DVal):vs.size=cs.length->(∀ j,j<cs.length->DRep w X (vs.getD j undef) (cs.getD j .any))->CRep (.func (.func f) #[.agg vs] #[]) (.bnd f cs)
 | cp (v:Value) (id j:Nat) (vs:Array Value):η id=.agg vs->vs[j]?=some v->v.oneCell'=true->CRep v (.cp id j)
def y8(vs:Array Value)(cs:List CV):Prop:=vs.size=cs.length/\∀ j,j<cs.length->CRep w X η C (vs.getD j undef) (cs.getD j (.d .any))
inductive TRep:Value->TV->Prop
 | c (v:Value) (x:CV):CRep w X η C v x->TRep v (.c x)
 | g (vs:Array Value) (xs:List CV):y8 w X η C vs xs->TRep (.agg vs) (.g xs)
inductive ARep:Value->AVal->Prop
 | any (v:Value):ARep v .any
 | v (u:Value) (x:TV):TRep w X η C u x->ARep u (.v x)
 | t (us:Array Value) (xs:List TV):us.size=xs.length->(∀ j,j<xs.length->TRep w X η C (us.getD j undef) (xs.getD j (.c (.d .any))))->ARep (.tuple us) (.t xs)
inductive ORep:Value->Obj->Prop
 | box (b:Nat) (ro:Bool) (c:Array Value) (e:TypeId) (cs:List CV):w.heap[b]?=some (.cells c e (0,0))->y8 w X η C c cs ->
   ORep (.pointer (some ⟨b,0,none⟩)) (.box ro cs)
 | nil (ad:Option Addr) (es:Nat) (f:Nat->List DVal):ORep (.slice ad 0 0) (.arr es 0 f)
 | arr (b n cap es:Nat) (c:Array Value) (e:TypeId) (f:Nat->List DVal):w.heap[b]?=some (.cells c e (0,0))->c.size=cap*es->n<=cap->cap<=maxLen->0<cap ->
   (∀ i,i<n->(f i).length=es)->(∀ i j,i<n->j<es->DRep w X (c.getD (i*es+j) undef) ((f i).getD j .any)) ->
   ORep (.slice (some ⟨b,0,none⟩) n cap) (.arr es n f)
 | ext (v:Value) (p:World->(Nat->Prop)->Value->Prop):p w X v->Pi p v->(∀ b ∈ Y9 v,b<w.heap.size)->ORep v (.ext p)
 | exr (v:Value) (refs:List Nat) (p:World->(Nat->Prop)->List Value->Value->Prop):p w X (refs.map η) v->Pi (fun w X v=>p w X (refs.map η) v) v->(∀ b ∈ Y9 v,b<w.heap.size)->ORep v (.exr refs p)
end
theorem CRep.one{w:World}{X:Nat->Prop}{η:Nat->Value}{C:Ctx}{v:Value}{x:CV}(h:CRep w X η C v x):v.oneCell'=true:=by
 cases h with
 | d _ _ h=>exact h.one
 | own _ _ _ h=>exact h
 | sem _ _ _ h=>exact h
 | ap _ _ _ h=>exact h
 | cp _ _ _ _ _ _ h=>exact h
 | _=>rfl
def CV.refs:CV->List Nat
 | .own id=>[id]
 | .ptr id _=>[id]
 | .pte id _ _ _=>[id]
 | .sub id _ _ _=>[id]
 | .clo _ ids=>ids
 | .ap id=>[id]
 | .cp id _=>[id]
 | _=>[]
def TV.refs:TV->List Nat
 | .c x=>x.refs
 | .g xs=>xs.flatMap CV.refs
def AVal.refs:AVal->List Nat
 | .any=>[]
 | .v x=>x.refs
 | .t xs=>xs.flatMap TV.refs
def Obj.refs:Obj->List Nat
 | .box _ cs=>cs.flatMap CV.refs
 | .arr _ _ _=>[]
 | .ext _=>[]
 | .exr refs _=>refs
def Obj.ro:Obj->Bool
 | .box ro _=>ro
 | .arr _ _ _=>false
 | .ext _=>false
 | .exr _ _=>false
section
variable {w w' : World} {X X' : Nat->Prop} {η η' : Nat->Value} {C:Ctx}
theorem CRep.mono{v:Value}{x:CV}(h:CRep w X η C v x)(hk:QR w w' X X')(hη:∀ i ∈ x.refs,η' i=η i):CRep w' X' η' C v x:=by
 cases h with
 | d _ _ h=>exact .d _ _ (h.mono hk)
 | fl a n f h=>exact .fl a n f (h.mono hk)
 | own _ id h h1=>exact .own _ id (by rw [hη id (by simp [CV.refs])];exact h) h1
 | ptr b id off h=>exact .ptr b id off (by rw [hη id (by simp [CV.refs])];exact h)
 | pte b n cap id es idx off h=>exact .pte b n cap id es idx off (by rw [hη id (by simp [CV.refs])];exact h)
 | sub b N cap id es lo n h h1 h2=>exact .sub b N cap id es lo n (by rw [hη id (by simp [CV.refs])];exact h) h1 h2
 | subN ad ad' N id es h=>exact .subN ad ad' N id es (by rw [hη id (by simp [CV.refs])];exact h)
 | elm b off c e fz cs hX hb ho hc=>
  have k:=hk b (J5 hb) hX;exact .elm b off c e fz cs k.2 (k.1.trans hb) ho fun j g=>(hc j g).mono hk
 | clo f ids vs h=>
  refine .clo f ids vs ?_;rw [h]
  congr 1
  exact List.map_congr_left fun i l=>(hη i (by simpa [CV.refs] using l)).symm
 | sem _ p h h1=>exact .sem _ p h h1
 | ap _ id h h1=>exact .ap _ id (by rw [hη id (by simp [CV.refs])];exact h) h1
 | bnd f vs cs h1 h2=>exact .bnd f vs cs h1 fun j g=>(h2 j g).mono hk
 | cp _ id j vs h h1 h2=>exact .cp _ id j vs (by rw [hη id (by simp [CV.refs])];exact h) h1 h2
theorem Yp{α:Type}{l:List α}{j:Nat}{d:α}(h:j<l.length):l.getD j d ∈ l:=by
 grind
theorem y8.mono{vs:Array Value}{cs:List CV}(h:y8 w X η C vs cs)(hk:QR w w' X X')(hη:∀ i ∈ cs.flatMap CV.refs,η' i=η i):y8 w' X' η' C vs cs:=
 ⟨h.1,fun j a=>(h.2 j a).mono hk fun i b=>hη i (List.mem_flatMap.2 ⟨_,Yp a,b⟩)⟩
theorem TRep.mono{v:Value}{x:TV}(h:TRep w X η C v x)(hk:QR w w' X X')(hη:∀ i ∈ x.refs,η' i=η i):TRep w' X' η' C v x:=by
 cases h with
 | c _ x h=>exact .c _ x (h.mono hk hη)
 | g vs xs h=>exact .g vs xs (h.mono hk hη)
theorem ARep.mono{v:Value}{x:AVal}(h:ARep w X η C v x)(hk:QR w w' X X')(hη:∀ i ∈ x.refs,η' i=η i):ARep w' X' η' C v x:=by
 cases h with
 | any=>exact .any v
 | v _ x h=>exact .v _ x (h.mono hk hη)
 | t us xs hs h=>exact .t us xs hs fun j a=>(h j a).mono hk fun i b=>hη i (List.mem_flatMap.2 ⟨_,Yp a,b⟩)
theorem ORep.mono{v:Value}{o:Obj}(h:ORep w X η C v o)(hk:QR w w' X X')(hη:∀ i ∈ o.refs,η' i=η i)(hb:∀ b,b ∈ Y9 v->w'.heap[b]?=w.heap[b]?):ORep w' X' η' C v o:=by
 cases h with
 | box b ro c e cs hh hc=>exact .box b ro c e cs ((hb b (by simp [Y9])).trans hh) (hc.mono hk hη)
 | nil ad es f=>exact .nil ad es f
 | arr b n cap es c e f hh hs hn hm hc hl he=>
  exact .arr b n cap es c e f ((hb b (by simp [Y9];omega)).trans hh) hs hn hm hc hl fun i j d k=>(he i j d k).mono hk
 | ext _ p h h1 h2=>
  refine .ext _ p (h1 w w' X X' hk hb h) h1 fun b a=>?_
  grind
 | exr _ refs p h h1 h2=>
  have g:refs.map η'=refs.map η:=List.map_congr_left fun i d=>hη i d
  refine .exr _ refs p (by rw [g];exact h1 w w' X X' hk hb h) (by rw [g];exact h1) fun b a=>?_
  grind
theorem ORep.lt{v:Value}{o:Obj}(h:ORep w X η C v o){b:Nat}(hb:b ∈ Y9 v):b<w.heap.size:=by
 cases h with
 | box b' ro c e cs hh hc=>simp [Y9] at hb;subst hb;exact J5 hh
 | nil ad es f=>cases ad <;> simp [Y9] at hb
 | arr b' n cap es c e f hh hs hn hm hc hl he=>simp [Y9] at hb;obtain ⟨_,rfl⟩:=hb;exact J5 hh
 | ext _ p h h1 h2=>exact h2 b hb
 | exr _ refs p h h1 h2=>exact h2 b hb
end
def Own(s:U5)(η:Nat->Value)(b:Nat):Prop:=∃ i o,s i=some o/\b ∈ Y9 (η i)
def XS(C:Ctx)(s:U5)(η:Nat->Value)(b:Nat):Prop:=(C.X b/\¬ C.D b)\/Own s η b
structure Ctx.Ok (C:Ctx):Prop where
 md:∀ b,C.M b->C.D b
 dx:∀ b,C.D b->C.X b
 lt:∀ b,C.X b->b<C.w0.heap.size
structure Conc (C:Ctx) (nt:Nat) (R:Nat->Prop) (η:Nat->Value) (e:U3) (s:U5) (a:Act) (w:World):Prop where
 ok:C.Ok
 df:a.defers=[]
 sz:a.tmps.size=nt
 ev:∀ t,ARep w (XS C s η) η C (a.tmps.getD t undef) (e t)
 er:∀ t i,i ∈ (e t).refs->R i
 st:∀ i o,s i=some o->ORep w (XS C s η) η C (η i) o
 sr:∀ i o,s i=some o->R i/\∀ j ∈ o.refs,R j
 ds:∀ i j b,s i≠none->s j≠none->b ∈ Y9 (η i)->b ∈ Y9 (η j)->i=j
 ow:∀ i o b,s i=some o->b ∈ Y9 (η i)->(o.ro=true/\C.D b)\/C.M b\/C.w0.heap.size<=b
 fr:Stp C.M C.w0 w
 pn:∀ i v,C.pin i=some v->η i=v/\R i
end
section
structure SR where
 v:AVal:=.any
 del:List Nat:=[]
 upd:Option (Nat×Obj):=none
 new:Option Obj:=none
 cond:Prop:=True
def SR.env(r:SR)(d:Option Tmp)(e:U3):U3:=
 match d with
 | some d=>fun t=>if t=d then r.v else e t
 | none=>e
def SR.sto(r:SR)(d:Option Tmp)(s:U5):U5:=fun i=>
 match r.new,d with
 | some o,some d=>if i=d then some o else
  match r.upd with
  | some (k,o')=>if i=k then some o' else if r.del.contains i then none else s i
  | none=>if r.del.contains i then none else s i
 | _,_=>
  match r.upd with
  | some (k,o')=>if i=k then some o' else if r.del.contains i then none else s i
  | none=>if r.del.contains i then none else s i
def SR.eta(r:SR)(d:Option Tmp)(v:Value)(η:Nat->Value):Nat->Value:=fun i=>
 match r.new,d with
 | some _,some d=>if i=d then v else η i
 | _,_=>η i
def SR.rng(r:SR)(d:Option Tmp)(R:Nat->Prop):Nat->Prop:=fun i=>R i\/(r.new≠none/\d=some i)
theorem qM(a:Act)(d:Option Tmp)(v:Value)(t:Nat)(hd:∀ x,d=some x->x<a.tmps.size):
  (a.put d v).tmps.getD t undef=if d=some t then v else a.tmps.getD t undef:=by
 cases d with
 | none=>simp [Act.put]
 | some x=>
  have b:=hd x rfl;simp only [Act.put,Option.some.injEq]
  by_cases h:x=t
  .subst h;simp [b]
  .simp [h]
theorem cm(a:Act)(d:Option Tmp)(v:Value):(a.put d v).tmps.size=a.tmps.size:=by cases d <;> simp [Act.put]
theorem co(a:Act)(d:Option Tmp)(v:Value):(a.put d v).defers=a.defers:=by cases d <;> rfl
section
variable {C:Ctx} {nt:Nat} {R:Nat->Prop} {η:Nat->Value} {e:U3} {s:U5} {a:Act} {w:World}
theorem Conc.lt(h:Conc C nt R η e s a w){b:Nat}(hb:Own s η b):b<w.heap.size:=by
 obtain ⟨i,o,c,hb⟩:=hb;exact (h.st i o c).lt hb
theorem FJ(r:SR)(d:Option Tmp):∀ i o,r.sto d s i=some o->(r.new=some o/\d=some i)\/(r.upd=some (i,o)/\(r.new=none\/d≠some i))\/(s i=some o/\i ∉ r.del/\(∀ o',r.upd≠some (i,o'))/\(r.new=none\/d≠some i)):=by
 intro i o c;have b:(match r.upd with|some (k,o')=>if i=k then some o' else if r.del.contains i then none else s i|none=>if r.del.contains i then none else s i)=some o ->
   r.upd=some (i,o)\/(s i=some o/\i ∉ r.del/\∀ o',r.upd≠some (i,o')):=by
  intro f
  cases hu:r.upd with
  | none=>
   grind
  | some ko=>
   grind
 unfold SR.sto at c
 cases hn:r.new with
 | none=>
  grind
 | some on=>
  grind
theorem TZ(r:SR)(d:Option Tmp)(v:Value):∀ i,(r.new=none\/d≠some i)->r.eta d v η i=η i:=by
 intro i b;unfold SR.eta
 grind
theorem Q9h(r:SR)(d:Option Tmp)(v:Value)(N:Nat->Prop)(hnew:∀ o dd,r.new=some o->d=some dd->∀ b,b ∈ Y9 v->N b\/Own s η b)(hupd:∀ k o,r.upd=some (k,o)->s k≠none):∀ b,Own (r.sto d s) (r.eta d v η) b->N b\/Own s η b:=by
 rintro b ⟨i,o,m,c⟩;rcases FJ r d i o m with ⟨h,f⟩|⟨l,g⟩|⟨n,_,_,g⟩
 .rw [show r.eta d v η i=v from by simp [SR.eta,h,f]] at c
  exact hnew o i h f b c
 .rw [TZ r d v i g] at c
  obtain ⟨p,j⟩:=Option.ne_none_iff_exists'.1 (hupd i o l);exact .inr ⟨i,p,j,c⟩
 .rw [TZ r d v i g] at c
  exact .inr ⟨i,o,n,c⟩
theorem UI{w w' : World}(r:SR)(d:Option Tmp)(v:Value)(Z:Nat->Prop)(hstep:Stp Z w w')(hZ:∀ b,Z b->Own s η b)(hnew:∀ o dd,r.new=some o->d=some dd->∀ b,b ∈ Y9 v->w.heap.size<=b\/Own s η b)(hupd:∀ k o,r.upd=some (k,o)->s k≠none):QR w w' (XS C s η) (XS C (r.sto d s) (r.eta d v η)):=by
 intro b l h;have c:¬ Own s η b:=fun f=>h (.inr f)
 refine ⟨hstep.block b l fun j=>c (hZ b j),fun g=>?_⟩;rcases g with f|f
 .exact h (.inl f)
 .rcases Q9h r d v _ hnew hupd b f with i|i
  .omega
  .exact c i
theorem Z2g{R:Nat->Prop}(r:SR)(d:Option Tmp)(v:Value)(hR:∀ o dd,r.new=some o->d=some dd->¬ R dd):∀ i,R i->r.eta d v η i=η i:=by
 intro i c;refine TZ r d v i ?_
 cases hn:r.new with
 | none=>exact .inl rfl
 | some o=>right;intro b;exact hR o i hn b c
theorem Conc.stepG(h:Conc C nt R η e s a w)(d:Option Tmp)(hd:∀ x,d=some x->x<nt)(r:SR)(v u:Value)(w' : World)(Z:Nat->Prop)(hstep:Stp Z w w')(hZ:∀ b,Z b->(∃ i,(i ∈ r.del\/∃ o,r.upd=some (i,o))/\s i≠none/\b ∈ Y9 (η i))/\(C.M b\/C.w0.heap.size<=b))(hnew:∀ o dd,r.new=some o->d=some dd->¬ R dd/\o.ro=false/\(∀ j ∈ o.refs,R j)/\ORep w' (XS C (r.sto d s) (r.eta d u η)) (r.eta d u η) C u o /\
   (∀ b,b ∈ Y9 u->w.heap.size<=b\/((∃ i ∈ r.del,s i≠none/\b ∈ Y9 (η i))/\(C.M b\/C.w0.heap.size<=b))))(hupd:∀ k o,r.upd=some (k,o)->(∃ o0,s k=some o0/\o0.ro=false)/\o.ro=false/\k ∉ r.del/\(∀ j ∈ o.refs,R j)/\ORep w' (XS C (r.sto d s) (r.eta d u η)) (r.eta d u η) C (η k) o)(hv:d≠none->ARep w' (XS C (r.sto d s) (r.eta d u η)) (r.eta d u η) C v r.v/\∀ j ∈ r.v.refs,r.rng d R j):
  Conc C nt (r.rng d R) (r.eta d u η) (r.env d e) (r.sto d s) (a.put d v) w':=by
 have Y:=FJ (s:=s) r d;have l:=TZ (η:=η) r d u
 have g:∀ o i,r.new=some o->d=some i->r.eta d u η i=u:=by
  intro o i K h2;simp [SR.eta,K,h2]
 have q:∀ i,R i->r.eta d u η i=η i:=by
  intro i f;refine l i ?_
  cases p:r.new with
  | none=>exact .inl rfl
  | some o=>right;intro c;exact (hnew o i p c).1 f
 have b7:∀ b,Own (r.sto d s) (r.eta d u η) b->w.heap.size<=b\/Own s η b:=by
  rintro b ⟨i,o,f,m⟩;rcases Y i o f with ⟨p,c⟩|⟨N,z⟩|⟨F,_,_,z⟩
  .rw [g o i p c] at m
   rcases (hnew o i p c).2.2.2.2 b m with W|⟨⟨j,_,n,Q⟩,_⟩
   .exact .inl W
   .obtain ⟨H,y⟩:=Option.ne_none_iff_exists'.1 n
    exact .inr ⟨j,H,y,Q⟩
  .rw [l i z] at m
   obtain ⟨o0,U,_⟩:=(hupd i o N).1;exact .inr ⟨i,o0,U,m⟩
  .rw [l i z] at m
   exact .inr ⟨i,o,F,m⟩
 have D:QR w w' (XS C s η) (XS C (r.sto d s) (r.eta d u η)):=by
  intro b m hX;have a4:¬ Own s η b:=fun O=>hX (.inr O)
  refine ⟨hstep.block b m fun T=>?_,fun b0=>?_⟩
  .obtain ⟨⟨i,_,f,a0⟩,_⟩:=hZ b T
   obtain ⟨L,I⟩:=Option.ne_none_iff_exists'.1 f;exact a4 ⟨i,L,I,a0⟩
  .rcases b0 with O|O
   .exact hX (.inl O)
   all_goals grind
 refine ⟨h.ok,by rw [co];exact h.df,by rw [cm];exact h.sz,?_,?_,?_,?_,?_,?_,?_,fun i u' f=>⟨(q i (h.pn i u' f).2).trans (h.pn i u' f).1,.inl (h.pn i u' f).2⟩⟩
 .intro t
  rw [qM a d v t (by rw [h.sz];exact hd)]
  by_cases ht:d=some t
  .subst ht
   simp only [if_true,SR.env];exact (hv (by simp)).1
  .rw [if_neg ht]
   have:r.env d e t=e t:=by
    unfold SR.env
    cases d with
    | none=>rfl
    | some x=>simp only [];rw [if_neg];intro O;subst O;exact ht rfl
   rw [this];exact (h.ev t).mono D fun i f=>q i (h.er t i f)
 .intro t i f
  by_cases ht:d=some t
  .subst ht
   simp only [SR.env,if_true] at f;exact (hv (by simp)).2 i f
  .have:r.env d e t=e t:=by
    unfold SR.env
    cases d with
    | none=>rfl
    | some x=>simp only [];rw [if_neg];intro O;subst O;exact ht rfl
   rw [this] at f;exact .inl (h.er t i f)
 .intro i o f
  rcases Y i o f with ⟨p,c⟩|⟨N,z⟩|⟨F,G,P,z⟩
  .rw [g o i p c];exact (hnew o i p c).2.2.2.1
  .rw [l i z];exact (hupd i o N).2.2.2.2
  .rw [l i z]
   refine (h.st i o F).mono D (fun j n=>q j ((h.sr i o F).2 j n)) fun b m=>?_
   refine hstep.block b ((h.st i o F).lt m) fun T=>?_
   obtain ⟨⟨j,n,a6,Q⟩,_⟩:=hZ b T;have a2:i=j:=h.ds i j b (by rw [F];simp) a6 m Q
   subst a2;rcases n with n|⟨S,a8⟩
   .exact G n
   .exact P S a8
 .intro i o f
  rcases Y i o f with ⟨p,c⟩|⟨N,z⟩|⟨F,G,P,z⟩
  .exact ⟨.inr ⟨by rw [p];simp,c⟩,fun j n=>.inl ((hnew o i p c).2.2.1 j n)⟩
  .obtain ⟨o0,U,_⟩:=(hupd i o N).1
   exact ⟨.inl (h.sr i o0 U).1,fun j n=>.inl ((hupd i o N).2.2.2.1 j n)⟩
  .exact ⟨.inl (h.sr i o F).1,fun j n=>.inl ((h.sr i o F).2 j n)⟩
 .
  have J:∀ i o,r.sto d s i=some o->¬ (r.new=some o/\d=some i)->s i≠none/\i ∉ r.del/\r.eta d u η i=η i:=by
   grind
  have E:∀ i o j S,r.sto d s j=some S -> (r.new=some o/\d=some i)->¬ (r.new=some S /\ d=some j)->∀ b,b ∈ Y9 u->b ∈ Y9 (η j)->False:=by
   intro i o j S n p b4 b m V;obtain ⟨K,h2,_⟩:=J j S n b4
   obtain ⟨H,y⟩:=Option.ne_none_iff_exists'.1 K;rcases (hnew o i p.1 p.2).2.2.2.2 b m with W|⟨⟨k,hk,a5,a9⟩,_⟩
   .have:=(h.st j H y).lt V;omega
   .have:j=k:=h.ds j k b K a5 V a9
    grind
  intro i j b f n B A;obtain ⟨L,I⟩:=Option.ne_none_iff_exists'.1 f
  obtain ⟨H,y⟩:=Option.ne_none_iff_exists'.1 n
  by_cases ni:r.new=some L/\d=some i
  .by_cases nj:r.new=some H/\d=some j
   .have:=ni.2.symm.trans nj.2;simpa using this
   .exfalso
    rw [g L i ni.1 ni.2] at B;rw [(J j H y nj).2.2] at A
    exact E i L j H y ni nj b B A
  .by_cases nj:r.new=some H/\d=some j
   .exfalso
    rw [g H j nj.1 nj.2] at A;rw [(J i L I ni).2.2] at B
    exact E j H i L I nj ni b A B
   .obtain ⟨a1,_,a3⟩:=J i L I ni
    obtain ⟨b1,_,b3⟩:=J j H y nj;rw [a3] at B;rw [b3] at A
    exact h.ds i j b a1 b1 B A
 .intro i o b f m
  rcases Y i o f with ⟨p,c⟩|⟨N,z⟩|⟨F,G,P,z⟩
  .rw [g o i p c] at m
   rcases (hnew o i p c).2.2.2.2 b m with W|⟨_,hm⟩
   .exact .inr (.inr (Nat.le_trans h.fr.size W))
   .exact .inr hm
  .rw [l i z] at m
   obtain ⟨o0,U,a7⟩:=(hupd i o N).1;rcases h.ow i o0 b U m with ⟨K,_⟩|K
   .rw [a7] at K;cases K
   .exact .inr K
  .rw [l i z] at m
   exact h.ow i o b F m
 .refine h.fr.trans (hstep.mono fun b _ T=>?_)
  exact (hZ b T).2
theorem Conc.step(h:Conc C nt R η e s a w)(d:Option Tmp)(hd:∀ x,d=some x->x<nt)(r:SR)(v:Value)(w' : World)(Z:Nat->Prop)(hstep:Stp Z w w')(hZ:∀ b,Z b->(∃ i,(i ∈ r.del\/∃ o,r.upd=some (i,o))/\s i≠none/\b ∈ Y9 (η i))/\(C.M b\/C.w0.heap.size<=b))(hnew:∀ o dd,r.new=some o->d=some dd->¬ R dd/\o.ro=false/\(∀ j ∈ o.refs,R j)/\ORep w' (XS C (r.sto d s) (r.eta d v η)) (r.eta d v η) C v o /\
   (∀ b,b ∈ Y9 v->w.heap.size<=b\/((∃ i ∈ r.del,s i≠none/\b ∈ Y9 (η i))/\(C.M b\/C.w0.heap.size<=b))))(hupd:∀ k o,r.upd=some (k,o)->(∃ o0,s k=some o0/\o0.ro=false)/\o.ro=false/\k ∉ r.del/\(∀ j ∈ o.refs,R j)/\ORep w' (XS C (r.sto d s) (r.eta d v η)) (r.eta d v η) C (η k) o)(hv:d≠none->ARep w' (XS C (r.sto d s) (r.eta d v η)) (r.eta d v η) C v r.v/\∀ j ∈ r.v.refs,r.rng d R j):
  Conc C nt (r.rng d R) (r.eta d v η) (r.env d e) (r.sto d s) (a.put d v) w' :=
 h.stepG d hd r v v w' Z hstep hZ hnew hupd hv
theorem Conc.val(h:Conc C nt R η e s a w)(d:Option Tmp)(hd:∀ x,d=some x->x<nt)(x:AVal)(v:Value)(hv:d≠none->ARep w (XS C s η) η C v x/\∀ j ∈ x.refs,R j):
  Conc C nt R η (SR.env { v:=x } d e) s (a.put d v) w:=by
 have f:SR.sto { v:=x } d s=s:=by funext i;simp [SR.sto]
 have l:SR.eta { v:=x } d v η=η:=by funext i;simp [SR.eta]
 have g:SR.rng { v:=x } d R=R:=by funext i;simp [SR.rng]
 have:=h.step d hd { v:=x } v w (fun _=>False) (Stp.refl _ _) (fun b m=>m.elim) (fun o dd c=>by cases c) (fun k o c=>by cases c)
  (fun n=>by rw [f,l,g];exact hv n)
 rwa [f,l,g] at this
theorem Conc.drew(h:Conc C nt R η e s a w):Conc C nt R η e s a { w with drawn:=w.drawn+1 }:=by
 have c:QR w { w with drawn:=w.drawn+1 } (XS C s η) (XS C s η):=fun b _ d=>⟨rfl,d⟩
 exact ⟨h.ok,h.df,h.sz,fun t=>(h.ev t).mono c fun _ _=>rfl,h.er,fun i o f=>(h.st i o f).mono c (fun _ _=>rfl) fun _ _=>rfl,h.sr,h.ds,h.ow,
  ⟨h.fr.os,h.fr.tape,h.fr.output,h.fr.size,h.fr.block,Nat.le_succ_of_le h.fr.dr⟩,h.pn⟩
end
end
inductive TK where
 | int (k:IntKind)
 | bool
 | str
 | slice (e:Nat)
 | struct (fs:List (Nat×Nat))
 | array (n e:Nat)
 | other
def TK.agg:TK->Bool
 | .struct _=>true
 | .array _ _=>true
 | _=>false
structure TI where
 kind:TK
 size:Nat
 bytes:Nat
 zero:List CV
abbrev Lay:=Nat->Option TI
def Q6(n:Int):Prop:= -9223372036854775808<=n/\n<=9223372036854775807
def Y5:Nat:=4294967296
def vi(n:Int):AVal:=.v (.c (.d (.int .i64 n)))
def vb(b:Bool):AVal:=.v (.c (.d (.bool b)))
def CC:Value->AVal
 | .int k n=>.v (.c (.d (.int k n)))
 | .bool b=>.v (.c (.d (.bool b)))
 | .string s=>.v (.c (.d (.str s)))
 | .slice none 0 0=>.v (.c (.fl 0 fun _=>[]))
 | _=>.any
def Y2(e:U3):Operand->AVal
 | .tmp t=>e t
 | .const v=>CC v
 | .func f=>.v (.c (.clo f []))
 | .global _=>.any
def Gv:AVal->Option (List CV)
 | .v (.c x)=>some [x]
 | .v (.g xs)=>some xs
 | _=>none
def Vi(agg:Bool)(cs:List CV):Option AVal:=
 match agg with
 | true=>some (.v (.g cs))
 | false=>match cs with
  | [x]=>some (.v (.c x))
  | _=>none
def Fj:CV->Option DVal
 | .d x=>some x
 | .fl n f=>some (.lst n f)
 | _=>none
def Vx:List CV->Option (List DVal)
 | []=>some []
 | x::xs=>match Fj x,Vx xs with
  | some a,some b=>some (a::b)
  | _,_=>none
def rd(s:U5)(n:Nat):AVal->Option (List CV×Prop)
 | .v (.c (.ptr id off))=>match s id with
  | some (.box _ cs)=>if off+n<=cs.length then some ((cs.drop off).take n,True) else none
  | _=>none
 | .v (.c (.elm cs))=>if n<=cs.length then some ((cs.take n).map .d,True) else none
 | .v (.c (.pte id es idx off))=>match s id with
  | some (.arr es' k f)=>if es=es' /\ off+n<=es/\(f idx).length=es then some ((((f idx).drop off).take n).map .d,idx<k) else none
  | _=>none
 | _=>none
def Yj{α:Type}(cs:List α)(off:Nat)(xs:List α):List α:=cs.take off++(xs++cs.drop (off+xs.length))
def wr(s:U5)(xs:List CV):AVal->Option SR
 | .v (.c (.ptr id off))=>match s id with
  | some (.box false cs)=>if off+xs.length<=cs.length then some { upd:=some (id,.box false (Yj cs off xs)) } else none
  | _=>none
 | .v (.c (.pte id es idx off))=>match s id with
  | some (.arr es' k f)=>match Vx xs with
   | some ds=>if es=es' /\ off+ds.length<=es/\(f idx).length=es then
     some { upd:=some (id,.arr es k fun j=>if j=idx then Yj (f idx) off ds else f j),cond:=idx<k } else none
   | none=>none
  | _=>none
 | _=>none
def Uq(m:Bool)(k:IntKind)(n:Int)(c:Prop):SR:=
 match k,m with
 | .i64,false=> { v:=vi n,cond:=Q6 n/\c }
 | k,_=> { v:=.v (.c (.d (.int k (k.wrap n)))),cond:=c }
def QE(k:IntKind)(x y:Int):Int:=k.wrap (BitVec.ofInt k.bits x &&& BitVec.ofInt k.bits y).toNat
def K7(k:IntKind)(x y:Int):Int:=k.wrap (BitVec.ofInt k.bits x ||| BitVec.ofInt k.bits y).toNat
def yV(k:IntKind)(x y:Int):Int:=k.wrap (BitVec.ofInt k.bits x ^^^ BitVec.ofInt k.bits y).toNat
def Gw(m:Bool)(op:BinOp)(x y:AVal):Option SR:=
 match x,y with
 | .v (.c (.d (.int k a))),.v (.c (.d (.int k' b)))=>
  match op with
  | .shl=>some (Uq m k (a*2 ^ (min b.toNat k.bits)) (0<=b))
  | .shr=>some { v:=.v (.c (.d (.int k (a.fdiv (2 ^ (min b.toNat k.bits)))))),cond:=0<=b }
  | op=>if k=k' then match op with
   | .add=>some (Uq m k (a+b) True)
   | .sub=>some (Uq m k (a-b) True)
   | .mul=>some (Uq m k (a*b) True)
   | .quo=>some (Uq m k (a.tdiv b) (b≠0))
   | .rem=>some { v:=.v (.c (.d (.int k (a.tmod b)))),cond:=b≠0 }
   | .and=>some { v:=.v (.c (.d (.int k (QE k a b)))) }
   | .or=>some { v:=.v (.c (.d (.int k (K7 k a b)))) }
   | .xor=>some { v:=.v (.c (.d (.int k (yV k a b)))) }
   | .eql=>some { v:=vb (a==b) }
   | .neq=>some { v:=vb (a != b) }
   | .lss=>some { v:=vb (a<b) }
   | .leq=>some { v:=vb (a<=b) }
   | .gtr=>some { v:=vb (b<a) }
   | .geq=>some { v:=vb (b<=a) }
   | _=>none else none
 | _,_=>none
def Cy(m:Bool)(op:UnOp)(x:AVal):Option SR:=
 match op,x with
 | .not,.v (.c (.d (.bool b)))=>some { v:=vb (!b) }
 | .neg,.v (.c (.d (.int k n)))=>some (Uq m k (0-n) True)
 | _,_=>none
def Ql(a b:Int):Int:=if b<a then b else a
def G7(a b:Int):Int:=if a<b then b else a
def ZH:AVal->Option Int
 | .v (.c (.d (.int _ n)))=>some n
 | _=>none
def Vt(s:U5):AVal->Option (Nat×(Nat->List DVal))
 | .v (.c (.d (.lst n f)))=>some (n,f)
 | .v (.c (.fl n f))=>some (n,f)
 | .v (.c (.own id))=>match s id with
  | some (.arr _ n f)=>some (n,f)
  | _=>none
 | .v (.c (.sub id es lo n))=>match s id with
  | some (.arr es' _ f)=>if es=es' then some (n,fun j=>f (lo+j)) else none
  | _=>none
 | _=>none
def QF(n:Nat)(f g:Nat->List DVal):Nat->List DVal:=fun i=>if i<n then f i else g (i-n)
def UR(s:U5)(es m:Nat):AVal->Option (List Nat×Nat×(Nat->List DVal)×Prop)
 | .v (.c (.own id))=>match s id with
  | some (.arr es' n f)=>if es=es' then some ([id],n,f,True) else none
  | _=>none
 | .v (.c (.fl n f))=>if n=0\/0<m then some ([],n,f,∀ j,j<n->(f j).length=es) else none
 | _=>none
def Ug(pl:Nat->Option (Nat×Nat))(cells:List CV):List (Nat×AVal)->Option (List CV)
 | []=>some cells
 | (i,x)::rest=>match pl i,Gv x with
  | some (off,size),some xs=>if xs.length=size/\off+size<=cells.length then Ug pl (Yj cells off xs) rest else none
  | _,_=>none
def XP(L:Lay):List (Nat×Nat)->Option (List (Nat×Nat))
 | []=>some []
 | (off,t)::r=>match L t,XP L r with
  | some ti,some l=>some ((off,ti.size)::l)
  | _,_=>none
def VF{α:Type}(n:Nat)(xs:List α):List α:=match n with|0=>[] | n+1=>xs++VF n xs
def JV(L:Lay)(s:U5)(b:Builtin)(tys:Array TypeId)(xs:List AVal):Option SR:=
 match b,xs with
 | .len,[x]=>match tys.toList with
  | [t]=>match L t with
   | some { kind:=.slice _,.. }=>match Vt s x with
    | some (n,_)=>some { v:=vi n }
    | none=>none
   | some { kind:=.array n _,.. }=>some { v:=vi n }
   | some { kind:=.str,.. }=>match x with
    | .v (.c (.d (.str b)))=>some { v:=vi b.size }
    | _=>none
   | _=>none
  | _=>none
 | .min,[.v (.c (.d (.int k a))),.v (.c (.d (.int _ b)))]=>some { v:=.v (.c (.d (.int k (Ql a b)))) }
 | .max,[.v (.c (.d (.int k a))),.v (.c (.d (.int _ b)))]=>some { v:=.v (.c (.d (.int k (G7 a b)))) }
 | .append,[x,y]=>match tys.toList with
  | [t,t']=>if t=t' then match L t with
   | some { kind:=.slice el,.. }=>match L el with
    | some te=>match Vt s y with
     | some (k,g)=>match UR s te.size k x with
      | some (del,n,f,c)=>if 0<te.size/\te.bytes<=8192/\te.zero.length=te.size then
        some { v:=.any,del:=del,new:=some (.arr te.size (n+k) (QF n f g)),cond:=n+k<=Y5/\(∀ j,j<k->(g j).length=te.size)/\c } else none
      | none=>none
     | none=>none
    | none=>none
   | _=>none else none
  | _=>none
 | _,_=>none
def sl(n:Nat)(f:Nat->List DVal)(lo hi:Option Int):(Nat×(Nat->List DVal))×Prop:=
 match lo,hi with
 | none,none=>((n,f),True)
 | some l,none=>((n-l.toNat,fun i=>f (l.toNat+i)),0<=l/\l<=n)
 | none,some h=>((h.toNat,f),0<=h/\h<=n)
 | some l,some h=>((h.toNat-l.toNat,fun i=>f (l.toNat+i)),0<=l/\l<=h/\h<=n)
def oI(e:U3):Option Operand->Option (Option Int)
 | none=>some none
 | some x=>match ZH (Y2 e x) with
  | some n=>some (some n)
  | none=>none
def Zk(L:Lay)(m:Bool)(e:U3)(s:U5)(o:Oper):Option SR:=
 match o.op with
 | .move x=>some { v:=Y2 e x }
 | .assign x=>match m,Y2 e x,o.dst with
  | false,x,_=>some { v:=x }
  | true,.v (.c (.fl 0 f)),some d=>match L o.type with
   | some { kind:=.slice el,.. }=>match L el with
    | some te=>some { v:=.v (.c (.own d)),new:=some (.arr te.size 0 f) }
    | none=>none
   | _=>none
  | _,_,_=>none
 | .pick c x y=>match Y2 e c with
  | .v (.c (.d (.bool true)))=>some { v:=Y2 e x }
  | .v (.c (.d (.bool false)))=>some { v:=Y2 e y }
  | _=>none
 | .alloc t=>match L t,o.dst with
  | some ti,some d=>some { v:=.v (.c (.ptr d 0)),new:=some (.box false ti.zero) }
  | _,_=>none
 | .box _ x=>match Gv (Y2 e x),o.dst with
  | some xs,some d=>some { v:=.v (.c (.ptr d 0)),new:=some (.box false xs) }
  | _,_=>none
 | .build t ps=>match L t with
  | some { kind:=.struct fs,zero:=z,.. }=>match XP L fs with
   | some pl=>match Ug (fun i=>pl[i]?) z (ps.toList.map fun p=>(p.1,Y2 e p.2)) with
    | some cs=>some { v:=.v (.g cs) }
    | none=>none
   | none=>none
  | some { kind:=.array _ el,zero:=z,.. }=>match L el with
   | some te=>match Ug (fun i=>some (i*te.size,te.size)) z (ps.toList.map fun p=>(p.1,Y2 e p.2)) with
    | some cs=>some { v:=.v (.g cs) }
    | none=>none
   | none=>none
  | _=>none
 | .buildSlice t len ps=>match L t with
  | some { kind:=.slice el,.. }=>match L el with
   | some te=>if len*te.size<=16777216/\te.zero.length=te.size/\0<te.size then
     match Ug (fun i=>some (i*te.size,te.size)) (VF len te.zero) (ps.toList.map fun p=>(p.1,Y2 e p.2)) with
     | some cs=>match Vx cs with
      | some ds=>match m,o.dst with
       | false,_=>some { v:=.v (.c (.d (.lst len fun i=>(ds.drop (i*te.size)).take te.size))) }
       | true,some d=>some { v:=.v (.c (.own d)),new:=some (.arr te.size len fun i=>(ds.drop (i*te.size)).take te.size) }
       | _,_=>none
      | none=>none
     | none=>none else none
   | none=>none
  | _=>none
 | .load t x=>match L t with
  | some ti=>match rd s ti.size (Y2 e x) with
   | some (cs,c)=>match Vi ti.kind.agg cs with
    | some v=>some { v:=v,cond:=c }
    | none=>none
   | none=>none
  | none=>none
 | .store t x y=>match L t,Gv (Y2 e y) with
  | some ti,some xs=>if xs.length=ti.size then wr s xs (Y2 e x) else none
  | _,_=>none
 | .nilCheck x=>match Y2 e x with
  | .v (.c (.ptr id off))=>some { v:=.v (.c (.ptr id off)) }
  | .v (.c (.pte id es idx off))=>some { v:=.v (.c (.pte id es idx off)) }
  | .v (.c (.elm cs))=>some { v:=.v (.c (.elm cs)) }
  | _=>none
 | .binOp op _ x y _=>Gw m op (Y2 e x) (Y2 e y)
 | .unOp op _ x=>Cy m op (Y2 e x)
 | .convert src dst x=>match L src,L dst,Y2 e x with
  | some { kind:=.int _,.. },some { kind:=.int k,.. },.v (.c (.d (.int _ n)))=>some (Uq m k n True)
  | some { kind:=.str,.. },some { kind:=.str,.. },.v (.c (.d (.str b)))=>some { v:=.v (.c (.d (.str b))) }
  | _,_,_=>none
 | .makeFunc (.func f) first caps=>if first.size=0 then match cloIds (caps.toList.map (Y2 e)) with
   | some ids=>some { v:=.v (.c (.clo f ids)) }
   | none=>none else none
 | .slice t x lo hi none=>match L t with
  | some { kind:=.slice el,.. }=>match L el with
   | some te=>match m,Y2 e x,oI e lo,oI e hi with
    | false,x,some lo,some hi=>match asF x with
     | some (n,f)=>some { v:=.v (.c (.d (.lst (sl n f lo hi).1.1 (sl n f lo hi).1.2))),cond:=(sl n f lo hi).2/\∀ j,j<n->(f j).length=te.size }
     | none=>none
    | true,.v (.c (.own id)),some none,some (some h)=>match s id,o.dst with
     | some (.arr es n f),some d=>some { v:=.v (.c (.own d)),del:=[id],new:=some (.arr es h.toNat f),cond:=0<=h/\h<=n }
     | _,_=>none
    | _,_,_,_=>none
   | none=>none
  | _=>none
 | .slice t x none (some h) (some mx)=>match L t with
  | some { kind:=.slice el,.. }=>match L el,asF (Y2 e x),ZH (Y2 e h),ZH (Y2 e mx) with
   | some te,some (n,f),some h,some mx=>if h=mx/\0<h then
     some { v:=.v (.c (.fl h.toNat f)),cond:=h<=n/\∀ j,j<n->(f j).length=te.size } else none
   | _,_,_,_=>none
  | _=>none
 | .fieldAddr t x k=>match L t with
  | some { kind:=.struct fs,.. }=>match fs[k]? with
   | some (off,ft)=>match L ft with
    | some tf=>if tf.size=0 then none else match Y2 e x with
     | .v (.c (.ptr id o))=>some { v:=.v (.c (.ptr id (o+off))) }
     | .v (.c (.pte id es idx o))=>some { v:=.v (.c (.pte id es idx (o+off))) }
     | .v (.c (.elm cs))=>if off<=cs.length then some { v:=.v (.c (.elm (cs.drop off))) } else none
     | _=>none
    | none=>none
   | none=>none
  | _=>none
 | .field t x k=>match L t with
  | some { kind:=.struct fs,.. }=>match fs[k]?,Y2 e x with
   | some (off,ft),.v (.g cs)=>match L ft with
    | some tf=>if off+tf.size<=cs.length then match Vi tf.kind.agg ((cs.drop off).take tf.size) with
      | some v=>some { v:=v }
      | none=>none else none
    | none=>none
   | _,_=>none
  | _=>none
 | .indexAddr t x i=>match L t,ZH (Y2 e i) with
  | some { kind:=.slice el,.. },some i=>match L el with
   | some te=>match Y2 e x with
    | .v (.c (.own id))=>match s id with
     | some (.arr es n _)=>if es=te.size then some { v:=.v (.c (.pte id es i.toNat 0)),cond:=0<=i/\i<n } else none
     | _=>none
    | x=>match asF x with
     | some (n,f)=>if (f i.toNat).length=te.size then some { v:=.v (.c (.elm (f i.toNat))),cond:=0<=i/\i<n } else none
     | none=>none
   | none=>none
  | some { kind:=.array n el,.. },some i=>match L el,Y2 e x with
   | some te,.v (.c (.ptr id off))=>if 0<=i/\i<n then some { v:=.v (.c (.ptr id (off+i.toNat*te.size))) } else none
   | _,_=>none
  | _,_=>none
 | .index t x i=>match L t,ZH (Y2 e i),Y2 e x with
  | some { kind:=.array n el,.. },some i,.v (.g cs)=>match L el with
   | some te=>if 0<=i/\i<n/\i.toNat*te.size+te.size<=cs.length then match Vi te.kind.agg ((cs.drop (i.toNat*te.size)).take te.size) with
     | some v=>some { v:=v }
     | none=>none else none
   | none=>none
  | _,_,_=>none
 | .makeSlice t l c=>match L t,ZH (Y2 e l),ZH (Y2 e c),o.dst with
  | some { kind:=.slice el,.. },some l,some c,some d=>match L el with
   | some te=>match Vx te.zero with
    | some z=>if 0<te.size/\te.bytes<=8192/\te.zero.length=te.size then some { v:=.v (.c (.own d)),new:=some (.arr te.size l.toNat fun _=>z),cond:=0<=l/\l=c/\l<=Y5 } else none
    | none=>none
   | none=>none
  | _,_,_,_=>none
 | .extract x k=>match Y2 e x with
  | .t xs=>match xs[k]? with
   | some v=>some { v:=.v v }
   | none=>none
  | _=>none
 | .call { callee:=.builtin b,args,argTypes }=>match JV L s b argTypes (args.toList.map (Y2 e)),o.dst with
  | some r,d=>match r.new,d with
   | some _,some d=>some { r with v:=.v (.c (.own d)) }
   | some _,none=>none
   | none,_=>some r
  | none,_=>none
 | _=>none
where
 cloIds:List AVal->Option (List Nat)
  | []=>some []
  | .v (.c (.ptr id 0))::r=>match cloIds r with
   | some ids=>some (id::ids)
   | none=>none
  | _::_=>none
 asF:AVal->Option (Nat×(Nat->List DVal))
  | .v (.c (.d (.lst n f)))=>some (n,f)
  | .v (.c (.fl n f))=>some (n,f)
  | _=>none
section
def ZI(d:TypeDesc):TK->Prop
 | .int k=>d=.int k
 | .bool=>d=.bool
 | .str=>d=.string
 | .slice e=>d=.slice e
 | .struct fs=>∃ fields,d=.struct fields/\fields.toList.map (fun f=>(f.offset,f.type))=fs
 | .array n e=>d=.array n e
 | .other=>(∀ fs,d≠.struct fs)/\∀ n e,d≠.array n e
structure TIOk (P:Program) (t:Nat) (ti:TI) (i:TypeInfo) (d:TypeDesc) (z:Value):Prop where
 info:P.info? t=some i
 und:P.underlying t=some d
 size:i.size=ti.size
 bytes:i.bytes=ti.bytes
 zero:i.zero=some z
 zrep:∀ w X η C,y8 w X η C z.cells ti.zero
 zrefs:ti.zero.flatMap CV.refs=[]
 kind:ZI d ti.kind
def Qa(P:Program)(L:Lay):Prop:=∀ t ti,L t=some ti->∃ i d z,TIOk P t ti i d z
section
variable {P:Program} {L:Lay}
theorem MU{t:Nat}{ti:TI}{i:TypeInfo}{d:TypeDesc}{z:Value}(h:TIOk P t ti i d z)(w:World):(isAgg t).run P w=.ok ti.kind.agg w:=by
 have b:=h.kind;simp only [isAgg,Sem.run_bind,run_underlying h.und,Result.andThen_ok]
 cases hkk:ti.kind <;> simp only [hkk,ZI] at b
 all_goals first
  | (subst b;rfl)
  | (obtain ⟨f,rfl,_⟩:=b;rfl)
  | skip
 split
 .grind
 .grind
 .rfl
theorem Yv{t:Nat}{ti:TI}{i:TypeInfo}{d:TypeDesc}{z:Value}(h:TIOk P t ti i d z)(w:World):(sizeOf t).run P w=.ok ti.size w:=by
 simp [sizeOf,typeInfo,h.info,h.size]
theorem MT{t:Nat}{ti:TI}{i:TypeInfo}{d:TypeDesc}{z:Value}(h:TIOk P t ti i d z)(w:World):(zeroValue t).run P w=.ok z w:=by
 simp [zeroValue,typeInfo,h.info,h.zero]
theorem add_lit(b o n:Nat):(⟨b,o,none⟩:Addr).add n=⟨b,o+n,none⟩:=by unfold Addr.add;split <;> simp_all
theorem DZ{w:World}{b:Nat}{c:Array Value}{e:TypeId}{fz:Nat×Nat}(h:w.heap[b]?=some (.cells c e fz))(j:Nat)(hj:j<c.size):
  w.cell? ⟨b,j,none⟩=some (c.getD j undef):=by
 rw [cell_of_row w b j c e fz h];simp [hj]
def Ze(c:Array Value)(off n:Nat):List Value:=(List.range n).map fun j=>c.getD (off+j) undef
theorem gF{t:Nat}{ti:TI}{i:TypeInfo}{d:TypeDesc}{z:Value}(h:TIOk P t ti i d z){w:World}{b off:Nat}{c:Array Value}{e:TypeId}{fz:Nat×Nat}(hb:w.heap[b]?=some (.cells c e fz))(ho:off+ti.size<=c.size)(h1:ti.kind.agg=false->ti.size=1):
  (loadVar t ⟨b,off,none⟩).run P w=.ok (if ti.kind.agg then .agg (Ze c off ti.size).toArray else c.getD off undef) w:=by
 simp only [loadVar,Sem.run_bind,MU h,Result.andThen_ok]
 cases ha:ti.kind.agg with
 | true=>
  have:=run_loadCells (P:=P) w ⟨b,off,none⟩ ti.size (fun j=>c.getD (off+j) undef) (fun j f=>by rw [add_lit];exact DZ hb _ (by omega))
  simp only [Sem.run_bind,Yv h,Result.andThen_ok,this,if_true,Sem.run_pure,Ze]
 | false=>
  have:=h1 ha
  simp only [Bool.false_eq_true,if_false];rw [run_load,DZ hb off (by omega)]
theorem Pq{o:Oper}{a:Act}{w w' : World}{v:Value}{K:Act->World->Prop}{Q:Exit->Act->World->Prop}(h:(execOp a.eval o).run P w=.ok (.value v) w')(hK:K (a.put o.dst v) w'):o.wp P a w K Q:=by
 unfold Oper.wp;rw [h];exact hK
theorem xa{o:Oper}{a:Act}{w w' : World}{K:Act->World->Prop}{Q:Exit->Act->World->Prop}(h:(execOp a.eval o).run P w=.ok .skip w')(hK:K (a.put o.dst undef) w'):o.wp P a w K Q:=by
 unfold Oper.wp;rw [h];exact hK
end
section
variable {P:Program} {L:Lay} {C:Ctx} {nt:Nat} {R:Nat->Prop} {η:Nat->Value} {e:U3} {s:U5} {a:Act} {w:World}
def z8(P:Program)(C:Ctx)(nt:Nat)(R:Nat->Prop)(η:Nat->Value)(e:U3)(s:U5)(a:Act)(w:World)(o:Oper)(r:SR):Prop:=
 ∃ v w',((execOp a.eval o).run P w=.ok (.value v) w' \/ ((execOp a.eval o).run P w=.ok .skip w' /\ v=undef)) /\
  Conc C nt (r.rng o.dst R) (r.eta o.dst v η) (r.env o.dst e) (r.sto o.dst s) (a.put o.dst v) w'
theorem z8.wp{o:Oper}{r:SR}(h:z8 P C nt R η e s a w o r){K:Act->World->Prop}{Q:Exit->Act->World->Prop}(hK:∀ η' a' w',Conc C nt (r.rng o.dst R) η' (r.env o.dst e) (r.sto o.dst s) a' w' -> K a' w'):o.wp P a w K Q:=by
 obtain ⟨v,w',b|⟨b,rfl⟩,c⟩:=h
 .exact Pq b (hK _ _ _ c)
 .exact xa b (hK _ _ _ c)
theorem Q6U(d:Option Tmp)(x:AVal)(c:Prop):SR.rng { v:=x,cond:=c } d R=R:=by funext i;simp [SR.rng]
theorem Q4c(d:Option Tmp)(x:AVal)(c:Prop):SR.sto { v:=x,cond:=c } d s=s:=by funext i;simp [SR.sto]
theorem Z2f(d:Option Tmp)(x:AVal)(c:Prop)(v:Value):SR.eta { v:=x,cond:=c } d v η=η:=by funext i;simp [SR.eta]
theorem Z2j(d:Option Tmp)(x:AVal)(c:Prop):SR.env { v:=x,cond:=c } d e=SR.env { v:=x } d e:=rfl
theorem QU(h:Conc C nt R η e s a w){o:Oper}(hd:∀ x,o.dst=some x->x<nt){x:AVal}{c:Prop}{v:Value}(hr:(execOp a.eval o).run P w=.ok (.value v) w)(hv:ARep w (XS C s η) η C v x)(hx:∀ j ∈ x.refs,R j):z8 P C nt R η e s a w o { v:=x,cond:=c }:=by
 refine ⟨v,w,.inl hr,?_⟩;rw [Q6U,Q4c,Z2f,Z2j]
 exact h.val o.dst hd x v fun _=>⟨hv,hx⟩
theorem Z3A(v:Value)(X:Nat->Prop):ARep w X η C v (CC v)/\(CC v).refs=[]:=by
 unfold CC;split
 .exact ⟨.v _ _ (.c _ _ (.d _ _ (.int _ _))),rfl⟩
 .exact ⟨.v _ _ (.c _ _ (.d _ _ (.bool _))),rfl⟩
 .exact ⟨.v _ _ (.c _ _ (.d _ _ (.str _))),rfl⟩
 .exact ⟨.v _ _ (.c _ _ (.fl _ _ _ (.nil _ _ _))),rfl⟩
 .exact ⟨.any _,rfl⟩
theorem J4(h:Conc C nt R η e s a w)(x:Operand):ARep w (XS C s η) η C (a.eval x) (Y2 e x)/\∀ j ∈ (Y2 e x).refs,R j:=by
 cases x with
 | tmp t=>exact ⟨h.ev t,h.er t⟩
 | const v=>
  obtain ⟨b,d⟩:=Z3A (w:=w) (η:=η) (C:=C) v (XS C s η);exact ⟨b,by simp only [Y2];rw [d];simp⟩
 | global g=>exact ⟨.any _,by simp [Y2,AVal.refs]⟩
 | func f=>exact ⟨.v _ _ (.c _ _ (.clo f [] #[] rfl)),by simp [Y2,AVal.refs,TV.refs,CV.refs]⟩
theorem yg{α β:Type}(f:α->List β)(l:List α)(n:Nat):∀ j ∈ (l.take n).flatMap f,j ∈ l.flatMap f:=by
 grind
theorem yh{α β:Type}(f:α->List β)(l:List α)(n:Nat):∀ j ∈ (l.drop n).flatMap f,j ∈ l.flatMap f:=by
 grind
theorem jc(ds:List DVal):(ds.map CV.d).flatMap CV.refs=[]:=by
 induction ds with
 | nil=>rfl
 | cons x r ih=>simp [CV.refs]
theorem yc{α:Type}(l:List α)(off n j:Nat)(x:α)(hj:j<n):((l.drop off).take n).getD j x=l.getD (off+j) x:=by
 grind
theorem cg(h:Conc C nt R η e s a w){n:Nat}{x:AVal}{v:Value}{cs:List CV}{c:Prop}(hr:rd s n x=some (cs,c))(hc:c)(hv:ARep w (XS C s η) η C v x):
  ∃ b off c' e' fz,v=.pointer (some ⟨b,off,none⟩)/\w.heap[b]?=some (.cells c' e' fz)/\off+n<=c'.size/\cs.length=n /\
   (∀ j,j<n->CRep w (XS C s η) η C (c'.getD (off+j) undef) (cs.getD j (.d .any)))/\∀ j ∈ cs.flatMap CV.refs,R j:=by
 unfold rd at hr;split at hr
 .rename_i q off
  split at hr
  .rename_i B A r
   split at hr
   .rename_i m
    cases hr
    have l:=h.st q _ r
    cases hv with
    | v _ _ hv=>
    cases hv with
    | c _ _ hv=>
    cases hv with
    | ptr b _ _ he=>
    rw [he] at l
    cases l with
    | box _ _ c' e' _ hb hcs=>
    have t:=hcs.1;refine ⟨b,off,c',e',(0,0),rfl,hb,by omega,by simp;omega,fun j i=>?_,fun j i=>?_⟩
    .rw [yc _ _ _ _ _ i];exact hcs.2 (off+j) (by omega)
    .exact (h.sr q _ r).2 j (yh _ _ _ j (yg _ _ _ j i))
   .cases hr
  .cases hr
 .rename_i u
  split at hr
  .rename_i m
   cases hr
   cases hv with
   | v _ _ hv=>
   cases hv with
   | c _ _ hv=>
   cases hv with
   | elm b off c' e' fz _ hX hb p hd=>
   refine ⟨b,off,c',e',fz,rfl,hb,by omega,by simp;omega,fun j i=>?_,fun j i=>?_⟩
   .have:((u.take n).map CV.d).getD j (.d .any)=.d (u.getD j .any):=by
     grind
    rw [this];exact .d _ _ (hd j (by omega))
   .rw [jc] at i;cases i
  .cases hr
 .rename_i q o g off
  split at hr
  .rename_i y k f r
   split at hr
   .rename_i m
    obtain ⟨rfl,m,p⟩:=m;cases hr
    have l:=h.st q _ r
    cases hv with
    | v _ _ hv=>
    cases hv with
    | c _ _ hv=>
    cases hv with
    | pte b n' cap _ _ _ _ he=>
    rw [he] at l
    cases l with
    | nil=>exact absurd hc (by omega)
    | arr _ _ _ _ c' e' _ hb t hn hm hc0 hl hel=>
    have z:g*o+o<=cap*o:=by
     have:(g+1)*o<=cap*o:=Nat.mul_le_mul_right _ (by omega)
     grind
    refine ⟨b,g*o+off,c',e',(0,0),rfl,hb,by omega,by simp;omega,fun j i=>?_,fun j i=>?_⟩
    .have:(((((f g).drop off).take n).map CV.d)).getD j (.d .any)=.d ((f g).getD (off+j) .any):=by
      grind
     rw [this];have:=hel g (off+j) hc (by omega)
     rw [Nat.add_assoc];exact .d _ _ this
    .rw [jc] at i;cases i
   .cases hr
  .cases hr
 .cases hr
end
end
section
section
variable {P:Program} {L:Lay} {C:Ctx} {nt:Nat} {R:Nat->Prop} {η:Nat->Value} {e:U3} {s:U5} {a:Act} {w:World}
theorem vZ{n:Int}(h:Q6 n):IntKind.i64.wrap n=n:=by
  obtain ⟨c,b⟩:=h;have e:IntKind.i64.wrap n=if n % 18446744073709551616 ≥ 9223372036854775808 then n % 18446744073709551616-18446744073709551616 else n % 18446744073709551616:=by
    simp [IntKind.wrap,IntKind.bits,IntKind.signed]
  grind
theorem WP{v:Value}{k:IntKind}{n:Int}(h:ARep w (XS C s η) η C v (.v (.c (.d (.int k n))))):v=.int k n:=by
  cases h with|v _ _ h=>cases h with|c _ _ h=>cases h with|d _ _ h=>cases h;rfl
theorem Cw{v:Value}{b:Bool}(h:ARep w (XS C s η) η C v (.v (.c (.d (.bool b))))):v=.bool b:=by
  cases h with|v _ _ h=>cases h with|c _ _ h=>cases h with|d _ _ h=>cases h;rfl
theorem Ke{v:Value}{b:ByteArray}(h:ARep w (XS C s η) η C v (.v (.c (.d (.str b))))):v=.string b:=by
  cases h with|v _ _ h=>cases h with|c _ _ h=>cases h with|d _ _ h=>cases h;rfl
theorem Wz(X:Nat->Prop)(k:IntKind)(n:Int):ARep w X η C (.int k n) (.v (.c (.d (.int k n)))):=.v _ _ (.c _ _ (.d _ _ (.int _ _)))
theorem Cv(X:Nat->Prop)(b:Bool):ARep w X η C (.bool b) (.v (.c (.d (.bool b)))):=.v _ _ (.c _ _ (.d _ _ (.bool _)))
def zb(r:SR)(v:Value):Prop:=∃ x c,r={ v:=x,cond:=c } /\ (c->∀ (w:World) (X:Nat->Prop) (η:Nat->Value) (C:Ctx),ARep w X η C v x)/\x.refs=[]
theorem CB(m:Bool)(k:IntKind)(n:Int)(c:Prop):(Uq m k n c).cond->zb (Uq m k n c) (.int k (k.wrap n))/\c:=by
  unfold Uq;split
  . intro h
    refine ⟨⟨_,_,rfl,fun _ w X η C=>?_,rfl⟩,h.2⟩;rw [vZ h.1];exact Wz _ _ _
  . intro h
    exact ⟨⟨_,_,rfl,fun _ w X η C=>Wz _ _ _,rfl⟩,h⟩
theorem Z3C(op:BinOp)(t:TypeId)(m:Bool){k k' : IntKind}{n n' : Int}{r:SR}(w:World)(hr:Gw m op (.v (.c (.d (.int k n)))) (.v (.c (.d (.int k' n'))))=some r)(hc:r.cond):
    ∃ v,(binOp op t (.int k n) (.int k' n')).run P w=.ok v w/\zb r v:=by
  simp only [Gw] at hr;split at hr
  . cases hr
    obtain ⟨f,h⟩:=CB m k _ _ hc;refine ⟨_,?_,f⟩
    have:¬ n' < 0:=by omega
    simp [binOp,Op.shift,this]
  . cases hr
    have:¬ n' < 0:=by have:(0:Int)<=n':=hc;omega
    exact ⟨.int k (n.fdiv (2 ^ min n'.toNat k.bits)),by simp [binOp,Op.shift,this],_,_,rfl,fun _ _ _ _ _=>Wz _ _ _,rfl⟩
  . rename_i i g
    split at hr
    . rename_i j
      subst j;split at hr <;> first
        | (cases hr;done)
        | (cases hr
           obtain ⟨f,h⟩:=CB m k _ _ hc;refine ⟨_,?_,f⟩
           first
             | (simp [binOp,Op.intArith];done)
             | (simp [binOp,Op.intDiv,h];done))
        | (cases hr
           have b : n' ≠ 0:=hc;exact ⟨.int k (n.tmod n'),by simp [binOp,Op.intDiv,b],_,_,rfl,fun _ _ _ _ _=>Wz _ _ _,rfl⟩)
        | (cases hr;refine ⟨.int k (QE k n n'),?_,_,_,rfl,fun _ _ _ _ _=>Wz _ _ _,rfl⟩;simp [binOp,Op.intBits,QE];done)
        | (cases hr;refine ⟨.int k (K7 k n n'),?_,_,_,rfl,fun _ _ _ _ _=>Wz _ _ _,rfl⟩;simp [binOp,Op.intBits,K7];done)
        | (cases hr;refine ⟨.int k (yV k n n'),?_,_,_,rfl,fun _ _ _ _ _=>Wz _ _ _,rfl⟩;simp [binOp,Op.intBits,yV];done)
        | (cases hr;refine ⟨.bool _,?_,_,_,rfl,fun _ _ _ _ _=>Cv _ _,rfl⟩;simp [binOp,Op.intCmp];done)
    . cases hr
theorem Q6L(op:BinOp)(t:TypeId)(x y:Operand)(k k' : IntKind)(n n' : Int)(w:World):(eqGuard op t x y (.int k n) (.int k' n')).run P w=.ok () w:=by
  unfold eqGuard;split <;> rfl
theorem Mc(h:Conc C nt R η e s a w){o:Oper}(hd:∀ x,o.dst=some x->x<nt){r:SR}{v:Value}(hn:zb r v)(hc:r.cond)(hr:(execOp a.eval o).run P w=.ok (.value v) w):z8 P C nt R η e s a w o r:=by
  obtain ⟨x,c,rfl,b,d⟩:=hn;exact QU h hd hr (b hc _ _ _ _) (by rw [d];simp)
theorem Q5y(h:Conc C nt R η e s a w){o:Oper}(hd:∀ x,o.dst=some x->x<nt){op:BinOp}{t t' : TypeId}{x y:Operand}(hop:o.op=.binOp op t x y t'){m:Bool}{r:SR}(hr:Gw m op (Y2 e x) (Y2 e y)=some r)(hc:r.cond):z8 P C nt R η e s a w o r:=by
  have b:=(J4 h x).1;have f:=(J4 h y).1
  unfold Gw at hr;split at hr
  . rename_i k n l i z j
    rw [z] at b;rw [j] at f
    have q:=WP b;have u:=WP f
    obtain ⟨v,g,p⟩:=Z3C (P:=P) op t m w (show Gw m op (.v (.c (.d (.int k n)))) (.v (.c (.d (.int l i))))=some r from hr) hc;refine Mc h hd p hc ?_
    simp only [execOp,hop,Sem.run_bind,q,u,Q6L,g,Result.andThen_ok,Sem.run_pure]
  . cases hr
theorem Q5h(h:Conc C nt R η e s a w){o:Oper}(hd:∀ x,o.dst=some x->x<nt){op:UnOp}{t:TypeId}{x:Operand}(hop:o.op=.unOp op t x){m:Bool}{r:SR}(hr:Cy m op (Y2 e x)=some r)(hc:r.cond):z8 P C nt R η e s a w o r:=by
  have c:=(J4 h x).1;unfold Cy at hr
  split at hr
  . rename_i b f
    cases hr
    rw [f] at c;have d:=Cw c
    exact Mc h hd ⟨_,_,rfl,fun _ _ _ _ _=>Cv _ _,rfl⟩ hc (by simp [execOp,hop,d,Op.unary])
  . rename_i k n f
    cases hr
    rw [f] at c;have d:=WP c
    obtain ⟨g,_⟩:=CB m k (0-n) _ hc;exact Mc h hd g hc (by simp [execOp,hop,d,Op.unary,Op.intArith])
  . cases hr
theorem kb(h:Conc C nt R η e s a w){o:Oper}(hd:∀ x,o.dst=some x->x<nt){x:Operand}(hop:o.op=.move x\/o.op=.assign x):z8 P C nt R η e s a w o { v:=Y2 e x }:=by
  obtain ⟨b,c⟩:=J4 h x;refine QU h hd ?_ b c
  rcases hop with hop|hop <;> simp [execOp,hop]
theorem xZ(h:Conc C nt R η e s a w){o:Oper}(hd:∀ x,o.dst=some x->x<nt){c x y:Operand}(hop:o.op=.pick c x y){b:Bool}(hb:Y2 e c=.v (.c (.d (.bool b)))):
    z8 P C nt R η e s a w o { v:=Y2 e (if b then x else y) }:=by
  have f:=(J4 h c).1;rw [hb] at f
  have i:=Cw f;obtain ⟨j,g⟩:=J4 h (if b then x else y)
  refine QU h hd ?_ j g
  cases b <;> simp [execOp,hop,i,asBool]
theorem Q5o(hL:Qa P L)(h:Conc C nt R η e s a w){o:Oper}(hd:∀ x,o.dst=some x->x<nt){t:TypeId}{x:Operand}(hop:o.op=.load t x){ti:TI}(ht:L t=some ti){cs:List CV}{c:Prop}(hr:rd s ti.size (Y2 e x)=some (cs,c)){v:AVal}(hv:Vi ti.kind.agg cs=some v)(hc:c):z8 P C nt R η e s a w o { v:=v,cond:=c }:=by
  obtain ⟨i,d,z,r⟩:=hL t ti ht;obtain ⟨b,f,q,F,G,B,D,E,A,p,n⟩:=cg h hr hc (J4 h x).1
  have u:ti.kind.agg=false->ti.size=1:=by
    intro k;rw [k] at hv
    simp only [Vi] at hv
    grind
  have m:=gF r D E u;refine QU h hd (v:=if ti.kind.agg then .agg (Ze q f ti.size).toArray else q.getD f undef) ?_ ?_ ?_
  . simp only [execOp,hop,Sem.run_bind,Instr.loadAt,B,Instr.sureAddr,Sem.run_pure,Result.andThen_ok,m]
  . unfold Vi at hv
    split at hv
    . rename_i k
      cases hv
      simp only [k,if_true];refine .v _ _ (.g _ _ ⟨by simp [Ze,A],fun j l=>?_⟩)
      rw [A] at l;have:(Ze q f ti.size).toArray.getD j undef=q.getD (f+j) undef:=by simp [Ze,l]
      rw [this];exact p j l
    . rename_i k
      split at hv
      . cases hv
        rename_i y
        simp only [k,Bool.false_eq_true,if_false];have:=p 0 (by rw [u k];exact Nat.zero_lt_one)
        exact .v _ _ (.c _ _ (by simpa using this))
      . cases hv
  . unfold Vi at hv
    split at hv
    . cases hv;exact n
    . split at hv
      . cases hv;intro j l;exact n j (by simpa [AVal.refs,TV.refs] using l)
      . cases hv
theorem Q5v(hL:Qa P L)(h:Conc C nt R η e s a w){o:Oper}(hd:∀ x,o.dst=some x->x<nt){t:TypeId}{x:Operand}{k:Nat}(hop:o.op=.fieldAddr t x k){ti:TI}(ht:L t=some ti){fs:List (Nat×Nat)}(hk:ti.kind=.struct fs){off ft:Nat}(hf:fs[k]?=some (off,ft)){tf:TI}(hft:L ft=some tf)(hz:tf.size≠0){v:AVal}(hv:∀ b o',a.eval x=.pointer (some ⟨b,o',none⟩)->ARep w (XS C s η) η C (.pointer (some ⟨b,o' + off,none⟩)) v)(hx:∀ j ∈ v.refs,R j)(hp:∃ b o',a.eval x=.pointer (some ⟨b,o',none⟩)):z8 P C nt R η e s a w o { v:=v }:=by
  obtain ⟨i,d,z,l⟩:=hL t ti ht;obtain ⟨u,y,A,n⟩:=hL ft tf hft
  have g:=l.kind;rw [hk] at g
  obtain ⟨c,rfl,r⟩:=g;obtain ⟨b,o',q⟩:=hp
  have p : ∃ f,c[k]?=some f/\f.offset=off/\f.type=ft:=by
    grind
  obtain ⟨f,m,rfl,rfl⟩:=p;refine QU h hd ?_ (hv b o' q) hx
  simp only [execOp,hop,Sem.run_bind,Instr.fieldAt,run_underlying l.und,Result.andThen_ok,m,q,Instr.sureAddr,Sem.run_pure,fieldPlace,Yv n,hz,if_false,add_lit]
theorem qO(X:Nat->Prop){b id off:Nat}(h:η id=.pointer (some ⟨b,0,none⟩)):ARep w X η C (.pointer (some ⟨b,off,none⟩)) (.v (.c (.ptr id off))):=.v _ _ (.c _ _ (.ptr _ _ _ h))
theorem Dc{v:Value}{id off:Nat}(h:ARep w (XS C s η) η C v (.v (.c (.ptr id off)))):∃ b,v=.pointer (some ⟨b,off,none⟩)/\η id=.pointer (some ⟨b,0,none⟩):=by
  cases h with|v _ _ h=>cases h with|c _ _ h=>cases h with|ptr b _ _ h=>exact ⟨b,rfl,h⟩
theorem qP{v:Value}{id es idx off:Nat}(h:ARep w (XS C s η) η C v (.v (.c (.pte id es idx off)))):∃ b n cap,v=.pointer (some ⟨b,idx*es+off,none⟩)/\η id=.slice (some ⟨b,0,none⟩) n cap:=by
  cases h with|v _ _ h=>cases h with|c _ _ h=>cases h with|pte b n cap _ _ _ _ h=>exact ⟨b,n,cap,rfl,h⟩
theorem Q0R{v:Value}{cs:List DVal}(h:ARep w (XS C s η) η C v (.v (.c (.elm cs)))):∃ b off c e' fz,v=.pointer (some ⟨b,off,none⟩)/\¬ XS C s η b/\w.heap[b]?=some (.cells c e' fz) /\
    off+cs.length<=c.size/\∀ j,j<cs.length->DRep w (XS C s η) (c.getD (off+j) undef) (cs.getD j .any):=by
  cases h with|v _ _ h=>cases h with|c _ _ h=>cases h with|elm b off c e' fz _ hX hb ho hc=>exact ⟨b,off,c,e',fz,rfl,hX,hb,ho,hc⟩
theorem WM{v:Value}{id:Nat}(h:ARep w (XS C s η) η C v (.v (.c (.own id)))):v=η id:=by
  cases h with|v _ _ h=>cases h with|c _ _ h=>cases h with|own _ _ h _=>exact h
theorem Z2k{b off:Nat}{c:Array Value}{e' : TypeId}{fz:Nat×Nat}{cs:List DVal}(X:Nat->Prop)(hX:¬ X b)(hb:w.heap[b]?=some (.cells c e' fz))(ho:off+cs.length<=c.size)(hc:∀ j,j<cs.length->DRep w X (c.getD (off+j) undef) (cs.getD j .any))(k:Nat)(hk:k<=cs.length):
    ARep w X η C (.pointer (some ⟨b,off+k,none⟩)) (.v (.c (.elm (cs.drop k)))):=by
  refine .v _ _ (.c _ _ (.elm b (off+k) c e' fz _ hX hb (by simp;omega) fun j g=>?_));have d : k+j<cs.length:=by simp at g;omega
  have:=hc (k+j) d
  have f:(cs.drop k).getD j .any=cs.getD (k+j) .any:=by simp [List.getD_eq_getElem?_getD]
  rw [f,Nat.add_assoc];exact this
theorem vj{v:Value}{x:AVal}(h:ARep w (XS C s η) η C v x){n:Nat}{f:Nat->List DVal}(hx:Zk.asF x=some (n,f)):
    ∃ ad cap,v=.slice ad n cap/\DRep w (XS C s η) v (.lst n f):=by
  unfold Zk.asF at hx;split at hx
  . cases hx
    cases h with|v _ _ h=>cases h with|c _ _ h=>cases h with|d _ _ h=>
    cases h with
    | nil ad cap _=>exact ⟨ad,cap,rfl,.nil _ _ _⟩
    | lst b off _ cap c e' fz _ es h1 h2 h3 h4 h5 h6=>exact ⟨_,cap,rfl,.lst b off _ cap c e' fz _ es h1 h2 h3 h4 h5 h6⟩
  . cases hx
    cases h with|v _ _ h=>cases h with|c _ _ h=>cases h with|fl ad _ _ h=>exact ⟨ad,_,rfl,h⟩
  . cases hx
end
end
section
theorem Z3D{v:Value}(h:v.oneCell'=true):v.cells=#[v]:=by
 cases v <;> first|rfl | (simp [Value.oneCell'] at h)
section
variable {P:Program} {L:Lay} {C:Ctx} {nt:Nat} {R:Nat->Prop} {η:Nat->Value} {e:U3} {s:U5} {a:Act} {w:World}
theorem yS{X:Nat->Prop}{v:Value}{x:AVal}{xs:List CV}(h:ARep w X η C v x)(hx:Gv x=some xs):y8 w X η C v.cells xs/\∀ j ∈ xs.flatMap CV.refs,j ∈ x.refs:=by
 unfold Gv at hx;split at hx
 .cases hx
  cases h with|v _ _ h=>cases h with|c _ _ h=>
  rw [Z3D h.one];exact ⟨⟨rfl,fun j b=>by
   have:j=0:=by simp at b;omega
   subst this;simpa using h⟩,fun j b=>by simpa [AVal.refs,TV.refs] using b⟩
 .cases hx
  cases h with|v _ _ h=>cases h with|g vs _ h=>
  exact ⟨h,fun j b=>b⟩
 .cases hx
theorem Kh{α:Type}(cs xs:List α)(off:Nat)(h:off+xs.length<=cs.length):(Yj cs off xs).length=cs.length:=by
 simp [Yj];omega
theorem Mb{α:Type}(cs xs:List α)(off t:Nat)(d:α)(h:off+xs.length<=cs.length):
  (Yj cs off xs).getD t d=if off<=t/\t<off+xs.length then xs.getD (t-off) d else cs.getD t d:=by
 unfold Yj;simp only [List.getD_eq_getElem?_getD,List.getElem?_append,List.length_take,List.getElem?_take,List.getElem?_drop]
 have b:min off cs.length=off:=by omega
 rw [b]
 by_cases h1:t<off
 .rw [if_pos h1,if_pos h1,if_neg (by omega)]
 .rw [if_neg h1]
  by_cases h2:t<off+xs.length
  .rw [if_pos (by omega),if_pos (by omega)]
  .rw [if_neg (by omega),if_neg (by omega)]
   congr 2;omega
theorem xN{α:Type}(cs xs:List α)(off:Nat):∀ x ∈ Yj cs off xs,x ∈ cs\/x ∈ xs:=by
 intro x b;unfold Yj at b
 grind
theorem Z1x(off:Nat)(vs:List Value):∀ (k:Nat) (cs:Array Value),off+k+vs.length<=cs.size ->
  ((vs.zipIdx k).foldl (fun cs p=>cs.setIfInBounds (off+p.2) p.1) cs).size=cs.size /\
  ∀ t,((vs.zipIdx k).foldl (fun cs p=>cs.setIfInBounds (off+p.2) p.1) cs).getD t undef=if off+k<=t/\t<off+k+vs.length then vs.getD (t-off-k) undef else cs.getD t undef:=by
 induction vs with
 | nil=>intro k cs _;refine ⟨rfl,fun t=>?_⟩;rw [if_neg (by simp)];rfl
 | cons v r ih=>
  intro k cs h;simp only [List.length_cons] at h
  obtain ⟨b,c⟩:=ih (k+1) (cs.setIfInBounds (off+k) v) (by simp;omega);refine ⟨by simpa [List.zipIdx_cons] using b,fun t=>?_⟩
  simp only [List.zipIdx_cons,List.foldl_cons,List.length_cons];rw [c t]
  by_cases h3:off+(k+1)<=t/\t<off+(k+1)+r.length
  .grind
  .rw [if_neg h3]
   by_cases h4:t=off+k
   .subst h4
    rw [if_pos (by omega)];have:off+k<cs.size:=by omega
    simp [this]
   .rw [if_neg (by omega)]
    simp [Ne.symm h4]
theorem Q0A{X:Nat->Prop}{pl:Nat->Option (Nat×Nat)}:∀ (ps:List (Nat×AVal)) (vs:List (Nat×Value)) (cells:List CV) (vc:Array Value) (cs:List CV),
  Ug pl cells ps=some cs->y8 w X η C vc cells->vs.map (·.1)=ps.map (·.1)->(∀ (j:Nat) x v,ps[j]?=some x->vs[j]?=some v->ARep w X η C v.2 x.2) ->
  ∃ vc',Instr.fill pl vc vs=some vc' /\ y8 w X η C vc' cs/\∀ j ∈ cs.flatMap CV.refs,j ∈ cells.flatMap CV.refs\/∃ x ∈ ps,j ∈ x.2.refs:=by
 intro ps
 induction ps with
 | nil=>
  intro vs cells vc cs h u k _;cases h
  have:vs=[]:=by simpa using k
  subst this;exact ⟨vc,rfl,u,fun j d=>.inl d⟩
 | cons p ps ih=>
  intro vs cells vc cs h u k J;obtain ⟨i,x⟩:=p
  cases vs with
  | nil=>simp at k
  | cons v vs=>
   obtain ⟨Q,v⟩:=v;simp only [List.map_cons,List.cons.injEq] at k
   obtain ⟨rfl,k⟩:=k;simp only [Ug] at h
   split at h
   .rename_i b f G E B
    split at h
    .rename_i o
     obtain ⟨c,o⟩:=o;have D:ARep w X η C v x:=J 0 _ _ rfl rfl
     obtain ⟨n,F⟩:=yS D B;have m:v.cells.size=f:=by rw [n.1,c]
     have A:vc.size=cells.length:=u.1;have H:=Z1x b v.cells.toList 0 vc (by simp [m];omega)
     have g:v.cells.zipIdx.foldl (fun cs (p:Value×Nat)=>cs.setIfInBounds (b+p.2) p.1) vc=(v.cells.toList.zipIdx 0).foldl (fun cs p=>cs.setIfInBounds (b+p.2) p.1) vc:=by
      rw [<-Array.foldl_toList,Array.toList_zipIdx]
     have q:y8 w X η C (v.cells.zipIdx.foldl (fun cs (p:Value×Nat)=>cs.setIfInBounds (b+p.2) p.1) vc) (Yj cells b G):=by
      rw [g];refine ⟨by rw [H.1,Kh _ _ _ (by omega)];exact A,fun t I=>?_⟩
      rw [H.2 t,Mb _ _ _ _ _ (by omega)];rw [Kh _ _ _ (by omega)] at I
      simp only [Nat.add_zero,Nat.sub_zero,Array.length_toList,m,c]
      by_cases l:b<=t/\t<b+f
      .rw [if_pos l,if_pos l]
       have:=n.2 (t-b) (by omega)
       simpa [List.getD_eq_getElem?_getD] using this
      .rw [if_neg l,if_neg l]
       exact u.2 t I
     obtain ⟨vc',N,M,l⟩:=ih vs (Yj cells b G) _ cs h q k (fun j x v K D=>J (j+1) x v (by simpa using K) (by simpa using D));refine ⟨vc',?_,M,fun j d=>?_⟩
     .simp only [Instr.fill,E]
      grind
     .rcases l j d with d|⟨y,O,d⟩
      .obtain ⟨z,r,d⟩:=List.mem_flatMap.1 d
       rcases xN _ _ _ z r with r|r
       .grind
       .exact .inr ⟨_,List.mem_cons_self,F j (List.mem_flatMap.2 ⟨z,r,d⟩)⟩
      all_goals grind
    .cases h
   .cases h
theorem Q6I(hL:Qa P L):∀ (fields:List Field) (fs:List (Nat×Nat)) (pl:List (Nat×Nat)),fields.map (fun f=>(f.offset,f.type))=fs->XP L fs=some pl ->
  fields.mapM (fun f=>(P.info? f.type).map fun i=>(f.offset,i.size))=some pl:=by
 intro fields
 induction fields with
 | nil=>intro fs pl g b;subst g;simpa [XP] using b
 | cons f r ih=>
  intro fs pl g b;subst g
  simp only [List.map_cons,XP] at b;split at b
  .rename_i k l j h
   cases b
   obtain ⟨i,d,z,c⟩:=hL _ _ j;have:=ih _ l rfl h
   simp [List.mapM_cons,c.info,this,c.size]
  .cases b
theorem Q0N(h:Conc C nt R η e s a w)(ps:Array (Nat×Operand)):
  ((ps.map fun (p:Nat×Operand)=>(p.1,a.eval p.2)).toList).map (·.1)=(ps.toList.map fun p=>(p.1,Y2 e p.2)).map (·.1) /\
  (∀ (j:Nat) x v,(ps.toList.map fun p=>(p.1,Y2 e p.2))[j]?=some x->((ps.map fun (p:Nat×Operand)=>(p.1,a.eval p.2)).toList)[j]?=some v->ARep w (XS C s η) η C v.2 x.2) /\
  ∀ x ∈ (ps.toList.map fun p=>(p.1,Y2 e p.2)),∀ j ∈ x.2.refs,R j:=by
 refine ⟨by simp,fun j x v b c=>?_,fun x b j d=>?_⟩
 .rw [List.getElem?_map] at b
  simp only [Array.toList_map,List.getElem?_map] at c
  cases hp:ps.toList[j]? with
  | none=>rw [hp] at b;cases b
  | some p=>
   rw [hp] at b c
   cases b;cases c
   exact (J4 h p.2).1
 .obtain ⟨p,_,rfl⟩:=List.mem_map.1 b
  exact (J4 h p.2).2 j d
theorem ke(hL:Qa P L)(h:Conc C nt R η e s a w){o:Oper}(hd:∀ x,o.dst=some x->x<nt){t:TypeId}{ps:Array (Nat×Operand)}(hop:o.op=.build t ps){ti:TI}(ht:L t=some ti){pl:Nat->Option (Nat×Nat)}(hpl:(∃ fs l,ti.kind=.struct fs/\XP L fs=some l/\pl=fun i=>l[i]?)\/(∃ n el te,ti.kind=.array n el/\L el=some te/\pl=fun i=>some (i*te.size,te.size))){cs:List CV}(hf:Ug pl ti.zero (ps.toList.map fun p=>(p.1,Y2 e p.2))=some cs):z8 P C nt R η e s a w o { v:=.v (.g cs) }:=by
 obtain ⟨i,d,z,b⟩:=hL t ti ht;obtain ⟨F,J,H⟩:=Q0N h ps
 obtain ⟨A,c,q,D⟩:=Q0A _ _ _ _ _ hf (b.zrep w (XS C s η) η C) F J;refine QU h hd (v:=.agg A) ?_ (.v _ _ (.g _ _ q)) fun j m=>?_
 .have I:P.built t (ps.map fun (p:Nat×Operand)=>(p.1,a.eval p.2)).toList=some A:=by
   have r:=b.kind;rcases hpl with ⟨fs,l,k,G,rfl⟩|⟨n,el,te,k,B,rfl⟩
   .rw [k] at r
    obtain ⟨u,rfl,y⟩:=r;have:=Q6I hL _ _ _ y G
    simp only [Program.built,b.info,b.und,b.zero,this];simpa using c
   .rw [k] at r
    simp only [ZI] at r;subst r
    obtain ⟨M,N,K,f⟩:=hL el te B;simp only [Program.built,b.info,b.und,b.zero,f.info,f.size]
    exact c
  simp only [execOp,hop,Sem.run_bind];rw [run_build w t _ A I];rfl
 .rcases D j m with m|⟨x,E,m⟩
  .rw [b.zrefs] at m;cases m
  .exact H x E j m
theorem ka(h:Conc C nt R η e s a w){o:Oper}{d:Nat}(hd:o.dst=some d)(hdn:d<nt)(hR:¬ R d){vs:Array Value}{cs:List CV}{ety:TypeId}(hrun:(execOp a.eval o).run P w=.ok (.value (.pointer (some ⟨w.heap.size,0,none⟩))) { w with heap:=w.heap.push (.cells vs ety) })(hcs:y8 w (XS C s η) η C vs cs)(hrf:∀ j ∈ cs.flatMap CV.refs,R j):
  z8 P C nt R η e s a w o { v:=.v (.c (.ptr d 0)),new:=some (.box false cs) }:=by
 refine ⟨_,_,.inl hrun,?_⟩;have i:∀ b,b ∈ Y9 (.pointer (some (⟨w.heap.size,0,none⟩:Addr)))->w.heap.size<=b:=by intro b g;simp [Y9] at g;omega
 have r:=UI (C:=C) (s:=s) (η:=η) { v:=.v (.c (.ptr d 0)),new:=some (.box false cs) } o.dst (.pointer (some ⟨w.heap.size,0,none⟩)) (fun _=>False) (Stp.alloc _ w (.cells vs ety)) (fun b g=>g.elim)
  (fun _ _ _ _ b g=>.inl (i b g)) (fun k o p=>by cases p)
 have m:=Z2g (η:=η) (R:=R) { v:=.v (.c (.ptr d 0)),new:=some (.box false cs) } o.dst (.pointer (some ⟨w.heap.size,0,none⟩)) (fun _ dd _ f=>by rw [hd] at f;cases f;exact hR);refine h.step o.dst (fun x q=>by rw [hd] at q;cases q;exact hdn) _ _ _ (fun _=>False) (Stp.alloc _ w _) (fun b g=>g.elim) ?_ (fun k o p=>by cases p) ?_
 .intro t dd n f
  cases n
  rw [hd] at f;cases f
  exact ⟨hR,rfl,hrf,.box _ _ vs ety cs (by simp) (hcs.mono r fun j l=>m j (hrf j l)),fun b g=>.inl (i b g)⟩
 .intro _
  refine ⟨qO _ (by simp [SR.eta,hd]),fun j l=>?_⟩;simp [AVal.refs,TV.refs,CV.refs] at l
  exact .inr ⟨by simp,by rw [hd,l]⟩
theorem Q5z(hL:Qa P L)(h:Conc C nt R η e s a w){o:Oper}{d:Nat}(hd:o.dst=some d)(hdn:d<nt)(hR:¬ R d){t:TypeId}(hop:o.op=.alloc t){ti:TI}(ht:L t=some ti):
  z8 P C nt R η e s a w o { v:=.v (.c (.ptr d 0)),new:=some (.box false ti.zero) }:=by
 obtain ⟨i,dd,z,b⟩:=hL t ti ht;refine ka h hd hdn hR (vs:=z.cells) (ety:=t) ?_ (b.zrep _ _ _ _) (by rw [b.zrefs];simp)
 simp [execOp,hop,Instr.alloc,MT b,newVar,newRow]
theorem Q5x(h:Conc C nt R η e s a w){o:Oper}{d:Nat}(hd:o.dst=some d)(hdn:d<nt)(hR:¬ R d){t:TypeId}{x:Operand}(hop:o.op=.box t x){xs:List CV}(hx:Gv (Y2 e x)=some xs):
  z8 P C nt R η e s a w o { v:=.v (.c (.ptr d 0)),new:=some (.box false xs) }:=by
 obtain ⟨b,g⟩:=J4 h x;obtain ⟨f,i⟩:=yS b hx
 refine ka h hd hdn hR (vs:=(a.eval x).cells) (ety:=t) ?_ f fun j k=>g j (i j k)
 simp [execOp,hop,Instr.box,newVar,newRow]
end
end
section
section
variable {P:Program} {L:Lay} {C:Ctx} {nt:Nat} {R:Nat->Prop} {η:Nat->Value} {e:U3} {s:U5} {a:Act} {w:World}
theorem Q3u{X:Nat->Prop}{v:Value}{x:CV}{y:DVal}(h:CRep w X η C v x)(hx:Fj x=some y):DRep w X v y:=by
 unfold Fj at hx;split at hx
 .cases hx;cases h with|d _ _ h=>exact h
 .cases hx;cases h with|fl _ _ _ h=>exact h
 .cases hx
theorem xh{X:Nat->Prop}:∀ (cs:List CV) (ds:List DVal) (c:Array Value) (off:Nat),Vx cs=some ds->(∀ j,j<cs.length->CRep w X η C (c.getD (off+j) undef) (cs.getD j (.d .any))) ->
  ds.length=cs.length/\∀ j,j<ds.length->DRep w X (c.getD (off+j) undef) (ds.getD j .any):=by
 intro cs
 induction cs with
 | nil=>intro ds c off h _;cases h;exact ⟨rfl,fun j b=>by simp at b⟩
 | cons x r ih=>
  intro ds c off h g;simp only [Vx] at h
  split at h
  .rename_i y l m f
   cases h
   obtain ⟨i,k⟩:=ih l c (off+1) f (fun j b=>by have:=g (j+1) (by simp;omega);rwa [Nat.add_assoc,Nat.add_comm 1 j]);refine ⟨by simp [i],fun j b=>?_⟩
   cases j with
   | zero=>exact Q3u (g 0 (by simp)) m
   | succ j=>have:=k j (by simpa using b);rw [Nat.add_assoc,Nat.add_comm 1 j] at this;simpa using this
  .cases h
theorem setRow_stp(w:World)(b:Nat)(cs:Array Value):Stp (fun x=>x=b) w (w.setRow b cs):=
 ⟨rfl,rfl,rfl,by simp,fun x _ c=>setRow_other w b x cs c,Nat.le_refl _⟩
theorem MG(c:Array Value)(off:Nat)(vs:List Value)(h:off+vs.length<=c.size):
  (c.toList.take off++vs++c.toList.drop (off+vs.length)).toArray.size=c.size /\
  ∀ t,(c.toList.take off++vs++c.toList.drop (off+vs.length)).toArray.getD t undef=if off<=t/\t<off+vs.length then vs.getD (t-off) undef else c.getD t undef:=by
 have b:off+vs.length<=c.toList.length:=by simpa using h
 have d:c.toList.take off++vs++c.toList.drop (off+vs.length)=Yj c.toList off vs:=by simp [Yj]
 rw [d];refine ⟨by simp [Kh _ _ _ b],fun t=>?_⟩
 have:=Mb c.toList vs off t undef b
 simpa [List.getD_eq_getElem?_getD,Array.getD_eq_getD_getElem?] using this
theorem xY(h:Conc C nt R η e s a w){o:Oper}(hd:o.dst=none){id:Nat}{ob ob' : Obj}(hs:s id=some ob)(hro:ob.ro=false)(hro' : ob'.ro=false)(hrf:∀ j ∈ ob'.refs,R j){b:Nat}{cs:Array Value}{c:Prop}(hb:b ∈ Y9 (η id))(hrun:(execOp a.eval o).run P w=.ok .skip (w.setRow b cs))(hob:∀ X',QR w (w.setRow b cs) (XS C s η) X' -> ORep (w.setRow b cs) X' η C (η id) ob'):z8 P C nt R η e s a w o { upd:=some (id,ob'),cond:=c }:=by
 have l:Own s η b:=⟨id,ob,hs,hb⟩;have n:=UI (C:=C) (s:=s) (η:=η) { upd:=some (id,ob'),cond:=c } o.dst undef (fun x=>x=b) (setRow_stp w b cs) (fun x g=>by subst g;exact l) (fun _ _ d=>by cases d)
  (fun k o d=>by cases d;rw [hs];simp)
 have f:SR.eta { upd:=some (id,ob'),cond:=c } o.dst undef η=η:=by funext i;simp [SR.eta]
 refine ⟨undef,_,.inr ⟨hrun,rfl⟩,?_⟩;refine h.step o.dst (fun x g=>by rw [hd] at g;cases g) _ _ _ (fun x=>x=b) (setRow_stp w b cs) ?_ (fun _ _ d=>by cases d) ?_ (fun d=>absurd hd d)
 .intro x g
  subst g;refine ⟨⟨id,.inr ⟨ob',rfl⟩,by rw [hs];simp,hb⟩,?_⟩
  rcases h.ow id ob _ hs hb with ⟨m,_⟩|m
  .rw [hro] at m;cases m
  .exact m
 .intro k p d
  cases d
  refine ⟨⟨ob,hs,hro⟩,hro',by simp,hrf,?_⟩;rw [f]
  rw [f] at n;exact hob _ n
theorem Q5i(hL:Qa P L)(h:Conc C nt R η e s a w){o:Oper}(hd:o.dst=none){t:TypeId}{x y:Operand}(hop:o.op=.store t x y){ti:TI}(ht:L t=some ti){xs:List CV}(hy:Gv (Y2 e y)=some xs)(hsz:xs.length=ti.size){r:SR}(hr:wr s xs (Y2 e x)=some r)(hc:r.cond):z8 P C nt R η e s a w o r:=by
 obtain ⟨i,dd,z,a4⟩:=hL t ti ht;obtain ⟨a6,a1⟩:=J4 h y
 obtain ⟨D,a2⟩:=yS a6 hy;have G:=(J4 h x).1
 have S:∀ v ∈ (a.eval y).cells.toList,v.oneCell'=true:=by
  intro v hv;obtain ⟨j,n,rfl⟩:=List.getElem_of_mem hv
  have N : j<(a.eval y).cells.size:=by simpa using n
  have:=(D.2 j (by rw [<-D.1];exact N)).one
  simpa [N] using this
 have g:(a.eval y).cells.toList.length=xs.length:=by simpa using D.1
 have O:∀ (b d:Nat) (c:Array Value) (E : TypeId),a.eval x=.pointer (some ⟨b,d,none⟩)->w.heap[b]?=some (.cells c E (0,0))->d+xs.length<=c.size ->
   (execOp a.eval o).run P w=.ok .skip (w.setRow b (c.toList.take d++(a.eval y).cells.toList++c.toList.drop (d+(a.eval y).cells.toList.length)).toArray):=by
  intro b d c E Q K ho;have:=run_storeCells_at P b d E (a.eval y).cells.toList 0 c w K (by rw [g];omega) S
  simp only [Nat.add_zero] at this;have p : (a.eval y).cells.size=ti.size:=by rw [<-Array.length_toList,g,hsz]
  simp only [execOp,hop,Sem.run_bind,Instr.storeAt,Q,Instr.sureAddr,Sem.run_pure,Result.andThen_ok,storeVar,Yv a4,p,ne_eq,not_true,if_false,Sem.run_ite,this]
 unfold wr at hr;split at hr
 .rename_i U d Z
  rw [Z] at G;obtain ⟨b,Q,I⟩:=Dc G
  split at hr
  .rename_i bs M
   split at hr
   .rename_i q
    cases hr
    have B:=h.st U _ M;rw [I] at B
    cases B with
    | box _ _ c E _ K hbs=>
    have A:=MG c d (a.eval y).cells.toList (by rw [g,hbs.1];omega);refine xY h hd M rfl rfl (fun j n=>?_) (b:=b) (by rw [I];simp [Y9]) (O b d c E Q K (by rw [hbs.1];omega)) fun X' J=>?_
    .obtain ⟨u,T,n⟩:=List.mem_flatMap.1 n
     rcases xN _ _ _ u T with T|T
     .exact (h.sr U _ M).2 j (List.mem_flatMap.2 ⟨u,T,n⟩)
     .exact a1 j (a2 j (List.mem_flatMap.2 ⟨u,T,n⟩))
    .rw [I]
     refine .box b false _ E _ (setRow_heap w b c _ E _ K) ⟨by rw [A.1,Kh _ _ _ q];exact hbs.1,fun j n=>?_⟩;rw [Kh _ _ _ q] at n
     rw [A.2 j,Mb _ _ _ _ _ q]
     by_cases h3:d<=j/\j<d+xs.length
     .rw [if_pos (by rw [g];exact h3),if_pos h3]
      have:=(D.2 (j-d) (by omega)).mono J (fun _ _=>rfl)
      simpa [List.getD_eq_getElem?_getD] using this
     .rw [if_neg (by rw [g];exact h3),if_neg h3]
      exact (hbs.2 j n).mono J (fun _ _=>rfl)
   .cases hr
  .cases hr
 .rename_i U m l d Z
  rw [Z] at G;obtain ⟨b,n0,F,Q,I⟩:=qP G
  split at hr
  .rename_i a9 k f M
   split at hr
   .rename_i ds Y
    split at hr
    .rename_i q
     obtain ⟨rfl,q,a3⟩:=q;cases hr
     have B:=h.st U _ M;rw [I] at B
     cases B with
     | nil=>exact absurd hc (by simp)
     | arr _ _ _ _ c E _ K p hn hm hc0 hl hel=>
     have b1:l*m+m<=F*m:=by
      have J:l<n0:=hc;have:(l+1)*m<=F*m:=Nat.mul_le_mul_right _ (by omega)
      grind
     obtain ⟨b2,W⟩:=xh (w:=w) (η:=η) (C:=C) (X:=XS C s η) xs ds (a.eval y).cells 0 Y (fun j n=>by rw [Nat.zero_add];exact D.2 j n);have H:l*m+d+xs.length<=c.size:=by rw [p];omega
     have A:=MG c (l*m+d) (a.eval y).cells.toList (by rw [g];exact H);refine xY h hd M rfl rfl (by simp [Obj.refs]) (b:=b) (by rw [I];simp [Y9];omega) (O b _ c E Q K H) fun X' J=>?_
     rw [I];refine .arr b n0 F m _ E _ (setRow_heap w b c _ E _ K) (by rw [A.1];exact p) hn hm hc0 (fun i V=>?_) fun i j V n=>?_
     .by_cases hii:i=l
      .subst hii;simp only [if_true];rw [Kh _ _ _ (by omega)];exact a3
      .simp only [hii,if_false];exact hl i V
     .rw [A.2]
      by_cases hii:i=l
      .subst hii
       simp only [if_true];rw [Mb _ _ _ _ _ (by omega)]
       by_cases h3:d<=j/\j<d+ds.length
       .rw [if_pos (by rw [g];omega),if_pos h3]
        have:=(W (j-d) (by omega)).mono J
        have e3:i*m+j-(i*m+d)=j-d:=by omega
        rw [e3];simpa [List.getD_eq_getElem?_getD] using this
       .rw [if_neg (by rw [g];omega),if_neg h3]
        exact (hel i j V n).mono J
      .simp only [hii,if_false]
       have a5:¬ (l*m+d<=i*m+j/\i*m+j<l*m+d+xs.length):=by
        rintro ⟨h4,h5⟩;rcases Nat.lt_or_gt_of_ne hii with h6|h6
        .have:(i+1)*m<=l*m:=Nat.mul_le_mul_right _ h6
         grind
        .have:(l+1)*m<=i*m:=Nat.mul_le_mul_right _ h6
         grind
       rw [if_neg (by rw [g];exact a5)];exact (hel i j V n).mono J
    .cases hr
   .cases hr
  .cases hr
 .cases hr
end
end
section
section
variable {P:Program} {L:Lay} {C:Ctx} {nt:Nat} {R:Nat->Prop} {η:Nat->Value} {e:U3} {s:U5} {a:Act} {w:World}
theorem VW(h:Conc C nt R η e s a w){o:Oper}{d:Nat}(hd:o.dst=some d)(hdn:d<nt)(hR:¬ R d){del:List Nat}{es n:Nat}{f:Nat->List DVal}{c:Prop}{v:Value}{w' : World}{Z:Nat->Prop}(hrun:(execOp a.eval o).run P w=.ok (.value v) w')(hstep:Stp Z w w')(hone:v.oneCell'=true)(hZ:∀ b,Z b->∃ i ∈ del,s i≠none/\b ∈ Y9 (η i))(hdel:∀ i ∈ del,∀ o',s i=some o' -> o'.ro=false)(hv:∀ b,b ∈ Y9 v->w.heap.size<=b\/∃ i ∈ del,s i≠none/\b ∈ Y9 (η i))(hob:∀ X',QR w w' (XS C s η) X' -> ORep w' X' (SR.eta { v:=.v (.c (.own d)),del:=del,new:=some (.arr es n f),cond:=c } o.dst v η) C v (.arr es n f)):
  z8 P C nt R η e s a w o { v:=.v (.c (.own d)),del:=del,new:=some (.arr es n f),cond:=c }:=by
 have q:∀ i ∈ del,s i≠none->∀ b,b ∈ Y9 (η i)->C.M b\/C.w0.heap.size<=b:=by
  intro i m r b p;obtain ⟨o',l⟩:=Option.ne_none_iff_exists'.1 r
  rcases h.ow i o' b l p with ⟨u,_⟩|u
  all_goals grind
 have B:=UI (C:=C) (s:=s) (η:=η) { v:=.v (.c (.own d)),del:=del,new:=some (.arr es n f),cond:=c } o.dst v Z hstep
  (fun b p=>by
   obtain ⟨i,_,m,g⟩:=hZ b p;obtain ⟨o',l⟩:=Option.ne_none_iff_exists'.1 m
   exact ⟨i,o',l,g⟩)
  (fun _ _ _ _ b p=>(hv b p).imp id fun ⟨i,_,m,g⟩=>by
   obtain ⟨o',l⟩:=Option.ne_none_iff_exists'.1 m;exact ⟨i,o',l,g⟩)
  (fun k o y=>by cases y)
 refine ⟨v,w',.inl hrun,h.step o.dst (fun x z=>by rw [hd] at z;cases z;exact hdn) _ _ _ Z hstep ?_ ?_ (fun k o y=>by cases y) ?_⟩
 .intro b p
  obtain ⟨i,m,r,g⟩:=hZ b p;exact ⟨⟨i,.inl m,r,g⟩,q i m r b g⟩
 .intro o' dd l t
  cases l
  rw [hd] at t;cases t
  refine ⟨hR,rfl,by simp [Obj.refs],hob _ B,fun b p=>?_⟩;rcases hv b p with u|⟨i,m,r,g⟩
  .exact .inl u
  .exact .inr ⟨⟨i,m,r,g⟩,q i m r b g⟩
 .intro _
  refine ⟨.v _ _ (.c _ _ (.own _ _ (by simp [SR.eta,hd]) hone)),fun j A=>?_⟩;simp [AVal.refs,TV.refs,CV.refs] at A
  exact .inr ⟨by simp,by rw [hd,A]⟩
theorem Q1Y(h:Conc C nt R η e s a w){v:Value}{x:AVal}(hv:ARep w (XS C s η) η C v x){n:Nat}{f:Nat->List DVal}(hx:Vt s x=some (n,f)):
  ∃ ad cap,v=.slice ad n cap/\n<=cap/\(n=0\/∃ b off c e' fz es,ad=some ⟨b,off,none⟩/\w.heap[b]?=some (.cells c e' fz)/\off+n*es<=c.size/\(∀ i,i<n->(f i).length=es) /\
   ∀ i j,i<n->j<es->DRep w (XS C s η) (c.getD (off+(i*es+j)) undef) ((f i).getD j .any)):=by
 have k:∀ {v:Value},DRep w (XS C s η) v (.lst n f)->∃ ad cap,v=.slice ad n cap/\n<=cap/\(n=0\/∃ b off c e' fz es,ad=some ⟨b,off,none⟩/\w.heap[b]?=some (.cells c e' fz)/\off+n*es<=c.size/\(∀ i,i<n->(f i).length=es) /\
   ∀ i j,i<n->j<es->DRep w (XS C s η) (c.getD (off+(i*es+j)) undef) ((f i).getD j .any)):=by
  intro v z
  cases z with
  | nil ad cap _=>exact ⟨ad,cap,rfl,Nat.zero_le _,.inl rfl⟩
  | lst b off _ cap c e' fz _ es h1 h2 h3 h4 h5 h6=>exact ⟨_,cap,rfl,h3,.inr ⟨b,off,c,e',fz,es,rfl,h2,h4,h5,h6⟩⟩
 unfold Vt at hx;split at hx
 .cases hx
  cases hv with|v _ _ hv=>cases hv with|c _ _ hv=>cases hv with|d _ _ hv=>exact k hv
 .cases hx
  cases hv with|v _ _ hv=>cases hv with|c _ _ hv=>cases hv with|fl _ _ _ hv=>exact k hv
 .split at hx
  .rename_i l _ es y A m
   cases hx
   have g:=h.st l _ m;have ev:=WM hv
   rw [ev];generalize η l=u at g
   cases g with
   | nil _ es _=>exact ⟨_,_,rfl,Nat.le_refl _,.inl rfl⟩
   | arr b _ cap es c e' _ hb hsz hn hm hc hl hel=>
    exact ⟨_,cap,rfl,hn,.inr ⟨b,0,c,e',(0,0),es,rfl,hb,by rw [Nat.zero_add,hsz];exact Nat.mul_le_mul_right _ hn,hl,fun i j p r=>by rw [Nat.zero_add];exact hel i j p r⟩⟩
  .cases hx
 .split at hx
  .rename_i l es q y _ t N A m
   split at hx
   .rename_i o
    subst o;cases hx
    have g:=h.st l _ m
    cases hv with|v _ _ hv=>cases hv with|c _ _ hv=>cases hv with
    | sub b N' cap _ _ _ _ hη h1 h2=>
     rw [hη] at g
     cases g with
     | nil=>exact absurd h2 (Nat.not_lt_zero _)
     | arr b _ cap es c e' _ hb hsz hn hm hc hl hel=>
      refine ⟨_,cap-q,rfl,by omega,.inr ⟨b,q*es,c,e',(0,0),es,rfl,hb,?_,fun i p=>hl _ (by omega),fun i j p r=>?_⟩⟩
      .rw [hsz, <-Nat.add_mul];exact Nat.mul_le_mul_right _ (by omega)
      all_goals grind
    | subN ad ad' N' _ _ hη=>exact ⟨_,_,rfl,Nat.le_refl _,.inl rfl⟩
   .cases hx
  .cases hx
 .cases hx
theorem Q5r(hL:Qa P L)(h:Conc C nt R η e s a w){o:Oper}(hd:∀ x,o.dst=some x->x<nt){t:TypeId}{x:Operand}(hop:o.op=.call { callee:=.builtin .len,args:= #[x],argTypes:= #[t] }){ti:TI}(ht:L t=some ti){el:Nat}(hk:ti.kind=.slice el){n:Nat}{f:Nat->List DVal}(hx:Vt s (Y2 e x)=some (n,f)):z8 P C nt R η e s a w o { v:=vi n }:=by
 obtain ⟨i,dd,z,c⟩:=hL t ti ht;have b:=c.kind
 rw [hk] at b;simp only [ZI] at b
 obtain ⟨g,d,ev,_⟩:=Q1Y h (J4 h x).1 hx;refine QU h hd (v:=.int .i64 n) ?_ (Wz _ _ _) (by simp [vi,AVal.refs,TV.refs,CV.refs])
 simp [execOp,hop,resolve,invoke,builtin,Builtin.len_,run_underlying c.und,b,ev,goInt]
theorem Q5q(hL:Qa P L)(h:Conc C nt R η e s a w){o:Oper}(hd:∀ x,o.dst=some x->x<nt){t:TypeId}{x:Operand}(hop:o.op=.call { callee:=.builtin .len,args:= #[x],argTypes:= #[t] }){ti:TI}(ht:L t=some ti){n el:Nat}(hk:ti.kind=.array n el):z8 P C nt R η e s a w o { v:=vi n }:=by
 obtain ⟨i,dd,z,c⟩:=hL t ti ht;have b:=c.kind
 rw [hk] at b;simp only [ZI] at b
 refine QU h hd (v:=.int .i64 n) ?_ (Wz _ _ _) (by simp [vi,AVal.refs,TV.refs,CV.refs]);simp [execOp,hop,resolve,invoke,builtin,Builtin.len_,run_underlying c.und,b,goInt]
theorem Q5p(hL:Qa P L)(h:Conc C nt R η e s a w){o:Oper}(hd:∀ x,o.dst=some x->x<nt){t:TypeId}{x:Operand}(hop:o.op=.call { callee:=.builtin .len,args:= #[x],argTypes:= #[t] }){ti:TI}(ht:L t=some ti)(hk:ti.kind=.str){b:ByteArray}(hx:Y2 e x=.v (.c (.d (.str b)))):z8 P C nt R η e s a w o { v:=vi b.size }:=by
 obtain ⟨i,dd,z,g⟩:=hL t ti ht;have f:=g.kind
 rw [hk] at f;simp only [ZI] at f
 have j:=(J4 h x).1;rw [hx] at j
 have ev:=Ke j;refine QU h hd (v:=.int .i64 b.size) ?_ (Wz _ _ _) (by simp [vi,AVal.refs,TV.refs,CV.refs])
 simp [execOp,hop,resolve,invoke,builtin,Builtin.len_,run_underlying g.und,f,ev,goInt]
theorem kc(h:Conc C nt R η e s a w){o:Oper}(hd:∀ x,o.dst=some x->x<nt){tys:Array TypeId}{x y:Operand}{bi:Builtin}(hop:o.op=.call { callee:=.builtin bi,args:= #[x,y],argTypes:=tys }){k k' : IntKind}{n n' : Int}(hx:Y2 e x=.v (.c (.d (.int k n))))(hy:Y2 e y=.v (.c (.d (.int k' n')))){u:Int}(hu:(bi=.min/\u=Ql n n')\/(bi=.max/\u=G7 n n')):
  z8 P C nt R η e s a w o { v:=.v (.c (.d (.int k u))) }:=by
 have b:=(J4 h x).1;have g:=(J4 h y).1
 rw [hx] at b;rw [hy] at g
 have i:=WP b;have f:=WP g
 refine QU h hd (v:=.int k u) ?_ (Wz _ _ _) (by simp [AVal.refs,TV.refs,CV.refs]);rcases hu with ⟨rfl,rfl⟩|⟨rfl,rfl⟩
 .simp [execOp,hop,resolve,invoke,builtin,Builtin.min_,Builtin.min2,i,f,Ql]
 .simp [execOp,hop,resolve,invoke,builtin,Builtin.max_,Builtin.max2,i,f,G7]
theorem VX(v:Int)(m:Nat)(code:BoundsCode)(h:0<=v/\v<=m)(k:IntKind):(Instr.sliceBound (.int k v) m code).run P w=.ok v.toNat w:=by
 simp [Instr.sliceBound,asIntOf,h]
theorem Sy(h:Conc C nt R η e s a w){x:Option Operand}{n:Option Int}(hx:oI e x=some n):(x=none/\n=none)\/∃ k m,x.map a.eval=some (.int k m)/\n=some m:=by
 unfold oI at hx;split at hx
 .grind
 .rename_i y
  split at hx
  .rename_i m b
   cases hx
   unfold ZH at b;split at b
   .rename_i k f d
    cases b
    have c:=(J4 h y).1;rw [d] at c
    exact .inr ⟨k,m,by simp [WP c],rfl⟩
   .cases b
  .cases hx
theorem kY(h:Conc C nt R η e s a w){lo hi:Option Operand}{l u:Option Int}(hl:oI e lo=some l)(hu:oI e hi=some u)(n cap:Nat)(hn:n<=cap)(f:Nat->List DVal)(hc:(sl n f l u).2):
  (Instr.sliceBounds true n cap (lo.map a.eval) (hi.map a.eval) none).run P w=.ok ((l.getD 0).toNat,(u.getD n).toNat,cap) w/\(l.getD 0).toNat<=(u.getD n).toNat/\(u.getD n).toNat<=n /\
   (sl n f l u).1.1=(u.getD n).toNat-(l.getD 0).toNat/\∀ i,(sl n f l u).1.2 i=f ((l.getD 0).toNat+i):=by
 rcases Sy h hl with ⟨h1,h2⟩|⟨k,m,h1,h2⟩ <;> rcases Sy h hu with ⟨h3,h4⟩|⟨k',m',h3,h4⟩ <;> subst h2 <;> subst h4 <;> simp only [sl] at hc
 .subst h1;subst h3
  simp [Instr.sliceBounds,sl]
 .subst h1
  simp [Instr.sliceBounds,sl,h3,VX m' cap _ ⟨hc.1,by omega⟩];omega
 .subst h3
  simp [Instr.sliceBounds,sl,h1,VX m n _ hc];omega
 .have b:=VX (P:=P) (w:=w) m m'.toNat .sliceB ⟨hc.1,by omega⟩ k
  simp [Instr.sliceBounds,sl,h1,h3,VX m' cap _ ⟨by omega,by omega⟩,b];omega
theorem Q1b{X:Nat->Prop}{ad:Option Addr}{n cap:Nat}{f:Nat->List DVal}{es:Nat}(h:DRep w X (.slice ad n cap) (.lst n f))(hes:∀ j,j<n->(f j).length=es)(l u:Nat)(hlu:l<=u)(hun:u<=n)(m:Nat)(hm:u-l<=m)(g:Nat->List DVal)(hg:∀ i,g i=f (l+i)):
  DRep w X (.slice (if cap=l then ad else ad.map (·.add (l*es))) (u-l) m) (.lst (u-l) g):=by
 by_cases h0:u-l=0
 .rw [h0];exact .nil _ _ _
 .cases h with
  | nil=>omega
  | lst b off _ _ c e' fz _ es' h1 h2 h3 h4 h5 h6=>
   have k:es'=es:=by rw [<-h5 l (by omega),hes l (by omega)]
   subst k;have o:¬ cap=l:=by omega
   simp only [o,if_false,Option.map_some,add_lit];have d:l*es' + (u-l)*es' <= n*es':=by rw [<-Nat.add_mul];exact Nat.mul_le_mul_right _ (by omega)
   refine .lst b (off+l*es') _ m c e' fz _ es' h1 h2 hm (by omega) (fun i p=>by rw [hg];exact h5 _ (by omega)) fun i j p q=>?_
   grind
theorem Q5k(hL:Qa P L)(h:Conc C nt R η e s a w){o:Oper}(hd:∀ x,o.dst=some x->x<nt){t:TypeId}{x:Operand}{lo hi:Option Operand}(hop:o.op=.slice t x lo hi none){ti:TI}(ht:L t=some ti){el:Nat}(hk:ti.kind=.slice el){te:TI}(hte:L el=some te){l u:Option Int}(hl:oI e lo=some l)(hu:oI e hi=some u){n:Nat}{f:Nat->List DVal}(hx:Zk.asF (Y2 e x)=some (n,f)){c:Prop}(hc:(sl n f l u).2)(hes:∀ j,j<n->(f j).length=te.size):
  z8 P C nt R η e s a w o { v:=.v (.c (.d (.lst (sl n f l u).1.1 (sl n f l u).1.2))),cond:=c }:=by
 obtain ⟨i,dd,z,p⟩:=hL t ti ht;obtain ⟨H,E,I,q⟩:=hL el te hte
 have k:=p.kind;rw [hk] at k
 simp only [ZI] at k;obtain ⟨G,m,ev,b⟩:=vj (J4 h x).1 hx
 rw [ev] at b;have F:n<=m:=by cases b with|nil=>exact Nat.zero_le _|lst _ _ _ _ _ _ _ _ _ _ _ r=>exact r
 obtain ⟨D,y,B,r,A⟩:=kY (P:=P) h hl hu n m F f hc;have g:=Q1b b hes (l.getD 0).toNat (u.getD n).toNat y B (m-(l.getD 0).toNat) (by omega) (sl n f l u).1.2 A
 rw [<-r] at g;refine QU h hd ?_ (.v _ _ (.c _ _ (.d _ _ g))) (by simp [AVal.refs,TV.refs,CV.refs])
 simp only [execOp,hop,Sem.run_bind,Instr.sliceAt,run_underlying p.und,Result.andThen_ok,k,Instr.slice,ev,Option.map_none,D,Yv q,Sem.run_pure,r]
theorem Q5j(hL:Qa P L)(h:Conc C nt R η e s a w){o:Oper}(hd:∀ x,o.dst=some x->x<nt){t:TypeId}{x hx mx:Operand}(hop:o.op=.slice t x none (some hx) (some mx)){ti:TI}(ht:L t=some ti){el:Nat}(hk:ti.kind=.slice el){te:TI}(hte:L el=some te){u:Int}(hu:ZH (Y2 e hx)=some u)(hm:ZH (Y2 e mx)=some u)(h0:0<u){n:Nat}{f:Nat->List DVal}(hxx:Zk.asF (Y2 e x)=some (n,f)){c:Prop}(hc:u<=n)(hes:∀ j,j<n->(f j).length=te.size):
  z8 P C nt R η e s a w o { v:=.v (.c (.fl u.toNat f)),cond:=c }:=by
 obtain ⟨i,dd,z,A⟩:=hL t ti ht;obtain ⟨M,J,Q,B⟩:=hL el te hte
 have p:=A.kind;rw [hk] at p
 simp only [ZI] at p;obtain ⟨D,q,ev,g⟩:=vj (J4 h x).1 hxx
 rw [ev] at g;have O:n<=q:=by cases g with|nil=>exact Nat.zero_le _|lst _ _ _ _ _ _ _ _ _ _ _ h3=>exact h3
 have b:∀ {y:Operand} {m:Int},ZH (Y2 e y)=some m->∃ k,a.eval y=.int k m:=by
  intro y m hm;unfold ZH at hm
  split at hm
  .rename_i k N E
   cases hm
   have G:=(J4 h y).1;rw [E] at G
   exact ⟨k,WP G⟩
  .cases hm
 obtain ⟨k1,E⟩:=b hu;obtain ⟨k2,H⟩:=b hm
 have d:=Q1b g hes 0 u.toNat (Nat.zero_le _) (by omega) u.toNat (by omega) f (fun i=>by rw [Nat.zero_add]);have r:¬ q=0:=by omega
 simp only [r,if_false,Nat.zero_mul,Nat.sub_zero] at d;have l:D.map (fun x:Addr=>x.add 0)=D:=by cases D <;> simp [Addr.add]
 rw [l] at d;refine QU h hd (v:=.slice D u.toNat u.toNat) ?_ (.v _ _ (.c _ _ (.fl _ _ _ d))) (by simp [AVal.refs,TV.refs,CV.refs])
 have K:=VX (P:=P) (w:=w) u q .slice3Acap ⟨by omega,by omega⟩ k2;have I:=VX (P:=P) (w:=w) u u.toNat .slice3B ⟨by omega,by omega⟩ k1
 have F:¬ u.toNat=0:=by omega
 simp only [execOp,hop,Sem.run_bind,Instr.sliceAt,run_underlying A.und,Result.andThen_ok,p,Instr.slice,ev,Instr.sliceBounds,Option.map_some,Option.map_none,if_true,E,H,K,I,Sem.run_pure,Yv B,F,if_false,Nat.zero_mul,Nat.sub_zero,l]
end
end
section
section
variable {P:Program} {L:Lay} {C:Ctx} {nt:Nat} {R:Nat->Prop} {η:Nat->Value} {e:U3} {s:U5} {a:Act} {w:World}
theorem cS{X:Nat->Prop}{ad:Option Addr}{n es:Nat}{g:Nat->List DVal}(hn:n≠0)(h:n=0\/∃ b off c e' fz es',ad=some ⟨b,off,none⟩/\w.heap[b]?=some (.cells c e' fz)/\off+n*es' <= c.size/\(∀ i,i<n->(g i).length=es') /\
   ∀ i j,i<n->j<es' -> DRep w X (c.getD (off+(i*es' + j)) undef) ((g i).getD j .any))(hes:∀ i,i<n->(g i).length=es):
  ∃ b off,ad=some ⟨b,off,none⟩/\∃ news:List Value,news.length=n*es/\(∀ j u,news[j]?=some u->w.cell? ((⟨b,off,none⟩:Addr).add j)=some u)/\(∀ u ∈ news,u.oneCell'=true) /\
   ∀ i j,i<n->j<es->DRep w X (news.getD (i*es+j) undef) ((g i).getD j .any):=by
 rcases h with h|⟨b,off,c,e',fz,es',rfl,x,y,t,p⟩
 .exact absurd h hn
 .have m:es'=es:=by rw [<-t 0 (by omega),hes 0 (by omega)]
  subst m;refine ⟨b,off,rfl,Ze c off (n*es'),by simp [Ze],fun j u d=>?_,fun u d=>?_,fun i j q f=>?_⟩
  .simp only [Ze,List.getElem?_map] at d
   by_cases f:j<n*es'
   .rw [List.getElem?_range f] at d
    cases d
    rw [add_lit];exact DZ x _ (by omega)
   .rw [List.getElem?_eq_none (by simp;omega)] at d;cases d
  .simp only [Ze] at d
   obtain ⟨k,o,rfl⟩:=List.mem_map.1 d;rw [List.mem_range] at o
   by_cases hz:es'=0
   .subst hz;simp at o
   .have r:k / es' < n:=Nat.div_lt_of_lt_mul (by rw [Nat.mul_comm];exact o)
    have v:k % es' < es':=Nat.mod_lt _ (by omega);have:=(p (k / es') (k % es') r v).one
    rwa [show k / es' * es' + k % es'=k from by rw [Nat.mul_comm];exact Nat.div_add_mod k es'] at this
  .have l:i*es' + j<n*es':=by
    have:(i+1)*es' <= n*es':=Nat.mul_le_mul_right _ q
    grind
   have:(Ze c off (n*es')).getD (i*es' + j) undef=c.getD (off+(i*es' + j)) undef:=by simp [Ze,List.getD_eq_getElem?_getD,l]
   rw [this];exact p i j q f
theorem Q1L{n b:Nat}(h:n<=Y5)(hb:b<=8192):n*b<=140737488355328:=by
 have:=Nat.mul_le_mul h hb
 simp only [Y5] at this;omega
theorem xA{c:Array Value}{k t:Nat}{xs:List Value}(h:c.toList.take k=xs)(ht:t<k):c.getD t undef=xs.getD t undef:=by
 rw [<-h];simp [List.getD_eq_getElem?_getD,ht]
theorem Q2d{X:Nat->Prop}{es n k:Nat}{f g:Nat->List DVal}{c:Array Value}{olds news:List Value}(hc:c.toList.take ((n+k)*es)=olds++news)(ho:olds.length=n*es)(h1:∀ i j,i<n->j<es->DRep w X (olds.getD (i*es+j) undef) ((f i).getD j .any))(h2:∀ i j,i<k->j<es->DRep w X (news.getD (i*es+j) undef) ((g i).getD j .any)):
  ∀ i j,i<n+k->j<es->DRep w X (c.getD (i*es+j) undef) ((QF n f g i).getD j .any):=by
 intro i j o l;have d:i*es+j<(n+k)*es:=by
  have:(i+1)*es<=(n+k)*es:=Nat.mul_le_mul_right _ o
  grind
 rw [xA hc d];unfold QF
 by_cases h3:i<n
 .have b : i*es+j<olds.length:=by
   have:(i+1)*es<=n*es:=Nat.mul_le_mul_right _ h3
   grind
  rw [if_pos h3];have:(olds++news).getD (i*es+j) undef=olds.getD (i*es+j) undef:=by simp [List.getD_eq_getElem?_getD,List.getElem?_append,b]
  rw [this];exact h1 i j h3 l
 .have m:n*es<=i*es:=Nat.mul_le_mul_right _ (by omega)
  rw [if_neg h3];have:(olds++news).getD (i*es+j) undef=news.getD ((i-n)*es+j) undef:=by
   have h:i*es+j-olds.length=(i-n)*es+j:=by rw [ho,Nat.sub_mul];omega
   grind
  rw [this];exact h2 (i-n) j (by omega) l
theorem Q2c(t ty:TypeId){el:TypeId}{i:TypeInfo}(hu:P.underlying t=some (.slice el))(hi:P.info? el=some i)(base:Option Addr)(n cap:Nat)(hn:n<=cap)(ad:Option Addr)(c:Nat):
  (Builtin.append_ #[t,t] ty #[.slice base n cap,.slice ad 0 c]).run P w=.ok (.slice base n cap) w:=by
 have b:(Builtin.firstCells i.size 0 (.slice ad 0 c)).run P w=.ok #[] w:=by cases ad <;> simp [Builtin.firstCells,loadCells,loadCellsFrom]
 cases base <;> simp [Builtin.append_,run_underlying hu,sizeOf,typeInfo,hi,Builtin.lenOf,hn,b,storeCells]
theorem Q6N(t ty e e' : TypeId)(i:TypeInfo)(ht:P.underlying t=some (.slice e))(hi:P.info? e=some i)(g sLen sCap:Nat)(cur:Array Value)(hg:w.heap[g]?=some (.cells cur e' (0,0)))(a:Addr)(m c:Nat)(news:List Value)(hl:news.length=m*i.size)(hnews:∀ j u,news[j]?=some u->w.cell? (a.add j)=some u)(h1:∀ u ∈ news,u.oneCell'=true)(hroom:sLen+m<=sCap)(hfit:sLen*i.size+news.length<=cur.size):
  (Builtin.append_ #[t,t] ty #[.slice (some ⟨g,0,none⟩) sLen sCap,.slice (some a) m c]).run P w =
   .ok (.slice (some ⟨g,0,none⟩) (sLen+m) sCap) (w.setRow g (cur.toList.take (sLen*i.size)++news++cur.toList.drop (sLen*i.size+news.length)).toArray):=by
 have d:=run_firstCells_some (P:=P) w i.size m a m c news hl hnews;have b:=run_storeCells_at P g (sLen*i.size) e' news 0 cur w hg (by simpa using hfit) h1
 simp only [Nat.add_zero] at b;simp [Builtin.append_,run_underlying ht,sizeOf,typeInfo,hi,Builtin.lenOf,hroom,d,Addr.add_lit,b]
theorem Z2v(Z:Nat->Prop)(w:World)(o:Go.Obj):Stp Z w (w.drew.alloc o):=
 ⟨rfl,rfl,rfl,by simp,fun b c _=>by rw [heap_alloc_old w.drew o b c];rfl,Nat.le_succ _⟩
theorem kd(h:Conc C nt R η e s a w){o:Oper}{d:Nat}(hd:o.dst=some d)(hdn:d<nt)(hR:¬ R d){del:List Nat}(hdel:∀ i ∈ del,∀ o',s i=some o' -> o'.ro=false){es n k gc:Nat}{f g:Nat->List DVal}{c:Prop}{olds news:List Value}{z:Array Value}{el:TypeId}(hrun:(execOp a.eval o).run P w=.ok (.value (.slice (some ⟨w.heap.size,0,none⟩) (n+k) gc)) (w.drew.alloc (.cells (olds.toArray++news.toArray++Builtin.zeroCells z (gc-(n+k))) el)))(hz:z.size=es)(ho:olds.length=n*es)(hnl:news.length=k*es)(hgc:n+k<=gc)(hgm:gc<=maxLen)(hk:0<k)(hfl:∀ i,i<n->(f i).length=es)(hgl:∀ i,i<k->(g i).length=es)(h1:∀ i j,i<n->j<es->DRep w (XS C s η) (olds.getD (i*es+j) undef) ((f i).getD j .any))(h2:∀ i j,i<k->j<es->DRep w (XS C s η) (news.getD (i*es+j) undef) ((g i).getD j .any)):
  z8 P C nt R η e s a w o { v:=.v (.c (.own d)),del:=del,new:=some (.arr es (n+k) (QF n f g)),cond:=c }:=by
 refine VW h hd hdn hR (Z:=fun _=>False) hrun (Z2v _ w _) rfl (fun b r=>r.elim) hdel (fun b r=>.inl (by simp [Y9] at r;omega)) fun X' l=>?_
 refine .arr _ _ gc es _ el _ (heap_alloc_new w.drew _) ?_ hgc hgm (by omega) (fun i p=>?_) ?_
 .simp only [Array.size_append,List.size_toArray,size_zeroCells,hz,ho,hnl, <-Nat.add_mul]
  congr 1;omega
 .unfold QF
  by_cases h3:i<n
  .rw [if_pos h3];exact hfl i h3
  .rw [if_neg h3];exact hgl _ (by omega)
 .refine Q2d (olds:=olds) (news:=news) ?_ ho (fun i j p q=>(h1 i j p q).mono l) (fun i j p q=>(h2 i j p q).mono l)
  have m:(olds++news).length=(n+k)*es:=by rw [List.length_append,ho,hnl,Nat.add_mul]
  simp only [Array.toList_append,List.append_assoc];rw [<-List.append_assoc, <-m]
  exact List.take_left
theorem PQ(hL:Qa P L)(h:Conc C nt R η e s a w){o:Oper}{d:Nat}(hd:o.dst=some d)(hdn:d<nt)(hR:¬ R d){t:TypeId}{x y:Operand}(hop:o.op=.call { callee:=.builtin .append,args:= #[x,y],argTypes:= #[t,t] }){ti:TI}(ht:L t=some ti){el:Nat}(hk:ti.kind=.slice el){te:TI}(hte:L el=some te)(hby:te.bytes<=8192)(hzl:te.zero.length=te.size){del:List Nat}(hdel:∀ i ∈ del,∀ o',s i=some o' -> o'.ro=false){n k cap:Nat}{f g:Nat->List DVal}{c:Prop}(hlim:n+k<=Y5){base:Option Addr}(ex:a.eval x=.slice base n cap)(hcap:cap<n+k)(hb0:base=none->n=0/\cap=0){olds:List Value}(holdl:olds.length=n*te.size)(holds:∀ b0,base=some b0->∀ j u,olds[j]?=some u->w.cell? (b0.add j)=some u){b2:Addr}{cy:Nat}(ey:a.eval y=.slice (some b2) k cy){news:List Value}(hnl:news.length=k*te.size)(hncell:∀ j u,news[j]?=some u->w.cell? (b2.add j)=some u)(hk0:0<k)(hfl:∀ i,i<n->(f i).length=te.size)(hgl:∀ i,i<k->(g i).length=te.size)(h1:∀ i j,i<n->j<te.size->DRep w (XS C s η) (olds.getD (i*te.size+j) undef) ((f i).getD j .any))(h2:∀ i j,i<k->j<te.size->DRep w (XS C s η) (news.getD (i*te.size+j) undef) ((g i).getD j .any)):
  z8 P C nt R η e s a w o { v:=.v (.c (.own d)),del:=del,new:=some (.arr te.size (n+k) (QF n f g)),cond:=c }:=by
 obtain ⟨i,dd,z,p⟩:=hL t ti ht;obtain ⟨D,G,A,b⟩:=hL el te hte
 have m:=p.kind;rw [hk] at m
 simp only [ZI] at m;subst m
 have r:A.cells.size=te.size:=by rw [(b.zrep w (fun _=>False) η C).1,hzl]
 have l:∀ {v:Value} {w' : World},(Builtin.append_ #[t,t] o.type #[a.eval x,a.eval y]).run P w=.ok v w' -> (execOp a.eval o).run P w=.ok (.value v) w':=by
  intro v w' F;simp [execOp,hop,resolve,invoke,builtin,F]
 cases base with
 | none=>
  obtain ⟨rfl,rfl⟩:=hb0 rfl;have:olds=[]:=List.eq_nil_of_length_eq_zero (by rw [holdl,Nat.zero_mul])
  subst this;have B:=run_append_nil (P:=P) w t o.type el D A p.und b.info b.zero b2 k cy news (by rw [b.size];exact hnl) hncell (by omega) (by simp only [Y5] at hlim;omega)
   (by have:=Q1L (n:=k) (by omega) hby;rw [b.bytes];omega)
  have E:=l (by rw [ex,ey];exact B);have q : (execOp a.eval o).run P w=.ok (.value (.slice (some ⟨w.heap.size,0,none⟩) (0+k) (grownCap w k 0 el))) (w.drew.alloc (.cells (([]:List Value).toArray++news.toArray++Builtin.zeroCells A.cells (grownCap w k 0 el-(0+k))) el)):=by
   grind
  exact kd h hd hdn hR hdel q r (by simp) hnl (by have:=grownCap_ge w k 0 el;omega) (grownCap_le_maxLen w k 0 el (by simp only [Y5] at hlim;simp only [maxLen];omega)) (by omega) hfl hgl h1 h2
 | some b0=>
  have B:=run_append_grow (P:=P) w t o.type el D A p.und b.info b.zero b0 n cap olds (by rw [b.size];exact holdl) (holds b0 rfl) b2 k cy news (by rw [b.size];exact hnl) hncell (by omega) (by simp only [Y5] at hlim;omega)
   (growslice_fits (by omega) (by rw [b.bytes];exact Q1L hlim hby))
  exact kd h hd hdn hR hdel (l (by rw [ex,ey];exact B)) r holdl hnl (grownCap_ge w (n+k) cap el) (grownCap_le_maxLen w (n+k) cap el (by simp only [Y5] at hlim;simp only [maxLen];omega)) (by omega) hfl hgl h1 h2
theorem FP(hL:Qa P L)(h:Conc C nt R η e s a w){o:Oper}{d:Nat}(hd:o.dst=some d)(hdn:d<nt)(hR:¬ R d){t:TypeId}{x y:Operand}(hop:o.op=.call { callee:=.builtin .append,args:= #[x,y],argTypes:= #[t,t] }){ti:TI}(ht:L t=some ti){el:Nat}(hk:ti.kind=.slice el){te:TI}(hte:L el=some te){k:Nat}{g:Nat->List DVal}(hy:Vt s (Y2 e y)=some (k,g)){del:List Nat}{n:Nat}{f:Nat->List DVal}{c0:Prop}(hx:UR s te.size k (Y2 e x)=some (del,n,f,c0))(hc0:c0)(hby:te.bytes<=8192)(hzl:te.zero.length=te.size){c:Prop}(hlim:n+k<=Y5)(hgl:∀ j,j<k->(g j).length=te.size):
  z8 P C nt R η e s a w o { v:=.v (.c (.own d)),del:=del,new:=some (.arr te.size (n+k) (QF n f g)),cond:=c }:=by
 obtain ⟨i,dd,z,S⟩:=hL t ti ht;obtain ⟨i2,e2,z2,B⟩:=hL el te hte
 have a6:=S.kind;rw [hk] at a6
 simp only [ZI] at a6;subst a6
 obtain ⟨ad,cy,Y,d7,T⟩:=Q1Y h (J4 h y).1 hy;have d4:z2.cells.size=te.size:=by rw [(B.zrep w (fun _=>False) η C).1,hzl]
 have J:∀ {v:Value} {w' : World},(Builtin.append_ #[t,t] o.type #[a.eval x,a.eval y]).run P w=.ok v w' -> (execOp a.eval o).run P w=.ok (.value v) w':=by
  intro v w' hh;simp [execOp,hop,resolve,invoke,builtin,hh]
 unfold UR at hx;split at hx
 .
  rename_i Q e1
  split at hx
  .rename_i b8 n' f' hs
   split at hx
   .rename_i c2
    cases hx
    subst c2;have A:=(J4 h x).1
    rw [e1] at A;have ex:=WM A
    have K:=h.st Q _ hs
    by_cases hk0:k=0
    .
     subst hk0;have V:=K
     generalize hu:η Q=u at K ex;have hn:∃ l D,u=.slice l n D/\n<=D:=by
      cases K with
      | nil=>exact ⟨_,_,rfl,Nat.le_refl _⟩
      | arr b _ D _ c' e' _ _ _ hn _ _ _ _=>exact ⟨_,_,rfl,hn⟩
     obtain ⟨l,D,b5,hn⟩:=hn;refine VW h hd hdn hR (Z:=fun _=>False) (v:=u) (w':=w) (J (by rw [ex,Y,b5];exact Q2c t o.type S.und B.info l n D hn ad cy)) (Stp.refl _ _) (by rw [b5];rfl) (fun b M=>M.elim)
      (fun i' p o' H=>by simp at p;subst p;rw [hs] at H;cases H;rfl) (fun b M=>.inr ⟨Q,by simp,by rw [hs];simp,by rw [hu];exact M⟩) fun X' F=>?_
     rw [hu] at V;have c3 : ∀ b,b ∈ Y9 u->w.heap[b]?=w.heap[b]?:=fun _ _=>rfl
     have:=V.mono (η':=SR.eta { v:=.v (.c (.own d)),del:=[Q],new:=some (.arr te.size (n+0) (QF n f g)),cond:=c } o.dst u η) F (by simp [Obj.refs]) c3
     cases this with
     | nil=>exact .nil _ _ _
     | arr b _ cap' _ c' e' _ q1 q2 q3 q4 q5 q6 q7=>
      refine .arr b n cap' _ c' e' _ q1 q2 q3 q4 q5 (fun i E=>?_) fun i j E r=>?_
      .simp only [QF,if_pos E];exact q6 i E
      .simp only [QF,if_pos E];exact q7 i j E r
    .obtain ⟨b2,a0,a9,news,G,m,N,q⟩:=cS hk0 T hgl
     subst a9;generalize hu:η Q=u at K ex
     cases K with
     | nil l _ _=>
      exact PQ hL h hd hdn hR hop ht hk hte hby hzl (fun i' p o' H=>by simp at p;subst p;rw [hs] at H;cases H;rfl) hlim ex (by omega) (fun _=>⟨rfl,rfl⟩) (olds:=[]) (by simp) (fun _ _ j u r=>by simp at r) Y G m (by omega)
       (fun i E=>by omega) hgl (fun i j E=>by omega) q
     | arr b _ D _ c' e' _ M hsz hn hm hc hl hel=>
      have U:∀ i' ∈ [Q],∀ o',s i'=some o' -> o'.ro=false:=fun i' p o' H=>by simp at p;subst p;rw [hs] at H;cases H;rfl
      have d5:n*te.size<=D*te.size:=Nat.mul_le_mul_right _ hn;have I:(c'.toList.take (n*te.size)).length=n*te.size:=by simp;omega
      have a2:∀ i j,i<n->j<te.size->DRep w (XS C s η) ((c'.toList.take (n*te.size)).getD (i*te.size+j) undef) ((f i).getD j .any):=by
       intro i j E r;have b4:i*te.size+j<n*te.size:=by
        have:(i+1)*te.size<=n*te.size:=Nat.mul_le_mul_right _ E
        grind
       rw [<-xA rfl b4];exact hel i j E r
      by_cases hroom:n+k<=D
      .have O:n*i2.size+news.length<=c'.size:=by rw [B.size,G,hsz, <-Nat.add_mul];exact Nat.mul_le_mul_right _ hroom
       have hr:=Q6N (P:=P) t o.type el e' i2 S.und B.info b n D c' M ⟨b2,a0,none⟩ k cy news (by rw [B.size];exact G) m N hroom O;rw [B.size] at hr O
       have b9:=J (by rw [ex,Y];exact hr);have W:b ∈ Y9 (η Q):=by rw [hu];simp [Y9];omega
       refine VW h hd hdn hR (Z:=fun x=>x=b) b9 (setRow_stp w b _) rfl (fun x hx=>⟨Q,by simp,by rw [hs];simp,by rw [hx];exact W⟩) U (fun x hx=>.inr ⟨Q,by simp,by rw [hs];simp,by simp [Y9] at hx;rw [hx.2];exact W⟩) fun X' F=>?_
       refine .arr b (n+k) D te.size _ e' _ (setRow_heap w b c' _ e' _ M) (by rw [(MG c' (n*te.size) news O).1];exact hsz) hroom hm hc (fun i E=>?_) ?_
       .unfold QF
        grind
       .refine Q2d (olds:=c'.toList.take (n*te.size)) (news:=news) ?_ I (fun i j E r=>(a2 i j E r).mono F) (fun i j E r=>(q i j E r).mono F)
        have c9:(c'.toList.take (n*te.size)++news).length=(n+k)*te.size:=by rw [List.length_append,I,G,Nat.add_mul]
        grind
      .have a5:∀ j u,(c'.toList.take (n*te.size))[j]?=some u->w.cell? ((⟨b,0,none⟩:Addr).add j)=some u:=by
        intro j u r;rw [List.getElem?_take] at r
        split at r
        .rw [add_lit,Nat.zero_add,cell_of_row w b j c' e' (0,0) M];simpa using r
        .cases r
       exact PQ hL h hd hdn hR hop ht hk hte hby hzl U hlim ex (by omega) (fun hh=>by cases hh) I (fun b0 a7=>by cases a7;exact a5) Y G m (by omega) hl hgl a2 q
   .cases hx
  .cases hx
 .
  rename_i n' f' e1
  split at hx
  .rename_i d6
   cases hx
   have A:=(J4 h x).1;rw [e1] at A
   generalize hex:a.eval x=u at A;have c5:∃ l,u=.slice l n n/\DRep w (XS C s η) (.slice l n n) (.lst n f):=by
    cases A with|v _ _ A=>cases A with|c _ _ A=>cases A with|fl l _ _ A=>exact ⟨l,rfl,A⟩
   obtain ⟨l,rfl,b7⟩:=c5
   by_cases hk0:k=0
   .subst hk0
    have a3:n=0:=by omega
    subst a3;exact VW h hd hdn hR (del:=[]) (Z:=fun _=>False) (v:=.slice l 0 0) (w':=w) (J (by rw [hex,Y];exact Q2c t o.type S.und B.info l 0 0 (Nat.le_refl _) ad cy)) (Stp.refl _ _) rfl (fun b M=>M.elim)
     (fun i' p=>by cases p) (fun b M=>by cases l <;> simp [Y9] at M) fun X' _=>.nil _ _ _
   .obtain ⟨b2,a0,a9,news,G,m,N,q⟩:=cS hk0 T hgl
    subst a9
    cases b7 with
    | nil _ _ _=>
     exact PQ hL h hd hdn hR hop ht hk hte hby hzl (fun i' p=>by cases p) hlim hex (by omega) (fun _=>⟨rfl,rfl⟩) (olds:=[]) (by simp) (fun _ _ j u r=>by simp at r) Y G m (by omega)
      (fun i E=>by omega) hgl (fun i j E=>by omega) q
    | lst b off _ _ c' e' fz _ b8 q1 q2 q3 q4 q5 q6=>
     by_cases a3:n=0
     .subst a3
      exact PQ hL h hd hdn hR hop ht hk hte hby hzl (fun i' p=>by cases p) hlim hex (by omega) (fun hh=>by cases hh) (olds:=[]) (by simp) (fun _ _ j u r=>by simp at r) Y G m (by omega)
       (fun i E=>by omega) hgl (fun i j E=>by omega) q
     have c1:b8=te.size:=by rw [<-q5 0 (by omega),hc0 0 (by omega)]
     subst c1;have hv:∀ j,j<n*te.size->(Ze c' off (n*te.size)).getD j undef=c'.getD (off+j) undef:=fun j r=>by simp [Ze,List.getD_eq_getElem?_getD,r]
     refine PQ hL h hd hdn hR hop ht hk hte hby hzl (fun i' p=>by cases p) hlim hex (by omega) (fun hh=>by cases hh) (olds:=Ze c' off (n*te.size)) (by simp [Ze]) (fun b0 a7 j u r=>?_) Y G m (by omega)
      q5 hgl (fun i j E r=>?_) q
     .cases a7
      simp only [Ze,List.getElem?_map] at r
      by_cases hjj:j<n*te.size
      .rw [List.getElem?_range hjj] at r
       cases r
       rw [add_lit];exact DZ q2 _ (by omega)
      all_goals grind
     .have b4:i*te.size+j<n*te.size:=by
       have:(i+1)*te.size<=n*te.size:=Nat.mul_le_mul_right _ E
       grind
      grind
  .cases hx
 .cases hx
end
end
section
section
variable {P:Program} {L:Lay} {C:Ctx} {nt:Nat} {R:Nat->Prop} {η:Nat->Value} {e:U3} {s:U5} {a:Act} {w:World}
theorem Lz{α:Type}(n:Nat)(xs:List α):(VF n xs).length=n*xs.length:=by
 induction n with
 | zero=>simp [VF]
 | succ n ih=>simp [VF,ih,Nat.add_mul];omega
theorem Q7w{α:Type}(n:Nat)(xs:List α)(d:α)(i:Nat)(h:i<n*xs.length):(VF n xs).getD i d=xs.getD (i % xs.length) d:=by
 induction n generalizing i with
 | zero=>simp at h
 | succ n ih=>
  rw [Nat.add_mul,Nat.one_mul] at h
  by_cases h1:i<xs.length
  .simp [VF,List.getD_eq_getElem?_getD,List.getElem?_append,h1,Nat.mod_eq_of_lt h1]
  .have:=ih (i-xs.length) (by omega)
   have b:(i-xs.length) % xs.length=i % xs.length:=by rw [<-Nat.mod_eq_sub_mod (by omega)]
   rw [b] at this;rw [<-this]
   simp [VF,List.getD_eq_getElem?_getD,List.getElem?_append,h1]
theorem qJ(n:Nat)(f:Nat->Value)(j:Nat)(hj:j<n):((Array.range n).map f).getD j undef=f j:=by
 have h:j<((Array.range n).map f).size:=by simpa using hj
 have:((Array.range n).map f).getD j undef=((Array.range n).map f)[j]:=by simp only [Array.getD,h,dite_true];rfl
 grind
theorem qI(f:Nat->Value):(Array.range 0).map f=#[]:=Array.eq_empty_of_size_eq_zero (by simp)
theorem Q2Y{X:Nat->Prop}{z:Array Value}{zs:List CV}(h:y8 w X η C z zs)(len:Nat):y8 w X η C ((Array.range (len*zs.length)).map (z[· % z.size]!)) (VF len zs):=by
 refine ⟨by simp [Lz],fun j c=>?_⟩;rw [Lz] at c
 rw [Q7w _ _ _ _ c];have b:0<zs.length:=by rcases Nat.eq_zero_or_pos zs.length with d|d;simp [d] at c;exact d
 have f:=Nat.mod_lt j b;have:=h.2 _ f
 have g:((Array.range (len*zs.length)).map (z[· % z.size]!)).getD j undef=z.getD (j % zs.length) undef:=by
  have:j % z.size<z.size:=by rw [h.1];exact f
  rw [qJ _ _ _ c, <-h.1];simp [this]
 grind
theorem Q6M{t:TypeId}{ti:TI}{i:TypeInfo}{el:TypeId}{z:Value}(hti:TIOk P t ti i (.slice el) z){te:TI}{i2:TypeInfo}{d2:TypeDesc}{z2:Value}(hte:TIOk P el te i2 d2 z2)(len:Nat)(hl:len*te.size<=16777216){KR:Array (Nat×Value)}{cells:Array Value}(hf:Instr.fill (fun i=>some (i*te.size,te.size)) ((Array.range (len*te.size)).map (z2.cells[· % z2.cells.size]!)) KR.toList=some cells):
  (Instr.buildSlice t len KR).run P w=.ok (.slice (some ⟨w.heap.size,0,none⟩) len len) { w with heap:=w.heap.push (.cells cells el) }:=by
 have b:¬ (16777216<len*te.size):=by omega
 by_cases h0:len*te.size=0
 .rw [h0,qI] at hf
  simp only [Instr.buildSlice,Sem.run_bind,run_underlying hti.und,Result.andThen_ok,Yv hte,gt_iff_lt,Nat.reducePow,h0,if_true,Sem.run_pure,Sem.run_ite,qI];rw [hf]
  simp [newRow]
 .simp only [Instr.buildSlice,Sem.run_bind,run_underlying hti.und,Result.andThen_ok,Yv hte,b,gt_iff_lt,Nat.reducePow,if_false,h0,Sem.run_pure,Sem.run_ite,MT hte]
  rw [hf];simp [newRow]
theorem Fi{X:Nat->Prop}{c:Array Value}{cs:List CV}{ds:List DVal}(h:y8 w X η C c cs)(hd:Vx cs=some ds):ds.length=c.size/\∀ j,j<ds.length->DRep w X (c.getD j undef) (ds.getD j .any):=by
 obtain ⟨d,f⟩:=xh cs ds c 0 hd (fun j b=>by rw [Nat.zero_add];exact h.2 j b);exact ⟨by rw [d,h.1],fun j b=>by have:=f j b;rwa [Nat.zero_add] at this⟩
theorem Q5w(hL:Qa P L)(h:Conc C nt R η e s a w){o:Oper}(hdn:∀ x,o.dst=some x->x<nt){t:TypeId}{len:Nat}{ps:Array (Nat×Operand)}(hop:o.op=.buildSlice t len ps){ti:TI}(ht:L t=some ti){el:Nat}(hk:ti.kind=.slice el){te:TI}(hte:L el=some te)(hle:len*te.size<=16777216)(hzl:te.zero.length=te.size){cs:List CV}(hf:Ug (fun i=>some (i*te.size,te.size)) (VF len te.zero) (ps.toList.map fun p=>(p.1,Y2 e p.2))=some cs){ds:List DVal}(hds:Vx cs=some ds):
  z8 P C nt R η e s a w o { v:=.v (.c (.d (.lst len fun i=>(ds.drop (i*te.size)).take te.size))) } /\
  ∀ d,o.dst=some d->¬ R d->0<te.size->z8 P C nt R η e s a w o { v:=.v (.c (.own d)),new:=some (.arr te.size len fun i=>(ds.drop (i*te.size)).take te.size) }:=by
 obtain ⟨i,dd,z,G⟩:=hL t ti ht;obtain ⟨i2,d2,z2,l⟩:=hL el te hte
 have n:=G.kind;rw [hk] at n
 simp only [ZI] at n;subst n
 obtain ⟨m1,m2,_⟩:=Q0N h ps;have Y:=l.zrep w (XS C s η) η C
 have a6:z2.cells.size=te.size:=by rw [Y.1,hzl]
 have N:=Q2Y Y len;rw [hzl] at N
 obtain ⟨D,A,m,_⟩:=Q0A _ _ _ _ _ hf N m1 m2;have F:=Q6M (w:=w) G l len hle A
 have f:(execOp a.eval o).run P w=.ok (.value (.slice (some ⟨w.heap.size,0,none⟩) len len)) { w with heap:=w.heap.push (.cells D el) }:=by
  simp only [execOp,hop,Sem.run_bind];rw [F];rfl
 obtain ⟨u,a7⟩:=Fi m hds;have k:ds.length=len*te.size:=by
  have:=m.1
  have S:cs.length=(VF len te.zero).length:=by
   have V:∀ (ps:List (Nat×AVal)) (pl:Nat->Option (Nat×Nat)) (Q cs:List CV),Ug pl Q ps=some cs->cs.length=Q.length:=by
    intro ps pl
    induction ps with
    | nil=>intro Q cs h;cases h;rfl
    | cons p r ih=>
     intro Q cs h;obtain ⟨i,x⟩:=p
     simp only [Ug] at h;split at h
     .split at h
      .rename_i a0;rw [ih _ _ h,Kh _ _ _ (by omega)]
      .cases h
     .cases h
   exact V _ _ _ _ hf
  rw [u,this,S,Lz,hzl]
 have K:∀ i,i<len->((ds.drop (i*te.size)).take te.size).length=te.size:=by
  intro i M;have:(i+1)*te.size<=len*te.size:=Nat.mul_le_mul_right _ M
  grind
 have E:∀ i j,i<len->j<te.size->DRep w (XS C s η) (D.getD (i*te.size+j) undef) (((ds.drop (i*te.size)).take te.size).getD j .any):=by
  grind
 have U:QR w { w with heap:=w.heap.push (.cells D el) } (XS C s η) (XS C s η):=fun b g hX=>⟨by show (w.heap.push _)[b]?=_;rw [Array.getElem?_push,if_neg (by omega)],hX⟩
 have T:¬ XS C s η w.heap.size:=by
  rintro (⟨hx,_⟩|hx)
  .have:=h.ok.lt _ hx;have:=h.fr.size;omega
  .have:=h.lt hx;omega
 refine ⟨?_,fun d O hR J=>?_⟩
 .refine ⟨_,_,.inl f,?_⟩
  have I:∀ v,SR.eta { v:=.v (.c (.d (.lst len fun i=>(ds.drop (i*te.size)).take te.size))) } o.dst v η=η:=fun v=>by funext i;simp [SR.eta]
  have B:SR.sto { v:=.v (.c (.d (.lst len fun i=>(ds.drop (i*te.size)).take te.size))) } o.dst s=s:=by funext i;simp [SR.sto]
  refine h.step o.dst hdn _ _ _ (fun _=>False) (Stp.alloc _ w _) (fun b g=>g.elim) (fun _ _ W=>by cases W) (fun _ _ W=>by cases W) fun _=>?_
  rw [I,B];refine ⟨.v _ _ (.c _ _ (.d _ _ ?_)),fun j H=>by simp [AVal.refs,TV.refs,CV.refs] at H⟩
  refine .lst w.heap.size 0 len len D el (0,0) _ te.size T (by simp) (Nat.le_refl _) (by rw [Nat.zero_add, <-u,k];exact Nat.le_refl _) K fun i j M H=>?_
  rw [Nat.zero_add];exact (E i j M H).mono U
 .by_cases hl0:len=0
  .subst hl0
   exact VW h O (hdn d O) hR (del:=[]) (Z:=fun _=>False) f (Stp.alloc _ w _) rfl (fun b g=>g.elim) (fun i' y=>by cases y) (fun b g=>by simp [Y9] at g) fun X' _=>.nil _ _ _
  .refine VW h O (hdn d O) hR (del:=[]) (Z:=fun _=>False) f (Stp.alloc _ w _) rfl (fun b g=>g.elim) (fun i' y=>by cases y) (fun b g=>.inl (by simp [Y9] at g;omega)) fun X' q=>?_
   refine .arr w.heap.size len len te.size D el _ (by simp) (by rw [<-u,k]) (Nat.le_refl _) ?_ (by omega) K fun i j M H=>(E i j M H).mono q
   have:len*1<=len*te.size:=Nat.mul_le_mul_left _ J
   simp only [maxLen];omega
theorem Q5n(hL:Qa P L)(h:Conc C nt R η e s a w){o:Oper}{d:Nat}(hd:o.dst=some d)(hdn:d<nt)(hR:¬ R d){t:TypeId}{l c:Operand}(hop:o.op=.makeSlice t l c){ti:TI}(ht:L t=some ti){el:Nat}(hk:ti.kind=.slice el){te:TI}(hte:L el=some te){n n' : Int}(hl:ZH (Y2 e l)=some n)(hc:ZH (Y2 e c)=some n')(h0:0<te.size)(hby:te.bytes<=8192)(hzl:te.zero.length=te.size){zd:List DVal}(hz:Vx te.zero=some zd){c0:Prop}(hn:0<=n/\n=n' /\ n<=Y5):z8 P C nt R η e s a w o { v:=.v (.c (.own d)),new:=some (.arr te.size n.toNat fun _=>zd),cond:=c0 }:=by
 obtain ⟨i,dd,z,E⟩:=hL t ti ht;obtain ⟨i2,d2,H,f⟩:=hL el te hte
 have u:=E.kind;rw [hk] at u
 simp only [ZI] at u;subst u
 obtain ⟨a1,rfl,x⟩:=hn;have p:∀ {y:Operand} {m:Int},ZH (Y2 e y)=some m->∃ k,a.eval y=.int k m:=by
  intro y m F;unfold ZH at F
  split at F
  .rename_i k m' M
   cases F
   have K:=(J4 h y).1;rw [M] at K
   exact ⟨k,WP K⟩
  .cases F
 obtain ⟨k1,M⟩:=p hl;obtain ⟨k2,W⟩:=p hc
 have hw:IntKind.i64.wrap n=n:=vZ ⟨by omega,by simp only [Y5] at x;omega⟩;have r:(te.bytes:Int)*n<=2 ^ 48:=by
  have hh:te.bytes*n.toNat<=8192*4294967296:=Nat.mul_le_mul hby (by simp only [Y5] at x;omega)
  grind
 have q:H.cells.size=te.size:=by rw [(f.zrep w (XS C s η) η C).1,hzl]
 have Q:(decide (n<0)||decide ((te.bytes:Int)*n > 2 ^ 48))=false:=by simp;omega
 have g:∃ J,(execOp a.eval o).run P w=.ok (.value (.slice (some ⟨w.heap.size,0,none⟩) n.toNat n.toNat)) { w with heap:=w.heap.push (.cells J el) } /\ J.size=n.toNat*te.size/\∀ j,j<n.toNat*te.size->J.getD j undef=H.cells.getD (j % te.size) undef:=by
  by_cases hz0:n.toNat*te.size=0
  .have V:n.toNat=0:=by rcases Nat.mul_eq_zero.1 hz0 with K|K;exact K;omega
   have S:n=0:=by omega
   subst S;refine ⟨#[],?_,by simp,fun j G=>by simp at G⟩
   simp [execOp,hop,Instr.makeSlice,M,W,asInt,asIntOf,run_underlying E.und,typeInfo,f.info,newRow,IntKind.wrap,IntKind.bits,IntKind.signed,Yv f,qI]
  .refine ⟨(Array.range (n.toNat*te.size)).map (H.cells[· % H.cells.size]!),?_,by simp,fun j G=>?_⟩
   .have A:¬ n<0:=by omega
    have N:¬ (281474976710656:Int)<(te.bytes:Int)*n:=by omega
    simp [execOp,hop,Instr.makeSlice,M,W,asInt,asIntOf,run_underlying E.und,typeInfo,f.info,f.bytes,newRow,hw,A,N,Yv f,MT f,hz0]
   .have:j % H.cells.size<H.cells.size:=by rw [q];exact Nat.mod_lt _ h0
    rw [qJ _ _ _ G, <-q];simp [this]
 obtain ⟨J,g,T,O⟩:=g;obtain ⟨I,U⟩:=Fi (f.zrep w (XS C s η) η C) hz
 by_cases hl0:n.toNat=0
 .rw [hl0] at g ⊢
  exact VW h hd hdn hR (del:=[]) (Z:=fun _=>False) g (Stp.alloc _ w _) rfl (fun b r=>r.elim) (fun Y D=>by cases D) (fun b r=>by simp [Y9] at r) fun X' _=>.nil _ _ _
 .refine VW h hd hdn hR (del:=[]) (Z:=fun _=>False) g (Stp.alloc _ w _) rfl (fun b r=>r.elim) (fun Y D=>by cases D) (fun b r=>.inl (by simp [Y9] at r;omega)) fun X' B=>?_
  refine .arr w.heap.size n.toNat n.toNat te.size J el _ (by simp) T (Nat.le_refl _) (by simp only [maxLen];simp only [Y5] at x;omega) (by omega) (fun i _=>by rw [I,q]) fun i j hi G=>?_
  have A:i*te.size+j<n.toNat*te.size:=by
   have:(i+1)*te.size<=n.toNat*te.size:=Nat.mul_le_mul_right _ hi
   grind
  rw [O _ A];have F:(i*te.size+j) % te.size=j:=by rw [Nat.add_comm,Nat.add_mul_mod_self_right,Nat.mod_eq_of_lt G]
  rw [F];exact (U j (by rw [I,q];exact G)).mono B
end
end
section
section
variable {P:Program} {L:Lay} {C:Ctx} {nt:Nat} {R:Nat->Prop} {η:Nat->Value} {e:U3} {s:U5} {a:Act} {w:World}
theorem Pc(h:Conc C nt R η e s a w){y:Operand}{m:Int}(hm:ZH (Y2 e y)=some m):∃ k,a.eval y=.int k m:=by
 unfold ZH at hm;split at hm
 .rename_i k d c
  cases hm
  have b:=(J4 h y).1;rw [c] at b
  exact ⟨k,WP b⟩
 .cases hm
theorem cz(hL:Qa P L){X:Nat->Prop}{vs:Array Value}{cs:List CV}(h:y8 w X η C vs cs){t off:Nat}{ti:TI}(ht:L t=some ti)(ho:off+ti.size<=cs.length){v:AVal}(hv:Vi ti.kind.agg ((cs.drop off).take ti.size)=some v):
  ∃ u,(part t vs off).run P w=.ok u w/\ARep w X η C u v/\∀ j ∈ v.refs,j ∈ cs.flatMap CV.refs:=by
 obtain ⟨i,d,z,k⟩:=hL t ti ht;have q:=h.1
 unfold Vi at hv;split at hv
 .rename_i n
  cases hv
  refine ⟨.agg (vs.extract off (off+ti.size)),?_,.v _ _ (.g _ _ ⟨by simp;omega,fun j l=>?_⟩),fun j l=>yh _ _ _ j (yg _ _ _ j l)⟩
  .simp only [part,Sem.run_bind,MU k,Result.andThen_ok,n,if_true,Yv k,Sem.run_pure]
  .have m : j<ti.size:=by simp at l;omega
   rw [yc _ _ _ _ _ m];have f:off+j<vs.size:=by omega
   have:(vs.extract off (off+ti.size)).getD j undef=vs.getD (off+j) undef:=by
    have r:j<min (off+ti.size) vs.size-off:=by omega
    simp [f,r]
   rw [this];exact h.2 _ (by omega)
 .rename_i n
  split at hv
  .rename_i y p
   cases hv
   have b:((cs.drop off).take ti.size).length=ti.size:=by simp;omega
   rw [p] at b;have x:ti.size=1:=by simpa using b.symm
   have f:off<vs.size:=by omega
   refine ⟨vs.getD off undef,?_,.v _ _ (.c _ _ ?_),fun j l=>?_⟩
   .simp [part,MU k,n,f]
   .have:=h.2 off (by omega)
    have o:cs.getD off (.d .any)=y:=by
     have A:=yc cs off ti.size 0 (.d .any) (by omega)
     grind
    rwa [o] at this
   .refine yh _ _ off j (yg _ _ ti.size j ?_)
    rw [p];simpa [AVal.refs,TV.refs] using l
  .cases hv
theorem Z2W(h:Conc C nt R η e s a w):∀ (xs:List Operand) (ids:List Nat),Zk.cloIds (xs.map (Y2 e))=some ids->xs.map a.eval=ids.map η/\∀ j ∈ ids,R j:=by
 intro xs
 induction xs with
 | nil=>intro ids c;cases c;exact ⟨rfl,by simp⟩
 | cons x r ih=>
  intro ids c;obtain ⟨l,m⟩:=J4 h x
  rw [List.map_cons] at c;unfold Zk.cloIds at c
  split at c
  .grind
  .rename_i q t i
   injection i with i e2
   subst e2;split at c
   .rename_i n d
    cases c
    obtain ⟨p,o⟩:=ih _ d;rw [i] at l m
    obtain ⟨b,k,f⟩:=Dc l;refine ⟨by rw [List.map_cons,List.map_cons,p,k,f],fun j g=>?_⟩
    rcases List.mem_cons.1 g with rfl|g
    .exact m _ (by simp [AVal.refs,TV.refs,CV.refs])
    .exact o j g
   .cases c
  .cases c
theorem Z1C(h:Conc C nt R η e s a w){x:Operand}{off:Nat}{v:AVal}(hv:(match Y2 e x with
     | .v (.c (.ptr id o))=>some ({ v:=.v (.c (.ptr id (o+off))) }:SR)
     | .v (.c (.pte id es idx o))=>some { v:=.v (.c (.pte id es idx (o+off))) }
     | .v (.c (.elm cs))=>if off<=cs.length then some { v:=.v (.c (.elm (cs.drop off))) } else none
     | _=>none)=some { v:=v }):
  (∀ b o',a.eval x=.pointer (some ⟨b,o',none⟩)->ARep w (XS C s η) η C (.pointer (some ⟨b,o' + off,none⟩)) v)/\(∀ j ∈ v.refs,R j)/\∃ b o',a.eval x=.pointer (some ⟨b,o',none⟩):=by
 obtain ⟨i,l⟩:=J4 h x;split at hv
 .rename_i id o k
  cases hv
  rw [k] at i l;obtain ⟨b,d,g⟩:=Dc i
  exact ⟨fun r o' f=>by rw [d] at f;cases f;exact qO _ g,fun j m=>l j (by simpa [AVal.refs,TV.refs,CV.refs] using m),b,o,d⟩
 .rename_i id es idx o k
  cases hv
  rw [k] at i l;obtain ⟨b,n,p,d,g⟩:=qP i
  exact ⟨fun r o' f=>by rw [d] at f;cases f;rw [Nat.add_assoc];exact .v _ _ (.c _ _ (.pte b n p _ _ _ _ g)),fun j m=>l j (by simpa [AVal.refs,TV.refs,CV.refs] using m),b,_,d⟩
 .rename_i cs k
  split at hv
  .rename_i q
   cases hv
   rw [k] at i;obtain ⟨b,o,c,A,B,d,u,z,y,t⟩:=Q0R i
   exact ⟨fun r o' f=>by rw [d] at f;cases f;exact Z2k _ u z y t off q,by simp [AVal.refs,TV.refs,CV.refs],b,o,d⟩
  .cases hv
 .cases hv
theorem Q5t(hL:Qa P L)(h:Conc C nt R η e s a w){o:Oper}(hd:∀ x,o.dst=some x->x<nt){t:TypeId}{x i:Operand}(hop:o.op=.indexAddr t x i){ti:TI}(ht:L t=some ti){el:Nat}(hk:ti.kind=.slice el){te:TI}(hte:L el=some te){m:Int}(hi:ZH (Y2 e i)=some m){n:Nat}{f:Nat->List DVal}(hx:Zk.asF (Y2 e x)=some (n,f))(hf:(f m.toNat).length=te.size){c:Prop}(hc:0<=m/\m<n):
  z8 P C nt R η e s a w o { v:=.v (.c (.elm (f m.toNat))),cond:=c }:=by
 obtain ⟨B,d1,G,p⟩:=hL t ti ht;obtain ⟨E,F,D,l⟩:=hL el te hte
 have g:=p.kind;rw [hk] at g
 simp only [ZI] at g;subst g
 obtain ⟨k,y⟩:=Pc h hi;obtain ⟨z,u,ev,d⟩:=vj (J4 h x).1 hx
 rw [ev] at d
 cases d with
 | nil=>omega
 | lst b off _ _ c' e' fz _ es h1 h2 h3 h4 h5 h6=>
  have r:es=te.size:=by rw [<-h5 m.toNat (by omega),hf]
  subst r;have q:m.toNat*te.size+te.size<=n*te.size:=by
   have:(m.toNat+1)*te.size<=n*te.size:=Nat.mul_le_mul_right _ (by omega)
   grind
  refine QU h hd (v:=.pointer (some ⟨b,off+m.toNat*te.size,none⟩)) ?_ (.v _ _ (.c _ _ (.elm b _ c' e' fz _ h1 h2 (by rw [hf];omega) fun j A=>?_))) (by simp [AVal.refs,TV.refs,CV.refs])
  .simp [execOp,hop,Instr.indexAt,y,ev,asIntOf,run_underlying p.und,hc,Yv l,add_lit]
  all_goals grind
theorem Q5s(hL:Qa P L)(h:Conc C nt R η e s a w){o:Oper}(hd:∀ x,o.dst=some x->x<nt){t:TypeId}{x i:Operand}(hop:o.op=.indexAddr t x i){ti:TI}(ht:L t=some ti){el:Nat}(hk:ti.kind=.slice el){te:TI}(hte:L el=some te){m:Int}(hi:ZH (Y2 e i)=some m){id:Nat}(hx:Y2 e x=.v (.c (.own id))){n:Nat}{f:Nat->List DVal}(hs:s id=some (.arr te.size n f)){c:Prop}(hc:0<=m/\m<n):
  z8 P C nt R η e s a w o { v:=.v (.c (.pte id te.size m.toNat 0)),cond:=c }:=by
 obtain ⟨D,d1,F,l⟩:=hL t ti ht;obtain ⟨A,B,E,p⟩:=hL el te hte
 have d:=l.kind;rw [hk] at d
 simp only [ZI] at d;subst d
 obtain ⟨k,z⟩:=Pc h hi;obtain ⟨q,r⟩:=J4 h x
 rw [hx] at q r;have ev:=WM q
 have g:=h.st id _ hs;generalize hu:η id=u at g ev
 cases g with
 | nil=>omega
 | arr b _ cap _ c' e' _ hb hsz hn hm hc0 hl hel=>
  refine QU h hd (v:=.pointer (some ⟨b,m.toNat*te.size+0,none⟩)) ?_ (.v _ _ (.c _ _ (.pte b n cap _ _ _ _ hu))) (fun j y=>r j (by simpa [AVal.refs,TV.refs,CV.refs] using y));simp [execOp,hop,Instr.indexAt,z,ev,asIntOf,run_underlying l.und,hc,Yv p,add_lit]
theorem Q5u(hL:Qa P L)(h:Conc C nt R η e s a w){o:Oper}(hd:∀ x,o.dst=some x->x<nt){t:TypeId}{x i:Operand}(hop:o.op=.indexAddr t x i){ti:TI}(ht:L t=some ti){n el:Nat}(hk:ti.kind=.array n el){te:TI}(hte:L el=some te){m:Int}(hi:ZH (Y2 e i)=some m){id off:Nat}(hx:Y2 e x=.v (.c (.ptr id off)))(hc:0<=m/\m<n):
  z8 P C nt R η e s a w o { v:=.v (.c (.ptr id (off+m.toNat*te.size))) }:=by
 obtain ⟨A,d1,D,f⟩:=hL t ti ht;obtain ⟨y,z,B,g⟩:=hL el te hte
 have d:=f.kind;rw [hk] at d
 simp only [ZI] at d;subst d
 obtain ⟨k,u⟩:=Pc h hi;obtain ⟨l,p⟩:=J4 h x
 rw [hx] at l p;obtain ⟨b,ev,r⟩:=Dc l
 refine QU h hd (v:=.pointer (some ⟨b,off+m.toNat*te.size,none⟩)) ?_ (qO _ r) (fun j q=>p j (by simpa [AVal.refs,TV.refs,CV.refs] using q));simp [execOp,hop,Instr.indexAt,u,ev,asIntOf,run_underlying f.und,hc,Yv g,add_lit,Instr.sureAddr]
end
end
section
section
variable {P:Program} {L:Lay} {C:Ctx} {nt:Nat} {R:Nat->Prop} {η:Nat->Value} {e:U3} {s:U5} {a:Act} {w:World}
theorem zk{α β:Type}{f:α->β}{l:List α}{u v:β}(h:l.map f=[u,v]):∃ x y,l=[x,y]/\f x=u/\f y=v:=by
 match l,h with
 | [],h=>simp at h
 | [_],h=>simp at h
 | [x,y],h=>simp at h;exact ⟨x,y,rfl,h.1,h.2⟩
 | _::_::_::_,h=>simp at h
theorem Q2f(hL:Qa P L)(h:Conc C nt R η e s a w)(m:Bool)(o:Oper)(hd:∀ x,o.dst=some x->x<nt){r:SR}(hr:Zk L m e s o=some r)(hc:r.cond)(hR:∀ d,o.dst=some d->r.new≠none->¬ R d)(hst:∀ t x y,o.op=.store t x y->o.dst=none):z8 P C nt R η e s a w o r:=by
 unfold Zk at hr;split at hr
 .
  rename_i x p
  cases hr
  exact kb h hd (.inl p)
 .
  rename_i x p
  split at hr
  .cases hr
   exact kb h hd (.inr p)
  .rename_i f d G A
   split at hr
   .rename_i el W H zz F
    split at hr
    .rename_i te D
     cases hr
     have T:=(J4 h x).1;rw [G] at T
     have e6:∃ ad,a.eval x=.slice ad 0 0:=by
      generalize a.eval x=u at T
      cases T with|v _ _ T=>cases T with|c _ _ T=>cases T with|fl ad _ _ T=>exact ⟨ad,rfl⟩
     obtain ⟨ad,ex⟩:=e6;exact VW h A (hd d A) (hR d A (by simp)) (del:=[]) (v:=.slice ad 0 0) (Z:=fun _=>False) (by simp [execOp,p,ex]) (Stp.refl _ _) rfl (fun b J=>J.elim) (fun i hi=>by cases hi) (fun b J=>by cases ad <;> simp [Y9] at J) (fun X' _=>.nil _ _ _)
    .cases hr
   .cases hr
  .cases hr
 .
  rename_i c x y p
  split at hr
  .rename_i J;cases hr;exact xZ h hd p J
  .rename_i J;cases hr;exact xZ h hd p J
  .cases hr
 .
  rename_i t p
  split at hr
  .rename_i ti d F A
   cases hr
   exact Q5z hL h A (hd d A) (hR d A (by simp)) p F
  .cases hr
 .
  rename_i t x p
  split at hr
  .rename_i xs d G A
   cases hr
   exact Q5x h A (hd d A) (hR d A (by simp)) p G
  .cases hr
 .
  rename_i t ps p
  split at hr
  .rename_i fs W H z F
   split at hr
   .rename_i pl h8
    split at hr
    .rename_i cs hf
     cases hr
     exact ke hL h hd p F (.inl ⟨fs,pl,rfl,h8,rfl⟩) hf
    .cases hr
   .cases hr
  .rename_i n el W H z F
   split at hr
   .rename_i te D
    split at hr
    .rename_i cs hf
     cases hr
     exact ke hL h hd p F (.inr ⟨n,el,te,rfl,D,rfl⟩) hf
    .cases hr
   .cases hr
  .cases hr
 .
  rename_i t i3 ps p
  split at hr
  .rename_i el W H z F
   split at hr
   .rename_i te D
    split at hr
    .rename_i b0
     split at hr
     .rename_i cs hf
      split at hr
      .rename_i ds g5
       obtain ⟨B,K⟩:=Q5w hL h hd p F rfl D b0.1 b0.2.1 hf g5;split at hr
       .cases hr;exact B
       .rename_i d A
        cases hr
        exact K d A (hR d A (by simp)) b0.2.2
       .cases hr
      .cases hr
     .cases hr
    .cases hr
   .cases hr
  .cases hr
 .
  rename_i t x p
  split at hr
  .rename_i ti F
   split at hr
   .rename_i cs c j3
    split at hr
    .rename_i v T
     cases hr
     exact Q5o hL h hd p F j3 T hc
    .cases hr
   .cases hr
  .cases hr
 .
  rename_i t x y p
  split at hr
  .rename_i ti xs F hy
   split at hr
   .rename_i g0
    exact Q5i hL h (hst t x y p) p F hy g0 hr hc
   .cases hr
  .cases hr
 .
  rename_i x p
  obtain ⟨B,K⟩:=J4 h x;split at hr
  .rename_i id a3 e1
   cases hr
   rw [e1] at B K;obtain ⟨b,U,d7⟩:=Dc B
   exact QU h hd (v:=a.eval x) (by simp [execOp,p,U]) B K
  .rename_i id es l0 a3 e1
   cases hr
   rw [e1] at B K;obtain ⟨b,n,I,U,d7⟩:=qP B
   exact QU h hd (v:=a.eval x) (by simp [execOp,p,U]) B K
  .rename_i cs e1
   cases hr
   rw [e1] at B K;obtain ⟨b,a3,c,e',fz,U,_⟩:=Q0R B
   exact QU h hd (v:=a.eval x) (by simp [execOp,p,U]) B K
  .cases hr
 .
  rename_i op t x y t' p
  exact Q5y h hd p hr hc
 .
  rename_i op t x p
  exact Q5h h hd p hr hc
 .
  rename_i k9 dst x p
  split at hr
  .rename_i k0 s1 b1 z1 k s2 b2 z2 k1 n c9 c7 G
   cases hr
   obtain ⟨i1,d1,g7,N⟩:=hL _ _ c9;obtain ⟨i2,d2,g9,Q⟩:=hL _ _ c7
   have b3:=N.kind;have a7:=Q.kind
   simp only [ZI] at b3 a7;subst b3;subst a7
   have B:=(J4 h x).1;rw [G] at B
   have ex:=WP B;obtain ⟨g1,_⟩:=CB m k n _ hc
   refine Mc h hd g1 hc ?_;simp [execOp,p,convert,run_underlying N.und,run_underlying Q.und,ex,Conv.intToInt]
  .rename_i s1 b1 z1 s2 b2 z2 b c9 c7 G
   cases hr
   obtain ⟨i1,d1,g7,N⟩:=hL _ _ c9;obtain ⟨i2,d2,g9,Q⟩:=hL _ _ c7
   have b3:=N.kind;have a7:=Q.kind
   simp only [ZI] at b3 a7;subst b3;subst a7
   obtain ⟨B,K⟩:=J4 h x;rw [G] at B
   have ex:=Ke B;refine QU h hd (v:=.string b) ?_ (by rw [ex] at B;exact B) (by simp [AVal.refs,TV.refs,CV.refs])
   simp [execOp,p,convert,run_underlying N.und,run_underlying Q.und,ex]
  .cases hr
 .
  rename_i f c4 f6 p
  split at hr
  .rename_i i4
   split at hr
   .rename_i i5 e3
    cases hr
    obtain ⟨g1,g2⟩:=Z2W h _ _ e3;have h4:c4=#[]:=by simpa using i4
    subst h4;refine QU h hd (v:=.func (.func f) #[] (f6.map a.eval)) (by simp [execOp,p,Instr.makeFunc]) (.v _ _ (.c _ _ (.clo f i5 _ ?_))) (fun j hj=>g2 j (by simpa [AVal.refs,TV.refs,CV.refs] using hj))
    rw [<-g1];exact Array.ext' (by simp)
   .cases hr
  .cases hr
 .
  rename_i t x lo hi p
  split at hr
  .rename_i el W H z F
   split at hr
   .rename_i te D
    split at hr
    .rename_i y l u hl hu
     split at hr
     .rename_i n f G
      cases hr
      exact Q5k hL h hd p F rfl D hl hu G hc.1 hc.2
     .cases hr
    .rename_i id u G hl hu
     split at hr
     .rename_i es n f d hs A
      cases hr
      obtain ⟨i1,d1,z1,O⟩:=hL _ _ F;obtain ⟨i2,d2,z2,b4⟩:=hL _ _ D
      have V:=O.kind;simp only [ZI] at V
      subst V;have B:=(J4 h x).1
      rw [G] at B;have ex:=WM B
      have Y:=h.st id _ hs;have d8:0<=u/\u<=n:=hc
      have hn:∃ E I,η id=.slice E n I/\n<=I:=by
       generalize η id=v at Y
       cases Y with
       | nil=>exact ⟨_,_,rfl,Nat.le_refl _⟩
       | arr b _ I _ c' e' _ _ _ hn _ _ _ _=>exact ⟨_,_,rfl,hn⟩
      obtain ⟨E,I,d0,hn⟩:=hn;obtain ⟨J,g1,g2,g3,g4⟩:=kY (P:=P) h hl hu n I hn f (by simpa [sl] using d8)
      simp only [Option.getD_none,Option.getD_some,Int.toNat_zero] at J g1 g2;have e4:E.map (fun x:Addr=>x.add 0)=E:=by cases E <;> simp [Addr.add]
      have d6:(execOp a.eval o).run P w=.ok (.value (.slice E u.toNat I)) w:=by
       have c6:(if I=0 then E else E.map (fun x:Addr=>x.add 0))=E:=by rw [e4];split <;> rfl
       simp only [execOp,p,Sem.run_bind,Instr.sliceAt,run_underlying O.und,Result.andThen_ok,Instr.slice,ex,d0,Option.map_none,J,Yv b4,Sem.run_pure,Nat.zero_mul,Nat.sub_zero];rw [c6]
      have i9:Y9 (.slice E u.toNat I)=Y9 (.slice E n I):=by cases E <;> rfl
      refine VW h A (hd d A) (hR d A (by simp)) (Z:=fun _=>False) d6 (Stp.refl _ _) rfl (fun b J=>J.elim) (fun i' f4 o' e8=>by simp at f4;subst f4;rw [hs] at e8;cases e8;rfl)
       (fun b J=>.inr ⟨id,by simp,by rw [hs];simp,by rw [d0, <-i9];exact J⟩) fun X' c8=>?_
      rw [d0] at Y;have:=Y.mono (η':=SR.eta { v:=.v (.c (.own d)),del:=[id],new:=some (.arr es u.toNat f),cond:=0<=u/\u<=n } o.dst (.slice E u.toNat I) η) c8 (by simp [Obj.refs]) (fun _ _=>rfl)
      cases this with
      | nil=>
       have h0:u.toNat=0:=by omega
       rw [h0];exact .nil _ _ _
      | arr b _ _ _ c' e' _ q1 q2 q3 q4 q5 q6 q7=>
       exact .arr b u.toNat I _ c' e' _ q1 q2 (by omega) q4 q5 (fun i hi=>q6 i (by omega)) fun i j hi hj=>q7 i j (by omega) hj
     .cases hr
    .cases hr
   .cases hr
  .cases hr
 .
  rename_i t x G mx p
  split at hr
  .rename_i el W H z F
   split at hr
   .rename_i te n f u u' D g8 hu hm
    split at hr
    .rename_i j6
     obtain ⟨rfl,h0⟩:=j6;cases hr
     exact Q5j hL h hd p F rfl D hu hm h0 g8 hc.1 hc.2
    .cases hr
   .cases hr
  .cases hr
 .
  rename_i t x k p
  split at hr
  .rename_i fs W H z F
   split at hr
   .rename_i a3 ft hf
    split at hr
    .rename_i tf d5
     split at hr
     .cases hr
     .rename_i hz
      have e5:∃ v,r={ v:=v }:=by
       grind
      obtain ⟨v,rfl⟩:=e5;obtain ⟨g1,g2,g3⟩:=Z1C h hr
      exact Q5v hL h hd p F rfl hf d5 hz g1 g2 g3
    .cases hr
   .cases hr
  .cases hr
 .
  rename_i t x k p
  split at hr
  .rename_i fs W H z F
   split at hr
   .rename_i a3 ft cs hf G
    split at hr
    .rename_i tf d5
     split at hr
     .rename_i b0
      split at hr
      .rename_i v T
       cases hr
       obtain ⟨i1,d1,z1,O⟩:=hL _ _ F;have V:=O.kind
       obtain ⟨b9,rfl,k6⟩:=V;have j0 : ∃ f,b9[k]?=some f/\f.offset=a3/\f.type=ft:=by
        grind
       obtain ⟨f,j2,rfl,rfl⟩:=j0;obtain ⟨B,K⟩:=J4 h x
       rw [G] at B K;have b5:∃ vs,a.eval x=.agg vs/\y8 w (XS C s η) η C vs cs:=by
        generalize a.eval x=u at B
        cases B with|v _ _ B=>cases B with|g vs _ B=>exact ⟨vs,rfl,B⟩
       obtain ⟨vs,ex,d9⟩:=b5;obtain ⟨u,g1,g2,g3⟩:=cz (P:=P) hL d9 d5 b0 T
       refine QU h hd (v:=u) ?_ g2 (fun j hj=>K j (by simpa [AVal.refs,TV.refs] using g3 j hj));simp only [execOp,p,Sem.run_bind,Instr.field,run_underlying O.und,Result.andThen_ok,j2,ex,asAgg,Sem.run_pure,g1]
      .cases hr
     .cases hr
    .cases hr
   .cases hr
  .cases hr
 .
  rename_i t x i p
  split at hr
  .rename_i el W H z m' F hi
   split at hr
   .rename_i te D
    split at hr
    .rename_i id G
     split at hr
     .rename_i es n f hs
      split at hr
      .rename_i h7
       subst h7;cases hr
       exact Q5s hL h hd p F rfl D hi G hs hc
      .cases hr
     .cases hr
    .split at hr
     .rename_i n f G
      split at hr
      .rename_i hf
       cases hr
       exact Q5t hL h hd p F rfl D hi G hf hc
      .cases hr
     .cases hr
   .cases hr
  .rename_i n el W H z m' F hi
   split at hr
   .rename_i te id a3 D G
    split at hr
    .rename_i J
     cases hr
     exact Q5u hL h hd p F rfl D hi G J
    .cases hr
   .cases hr
  .cases hr
 .
  rename_i t x i p
  split at hr
  .rename_i n el W H z m' cs F hi G
   split at hr
   .rename_i te D
    split at hr
    .rename_i J
     obtain ⟨U,d7,i8⟩:=J;split at hr
     .rename_i v T
      cases hr
      obtain ⟨i1,d1,z1,O⟩:=hL _ _ F;obtain ⟨i2,d2,z2,b4⟩:=hL _ _ D
      have V:=O.kind;simp only [ZI] at V
      subst V;obtain ⟨k,ei⟩:=Pc h hi
      obtain ⟨B,K⟩:=J4 h x;rw [G] at B K
      have b5:∃ vs,a.eval x=.agg vs/\y8 w (XS C s η) η C vs cs:=by
       generalize a.eval x=u at B
       cases B with|v _ _ B=>cases B with|g vs _ B=>exact ⟨vs,rfl,B⟩
      obtain ⟨vs,ex,d9⟩:=b5;obtain ⟨u,g1,g2,g3⟩:=cz (P:=P) hL d9 D i8 T
      refine QU h hd (v:=u) ?_ g2 (fun j hj=>K j (by simpa [AVal.refs,TV.refs] using g3 j hj));simp [execOp,p,Instr.index,ei,ex,asIntOf,run_underlying O.und,U,d7,Yv b4,g1]
     .cases hr
    .cases hr
   .cases hr
  .cases hr
 .
  rename_i t l c p
  split at hr
  .rename_i el W H z n n' d F hl d8 A
   split at hr
   .rename_i te D
    split at hr
    .rename_i zd hz
     split at hr
     .rename_i J
      cases hr
      exact Q5n hL h A (hd d A) (hR d A (by simp)) p F rfl D hl d8 J.1 J.2.1 J.2.2 hz hc
     .cases hr
    .cases hr
   .cases hr
  .cases hr
 .
  rename_i x k p
  split at hr
  .rename_i xs G
   split at hr
   .rename_i v T
    cases hr
    obtain ⟨B,K⟩:=J4 h x;rw [G] at B K
    have b5:∃ us,a.eval x=.tuple us/\us.size=xs.length/\∀ j,j<xs.length->TRep w (XS C s η) η C (us.getD j undef) (xs.getD j (.c (.d .any))):=by
     generalize a.eval x=u at B
     cases B with|t us _ g1 g2=>exact ⟨us,rfl,g1,g2⟩
    obtain ⟨us,ex,g1,g2⟩:=b5;have hk:k<xs.length:=by
     grind
    have h5 : k<us.size:=by omega
    have h3:=g2 k hk;have h9 : xs.getD k (.c (.d .any))=v:=by rw [List.getD_eq_getElem?_getD,T];rfl
    rw [h9] at h3;refine QU h hd (v:=us.getD k undef) ?_ (.v _ _ h3) (fun j hj=>K j ?_)
    .simp [execOp,p,Instr.extract,ex,h5]
    .exact List.mem_flatMap.2 ⟨v,List.mem_of_getElem? T,hj⟩
   .cases hr
  .cases hr
 .
  rename_i b S f5 p
  split at hr
  .rename_i r' d q
   unfold JV at q;split at q
   .
    rename_i y M
    obtain ⟨x,hargs,hy⟩:∃ x,S=#[x]/\y=Y2 e x:=by
     match hl:S.toList,M with
     | [x],M=>simp at M;exact ⟨x,Array.ext' hl,M.symm⟩
    subst hargs;subst hy
    split at q
    .rename_i t a5
     have c5:f5=#[t]:=Array.ext' a5;subst c5
     split at q
     .rename_i el W H z F
      split at q
      .rename_i n f G
       cases q
       simp only at hr;cases hr
       exact Q5r hL h hd p F rfl G
      .cases q
     .rename_i n el W H z F
      cases q
      simp only at hr;cases hr
      exact Q5q hL h hd p F rfl
     .rename_i W H z F
      split at q
      .rename_i bb G
       cases q
       simp only at hr;cases hr
       exact Q5p hL h hd p F rfl G
      .cases q
     .cases q
    .cases q
   .
    rename_i k n k' n' M
    obtain ⟨x,y,hargs,G,hy⟩:∃ x y,S=#[x,y]/\Y2 e x=.v (.c (.d (.int k n)))/\Y2 e y=.v (.c (.d (.int k' n'))):=by
     obtain ⟨x,y,hl,B,K⟩:=zk M
     grind
    subst hargs;cases q
    simp only at hr;cases hr
    exact kc h hd p G hy (.inl ⟨rfl,rfl⟩)
   .
    rename_i k n k' n' M
    obtain ⟨x,y,hargs,G,hy⟩:∃ x y,S=#[x,y]/\Y2 e x=.v (.c (.d (.int k n)))/\Y2 e y=.v (.c (.d (.int k' n'))):=by
     obtain ⟨x,y,hl,B,K⟩:=zk M
     grind
    subst hargs;cases q
    simp only at hr;cases hr
    exact kc h hd p G hy (.inr ⟨rfl,rfl⟩)
   .
    rename_i u1 u2 M
    obtain ⟨x,y,hargs,G,hy⟩:∃ x y,S=#[x,y]/\Y2 e x=u1/\Y2 e y=u2:=by
     obtain ⟨x,y,hl,B,K⟩:=zk M
     grind
    subst hargs;subst G;subst hy
    split at q
    .rename_i t t' a5
     split at q
     .rename_i f1
      subst f1;have c5:f5=#[t,t]:=Array.ext' a5
      subst c5;split at q
      .rename_i el W H z F
       split at q
       .rename_i te D
        split at q
        .rename_i k g hy
         split at q
         .rename_i del n f c G
          split at q
          .rename_i J
           cases q
           simp only at hr;split at hr
           .rename_i dd k3 A
            cases hr
            exact FP hL h A (hd _ A) (hR _ A (by simp)) p F rfl D hy G hc.2.2 J.2.1 J.2.2 hc.1 hc.2.1
           .cases hr
           .cases ‹some _=none›
          .cases q
         .cases q
        .cases q
       .cases q
      .cases q
     .cases q
    .cases q
   .cases q
  .cases hr
 .cases hr
end
end
section
def Zu(d:Option Tmp)(v:AVal)(e:U3):U3:=
 match d with
 | some d=>fun t=>if t=d then v else e t
 | none=>e
def Zy(l:List (Nat×Option Obj))(s:U5):U5:=fun i=>
 match l.lookup i with
 | some o=>o
 | none=>s i
structure Eff where
 rd:List Nat
 ids:List Nat
 v:AVal
 l:List (Nat×Option Obj)
 news:List Nat
section
variable (P:Program) (C:Ctx) (nt:Nat) (ops:Array Oper)
def Ws(o:Oper)(f:Eff)(e:U3)(s:U5):Prop:=
 ∀ R η e0 s0 a w,(∀ t ∈ f.rd,e0 t=e t)->(∀ i ∈ f.ids,s0 i=s i)->(∀ n ∈ f.news,¬ R n)->Conc C nt R η e0 s0 a w ->
  ∀ (K:Act->World->Prop) (Q:Exit->Act->World->Prop),(∀ η' a' w',Conc C nt (fun i=>R i\/i ∈ f.news) η' (Zu o.dst f.v e0) (Zy f.l s0) a' w' -> K a' w') ->
   if Region.wanted o (yielded ops a.tmps) then o.wp P a w K Q else K (a.put o.dst undef) w
def Hg:List Oper->List Eff->U3->U5->Prop
 | [],[],_,_=>True
 | o::os,f::fs,e,s=>Ws P C nt ops o f e s/\Hg os fs (Zu o.dst f.v e) (Zy f.l s)
 | _,_,_,_=>False
end
def UM:List Oper->List Eff->U3->U3
 | o::os,f::fs,e=>UM os fs (Zu o.dst f.v e)
 | _,_,e=>e
def UL:List Eff->U5->U5
 | f::fs,s=>UL fs (Zy f.l s)
 | _,s=>s
def YA(fs:List Eff):List Nat:=fs.flatMap (·.news)
theorem Conc.wider{C:Ctx}{nt:Nat}{R R' : Nat->Prop}{η:Nat->Value}{e:U3}{s:U5}{a:Act}{w:World}(h:Conc C nt R η e s a w)(hR:∀ i,R i->R' i):Conc C nt R' η e s a w:=
 ⟨h.ok,h.df,h.sz,h.ev,fun t i b=>hR i (h.er t i b),h.st,fun i o c=>⟨hR i (h.sr i o c).1,fun j d=>hR j ((h.sr i o c).2 j d)⟩,h.ds,h.ow,h.fr,fun i v b=>⟨(h.pn i v b).1,hR i (h.pn i v b).2⟩⟩
section
variable {P:Program} {C:Ctx} {nt:Nat} {ops:Array Oper}
theorem Q6O{Q:Exit->Act->World->Prop}:∀ (os:List Oper) (fs:List Eff) (R:Nat->Prop) (η:Nat->Value) (e:U3) (s:U5) (a:Act) (w:World),Hg P C nt ops os fs e s->(YA fs).Nodup->(∀ n ∈ YA fs,¬ R n)->Conc C nt R η e s a w ->
  (∀ η' a' w',Conc C nt (fun i=>R i\/i ∈ YA fs) η' (UM os fs e) (UL fs s) a' w' -> Q .normal a' w')->wpList P ops Q os a w:=by
 intro os
 induction os with
 | nil=>
  intro fs R η e s a w g _ _ l h
  cases fs with
  | nil=>exact h η a w (l.wider fun i p=>.inl p)
  | cons f fs=>exact g.elim
 | cons o os ih=>
  intro fs R η e s a w g c d l h
  cases fs with
  | nil=>exact g.elim
  | cons f fs=>
   obtain ⟨u,x⟩:=g;have b:YA (f::fs)=f.news++YA fs:=rfl
   rw [b] at c d h;have k:=u R η e s a w (fun _ _=>rfl) (fun _ _=>rfl) (fun n q=>d n (List.mem_append.2 (.inl q))) l
   refine wpList_step fun K v=>?_
   refine k K Q fun η' a' w' j=>v a' w' ?_
   refine ih fs _ η' _ _ a' w' x (List.nodup_append.1 c).2.1 (fun n q z=>?_) j fun r t y m=>h r t y (m.wider fun i p=>?_)
   all_goals grind
end
def Ul(oi oj:Oper)(fi fj:Eff):Bool:=
 (match oi.dst with|some d=>fj.rd.contains d||oj.dst==some d|none=>false)||(match oj.dst with|some d=>fi.rd.contains d|none=>false) ||
 (fi.l.any fun p=>fj.ids.contains p.1||fj.l.any (·.1==p.1))||(fj.l.any fun p=>fi.ids.contains p.1)
def UG(acc:List Nat):List Edge->Nat
 | []=>0
 | e::r=>if Region.binds .any e then (2 ^ e.on ||| acc.getD e.on 0) ||| UG acc r else UG acc r
def XX:List Oper->List Eff->List Nat->List (Oper×Eff)->Bool
 | o::os,f::fs,acc,seen=>
  let m:=UG acc o.after.toList
  (o.after.toList.all fun e=> !Region.binds .any e||decide (e.on<acc.length)) &&
  (seen.zipIdx.all fun p=> !Ul p.1.1 o p.1.2 f||m.testBit p.2)&&XX os fs (acc++[m]) (seen++[(o,f)])
 | [],[],_,_=>true
 | _,_,_,_=>false
def Q1t(ops:List Oper)(fs:List Eff):Bool:=XX ops fs [] []
inductive Anc (ops:List Oper):Nat->Nat->Prop
 | edge (j:Nat) (o:Oper) (e:Edge):ops[j]?=some o->e ∈ o.after.toList->Region.binds .any e=true->Anc ops e.on j
 | trans (i j k:Nat):Anc ops i j->Anc ops j k->Anc ops i k
theorem Q9P{ops:List Oper}{acc:List Nat}{j:Nat}{o:Oper}(ho:ops[j]?=some o)(hacc:∀ k i,(acc.getD k 0).testBit i=true->Anc ops i k):∀ (es:List Edge),(∀ e ∈ es,e ∈ o.after.toList)->∀ i,(UG acc es).testBit i=true->Anc ops i j:=by
 intro es
 induction es with
 | nil=>intro _ i c;simp [UG] at c
 | cons e r ih=>
  intro b i c;have f:=ih (fun l d=>b l (List.mem_cons_of_mem _ d))
  simp only [UG] at c;split at c
  .rename_i g
   have h:Anc ops e.on j:=.edge j o e ho (b e List.mem_cons_self) g;rw [Nat.testBit_or,Nat.testBit_or] at c
   rcases (by simpa using c:((2 ^ e.on).testBit i=true\/(acc.getD e.on 0).testBit i=true)\/(UG acc r).testBit i=true) with (h1|h1) | h1
   .grind
   .exact .trans _ _ _ (hacc _ _ h1) h
   .exact f i h1
  .exact f i c
theorem Z2L(ops:List Oper)(fs:List Eff):∀ (os:List Oper) (gs:List Eff) (acc:List Nat) (seen:List (Oper×Eff)),XX os gs acc seen=true ->
  acc.length=seen.length->ops=seen.map (·.1)++os->fs=seen.map (·.2)++gs->(∀ k i,(acc.getD k 0).testBit i=true->Anc ops i k) ->
  (∀ j o e,seen.length<=j->ops[j]?=some o->e ∈ o.after.toList->Region.binds .any e=true->e.on<j) /\
  (∀ i j oi oj fi fj,i<j->seen.length<=j->ops[i]?=some oi->ops[j]?=some oj->fs[i]?=some fi->fs[j]?=some fj->Ul oi oj fi fj=true->Anc ops i j)/\os.length=gs.length:=by
 intro os
 induction os with
 | nil=>
  intro gs acc seen h x t n _
  cases gs with
  | cons g gs=>simp [XX] at h
  | nil=>
   grind
 | cons o os ih=>
  intro gs acc seen h x t n d
  cases gs with
  | nil=>simp [XX] at h
  | cons g gs=>
   simp only [XX,Bool.and_eq_true] at h;obtain ⟨⟨J,K⟩,A⟩:=h
   have f:ops[seen.length]?=some o:=by rw [t];simp
   have u:fs[seen.length]?=some g:=by rw [n];simp
   have v:∀ i,(UG acc o.after.toList).testBit i=true->Anc ops i seen.length:=Q9P f d _ (fun e p=>p);obtain ⟨H,D,F⟩:=ih gs (acc++[UG acc o.after.toList]) (seen++[(o,g)]) A (by simp [x]) (by simp [t]) (by simp [n]) (fun k i I=>by
    by_cases hk1:k<acc.length
    .grind
    .by_cases hk2:k=acc.length
     all_goals grind)
   refine ⟨fun j E e G b p B=>?_,fun i j oi oj fi fj q G r b l c m=>?_,by simp [F]⟩
   .by_cases hjs:j=seen.length
    .grind
    .exact H j E e (by simp;omega) b p B
   .by_cases hjs:j=seen.length
    .subst hjs
     rw [f] at b;cases b
     rw [u] at c;cases c
     have z:seen[i]?=some (oi,fi):=by
      grind
     have y:((oi,fi),i) ∈ seen.zipIdx:=by
      grind
     grind
    .exact D i j oi oj fi fj q (by simp;omega) r b l c m
end
section
instance:Inhabited Eff:=⟨⟨[],[],.any,[],[]⟩⟩
section
variable (l:List Oper) (fs:List Eff)
def Vo(i:Nat):Option Tmp:=(l[i]?).bind (·.dst)
def Qq(i:Nat):Eff:=fs.getD i default
def hE(e0:U3):List Nat->U3
 | []=>e0
 | i::h=>Zu (Vo l i) (Qq fs i).v (hE e0 h)
def hS(s0:U5):List Nat->U5
 | []=>s0
 | i::h=>Zy (Qq fs i).l (hS s0 h)
def Ut(t:Nat)(j:Nat):Bool:=Vo l j==some t
def Ja(i:Nat)(j:Nat):Bool:=((Qq fs j).l.lookup i).isSome
theorem Q0c(e0:U3)(t:Nat):∀ h,hE l fs e0 h t=match h.find? (Ut l t) with|some j=>(Qq fs j).v|none=>e0 t:=by
 intro h
 induction h with
 | nil=>rfl
 | cons i h ih=>
  simp only [hE,List.find?_cons,Zu]
  cases hd:Vo l i with
  | none=>simp [Ut,hd,ih]
  | some d=>
   by_cases hdt:t=d
   .subst hdt;simp [Ut,hd]
   .have:Ut l t i=false:=by simp [Ut,hd];exact fun b=>hdt b.symm
    grind
theorem Q0b(s0:U5)(k:Nat):∀ h,hS fs s0 h k=match h.find? (Ja fs k) with|some j=>((Qq fs j).l.lookup k).getD none|none=>s0 k:=by
 intro h
 induction h with
 | nil=>rfl
 | cons i h ih=>
  simp only [hS,List.find?_cons,Zy]
  cases hl:(Qq fs i).l.lookup k with
  | none=>simp [Ja,hl,ih]
  | some o=>simp [Ja,hl]
end
structure Hist (ops:List Oper) (h:List Nat):Prop where
 nd:h.Nodup
 ord:∀ l1 k l2,h=l1++k::l2->∀ i,Anc ops i k->i ∈ l2
theorem Hist.anc{ops:List Oper}{h:List Nat}(H:Hist ops h){i k:Nat}(hk:k ∈ h)(ha:Anc ops i k):i ∈ h:=by
 obtain ⟨b,c,rfl⟩:=List.append_of_mem hk;exact List.mem_append.2 (.inr (List.mem_cons_of_mem _ (H.ord b k c rfl i ha)))
theorem Q0u{ops:List Oper}{h:List Nat}(H:Hist ops h){p:Nat->Bool}{f g:Nat}(hf:h.find? p=some f)(hg:g ∈ h)(hp:p g=true)(ha:Anc ops f g):False:=by
 obtain ⟨_,i,j,rfl,k⟩:=List.find?_eq_some_iff_append.1 hf;have c:g ∈ j:=by
  rcases List.mem_append.1 hg with d|d
  .grind
  .rcases List.mem_cons.1 d with b|b
   .subst b
    have:=H.ord i g j rfl g ha
    exact this
   .exact b
 obtain ⟨o,m,rfl⟩:=List.append_of_mem c;have:=H.ord (i++f::o) g m (by simp) f ha
 have n:=H.nd
 grind
theorem Q0v{ops:List Oper}{h1 h2:List Nat}(H1:Hist ops h1)(H2:Hist ops h2){p:Nat->Bool}(hord:∀ j k,j<k->k ∈ h1->k ∈ h2->j ∈ h1->p j=true->p k=true->Anc ops j k)(hset:∀ j,p j=true->(j ∈ h1↔j ∈ h2)):h1.find? p=h2.find? p:=by
 cases hf:h1.find? p with
 | none=>
  grind
 | some f=>
  have b:p f=true:=List.find?_some hf;have i:f ∈ h1:=List.mem_of_find?_eq_some hf
  have c:=(hset f b).1 i
  cases hg:h2.find? p with
  | none=>rw [List.find?_eq_none] at hg;exact absurd b (hg f c)
  | some g=>
   have d:p g=true:=List.find?_some hg;have h:g ∈ h2:=List.mem_of_find?_eq_some hg
   have n:=(hset g d).2 h;rcases Nat.lt_trichotomy f g with m|o|m
   .exact (Q0u H1 hf n d (hord f g m n h i b d)).elim
   .rw [o]
   .exact (Q0u H2 hg c b (hord g f m i c n d b)).elim
section
variable {P:Program} {C:Ctx} {nt:Nat} {ops:Array Oper} {fs:List Eff}
theorem Z3u{l:List Oper}(hb:∀ j o e,l[j]?=some o->e ∈ o.after.toList->Region.binds .any e=true->e.on<j){i k:Nat}(h:Anc l i k):i<k:=by
 induction h with
 | edge j o e h1 h2 h3=>exact hb j o e h1 h2 h3
 | trans i j k _ _ ih1 ih2=>omega
theorem HA{l:List Oper}(hb:∀ j o e,l[j]?=some o->e ∈ o.after.toList->Region.binds .any e=true->e.on<j)(n:Nat):Hist l (List.range n).reverse:=by
 refine ⟨by unfold List.Nodup;rw [List.pairwise_reverse];exact (List.nodup_range (n:=n)).imp (fun h=>Ne.symm h),?_⟩
 induction n with
 | zero=>intro b k d h;simp at h
 | succ n ih=>
  intro b k d h i c;rw [List.range_succ,List.reverse_append,List.reverse_singleton,List.singleton_append] at h
  cases b with
  | nil=>
   simp only [List.nil_append,List.cons.injEq] at h;obtain ⟨rfl,rfl⟩:=h
   have:=Z3u hb c
   grind
  | cons x b=>
   grind
theorem Q9F{fs:List Eff}(hnd:(YA fs).Nodup){i j:Nat}(hij:i≠j){x:Nat}(hi:x ∈ (Qq fs i).news)(hj:x ∈ (Qq fs j).news):False:=by
 induction fs generalizing i j with
 | nil=>simp [Qq,default] at hi
 | cons f r ih=>
  have d:YA (f::r)=f.news++YA r:=rfl;rw [d,List.nodup_append] at hnd
  have b:∀ k,x ∈ (Qq r k).news->x ∈ YA r:=by
   intro k c
   by_cases hkl:k<r.length
   .exact List.mem_flatMap.2 ⟨_,Yp hkl,c⟩
   .have:Qq r k=default:=by unfold Qq;rw [List.getD_eq_getElem?_getD,List.getElem?_eq_none (by omega)];rfl
    rw [this] at c;cases c
  cases i with
  | zero=>
   cases j with
   | zero=>exact hij rfl
   | succ j=>exact hnd.2.2 x hi x (b j hj) rfl
  | succ i=>
   cases j with
   | zero=>exact hnd.2.2 x hj x (b i hi) rfl
   | succ j=>exact ih hnd.2.1 (by omega) hi hj
theorem Q1a{fs:List Eff}{k x:Nat}(hx:x ∈ (Qq fs k).news):x ∈ YA fs:=by
 by_cases hk:k<fs.length
 .exact List.mem_flatMap.2 ⟨_,Yp hk,hx⟩
 .have:Qq fs k=default:=by unfold Qq;rw [List.getD_eq_getElem?_getD,List.getElem?_eq_none (by omega)];rfl
  rw [this] at hx;cases hx
theorem Q6P:∀ (os:List Oper) (gs:List Eff) (l:List Oper) (fs:List Eff) (k:Nat) (e0:U3) (s0:U5),(∀ j,os[j]?=l[k+j]?)->(∀ j,j<gs.length->gs[j]?=fs[k+j]?)->os.length=gs.length ->
  Hg P C nt ops os gs (hE l fs e0 (List.range k).reverse) (hS fs s0 (List.range k).reverse) ->
  (∀ j o,os[j]?=some o->Ws P C nt ops o (Qq fs (k+j)) (hE l fs e0 (List.range (k+j)).reverse) (hS fs s0 (List.range (k+j)).reverse)) /\
  UM os gs (hE l fs e0 (List.range k).reverse)=hE l fs e0 (List.range (k+os.length)).reverse/\UL gs (hS fs s0 (List.range k).reverse)=hS fs s0 (List.range (k+os.length)).reverse:=by
 intro os
 induction os with
 | nil=>
  intro gs l fs k e0 s0 _ _ d _
  cases gs with
  | nil=>exact ⟨fun j o h=>by simp at h,rfl,rfl⟩
  | cons g gs=>simp at d
 | cons o os ih=>
  intro gs l fs k e0 s0 q n d r
  cases gs with
  | nil=>simp at d
  | cons g gs=>
   obtain ⟨x,u⟩:=r;have t:Vo l k=o.dst:=by
    have:=q 0;simp at this;simp [Vo, <-this]
   have p:Qq fs k=g:=by
    have:=n 0 (by simp);simp at this;simp [Qq,List.getD_eq_getElem?_getD, <-this]
   have b:hE l fs e0 (List.range (k+1)).reverse=Zu o.dst g.v (hE l fs e0 (List.range k).reverse):=by
    rw [List.range_succ,List.reverse_append,List.reverse_singleton,List.singleton_append];simp only [hE,t,p]
   have c:hS fs s0 (List.range (k+1)).reverse=Zy g.l (hS fs s0 (List.range k).reverse):=by
    rw [List.range_succ,List.reverse_append,List.reverse_singleton,List.singleton_append];simp only [hS,p]
   obtain ⟨z,f,i⟩:=ih gs l fs (k+1) e0 s0 (fun j=>by have:=q (j+1);simp at this;rw [this];congr 1;omega) (fun j m=>by have:=n (j+1) (by simpa using m);simp at this;rw [this];congr 1;omega) (by simpa using d)
    (by rw [b,c];exact u)
   refine ⟨fun j y m=>?_,?_,?_⟩
   .grind
   .rw [b] at f
    simp only [UM];rw [f];congr 3;simp;omega
   .rw [c] at i
    simp only [UL];rw [i];congr 3;simp;omega
theorem Q9w:∀ (n:Nat) (l:List Nat),l.Nodup->(∀ x ∈ l,x<n)->l.length<=n:=by
 intro n
 induction n with
 | zero=>intro l _ h;cases l with
  | nil=>simp
  | cons x r=>exact absurd (h x List.mem_cons_self) (by omega)
 | succ n ih=>
  intro l b h
  by_cases hn:n ∈ l
  .have d:=ih (l.erase n) (b.erase n) (fun x c=>by
    grind)
   grind
  all_goals grind
theorem Q9I{listed:Array Bool}{h:List Nat}{n:Nat}(hsz:listed.size=n)(hl:∀ i,i<n->(listed.getD i false=true↔i ∈ h))(hb:∀ i ∈ h,i<n)(i:Nat):listed.getD i false=true↔i ∈ h:=by
 grind
theorem qH{ops:Array Oper}{listed:Array Bool}(hsz:listed.size=ops.size)(i:Nat):i ∈ Region.ready .any ops listed↔∃ o,ops[i]?=some o/\listed.getD i false=false/\∀ e ∈ o.after.toList,Region.binds .any e=true->listed.getD e.on false=true:=by
 unfold Region.ready;rw [List.mem_filter,List.mem_range]
 constructor
 .rintro ⟨b,d⟩
  refine ⟨ops[i],by simp [b],?_,?_⟩
  .grind
  .intro e g f
   simp only [Bool.and_eq_true] at d;have c:=d.2
   simp only [Array.getElem?_eq_getElem b,Option.map_some,Option.getD_some] at c;rw [Array.all_eq_true'] at c
   grind
 all_goals grind
theorem Z3t{Q:Exit->Act->World->Prop}{e0:U3}{s0:U5}{R:Nat->Prop}(hlen:ops.toList.length=fs.length)(hback:∀ j o e,ops.toList[j]?=some o->e ∈ o.after.toList->Region.binds .any e=true->e.on<j)(hconf:∀ i j oi oj fi fj,i<j->ops.toList[i]?=some oi->ops.toList[j]?=some oj->fs[i]?=some fi->fs[j]?=some fj->Ul oi oj fi fj=true->Anc ops.toList i j)(hst:∀ j o,ops.toList[j]?=some o->Ws P C nt ops o (Qq fs j) (hE ops.toList fs e0 (List.range j).reverse) (hS fs s0 (List.range j).reverse))(hnd:(YA fs).Nodup)(hfr:∀ n ∈ YA fs,¬ R n)(hq:∀ η a w,Conc C nt (fun i=>R i\/i ∈ YA fs) η (hE ops.toList fs e0 (List.range ops.size).reverse) (hS fs s0 (List.range ops.size).reverse) a w->Q .normal a w):
  ∀ (fuel:Nat) (listed:Array Bool) (h:List Nat) (η:Nat->Value) (a:Act) (w:World),listed.size=ops.size->(∀ i,i<ops.size->(listed.getD i false=true↔i ∈ h))->(∀ i ∈ h,i<ops.size)->Hist ops.toList h->ops.size<=fuel+h.length ->
   Conc C nt (fun i=>R i\/∃ j ∈ h,i ∈ (Qq fs j).news) η (hE ops.toList fs e0 h) (hS fs s0 h) a w->wpAny P .any ops Q fuel listed a w:=by
 have b:∀ {i:Nat},i<ops.size->∃ o,ops.toList[i]?=some o/\ops[i]?=some o:=fun {i} d=>⟨ops[i],by simp [d],by simp [d]⟩
 have a1:∀ {i:Nat},i<ops.size->fs[i]?=some (Qq fs i):=by
  intro i d;have:i<fs.length:=by rw [<-hlen];simpa using d
  simp [Qq,List.getD_eq_getElem?_getD,this]
 have hC:∀ i j oi oj,i<j->j<ops.size->ops.toList[i]?=some oi->ops.toList[j]?=some oj->Ul oi oj (Qq fs i) (Qq fs j)=true->Anc ops.toList i j:=by
  grind
 have F:∀ (K r:List Nat),Hist ops.toList K->Hist ops.toList r->(∀ i ∈ K,i<ops.size)->∀ t,(∀ j,j<ops.size->Vo ops.toList j=some t->(j ∈ K↔j ∈ r))->(∀ i ∈ r,i<ops.size)->hE ops.toList fs e0 K t=hE ops.toList fs e0 r t:=by
  intro K r H1 H2 q t hw c6;rw [Q0c,Q0c,Q0v (p:=Ut ops.toList t) H1 H2 ?_ ?_]
  .intro j k c1 b2 _ S O a5
   obtain ⟨oj,c,_⟩:=b (q j S);obtain ⟨ok,a8,_⟩:=b (q k b2)
   refine hC j k oj ok c1 (q k b2) c a8 ?_;simp [Ut,Vo,c] at O
   simp [Ut,Vo,a8] at a5
   simp [Ul,O,a5]
  .intro j hp
   have hd:Vo ops.toList j=some t:=by simpa [Ut] using hp
   grind
 have E:∀ (K r:List Nat),Hist ops.toList K->Hist ops.toList r->(∀ i ∈ K,i<ops.size)->∀ k,(∀ j,j<ops.size->Ja fs k j=true->(j ∈ K↔j ∈ r))->(∀ i ∈ r,i<ops.size)->hS fs s0 K k=hS fs s0 r k:=by
  intro K r H1 H2 q k hw c6;have V:∀ j,Ja fs k j=true->∃ o,(k,o) ∈ (Qq fs j).l:=by
   intro j g;simp only [Ja,Option.isSome_iff_exists] at g
   grind
  rw [Q0b,Q0b,Q0v (p:=Ja fs k) H1 H2 ?_ ?_]
  .intro i j b9 S _ c5 d0 O
   obtain ⟨oi,c4,_⟩:=b (q i c5);obtain ⟨oj,c,_⟩:=b (q j S)
   refine hC i j oi oj b9 (q j S) c4 c ?_;obtain ⟨u,hu⟩:=V i d0
   obtain ⟨v,hv⟩:=V j O;have:((Qq fs i).l.any fun p=>(Qq fs j).ids.contains p.1||(Qq fs j).l.any (·.1==p.1))=true:=by
    grind
   simp only [Ul,this,Bool.or_true,Bool.true_or]
  all_goals grind
 have A:∀ n,n<=ops.size->(∀ i ∈ (List.range n).reverse,i<ops.size):=by intro n hn i d;simp at d;omega
 have M:∀ (listed:Array Bool) (h:List Nat) (η:Nat->Value) (a:Act) (w:World),(∀ i ∈ h,i<ops.size)->Hist ops.toList h->(∀ i,i<ops.size->i ∈ h) ->
   Conc C nt (fun i=>R i\/∃ j ∈ h,i ∈ (Qq fs j).news) η (hE ops.toList fs e0 h) (hS fs s0 h) a w->Q .normal a w:=by
  intro listed h η a w N H B Y;have e1:hE ops.toList fs e0 h=hE ops.toList fs e0 (List.range ops.size).reverse:=
   funext fun t=>F _ _ H (HA hback _) N t (fun j g _=>⟨fun _=>by simp;exact g,fun _=>B j g⟩) (A _ (Nat.le_refl _))
  have e2:hS fs s0 h=hS fs s0 (List.range ops.size).reverse:=
   funext fun k=>E _ _ H (HA hback _) N k (fun j g _=>⟨fun _=>by simp;exact g,fun _=>B j g⟩) (A _ (Nat.le_refl _))
  rw [e1,e2] at Y;refine hq η a w (Y.wider fun i d=>?_)
  rcases d with d|⟨j,_,d⟩
  .exact .inl d
  .exact .inr (Q1a d)
 intro fuel
 induction fuel with
 | zero=>
  intro listed h η a w G hl N H hf Y;have B:∀ i,i<ops.size->i ∈ h:=by
   intro i d;rcases Classical.em (i ∈ h) with f|f
   .exact f
   .have:=Q9w ops.size (i::h) (List.nodup_cons.2 ⟨f,H.nd⟩) (fun x I=>by rcases List.mem_cons.1 I with rfl|I;exact d;exact N x I)
    grind
  refine ⟨?_,M listed h η a w N H B Y⟩;refine List.eq_nil_iff_forall_not_mem.2 fun i d=>?_
  obtain ⟨o,ho,r,_⟩:=(qH G i).1 d
  grind
 | succ fuel ih=>
  intro listed h η a w G hl N H hf Y;have a7:=Q9I G hl N
  refine ⟨fun d8=>?_,fun i d=>?_⟩
  .refine M listed h η a w N H (fun i d=>?_) Y
   induction i using Nat.strongRecOn with
   | _ i ihi=>
    rcases Classical.em (i ∈ h) with f|f
    .exact f
    .exfalso
     obtain ⟨o,ho,c2⟩:=b d;have:i ∈ Region.ready .any ops listed:=(qH G i).2 ⟨o,c2,by
      grind,fun e he a9=>(a7 e.on).2 (ihi e.on (hback i o e ho he a9) (by have:=hback i o e ho he a9;omega))⟩
     grind
  .obtain ⟨o,ho,r,h3⟩:=(qH G i).1 d
   have T : i<ops.size:=(Array.getElem?_eq_some_iff.1 ho).1;have f:i ∉ h:=fun hh=>by rw [(a7 i).2 hh] at r;cases r
   have J:ops.toList[i]?=some o:=by simpa using ho
   have Z : ∀ k z,Anc ops.toList k z->(z=i\/z ∈ h)->k ∈ h:=by
    intro k z D
    induction D with
    | edge j o' e g1 g2 g3=>
     intro hz;rcases hz with rfl|hz
     .grind
     .exact H.anc hz (.edge j o' e g1 g2 g3)
    | trans x y z _ _ ih1 ih2=>intro hz;exact ih1 (.inr (ih2 hz))
   have d5:∀ k,Anc ops.toList k i->k ∈ h:=fun k D=>Z k i D (.inl rfl)
   have e7:=a1 T;have c7 : Hist ops.toList (i::h):=by
    refine ⟨List.nodup_cons.2 ⟨f,H.nd⟩,fun l1 k l2 hh x I=>?_⟩
    cases l1 with
    | nil=>
     grind
    | cons y l1=>
     simp only [List.cons_append,List.cons.injEq] at hh;exact H.ord l1 k l2 hh.2 x I
   have b1:=A i (Nat.le_of_lt T);have b6:∀ t ∈ (Qq fs i).rd,hE ops.toList fs e0 h t=hE ops.toList fs e0 (List.range i).reverse t:=by
    intro t ht;refine F _ _ H (HA hback i) N t (fun j g hd=>?_) b1
    obtain ⟨oj,c,_⟩:=b g;have a4:oj.dst=some t:=by simpa [Vo,c] using hd
    rcases Nat.lt_trichotomy j i with m|rfl|m
    .have:=hC j i oj o m T c J (by simp [Ul,a4,ht])
     grind
    .grind
    .have:=hC i j o oj m g J c (by simp [Ul,a4,ht])
     grind
   have c9:∀ k ∈ (Qq fs i).ids,hS fs s0 h k=hS fs s0 (List.range i).reverse k:=by
    intro k D;refine E _ _ H (HA hback i) N k (fun j g hw=>?_) b1
    obtain ⟨oj,c,_⟩:=b g;simp only [Ja,Option.isSome_iff_exists] at hw
    obtain ⟨u,hu⟩:=hw;obtain ⟨l1,l2,c8,_⟩:=List.lookup_eq_some_iff.1 hu
    have W:(k,u) ∈ (Qq fs j).l:=by rw [c8];simp
    rcases Nat.lt_trichotomy j i with m|rfl|m
    .have I:((Qq fs j).l.any fun p=>(Qq fs i).ids.contains p.1||(Qq fs i).l.any (·.1==p.1))=true:=by
      rw [List.any_eq_true];exact ⟨_,W,by simp [D]⟩
     have:=hC j i oj o m T c J (by simp only [Ul,I,Bool.or_true,Bool.true_or])
     grind
    .grind
    .have I:((Qq fs j).l.any fun p=>(Qq fs i).ids.contains p.1)=true:=by
      rw [List.any_eq_true];exact ⟨_,W,by simp [D]⟩
     have:=hC i j o oj m g J c (by simp only [Ul,I,Bool.or_true])
     grind
   have U:∀ n ∈ (Qq fs i).news,¬ (R n\/∃ j ∈ h,n ∈ (Qq fs j).news):=by
    rintro n hn (I|⟨j,g,I⟩)
    .exact hfr n (Q1a hn) I
    .exact Q9F hnd (fun hh=>f (hh ▸ g):i≠j) hn I
   have c0:=hst i o J _ η _ _ a w b6 c9 U Y (wpAny P .any ops Q fuel (listed.setIfInBounds i true)) Q fun η' a' w' b7=>by
    refine ih (listed.setIfInBounds i true) (i::h) η' a' w' (by simp [G]) (fun k D=>?_) (fun k D=>?_) c7 (by simp;omega) ?_
    .have a6 : k<listed.size:=by omega
     by_cases hki:i=k
     .subst hki;simp [Array.getD,a6]
     .have:=hl k D
      simp [Array.getD,a6] at this ⊢
      grind
    .grind
    .have hd:Vo ops.toList i=o.dst:=by simp [Vo,J]
     simp only [hE,hS,hd];refine b7.wider fun k D=>?_
     rcases D with (D|⟨j,g,D⟩) | D
     all_goals grind
   simp only [wpOp,ho]
   grind
end
end
section
section
variable {L:Lay} {e e0:U3} {s s0:U5}
theorem Q8O{n:Nat}{x:AVal}(h:∀ i ∈ x.refs,s0 i=s i):rd s0 n x=rd s n x:=by
 unfold rd;split
 .rename_i b c;rw [h b (by simp [AVal.refs,TV.refs,CV.refs])]
 .rfl
 .rename_i b f d c;rw [h b (by simp [AVal.refs,TV.refs,CV.refs])]
 .rfl
theorem Q3d{xs:List CV}{x:AVal}(h:∀ i ∈ x.refs,s0 i=s i):wr s0 xs x=wr s xs x:=by
 unfold wr;split
 .rename_i b c;rw [h b (by simp [AVal.refs,TV.refs,CV.refs])]
 .rename_i b f d c;rw [h b (by simp [AVal.refs,TV.refs,CV.refs])]
 .rfl
theorem vh{x:AVal}(h:∀ i ∈ x.refs,s0 i=s i):Vt s0 x=Vt s x:=by
 unfold Vt;split
 .rfl
 .rfl
 .rename_i b;rw [h b (by simp [AVal.refs,TV.refs,CV.refs])]
 .rename_i b c d n;rw [h b (by simp [AVal.refs,TV.refs,CV.refs])]
 .rfl
theorem Z3l{x:AVal}{es m:Nat}(h:∀ i ∈ x.refs,s0 i=s i):UR s0 es m x=UR s es m x:=by
 unfold UR;split
 .rename_i b;rw [h b (by simp [AVal.refs,TV.refs,CV.refs])]
 .rfl
 .rfl
theorem Z3B{b:Builtin}{tys:Array TypeId}{xs:List AVal}(h:∀ x ∈ xs,∀ i ∈ x.refs,s0 i=s i):JV L s0 b tys xs=JV L s b tys xs:=by
 unfold JV;split
 .rename_i x
  rw [vh (h x (by simp))]
 .rfl
 .rfl
 .rename_i x y
  rw [vh (h y (by simp))];simp only [Z3l (h x (by simp))]
 .rfl
theorem Sz{x:Option Operand}(h:∀ y,x=some y->Y2 e0 y=Y2 e y):oI e0 x=oI e x:=by
 cases x with
 | none=>rfl
 | some y=>simp only [oI,h y rfl]
theorem Q2g(m:Bool)(o:Oper)(he:∀ x ∈ o.op.operands.toList,Y2 e0 x=Y2 e x)(hs:∀ x ∈ o.op.operands.toList,∀ i ∈ (Y2 e x).refs,s0 i=s i):Zk L m e0 s0 o=Zk L m e s o:=by
 have g:∀ (v:Array Operand),(∀ x ∈ v.toList,Y2 e0 x=Y2 e x)->v.toList.map (Y2 e0)=v.toList.map (Y2 e):=fun v h=>List.map_congr_left h
 unfold Zk
 cases ho:o.op <;> simp only [ho,Op.operands] at he hs <;> try rfl
 case move x=>simp only [he x (by simp)]
 case assign x=>simp only [he x (by simp)]
 case pick c a b=>simp only [he c (by simp),he a (by simp),he b (by simp)]
 case box t x=>simp only [he x (by simp)]
 case build t ps=>
  have:ps.toList.map (fun p=>(p.1,Y2 e0 p.2))=ps.toList.map (fun p=>(p.1,Y2 e p.2)):=List.map_congr_left fun p E=>by rw [he p.2 (by simp;exact ⟨p.1,by simpa using E⟩)]
  simp only [this]
 case buildSlice t n ps=>
  have:ps.toList.map (fun p=>(p.1,Y2 e0 p.2))=ps.toList.map (fun p=>(p.1,Y2 e p.2)):=List.map_congr_left fun p E=>by rw [he p.2 (by simp;exact ⟨p.1,by simpa using E⟩)]
  simp only [this]
 case load t x=>simp only [he x (by simp),Q8O (hs x (by simp))]
 case store t x y=>simp only [he x (by simp),he y (by simp),Q3d (hs x (by simp))]
 case nilCheck x=>simp only [he x (by simp)]
 case binOp op t x y t'=>simp only [he x (by simp),he y (by simp)]
 case unOp op t x=>simp only [he x (by simp)]
 case convert src dst x=>simp only [he x (by simp)]
 case makeFunc fn first caps=>
  cases fn <;> try rfl
  simp only [g caps (fun x j=>he x (by simp;exact .inr (by simpa using j)))]
 case makeSlice t l c=>simp only [he l (by simp),he c (by simp)]
 case slice t x lo hi mx=>
  have j:=he x (by simp);have A:oI e0 lo=oI e lo:=Sz fun y B=>he y (by subst B;simp)
  have D:oI e0 hi=oI e hi:=Sz fun y B=>he y (by subst B;simp)
  have f:=hs x (by simp)
  cases mx with
  | none=>
   simp only [j,A,D];split
   .split
    .split <;> try rfl
     rename_i F u q _ _
     rw [q] at f;simp only [f F (by simp [AVal.refs,TV.refs,CV.refs])]
    .rfl
   .rfl
  | some mx=>
   cases lo with
   | some lo=>rfl
   | none=>
    cases hi with
    | none=>rfl
    | some hi=>simp only [j,he hi (by simp),he mx (by simp)]
 case fieldAddr t x k=>simp only [he x (by simp)]
 case field t x k=>simp only [he x (by simp)]
 case indexAddr t x i=>
  have f:=hs x (by simp);simp only [he x (by simp),he i (by simp)]
  split
  .split
   .split
    .rename_i F q
     rw [q] at f;simp only [f F (by simp [AVal.refs,TV.refs,CV.refs])]
    .rfl
   .rfl
  .rfl
  .rfl
 case index t x i=>simp only [he x (by simp),he i (by simp)]
 case extract x k=>simp only [he x (by simp)]
 case call c=>
  obtain ⟨z,d,r⟩:=c
  cases z <;> try rfl
  rename_i b
  simp only [Call.operands] at he hs;have G:d.toList.map (Y2 e0)=d.toList.map (Y2 e):=g d (fun x j=>he x (by simpa using j))
  have H:JV L s0 b r (d.toList.map (Y2 e))=JV L s b r (d.toList.map (Y2 e)):=Z3B fun x j=>by
   grind
  simp only [G,H]
end
end
section
def XG:AVal->Bool
 | .v (.c (.pte _ _ _ _))=>true
 | _=>false
def Gc(e:U3)(o:Oper):Bool:=
 match o.op with
 | .binOp op _ _ _ _=>match op with
  | .add | .sub | .mul | .quo | .rem | .shl | .shr=>true
  | _=>false
 | .unOp op _ _=>match op with
  | .neg=>true
  | _=>false
 | .convert _ _ _=>true
 | .load _ x=>XG (Y2 e x)
 | .store _ x _=>XG (Y2 e x)
 | .slice _ _ _ _ _=>true
 | .indexAddr _ _ _=>true
 | .makeSlice _ _ _=>true
 | .call { callee:=.builtin .append,.. }=>true
 | _=>false
theorem Z1h{L:Lay}{m:Bool}{e:U3}{s:U5}{o:Oper}{r:SR}(h:Gc e o=false)(hr:Zk L m e s o=some r):r.cond:=by
 unfold Gc at h;unfold Zk at hr
 split at hr
 case h_1=>cases hr;trivial
 case h_2=>
  split at hr
  .cases hr;trivial
  .split at hr
   .split at hr
    .cases hr;trivial
    .cases hr
   .cases hr
  .cases hr
 case h_3=>split at hr <;> first | (cases hr;done) | (cases hr;trivial)
 case h_4=>split at hr <;> first | (cases hr;done) | (cases hr;trivial)
 case h_5=>split at hr <;> first | (cases hr;done) | (cases hr;trivial)
 case h_6=>
  split at hr
  .split at hr
   .split at hr <;> first | (cases hr;done) | (cases hr;trivial)
   .cases hr
  .split at hr
   .split at hr <;> first | (cases hr;done) | (cases hr;trivial)
   .cases hr
  .cases hr
 case h_7=>
  split at hr
  .split at hr
   .split at hr
    .split at hr
     .split at hr
      .split at hr <;> first | (cases hr;done) | (cases hr;trivial)
      .cases hr
     .cases hr
    .cases hr
   .cases hr
  .cases hr
 case h_8 t x hop=>
  rw [hop] at h;simp only at h
  split at hr
  .split at hr
   .rename_i k c g
    split at hr
    .cases hr
     unfold rd at g;split at g
     .split at g
      .split at g <;> first | (cases g;done) | (cases g;trivial)
      .cases g
     .split at g <;> first | (cases g;done) | (cases g;trivial)
     .rename_i i;rw [i] at h;simp [XG] at h
     .cases g
    .cases hr
   .cases hr
  .cases hr
 case h_9 t x y hop=>
  rw [hop] at h;simp only at h
  split at hr
  .split at hr
   .unfold wr at hr
    split at hr
    .split at hr
     .split at hr <;> first | (cases hr;done) | (cases hr;trivial)
     .cases hr
    .rename_i i;rw [i] at h;simp [XG] at h
    .cases hr
   .cases hr
  .cases hr
 case h_10=>split at hr <;> first | (cases hr;done) | (cases hr;trivial)
 case h_11 op t x y t' hop=>
  rw [hop] at h;unfold Gw at hr
  split at hr
  .split at hr
   .simp at h
   .simp at h
   .split at hr
    .split at hr <;> first | (cases hr;done) | (simp at h;done) | (cases hr;trivial)
    .cases hr
  .cases hr
 case h_12 op t x hop=>
  rw [hop] at h;unfold Cy at hr
  split at hr
  .cases hr;trivial
  .simp at h
  .cases hr
 case h_13 hop=>rw [hop] at h;simp at h
 case h_14=>
  split at hr
  .split at hr <;> first | (cases hr;done) | (cases hr;trivial)
  .cases hr
 case h_15 hop=>rw [hop] at h;simp at h
 case h_16 hop=>rw [hop] at h;simp at h
 case h_17=>
  split at hr
  .split at hr
   .split at hr
    .split at hr
     .cases hr
     .split at hr
      .cases hr;trivial
      .cases hr;trivial
      .split at hr <;> first | (cases hr;done) | (cases hr;trivial)
      .cases hr
    .cases hr
   .cases hr
  .cases hr
 case h_18=>
  split at hr
  .split at hr
   .split at hr
    .split at hr
     .split at hr <;> first | (cases hr;done) | (cases hr;trivial)
     .cases hr
    .cases hr
   .cases hr
  .cases hr
 case h_19 hop=>rw [hop] at h;simp at h
 case h_20=>
  split at hr
  .split at hr
   .split at hr
    .split at hr <;> first | (cases hr;done) | (cases hr;trivial)
    .cases hr
   .cases hr
  .cases hr
 case h_21 hop=>rw [hop] at h;simp at h
 case h_22=>
  split at hr
  .split at hr <;> first | (cases hr;done) | (cases hr;trivial)
  .cases hr
 case h_23 b args tys hop=>
  rw [hop] at h;split at hr
  .rename_i j d f
   unfold JV at f;split at f
   .split at f
    .split at f
     .split at f
      .cases f;simp only at hr;cases hr;trivial
      .cases f
     .cases f;simp only at hr;cases hr;trivial
     .split at f
      .cases f;simp only at hr;cases hr;trivial
      .cases f
     .cases f
    .cases f
   .cases f;simp only at hr;cases hr;trivial
   .cases f;simp only at hr;cases hr;trivial
   .simp at h
   .cases f
  .cases hr
 case h_24=>cases hr
inductive Dir where
 | s
 | m
 | w (v:AVal)
 | k (f:Array Oper->Oper->U3->Eff)
def QC(o:Oper):List Nat:=o.op.operands.toList.filterMap fun | .tmp t=>some t|_=>none
def WA(e:U3)(o:Oper):List Nat:=o.op.operands.toList.flatMap fun x=>(Y2 e x).refs
def Qp(ops:Array Oper)(o:Oper):List Nat:=
 match o.guard with
 | some (j,_)=>((ops[j]?).bind (·.dst)).toList
 | none=>[]
def QY(ops:Array Oper)(e:U3)(o:Oper):Option Bool:=
 match o.guard with
 | none=>some true
 | some (j,want)=>match (ops[j]?).bind (·.dst) with
  | some d=>match e d with
   | .v (.c (.d (.bool b)))=>some (b==want)
   | .t []=>some false
   | _=>none
  | none=>none
def SR.l(r:SR)(d:Option Tmp):List (Nat×Option Obj):=
 (match r.new,d with|some o,some d=>[(d,some o)] | _,_=>[])++((match r.upd with|some (k,o)=>[(k,some o)] | none=>[])++r.del.map fun i=>(i,none))
def SR.nw(r:SR)(d:Option Tmp):List Nat:=match r.new,d with|some _,some d=>[d] | _,_=>[]
def DS(ops:Array Oper)(o:Oper)(e:U3)(r:SR)(v:AVal):Eff:= { rd:=QC o++Qp ops o,ids:=WA e o,v:=v,l:=r.l o.dst,news:=r.nw o.dst }
def Hd(o:Oper):Bool:=match o.op with
 | .move _ | .assign _ | .pick _ _ _ | .extract _ _ | .field _ _ _=>true
 | _=>false
def Gi(ops:Array Oper)(o:Oper)(e:U3)(r:SR)(v:AVal):Eff:= { rd:=QC o++Qp ops o,ids:=if Hd o then [] else WA e o,v:=v,l:=r.l o.dst,news:=r.nw o.dst }
def Cl(ops:Array Oper)(o:Oper):Eff:= { rd:=Qp ops o,ids:=[],v:=.t [],l:=[],news:=[] }
def WJ(L:Lay)(ops:Array Oper)(o:Oper)(d:Dir)(e:U3)(s:U5):Eff:=
 match QY ops e o,d with
 | _,.k f=>f ops o e
 | some true,.s=>match Zk L false e s o with|some r=>Gi ops o e r r.v|none=>default
 | some true,.m=>match Zk L true e s o with|some r=>Gi ops o e r r.v|none=>default
 | some true,.w v=>match Zk L false e s o with|some r=>Gi ops o e r v|none=>default
 | _,_=>Cl ops o
def Y3(x y:AVal):Prop:=(∀ w X η C v,ARep w X η C v x->ARep w X η C v y)/\∀ i ∈ y.refs,i ∈ x.refs
def Hp(b:Bool)(c rest:Prop):Prop:=match b with|true=>c/\rest|false=>rest
def xJ(P:Program)(C:Ctx)(nt:Nat)(L:Lay)(ops:Array Oper)(o:Oper)(d:Dir)(e:U3)(s:U5)(rest:Prop):Prop:=
 match QY ops e o,d with
 | _,.k f=>Ws P C nt ops o (f ops o e) e s/\rest
 | some true,.s=>match Zk L false e s o with|some r=>Hp (Gc e o) r.cond rest|none=>False
 | some true,.m=>match Zk L true e s o with|some r=>Hp (Gc e o) r.cond rest|none=>False
 | some true,.w v=>match Zk L false e s o with|some r=>Hp (Gc e o) r.cond (Y3 r.v v/\rest) | none=>False
 | some false,.s=>rest
 | _,_=>False
def QJ(nt:Nat)(o:Oper):Bool:=
 (match o.dst with|some d=>decide (d<nt) | none=>true)&&(match o.op with | .store _ _ _=>o.dst.isNone|_=>true)
section
variable (P:Program) (C:Ctx) (nt:Nat) (L:Lay) (ops:Array Oper)
def Vu:List Oper->List Dir->U3->U5->List Eff
 | o::os,d::ds,e,s=>let f:=WJ L ops o d e s;f::Vu os ds (Zu o.dst f.v e) (Zy f.l s)
 | _,_,_,_=>[]
def JT:List Oper->List Dir->U3->U5->Prop
 | o::os,d::ds,e,s=>xJ P C nt L ops o d e s (JT os ds (Zu o.dst (WJ L ops o d e s).v e) (Zy (WJ L ops o d e s).l s))
 | [],[],_,_=>True
 | _,_,_,_=>False
end
theorem FM(r:SR)(d:Option Tmp)(s:U5):Zy (r.l d) s=r.sto d s:=by
 have c:∀ (l:List Nat) (i:Nat),(l.map fun i=>(i,(none:Option Obj))).lookup i=if l.contains i then some none else none:=by
  intro l i
  induction l with
  | nil=>rfl
  | cons x l ih=>
   simp only [List.map_cons,List.lookup_cons,List.contains_cons]
   by_cases hx:i=x
   .subst hx;simp
   .have:(i==x)=false:=by simpa using hx
    simp only [this,Bool.false_or];exact ih
 funext i
 unfold Zy SR.sto SR.l;rw [List.lookup_append,List.lookup_append,c]
 cases hn:r.new with
 | none=>
  cases hu:r.upd with
  | none=>by_cases hc:i ∈ r.del <;> simp [hc]
  | some ko=>
   obtain ⟨k,o⟩:=ko
   by_cases hk:i=k
   .subst hk;simp
   .have:(i==k)=false:=by simpa using hk
    by_cases hc:i ∈ r.del <;> simp [List.lookup_cons,this,hk,hc]
 | some o=>
  cases d with
  | none=>
   cases hu:r.upd with
   | none=>by_cases hc:i ∈ r.del <;> simp [hc]
   | some ko=>
    obtain ⟨k,o⟩:=ko
    by_cases hk:i=k
    .subst hk;simp
    .have:(i==k)=false:=by simpa using hk
     by_cases hc:i ∈ r.del <;> simp [List.lookup_cons,this,hk,hc]
  | some d=>
   by_cases hd:i=d
   .subst hd;simp
   .have b:(i==d)=false:=by simpa using hd
    cases hu:r.upd with
    | none=>by_cases hc:i ∈ r.del <;> simp [List.lookup_cons,b,hd,hc]
    | some ko=>
     obtain ⟨k,o⟩:=ko
     by_cases hk:i=k
     .subst hk;simp [List.lookup_cons,b,hd]
     .have:(i==k)=false:=by simpa using hk
      by_cases hc:i ∈ r.del <;> simp [List.lookup_cons,b,hd,this,hk,hc]
theorem FN(r:SR)(d:Option Tmp)(R:Nat->Prop):∀ i,r.rng d R i->R i\/i ∈ r.nw d:=by
 intro i b;rcases b with b|⟨g,f⟩
 .exact .inl b
 .right
  obtain ⟨o,c⟩:=Option.ne_none_iff_exists'.1 g;simp [SR.nw,c,f]
section
variable {P:Program} {C:Ctx} {nt:Nat} {L:Lay} {ops:Array Oper}
theorem Q3l{w:World}{X:Nat->Prop}{η:Nat->Value}{C:Ctx}{v:Value}(h:ARep w X η C v (.t [])):v=.tuple #[]:=by
 cases h with|t us _ h _=>exact congrArg Value.tuple (Array.size_eq_zero_iff.1 h)
theorem Uv{R:Nat->Prop}{η:Nat->Value}{e e0:U3}{s:U5}{a:Act}{w:World}(h:Conc C nt R η e0 s a w){o:Oper}(hg:∀ t ∈ Qp ops o,e0 t=e t){b:Bool}(hb:QY ops e o=some b):
  Region.wanted o (yielded ops a.tmps)=b:=by
 unfold QY at hb;unfold Region.wanted
 split at hb
 .rename_i c;rw [c];cases hb;rfl
 .rename_i j g c
  rw [c];split at hb
  .rename_i d p
   split at hb
   .rename_i r i
    cases hb
    have v:e0 d=e d:=hg d (by simp [Qp,c,p]);have k:=h.ev d
    rw [v,i] at k;have ev:=Cw k
    have n:d<a.tmps.size:=by
     rcases Nat.lt_or_ge d a.tmps.size with f|f
     .exact f
     .simp [f,undef] at ev
    have m:a.tmps[d]?=some (.bool r):=by
     rw [Array.getElem?_eq_getElem n];simpa [n] using ev
    have u:yielded ops a.tmps j=some r:=by
     unfold yielded;rw [p];simp only [Option.bind_some,m]
    simp only [u]
    cases r <;> cases g <;> rfl
   .rename_i i
    cases hb
    have v:e0 d=e d:=hg d (by simp [Qp,c,p]);have k:=h.ev d
    rw [v,i] at k;have ev:=Q3l k
    have u:yielded ops a.tmps j=none:=by
     unfold yielded;rw [p];simp only [Option.bind_some]
     rcases Nat.lt_or_ge d a.tmps.size with f|f
     .rw [Array.getElem?_eq_getElem f]
      have q : a.tmps[d]=.tuple #[]:=by simpa [f,Array.getD] using ev
      rw [q]
     .rw [Array.getElem?_eq_none f]
    simp only [u]
    cases g <;> rfl
   .cases hb
  .cases hb
theorem Z3s{e e0:U3}{s s0:U5}(m:Bool)(o:Oper)(he:∀ x ∈ o.op.operands.toList,Y2 e0 x=Y2 e x)(ha:Hd o=true):Zk L m e0 s0 o=Zk L m e s o:=by
 unfold Hd at ha;unfold Zk
 cases ho:o.op <;> simp only [ho,Op.operands] at he ha <;> first | (cases ha;done) | skip
 case move x=>simp only [he x (by simp)]
 case assign x=>simp only [he x (by simp)]
 case pick c a b=>simp only [he c (by simp),he a (by simp),he b (by simp)]
 case field t x k=>simp only [he x (by simp)]
 case extract x k=>simp only [he x (by simp)]
theorem FL(hL:Qa P L){o:Oper}(hdo:QJ nt o=true){m:Bool}{e:U3}{s:U5}{r:SR}(hr:Zk L m e s o=some r)(hc:r.cond)(hg:QY ops e o=some true){v:AVal}(hv:Y3 r.v v):
  Ws P C nt ops o (Gi ops o e r v) e s:=by
 intro R η e0 s0 a w z q I h K Q O;have k:∀ x ∈ o.op.operands.toList,Y2 e0 x=Y2 e x:=by
  intro x k
  cases x with
  | tmp t=>exact z t (List.mem_append.2 (.inl (List.mem_filterMap.2 ⟨_,k,rfl⟩)))
  | const v=>rfl
  | global g=>rfl
  | func f=>rfl
 have D:Zk L m e0 s0 o=some r:=by
  rcases Bool.eq_false_or_eq_true (Hd o) with E|E
  .rw [Z3s m o k E];exact hr
  .have F:∀ x ∈ o.op.operands.toList,∀ i ∈ (Y2 e x).refs,s0 i=s i:=fun x k i j=>q i (by
    show i ∈ if Hd o=true then [] else WA e o;rw [E];exact List.mem_flatMap.2 ⟨x,k,j⟩)
   rw [Q2g m o k F];exact hr
 have B:∀ x,o.dst=some x->x<nt:=by
  intro x k;simp only [QJ,k,Bool.and_eq_true,decide_eq_true_eq] at hdo
  exact hdo.1
 have G:∀ t x y,o.op=.store t x y->o.dst=none:=by
  intro t x y H;simp only [QJ,H,Bool.and_eq_true] at hdo
  simpa using hdo.2
 have T:=Uv (e:=e) h (fun t S=>z t (List.mem_append.2 (.inr S))) hg;rw [if_pos T]
 have u:=Q2f hL h m o B D hc (fun d n M=>I d (by
  obtain ⟨U,J⟩:=Option.ne_none_iff_exists'.1 M;simp [Gi,SR.nw,J,n])) G
 refine u.wp fun η' N w' A=>O η' N w' ?_
 have b:=A.wider (FN r o.dst R);have p:Zy (Gi ops o e r v).l s0=r.sto o.dst s0:=FM r o.dst s0
 rw [p];have M:(Gi ops o e r v).news=r.nw o.dst:=rfl
 rw [M];refine ⟨b.ok,b.df,b.sz,fun t=>?_,fun t i j=>?_,b.st,b.sr,b.ds,b.ow,b.fr,b.pn⟩
 .have c:=b.ev t
  unfold Zu;unfold SR.env at c
  cases n:o.dst with
  | none=>rw [n] at c;exact c
  | some d=>
   rw [n] at c;simp only at c ⊢
   by_cases htd:t=d
   .rw [if_pos htd] at c ⊢;exact hv.1 _ _ _ _ _ c
   .rw [if_neg htd] at c ⊢;exact c
 .have c:=b.er t
  unfold Zu at j;unfold SR.env at c
  cases n:o.dst with
  | none=>rw [n] at c j;exact c i j
  | some d=>
   rw [n] at c j;simp only at c j
   by_cases htd:t=d
   .rw [if_pos htd] at c j;exact c i (hv.2 i j)
   .rw [if_neg htd] at c j;exact c i j
theorem Y3.refl(x:AVal):Y3 x x:=⟨fun _ _ _ _ _ h=>h,fun _ h=>h⟩
theorem Q4d{o:Oper}(hdo:QJ nt o=true){e:U3}{s:U5}(hg:QY ops e o=some false):Ws P C nt ops o (Cl ops o) e s:=by
 intro R η e0 s0 a w c f p b K Q h;have q:=Uv (e:=e) b (fun t m=>c t m) hg
 rw [if_neg (by rw [q];simp)];refine h η _ w ?_
 have d:∀ x,o.dst=some x->x<nt:=by
  intro x g;simp only [QJ,g,Bool.and_eq_true,decide_eq_true_eq] at hdo
  exact hdo.1
 have:=b.val o.dst d (.t []) undef fun _=>⟨.t #[] [] rfl (fun j k=>absurd k (Nat.not_lt_zero j)),by simp [AVal.refs]⟩
 have r:Zy (Cl ops o).l s0=s0:=by funext i;rfl
 rw [r];have n:Zu o.dst (Cl ops o).v e0=SR.env { v:=.t [] } o.dst e0:=rfl
 rw [n];exact this.wider fun i u=>.inl u
theorem Z3m(hL:Qa P L):∀ (os:List Oper) (ds:List Dir) (e:U3) (s:U5),(os.all (QJ nt))=true->JT P C nt L ops os ds e s->Hg P C nt ops os (Vu L ops os ds e s) e s:=by
 intro os
 induction os with
 | nil=>
  intro ds e s _ h
  cases ds with
  | nil=>trivial
  | cons d ds=>exact h.elim
 | cons o os ih=>
  intro ds e s j h
  cases ds with
  | nil=>exact h.elim
  | cons d ds=>
   simp only [List.all_cons,Bool.and_eq_true] at j;simp only [JT] at h
   simp only [Vu,Hg];have q:Ws P C nt ops o (WJ L ops o d e s) e s/\JT P C nt L ops os ds (Zu o.dst (WJ L ops o d e s).v e) (Zy (WJ L ops o d e s).l s):=by
    generalize hrest:JT P C nt L ops os ds (Zu o.dst (WJ L ops o d e s).v e) (Zy (WJ L ops o d e s).l s)=f at h;have i:∀ {b:Bool} {c f:Prop},Hp b c f->f:=by
     intro b c f p;cases b <;> first|exact p.2|exact p
    have g:∀ {m:Bool} {r:SR} {f:Prop},Zk L m e s o=some r->Hp (Gc e o) r.cond f->r.cond:=by
     intro m r f n p
     cases hb:Gc e o with
     | true=>rw [hb] at p;exact p.1
     | false=>exact Z1h hb n
    unfold xJ at h;unfold WJ
    split at h
    .exact ⟨by split <;> first|exact h.1|contradiction | (rename_i u t;cases t;exact h.1),h.2⟩
    .rename_i k
     split at h
     .rename_i r n
      simp only [k];exact ⟨FL hL j.1 n (g n h) k (Y3.refl _),i h⟩
     .exact h.elim
    .rename_i k
     split at h
     .rename_i r n
      simp only [k];exact ⟨FL hL j.1 n (g n h) k (Y3.refl _),i h⟩
     .exact h.elim
    .rename_i v k
     split at h
     .rename_i r n
      simp only [k];exact ⟨FL hL j.1 n (g n h) k (i h).1,(i h).2⟩
     .exact h.elim
    .rename_i k
     simp only [k];exact ⟨Q4d j.1 k,h⟩
    .exact h.elim
   exact ⟨q.1,ih ds _ _ j.2 q.2⟩
end
end
section
def lk(E:List (Nat×AVal)):U3:=fun t=>(E.lookup t).getD .any
def ls(S:List (Nat×Obj)):U5:=fun i=>S.lookup i
def Xf(E:List (Nat×AVal))(S:List (Nat×Obj)):List Nat:=E.flatMap (fun p=>p.2.refs)++S.flatMap fun p=>p.1::p.2.refs
def J1(o o' : Obj):Prop:=(∀ w X η C v,ORep w X η C v o->ORep w X η C v o')/\o'.ro=o.ro/\∀ i ∈ o'.refs,i ∈ o.refs
theorem J1.refl(o:Obj):J1 o o:=⟨fun _ _ _ _ _ h=>h,rfl,fun _ h=>h⟩
theorem Y3.any(x:AVal):Y3 x .any:=⟨fun _ _ _ _ v _=>.any v,fun _ h=>by cases h⟩
theorem Y3.of_eq{x y:AVal}(h:x=y):Y3 x y:=h ▸ Y3.refl x
def CV.ren(ρ:Nat->Nat):CV->CV
  | .own i=>.own (ρ i)
  | .ptr i o=>.ptr (ρ i) o
  | .pte i es ix o=>.pte (ρ i) es ix o
  | .sub i es lo n=>.sub (ρ i) es lo n
  | .clo f ids=>.clo f (ids.map ρ)
  | .ap i=>.ap (ρ i)
  | .cp i j=>.cp (ρ i) j
  | x=>x
def TV.ren(ρ:Nat->Nat):TV->TV
  | .c x=>.c (x.ren ρ)
  | .g xs=>.g (xs.map (CV.ren ρ))
def AVal.ren(ρ:Nat->Nat):AVal->AVal
  | .any=>.any
  | .v x=>.v (x.ren ρ)
  | .t xs=>.t (xs.map (TV.ren ρ))
def Obj.ren(ρ:Nat->Nat):Obj->Obj
  | .box ro cs=>.box ro (cs.map (CV.ren ρ))
  | .exr refs p=>.exr (refs.map ρ) p
  | o=>o
section
variable {w:World} {X:Nat->Prop} {η:Nat->Value} {C:Ctx} {ρ:Nat->Nat}
theorem CRep.unren{v:Value}{x:CV}(h:CRep w X η C v (x.ren ρ)):CRep w X (fun i=>η (ρ i)) C v x:=by
  cases x with
  | d x=>cases h with|d _ _ h=>exact .d _ _ h
  | fl n f=>cases h with|fl _ _ _ h=>exact .fl _ _ _ h
  | own i=>cases h with|own _ _ h h1=>exact .own _ i h h1
  | ptr i o=>cases h with|ptr _ _ _ h=>exact .ptr _ i o h
  | pte i es ix o=>cases h with|pte _ _ _ _ _ _ _ h=>exact .pte _ _ _ i es ix o h
  | sub i es lo n=>cases h with
    | sub b N cap _ _ _ _ h h1 h2=>exact .sub b N cap i es lo n h h1 h2
    | subN ad ad' _ _ _ h=>exact .subN ad ad' _ i es h
  | elm cs=>cases h with|elm _ _ _ _ _ _ h1 h2 h3 h4=>exact .elm _ _ _ _ _ _ h1 h2 h3 h4
  | clo f ids=>cases h with|clo _ _ _ h=>exact .clo f ids _ (by rw [h,List.map_map];rfl)
  | sem p=>cases h with|sem _ _ h h1=>exact .sem _ _ h h1
  | ap i=>cases h with|ap _ _ h h1=>exact .ap _ i h h1
  | bnd f cs=>cases h with|bnd _ _ _ h1 h2=>exact .bnd _ _ _ h1 h2
  | cp i j=>cases h with|cp _ _ _ _ h h1 h2=>exact .cp _ i j _ h h1 h2
theorem y8.unren{vs:Array Value}{cs:List CV}(h:y8 w X η C vs (cs.map (CV.ren ρ))):y8 w X (fun i=>η (ρ i)) C vs cs:=by
  refine ⟨by simpa using h.1,fun j b=>CRep.unren (ρ:=ρ) ?_⟩;have:=h.2 j (by simpa using b)
  grind
theorem TRep.unren{v:Value}{x:TV}(h:TRep w X η C v (x.ren ρ)):TRep w X (fun i=>η (ρ i)) C v x:=by
  cases x with
  | c x=>cases h with|c _ _ h=>exact .c _ _ h.unren
  | g xs=>cases h with|g _ _ h=>exact .g _ _ h.unren
theorem ARep.unren{v:Value}{x:AVal}(h:ARep w X η C v (x.ren ρ)):ARep w X (fun i=>η (ρ i)) C v x:=by
  cases x with
  | any=>exact .any v
  | v x=>cases h with|v _ _ h=>exact .v _ _ h.unren
  | t xs=>
    cases h with
    | t us _ h1 h2=>
      refine .t us xs (by simpa using h1) fun j b=>TRep.unren (ρ:=ρ) ?_
      grind
theorem ORep.unren{v:Value}{o:Obj}(h:ORep w X η C v (o.ren ρ)):ORep w X (fun i=>η (ρ i)) C v o:=by
  cases o with
  | box ro cs=>cases h with|box b _ c e _ h1 h2=>exact .box b ro c e cs h1 h2.unren
  | arr es n f=>
    cases h with
    | nil ad _ _=>exact .nil ad _ _
    | arr b _ cap _ c e _ h1 h2 h3 h4 h5 h6 h7=>exact .arr b _ cap _ c e _ h1 h2 h3 h4 h5 h6 h7
  | ext p=>cases h with|ext _ _ h1 h2 h3=>exact .ext _ _ h1 h2 h3
  | exr refs p=>
    cases h with|exr _ _ _ h1 h2 h3=>
    rw [List.map_map] at h1 h2;exact .exr _ refs p h1 h2 h3
theorem CD(o:Obj):(o.ren ρ).ro=o.ro:=by cases o <;> rfl
theorem Conc.conv{nt:Nat}{R R' : Nat->Prop}{e e' : U3}{s s' : U5}{a:Act}(h:Conc C nt R η e s a w)(ρ:Nat->Nat)(he:∀ t,Y3 (e t) ((e' t).ren ρ))(hs:∀ i o',s' i=some o' -> ∃ o,s (ρ i)=some o/\J1 o (o'.ren ρ))(hinj:∀ i j,s' i≠none->s' j≠none->ρ i=ρ j->i=j)(hR:∀ t i,i ∈ (e' t).refs->R' i)(hR2:∀ i o',s' i=some o' -> R' i/\∀ j ∈ o'.refs,R' j)(hpin:∀ i,C.pin i≠none->ρ i=i/\R' i):
    Conc C nt R' (fun i=>η (ρ i)) e' s' a w:=by
  have x:QR w w (XS C s η) (XS C s' fun i=>η (ρ i)):=by
    intro b y H;refine ⟨rfl,fun p=>H ?_⟩
    rcases p with z|⟨i,o',c,m⟩
    . exact .inl z
    . obtain ⟨o,f,_⟩:=hs i o' c
      exact .inr ⟨ρ i,o,f,m⟩
  refine ⟨h.ok,h.df,h.sz,fun t=>?_,hR,fun i o' c=>?_,hR2,fun i j b c u q r=>?_,fun i o' b c y=>?_,h.fr,fun i v c=>?_⟩
  . exact ARep.unren (((he t).1 _ _ _ _ _ (h.ev t)).mono x (fun _ _=>rfl))
  . obtain ⟨o,f,d⟩:=hs i o' c
    exact ORep.unren ((d.1 _ _ _ _ _ (h.st _ o f)).mono x (fun _ _=>rfl) (fun _ _=>rfl))
  . obtain ⟨D,k⟩:=Option.ne_none_iff_exists'.1 c
    obtain ⟨E,n⟩:=Option.ne_none_iff_exists'.1 u;obtain ⟨B,A,_⟩:=hs i D k
    obtain ⟨F,G,_⟩:=hs j E n;exact hinj i j c u (h.ds _ _ b (by rw [A];simp) (by rw [G];simp) q r)
  . obtain ⟨o,f,d⟩:=hs i o' c
    have:=h.ow _ o b f y
    have g:o'.ro=o.ro:=by rw [<-d.2.1,CD]
    rw [g];exact this
  . have:=hpin i (by rw [c];simp)
    exact ⟨by show η (ρ i)=v;rw [this.1];exact (h.pn i v c).1,this.2⟩
end
def U9(l:List (Nat×Nat))(i:Nat):Nat:=(l.lookup i).getD i
theorem Xv{E:List (Nat×AVal)}{t:Nat}:lk E t=.any\/(t,lk E t) ∈ E:=by
  unfold lk
  cases h:E.lookup t with
  | none=>exact .inl rfl
  | some x=>
    right
    obtain ⟨c,d,b,_⟩:=List.lookup_eq_some_iff.1 h;rw [b];simp
theorem y6{S:List (Nat×Obj)}{i:Nat}{o:Obj}(h:ls S i=some o):(i,o) ∈ S:=by
  obtain ⟨c,d,b,_⟩:=List.lookup_eq_some_iff.1 h;rw [b];simp
def ZV:List Nat->Bool
  | []=>true
  | x::r=> !r.contains x&&ZV r
theorem Ub{l:List Nat}(h:ZV l=true):l.Nodup:=by
  induction l with
  | nil=>exact List.nodup_nil
  | cons x r ih=>simp [ZV] at h;exact List.nodup_cons.2 ⟨h.1,ih h.2⟩
theorem zM{S:List (Nat×Obj)}{ρ:Nat->Nat}(h:(S.map fun p=>ρ p.1).Nodup){i j:Nat}(hi:ls S i≠none)(hj:ls S j≠none)(hij:ρ i=ρ j):i=j:=by
  obtain ⟨m,b⟩:=Option.ne_none_iff_exists'.1 hi;obtain ⟨q,c⟩:=Option.ne_none_iff_exists'.1 hj
  have d:=y6 b;have k:=y6 c
  rcases Nat.decEq i j with f|g
  . exfalso
    obtain ⟨o,n,rfl⟩:=List.append_of_mem d
    grind
  . exact g
section
variable {P:Program} {C:Ctx} {nt:Nat}
def Kn(C:Ctx)(nt:Nat)(E:List (Nat×AVal))(S:List (Nat×Obj))(K:Act->World->Prop):Prop:=
  ∀ R η a w,Conc C nt R η (lk E) (ls S) a w->K a w
def AW(P:Program)(C:Ctx)(nt:Nat)(c:Code)(E:List (Nat×AVal))(S:List (Nat×Obj))(Q:Exit->Act->World->Prop):Prop:=Kn C nt E S (fun a w=>c.wp P Q a w)
def pinsB(C:Ctx)(ρ:Nat->Nat):Prop:=∀ i,C.pin i≠none->ρ i=i
theorem Conc.lit{R:Nat->Prop}{η:Nat->Value}{e:U3}{s:U5}{a:Act}{w:World}(h:Conc C nt R η e s a w){E:List (Nat×AVal)}{S:List (Nat×Obj)}{ρ:Nat->Nat}(hpin:pinsB C ρ)(hE:∀ p ∈ E,Y3 (e p.1) (p.2.ren ρ))(hS:∀ p ∈ S,∃ o,s (ρ p.1)=some o/\J1 o (p.2.ren ρ))(hinj:(S.map fun p=>ρ p.1).Nodup):
    Conc C nt (fun i=>i ∈ Xf E S\/C.pin i≠none) (fun i=>η (ρ i)) (lk E) (ls S) a w:=by
  refine h.conv ρ (fun t=>?_) (fun i g b=>hS _ (y6 b)) (fun i j b f d=>zM hinj b f d) (fun t i b=>.inl ?_) (fun i g b=>⟨.inl ?_,fun j f=>.inl ?_⟩) (fun i b=>⟨hpin i b,.inr b⟩)
  . rcases Xv (E:=E) (t:=t) with c|c
    . rw [c];exact Y3.any _
    . exact hE _ c
  . rcases Xv (E:=E) (t:=t) with c|c
    . rw [c] at b;cases b
    . exact List.mem_append.2 (.inl (List.mem_flatMap.2 ⟨_,c,b⟩))
  . exact List.mem_append.2 (.inr (List.mem_flatMap.2 ⟨_,y6 b,List.mem_cons_self⟩))
  . exact List.mem_append.2 (.inr (List.mem_flatMap.2 ⟨_,y6 b,List.mem_cons_of_mem _ f⟩))
theorem Conc.narrow{R:Nat->Prop}{η:Nat->Value}{E:List (Nat×AVal)}{S:List (Nat×Obj)}{a:Act}{w:World}(h:Conc C nt R η (lk E) (ls S) a w):
    Conc C nt (fun i=>i ∈ Xf E S\/C.pin i≠none) η (lk E) (ls S) a w:=by
  refine ⟨h.ok,h.df,h.sz,h.ev,fun t i b=>.inl ?_,h.st,fun i o b=>⟨.inl ?_,fun j d=>.inl ?_⟩,h.ds,h.ow,h.fr,fun i v b=>⟨(h.pn i v b).1,.inr (by rw [b];simp)⟩⟩
  . rcases Xv (E:=E) (t:=t) with c|c
    . rw [c] at b;cases b
    . exact List.mem_append.2 (.inl (List.mem_flatMap.2 ⟨_,c,b⟩))
  . exact List.mem_append.2 (.inr (List.mem_flatMap.2 ⟨_,y6 b,List.mem_cons_self⟩))
  . exact List.mem_append.2 (.inr (List.mem_flatMap.2 ⟨_,y6 b,List.mem_cons_of_mem _ d⟩))
theorem Z4e{E E' : List (Nat×AVal)}{S S' : List (Nat×Obj)}{K:Act->World->Prop}(ρ:Nat->Nat)(hpin:pinsB C ρ)(hE:∀ p ∈ E',Y3 (lk E p.1) (p.2.ren ρ))(hS:∀ p ∈ S',∃ o,ls S (ρ p.1)=some o/\J1 o (p.2.ren ρ))(hinj:(S'.map fun p=>ρ p.1).Nodup)(h:Kn C nt E' S' K):Kn C nt E S K:=fun R η a w b=>h _ _ a w (b.lit hpin hE hS hinj)
theorem JN{α β:Type}{l:List α}{f g:α->β}(h:l.map f=l.map g):∀ x ∈ l,f x=g x:=by
  induction l with
  | nil=>intro x b;cases b
  | cons y r ih=>
    grind
theorem Z3X{E E' : List (Nat×AVal)}{S S' : List (Nat×Obj)}{K:Act->World->Prop}(ρ:List (Nat×Nat))(hpin:pinsB C (U9 ρ))(hE:E'.map (fun p=>lk E p.1)=E'.map (fun p=>p.2.ren (U9 ρ)))(hS:S'.map (fun p=>ls S (U9 ρ p.1))=S'.map (fun p=>some (p.2.ren (U9 ρ))))(hinj:ZV (S'.map fun p=>U9 ρ p.1)=true)(h:Kn C nt E' S' K):Kn C nt E S K:=
  Z4e (U9 ρ) hpin (fun p b=>Y3.of_eq (JN hE p b)) (fun p b=>⟨_,JN hS p b,J1.refl _⟩) (Ub hinj) h
theorem vL(x:CV):x.ren (fun i=>i)=x:=by cases x <;> simp [CV.ren]
theorem Q2l(x:TV):x.ren (fun i=>i)=x:=by
  cases x with
  | c x=>simp [TV.ren,vL]
  | g xs=>
    simp only [TV.ren];congr 1;conv=>rhs;rw [<-List.map_id xs]
    exact List.map_congr_left fun y _=>vL y
theorem Hq(x:AVal):x.ren (fun i=>i)=x:=by
  cases x with
  | any=>rfl
  | v x=>simp [AVal.ren,Q2l]
  | t xs=>
    simp only [AVal.ren];congr 1;conv=>rhs;rw [<-List.map_id xs]
    exact List.map_congr_left fun y _=>Q2l y
theorem Hj(o:Obj):o.ren (fun i=>i)=o:=by
  cases o with
  | box ro cs=>
    simp only [Obj.ren];congr 1;conv=>rhs;rw [<-List.map_id cs]
    exact List.map_congr_left fun y _=>vL y
  | arr es n f=>rfl
  | ext p=>rfl
  | exr refs p=>simp [Obj.ren]
theorem Z4j{E:List (Nat×AVal)}{S:List (Nat×Obj)}{K:Act->World->Prop}{t:Nat}{x y:AVal}(hle:Y3 x y)(h:Kn C nt ((t,y)::E) S K):Kn C nt ((t,x)::E) S K:=by
  intro R η a w d;have c:∀ u,Y3 (lk ((t,x)::E) u) (lk ((t,y)::E) u):=by
    intro u;unfold lk
    rw [List.lookup_cons,List.lookup_cons]
    cases hut:u==t with
    | true=>exact hle
    | false=>exact Y3.refl _
  refine h R (fun i=>η i) a w (d.conv (fun i=>i) (fun u=>by rw [Hq];exact c u) (fun i x b=>⟨x,b,by rw [Hj];exact J1.refl _⟩) (fun i j b k f=>f) (fun u i b=>d.er u i ((c u).2 i b)) d.sr (fun i b=>?_));obtain ⟨v,g⟩:=Option.ne_none_iff_exists'.1 b
  exact ⟨rfl,(d.pn i v g).2⟩
structure Fr (P:Program) (L:Lay) (C:Ctx) (pins:List Nat):Prop where
  mixed:P.follows .mixedOrders=true
  lay:Qa P L
  pin:∀ i,C.pin i≠none->i ∈ pins
def Cr(L:Lay)(pins:List Nat)(nt:Nat)(ops:Array Oper)(draw:Bool)(ds:List Dir)(E:List (Nat×AVal))(S:List (Nat×Obj))(ρ:List (Nat×Nat))(S' : List (Nat×Obj)):Bool:=
  let F:=Vu L ops ops.toList ds (lk E) (ls S)
  ops.toList.all (QJ nt)&&ZV (YA F)&&(YA F).all (fun n=> !(Xf E S).contains n && !pins.contains n)&&(!draw||Q1t ops.toList F)&&ZV (S'.map fun p=>U9 ρ p.1)&&pins.all fun i=>U9 ρ i==i
theorem Z4H{L:Lay}{pins:List Nat}(Fm:Fr P L C pins){id:Nat}{ops:Array Oper}{draw:Bool}{E E' : List (Nat×AVal)}{S S' : List (Nat×Obj)}{Q:Exit->Act->World->Prop}(ds:List Dir)(ρ:List (Nat×Nat))(hchk:Cr L pins nt ops draw ds E S ρ S'=true)(hC:JT P C nt L ops ops.toList ds (lk E) (ls S))(he0:E'.map (fun p=>UM ops.toList (Vu L ops ops.toList ds (lk E) (ls S)) (lk E) p.1)=E'.map (fun p=>p.2.ren (U9 ρ)))(hs0:S'.map (fun p=>UL (Vu L ops ops.toList ds (lk E) (ls S)) (ls S) (U9 ρ p.1))=S'.map (fun p=>some (p.2.ren (U9 ρ))))(k:Kn C nt E' S' (Q .normal)):AW P C nt (.region id ops draw) E S Q:=by
  simp only [Cr,Bool.and_eq_true] at hchk;obtain ⟨⟨⟨⟨⟨G,c2⟩,Y⟩,N⟩,c5⟩,M⟩:=hchk
  have b:=Z3m (P:=P) (C:=C) (nt:=nt) (L:=L) (ops:=ops) Fm.lay ops.toList ds (lk E) (ls S) G hC;generalize hF:Vu L ops ops.toList ds (lk E) (ls S)=F at *
  have r:pinsB C (U9 ρ):=fun i q=>by
    have:=List.all_eq_true.1 M i (Fm.pin i q)
    grind
  have g:=Ub c2;intro R η a w T
  have d:=T.narrow;have m:∀ n ∈ YA F,¬ (n ∈ Xf E S\/C.pin n≠none):=by
    intro n I t;have:=List.all_eq_true.1 Y n I
    simp at this
    rcases t with t|t
    . grind
    . exact this.2 (Fm.pin n t)
  have h:∀ η' c w',Conc C nt (fun i=>(i ∈ Xf E S\/C.pin i≠none)\/i ∈ YA F) η' (UM ops.toList F (lk E)) (UL F (ls S)) c w' -> Q .normal c w':=fun η' c w' f =>
    k _ _ c w' (f.lit r (fun p z=>Y3.of_eq (JN he0 p z)) (fun p z=>⟨_,JN hs0 p z,J1.refl _⟩) (Ub c5))
  cases draw with
  | false=>exact wp_region_list (Q6O ops.toList F _ η _ _ a w b g m d h)
  | true=>
    have x:Q1t ops.toList F=true:=by simpa using N
    obtain ⟨W,O,D⟩:=Z2L ops.toList F ops.toList F [] [] x rfl rfl rfl (fun k i J=>by simp at J);have y:=Q6P (P:=P) (C:=C) (nt:=nt) (ops:=ops) ops.toList F ops.toList F 0 (lk E) (ls S) (fun j=>by rw [Nat.zero_add]) (fun j _=>by rw [Nat.zero_add]) D b
    obtain ⟨B,A,v⟩:=y;simp only [Nat.zero_add,List.range_zero,List.reverse_nil] at B A v
    refine wp_region_any Fm.mixed (Z3t (R:=fun i=>i ∈ Xf E S\/C.pin i≠none) (e0:=lk E) (s0:=ls S) D (fun j o e=>W j o e (Nat.zero_le _)) (fun i j U V K H u=>O i j U V K H u (Nat.zero_le _)) B g m (fun η' c w' f=>h η' c w' ?_)
      ops.size (Array.replicate ops.size false) [] η a _ (by simp) (fun i q=>by simp [q]) (by simp) ⟨List.nodup_nil,fun l1 k l2 Z=>by simp at Z⟩ (by simp) ?_)
    . have e2:UM ops.toList F (lk E)=hE ops.toList F (lk E) (List.range ops.size).reverse:=by rw [Array.length_toList] at A;exact A
      have e3:UL F (ls S)=hS F (ls S) (List.range ops.size).reverse:=by rw [Array.length_toList] at v;exact v
      grind
    . exact d.drew.wider fun i q=>.inl q
end
end
section
section
variable {P:Program} {C:Ctx} {nt:Nat} {L:Lay} {pins:List Nat} {E:List (Nat×AVal)} {S:List (Nat×Obj)} {Q:Exit->Act->World->Prop}
theorem Q2I{x y:Code}(h:AW P C nt x E S (Exit.then (y.wp P Q) Q)):AW P C nt (.seq x y) E S Q:=fun R η a w b=>wp_seq (h R η a w b)
theorem Q5(h:Kn C nt E S (Q .normal)):AW P C nt .skip E S Q:=fun R η a w b=>wp_skip (h R η a w b)
theorem UU(h:Kn C nt E S (Q .ret)):AW P C nt .ret E S Q:=fun R η a w b=>wp_ret (h R η a w b)
theorem UW{id:Nat}(h:Kn C nt E S (Q (.exit id))):AW P C nt (.exit id) E S Q:=fun R η a w b=>wp_exit (h R η a w b)
theorem Z4Q{id:Nat}{c:Code}(h:AW P C nt c E S (Exit.inBlock id Q)):AW P C nt (.block id c) E S Q:=fun R η a w b=>wp_block (h R η a w b)
theorem VR{t:Nat}{x y:Code}{b:Bool}(hb:lk E t=vb b)(ht:b=true->AW P C nt x E S Q)(hf:b=false->AW P C nt y E S Q):AW P C nt (.cond (.tmp t) x y) E S Q:=by
 intro R η a w c;have d:=c.ev t
 rw [hb] at d;have ev:a.eval (.tmp t)=.bool b:=Cw d
 cases b with
 | true=>exact wp_cond_true ev (ht rfl R η a w c)
 | false=>exact wp_cond_false ev (hf rfl R η a w c)
def Ex{σ:Type}(C:Ctx)(nt:Nat)(I:σ->Prop)(E:σ->List (Nat×AVal))(S:σ->List (Nat×Obj))(a:Act)(w:World):Prop:=∃ z,I z/\∃ R η,Conc C nt R η (lk (E z)) (ls (S z)) a w
theorem Z4i{σ:Type}{I:σ->Prop}{E' : σ->List (Nat×AVal)}{S' : σ->List (Nat×Obj)}(z:σ)(hz:I z):Kn C nt (E' z) (S' z) (Ex C nt I E' S'):=fun R η _ _ b=>⟨z,hz,R,η,b⟩
theorem Z4L{σ:Type}{c:Code}(I:σ->Prop)(μ:σ->Nat)(E' : σ->List (Nat×AVal))(S' : σ->List (Nat×Obj))(round:∀ z,I z->AW P C nt c (E' z) (S' z) (Exit.then (Ex C nt (fun z'=>I z' /\ μ z' < μ z) E' S') Q))(z0:σ)(h0:I z0):
  AW P C nt (.loop c) (E' z0) (S' z0) Q:=by
 classical
 intro R η a w A
 let J:Act->World->Nat->Prop:=fun a w n=>∃ z,I z/\μ z=n/\∃ R η,Conc C nt R η (lk (E' z)) (ls (S' z)) a w
 let m:Act->World->Nat:=fun a w=>if h:∃ n,J a w n then h.choose else 0
 have d:∀ (n:Nat) a w,J a w n->∃ k,J a w k/\∀ j,J a w j->k<=j:=by
  intro n
  induction n using Nat.strongRecOn with
  | _ n ih=>
   intro a w H;rcases Classical.em (∃ j,j<n/\J a w j) with ⟨j,B,b⟩|y
   .exact ih j B a w b
   all_goals grind
 let μ' : Act->World->Nat:=fun a w=>if h:∃ n,J a w n then (d h.choose a w h.choose_spec).choose else 0
 have q:∀ a w,(∃ n,J a w n)->J a w (μ' a w)/\∀ j,J a w j->μ' a w<=j:=by
  intro a w t
  grind
 refine wp_loop (fun a w=>∃ n,J a w n) μ' ⟨_,z0,h0,rfl,R,η,A⟩ fun a w t=>?_
 obtain ⟨⟨z,x,o,G,η',g⟩,_⟩:=q a w t;refine Code.wp_mono (fun e v u r=>?_) (round z x G η' a w g)
 cases e with
 | normal=>
  obtain ⟨z',⟨p,f⟩,F,D,i⟩:=r;have b:J v u (μ z'):=⟨z',p,rfl,F,D,i⟩
  exact ⟨⟨_,b⟩,Nat.lt_of_le_of_lt ((q v u ⟨_,b⟩).2 _ b) (by rw [<-o];exact f)⟩
 | _=>exact r
def Rg(L:Lay)(e:U3)(s:U5):ResultVar->Option TV
 | .tmp t=>match e t with
  | .v x=>some x
  | _=>none
 | .cell a t=>match L t with
  | some ti=>match rd s ti.size (e a) with
   | some (cs,_)=>if XG (e a) then none else match Vi ti.kind.agg cs with
    | some (.v x)=>some x
    | _=>none
   | none=>none
  | none=>none
def Kz(L:Lay)(e:U3)(s:U5):List ResultVar->Option (List TV)
 | []=>some []
 | r::rs=>match Rg L e s r,Kz L e s rs with
  | some x,some xs=>some (x::xs)
  | _,_=>none
def UA(L:Lay)(e:U3)(s:U5)(rs:List ResultVar):Option AVal:=
 match rs,Kz L e s rs with
 | [_],some [x]=>some (.v x)
 | [_],_=>none
 | _,some xs=>some (.t xs)
 | _,none=>none
def MS(tmps:Array Value):ResultVar->Sem Value
 | .tmp t=>pure (tmps.getD t undef)
 | .cell a t=>do loadVar t (<-asAddr (tmps.getD a undef))
theorem Q7u(hL:Qa P L){R:Nat->Prop}{η:Nat->Value}{e:U3}{s:U5}{a:Act}{w:World}(h:Conc C nt R η e s a w){r:ResultVar}{x:TV}(hr:Rg L e s r=some x):
  ∃ v,(MS a.tmps r).run P w=.ok v w/\TRep w (XS C s η) η C v x:=by
 cases r with
 | tmp t=>
  simp only [Rg] at hr;split at hr
  .rename_i y f
   cases hr
   have:=h.ev t
   rw [f] at this;refine ⟨a.tmps.getD t undef,rfl,?_⟩
   generalize a.tmps.getD t undef=u at this
   cases this with
   | v _ _ hv=>exact hv
  .cases hr
 | cell a' t=>
  simp only [Rg] at hr;split at hr
  .rename_i n K
   split at hr
   .rename_i V c k
    split at hr
    .cases hr
    .rename_i p
     split at hr
     .rename_i y f
      cases hr
      have J:c:=by
       unfold rd at k;split at k
       .grind
       .grind
       .rename_i I;rw [I] at p;simp [XG] at p
       .cases k
      obtain ⟨i,d,z,D⟩:=hL t n K;obtain ⟨b,m,A,U,W,M,N,O,H,B,T⟩:=cg h k J (h.ev a')
      have F:n.kind.agg=false->n.size=1:=by
       intro o;rw [o] at f
       simp only [Vi] at f
       grind
      have q:=gF (P:=P) D N O F;refine ⟨if n.kind.agg then .agg (Ze A m n.size).toArray else A.getD m undef,?_,?_⟩
      .simp only [MS,Sem.run_bind,M,asAddr,Sem.run_pure,Result.andThen_ok,q]
      .unfold Vi at f
       split at f
       .rename_i o
        cases f
        simp only [o,if_true];refine .g _ _ ⟨by simp [Ze,H],fun j G=>?_⟩
        rw [H] at G;have:(Ze A m n.size).toArray.getD j undef=A.getD (m+j) undef:=by simp [Ze,G]
        grind
       .rename_i o
        split at f
        .cases f
         simp only [o,Bool.false_eq_true,if_false];have:=B 0 (by rw [F o];exact Nat.zero_lt_one)
         exact .c _ _ (by simpa using this)
        .cases f
     .cases hr
   .cases hr
  .cases hr
theorem Q7t(hL:Qa P L){R:Nat->Prop}{η:Nat->Value}{e:U3}{s:U5}{a:Act}{w:World}(h:Conc C nt R η e s a w):∀ (rs:List ResultVar) (xs:List TV),Kz L e s rs=some xs ->
  ∃ vs:List Value,(rs.mapM (MS a.tmps)).run P w=.ok vs w/\vs.length=xs.length/\∀ j,j<xs.length->TRep w (XS C s η) η C (vs.getD j undef) (xs.getD j (.c (.d .any))):=by
 intro rs
 induction rs with
 | nil=>intro xs b;cases b;exact ⟨[],by simp,rfl,fun j i=>by simp at i⟩
 | cons r rs ih=>
  intro xs b;simp only [Kz] at b
  split at b
  .rename_i x g k f
   cases b
   obtain ⟨v,n,p⟩:=Q7u hL h k;obtain ⟨vs,m,o,q⟩:=ih g f
   refine ⟨v::vs,?_,by simp [o],fun j i=>?_⟩
   .simp only [List.mapM_cons,Sem.run_bind,n,m,Result.andThen_ok,Sem.run_pure]
   all_goals grind
  .cases b
theorem Q7v(hL:Qa P L){R:Nat->Prop}{η:Nat->Value}{e:U3}{s:U5}{a:Act}{w:World}(h:Conc C nt R η e s a w){fn:Func}{x:AVal}(hr:UA L e s fn.results.toList=some x):
  ∃ v,(results fn a.tmps).run P w=.ok v w/\ARep w (XS C s η) η C v x:=by
 have i:∀ g,Kz L e s fn.results.toList=some g->∃ b:List Value,(results fn a.tmps).run P w=.ok (if h:b.toArray.size=1 then b.toArray[0] else .tuple b.toArray) w/\b.length=g.length/\∀ j,j<g.length->TRep w (XS C s η) η C (b.getD j undef) (g.getD j (.c (.d .any))):=by
  intro g f;obtain ⟨b,p,k,n⟩:=Q7t hL h _ _ f
  refine ⟨b,?_,k,n⟩;have o:results fn a.tmps=(do let b <-fn.results.mapM (MS a.tmps);pure (if h:b.size=1 then b[0] else .tuple b)):=by
   unfold results;congr 1
  rw [o];simp only [Sem.run_bind,Array.mapM_eq_mapM_toList,Sem.run_map,p,Result.andThen_ok,Sem.run_pure]
 unfold UA at hr;split at hr
 .rename_i r F B f
  cases hr
  obtain ⟨b,p,k,n⟩:=i _ f;refine ⟨b.getD 0 undef,?_,.v _ _ (n 0 (by simp))⟩
  rw [p]
  cases b with
  | nil=>simp at k
  | cons v r=>cases r with
   | nil=>rfl
   | cons _ _=>simp at k
 .cases hr
 .skip
  rename_i g f _ u
  cases hr
  obtain ⟨b,p,k,n⟩:=i _ f;refine ⟨.tuple b.toArray,?_,.t _ _ (by simpa using k) (fun j z=>by simpa [List.getD_eq_getElem?_getD] using n j z)⟩
  rw [p];have m:∀ (q:List ResultVar) (g:List TV),Kz L e s q=some g->q.length=g.length:=by
   intro q
   induction q with
   | nil=>intro g h;cases h;rfl
   | cons r q ih=>
    intro g h;simp only [Kz] at h
    grind
  have A:¬ b.toArray.size=1:=by
   intro D;have y:b.length=1:=by simpa using D
   have:=m _ _ f
   rw [<-k,y] at this;obtain ⟨r,hr⟩:=List.length_eq_one_iff.1 this
   exact u r hr
  rw [dif_neg A]
 .cases hr
end
end
section
def Qr(S:List (Nat×Obj))(w:World)(X:Nat->Prop)(η:Nat->Value):Ctx where
 w0:=w
 D:=Own (ls S) η
 M:=fun b=>∃ i o,ls S i=some o/\o.ro=false/\b ∈ Y9 (η i)
 X:=X
 pin:=fun i=>if (S.lookup i).isSome then some (η i) else none
structure Behind (C:Ctx) (r:AVal) (S' : List (Nat×Obj)) (v:Value) (η' : Nat->Value) (w' : World):Prop where
 stp:Stp C.M C.w0 w'
 res:ARep w' (XS C (ls S') η') η' C v r
 objs:∀ i o,ls S' i=some o->ORep w' (XS C (ls S') η') η' C (η' i) o
 ds:∀ i j b,ls S' i≠none->ls S' j≠none->b ∈ Y9 (η' i)->b ∈ Y9 (η' j)->i=j
 ow:∀ i o b,ls S' i=some o->b ∈ Y9 (η' i)->(o.ro=true/\C.D b)\/C.M b\/C.w0.heap.size<=b
 pn:∀ i v,C.pin i=some v->η' i=v
def G6(P:Program)(f:Nat)(args:List AVal)(S:List (Nat×Obj))(r:AVal)(S' : List (Nat×Obj)):Prop:=
 ∀ (w:World) (X:Nat->Prop) (η:Nat->Value) (vs:Array Value),(∀ b,X b->b<w.heap.size)->(∀ b,Own (ls S) η b->X b) ->
  (∀ i o,ls S i=some o->ORep w X η (Qr S w X η) (η i) o)->(∀ i j b,ls S i≠none->ls S j≠none->b ∈ Y9 (η i)->b ∈ Y9 (η j)->i=j) ->
  vs.size=args.length->(∀ j,j<args.length->ARep w X η (Qr S w X η) (vs.getD j undef) (args.getD j .any)) ->
  Calls P f vs w fun e w'=>∃ v η',e=.returned v/\Behind (Qr S w X η) r S' v η' w'
def Pd(args:List AVal):List (Nat×AVal):=args.zipIdx.map fun p=>(p.2,p.1)
def WL(P:Program)(fn:Func)(C:Ctx)(r:AVal)(S' : List (Nat×Obj)):Exit->Act->World->Prop:=
 bodyPost P fn fun e w'=>∃ v η',e=.returned v/\Behind C r S' v η' w'
section
variable {P:Program} {L:Lay}
theorem De{S:List (Nat×Obj)}{X:Nat->Prop}{η:Nat->Value}{w:World}(h:∀ b,Own (ls S) η b->X b):XS (Qr S w X η) (ls S) η=X:=by
 funext b
 apply propext;constructor
 .rintro (⟨c,_⟩|c)
  .exact c
  .exact h b c
 .intro c
  rcases Classical.em (Own (ls S) η b) with d|d
  .exact .inr d
  .exact .inl ⟨c,d⟩
theorem Z3o(args:List AVal)(t:Nat):lk (Pd args) t=args.getD t .any:=by
 unfold lk Pd;have b:∀ (l:List AVal) (k t:Nat),(((l.zipIdx k).map fun p=>(p.2,p.1)).lookup t).getD .any=if t<k then .any else l.getD (t-k) .any:=by
  intro l
  induction l with
  | nil=>intro k t;simp
  | cons x l ih=>
   intro k t;simp only [List.zipIdx_cons,List.map_cons,List.lookup_cons]
   grind
 grind
theorem Z4z(hm:P.follows .mixedOrders=true)(hL:Qa P L){f:Nat}{fn:Func}{c:Code}(hf:P.funcs[f]?=some fn)(hb:fn.body=some c){args:List AVal}{S:List (Nat×Obj)}{r:AVal}{S' : List (Nat×Obj)}(hn0:Nat.ble args.length fn.ntmps=true)(h:∀ C,Fr P L C (S.map (·.1))->AW P C fn.ntmps c (Pd args) S (WL P fn C r S')):G6 P f args S r S':=by
 have G:args.length<=fn.ntmps:=Nat.le_of_ble_eq_true hn0;intro w X η p z g m k q j
 have A:(Qr S w X η).Ok:=⟨fun b ⟨i,o,h1,_,h2⟩=>⟨i,o,h1,h2⟩,fun b hb=>g b hb,z⟩;refine calls_of_wp hf hb (h (Qr S w X η) ⟨hm,hL,fun i d=>?_⟩ (fun _=>True) η _ w ⟨A,rfl,?_,fun t=>?_,fun _ _ _=>trivial,fun i o d=>?_,fun _ _ _=>⟨trivial,fun _ _=>trivial⟩,k,fun i o b d n=>?_,Stp.refl _ _,fun i v d=>⟨?_,trivial⟩⟩)
 .simp only [Qr] at d
  split at d
  .rename_i y
   obtain ⟨o,B⟩:=Option.isSome_iff_exists.1 y;obtain ⟨D,F,x,_⟩:=List.lookup_eq_some_iff.1 B
   rw [x];simp
  .exact absurd rfl d
 .simp;omega
 .rw [De g,Z3o]
  by_cases ht:t<args.length
  .have u:(p++Array.replicate (fn.ntmps-p.size) undef).getD t undef=p.getD t undef:=by
    have:t<p.size:=by omega
    simp [this,Array.getElem?_append,Array.getD_eq_getD_getElem?]
   simp only [u];exact j t ht
  .rw [List.getD_eq_getElem?_getD,List.getElem?_eq_none (by omega)]
   exact .any _
 .rw [De g];exact m i o d
 .cases hro:o.ro with
  | true=>exact .inl ⟨rfl,⟨i,o,d,n⟩⟩
  | false=>exact .inr (.inl ⟨i,o,d,hro,n⟩)
 .simp only [Qr] at d
  split at d
  .cases d;rfl
  .cases d
theorem Z4k{C:Ctx}{nt:Nat}{pins:List Nat}(Fm:Fr P L C pins){fn:Func}{E:List (Nat×AVal)}{S:List (Nat×Obj)}{r:AVal}{S' : List (Nat×Obj)}(hr:UA L (lk E) (ls S) fn.results.toList=some r)(hS:S'.map (fun p=>ls S p.1)=S'.map (fun p=>some p.2)):Kn C nt E S (WL P fn C r S' .ret):=by
 intro R η a w f;obtain ⟨v,q,u⟩:=Q7v (P:=P) Fm.lay f hr
 have d:∀ i o,ls S' i=some o->ls S i=some o:=fun i o c=>JN hS (i,o) (y6 c)
 have m:QR w w (XS C (ls S) η) (XS C (ls S') η):=by
  intro b y x;refine ⟨rfl,fun k=>x ?_⟩
  rcases k with n|⟨i,o,c,h⟩
  .exact .inl n
  .exact .inr ⟨i,o,d i o c,h⟩
 have g:∀ i,ls S' i≠none->ls S i≠none:=by
  intro i c;obtain ⟨o,z⟩:=Option.ne_none_iff_exists'.1 c
  grind
 exact ⟨f.df,v,q,v,η,rfl,f.fr,u.mono m (fun _ _=>rfl),fun i o c=>(f.st i o (d i o c)).mono m (fun _ _=>rfl) (fun _ _=>rfl),
  fun i j b c t=>f.ds i j b (g i c) (g j t),fun i o b c=>f.ow i o b (d i o c),fun i v c=>(f.pn i v c).1⟩
end
end
section
def Hv:Value->CV
 | .int k n=>.d (.int k n)
 | .bool b=>.d (.bool b)
 | .string s=>.d (.str s)
 | .slice none 0 0=>.fl 0 fun _=>[]
 | _=>.d .any
def bn:TypeDesc->TK
 | .int k=>.int k
 | .bool=>.bool
 | .string=>.str
 | .slice e=>.slice e
 | .struct fs=>.struct (fs.toList.map fun f=>(f.offset,f.type))
 | .array n e=>.array n e
 | _=>.other
def SI(P:Program)(t:Nat):Option TI:=
 match P.info? t,P.underlying t with
 | some i,some d=>match i.zero with
  | some z=>if z.cells.toList.all Value.oneCell' then some ⟨bn d,i.size,i.bytes,z.cells.toList.map Hv⟩ else none
  | none=>none
 | _,_=>none
theorem vX{w:World}{X:Nat->Prop}{η:Nat->Value}{C:Ctx}{v:Value}(h:v.oneCell'=true):CRep w X η C v (Hv v)/\(Hv v).refs=[]:=by
 unfold Hv;split
 .exact ⟨.d _ _ (.int _ _),rfl⟩
 .exact ⟨.d _ _ (.bool _),rfl⟩
 .exact ⟨.d _ _ (.str _),rfl⟩
 .exact ⟨.fl _ _ _ (.nil _ _ _),rfl⟩
 .exact ⟨.d _ _ (.any _ h),rfl⟩
theorem Z0d(P:Program):Qa P (SI P):=by
 intro t q h;unfold SI at h
 split at h
 .rename_i i d p o
  split at h
  .rename_i z g
   split at h
   .rename_i b
    cases h
    rw [List.all_eq_true] at b;refine ⟨i,d,z,p,o,rfl,rfl,g,fun w X η C=>⟨by simp,fun j m=>?_⟩,?_,?_⟩
    .have c : j<z.cells.size:=by simpa using m
     have k:z.cells[j] ∈ z.cells.toList:=by simp
     have:=(vX (w:=w) (X:=X) (η:=η) (C:=C) (b _ k)).1
     simpa [List.getD_eq_getElem?_getD,c] using this
    .rw [List.flatMap_eq_nil_iff]
     intro x f;obtain ⟨v,n,rfl⟩:=List.mem_map.1 f
     exact (vX (w:=default) (X:=fun _=>False) (η:=fun _=>default) (C:=⟨default,fun _=>False,fun _=>False,fun _=>False,fun _=>none⟩) (b v n)).2
    .cases d <;> simp [bn,ZI]
   .cases h
  .cases h
 .cases h
def Jg(T:List (Nat×TI)):Lay:=fun t=>T.lookup t
theorem Q3W{P:Program}{T:List (Nat×TI)}(h:T.map (fun p=>SI P p.1)=T.map (fun p=>some p.2)):Qa P (Jg T):=by
 intro t b c;obtain ⟨g,f,d,_⟩:=List.lookup_eq_some_iff.1 c
 exact Z0d P t b (JN h (t,b) (by rw [d];simp))
section
variable {P:Program} {C:Ctx} {nt:Nat} {L:Lay} {pins:List Nat}
end
end
end
end Go.Ab
