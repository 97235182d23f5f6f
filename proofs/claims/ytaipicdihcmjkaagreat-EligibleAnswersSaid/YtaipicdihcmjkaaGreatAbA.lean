/- Abstract states over the model. -/
import Derived.Orders
import Derived.Laws.AppendOwn
import Derived.Below
import Derived.MapKept
import Derived.IntWalk
import Derived.Laws.Tables
import Derived.Tactics
import Derived.KernelRfl
set_option linter.unusedVariables false
set_option linter.unusedSimpArgs false
namespace Go.Ab
noncomputable section
section
inductive DVal where
 | any
 | int (k:IntKind) (n:Int)
 | bool (b:Bool)
 | str (s:ByteArray)
 | lst (n:Nat) (f:Nat->List DVal)
 | mp (n:Nat) (ks:Nat->Int) (vs:Nat->DVal)
inductive CV where
 | d (x:DVal)
 | fl (n:Nat) (f:Nat->List DVal)
 | own (id:Nat)
 | ptr (id off:Nat)
 | pte (id es idx off:Nat)
 | sub (id es lo n:Nat)
 | elm (cs:List DVal)
 | clo (f:Nat) (ids:List Nat)
 | sem (p:World->(Nat->Prop)->(Nat->Prop)->Value->Prop)
 | ap (id:Nat)
 | bnd (f:Nat) (cs:List DVal)
 | cp (id j:Nat)
inductive TV where
 | c (x:CV)
 | g (xs:List CV)
inductive AVal where
 | any
 | v (x:TV)
 | t (xs:List TV)
inductive Obj where
 | box (ro:Bool) (cs:List CV)
 | arr (es n:Nat) (f:Nat->List DVal)
 | ext (p:World->(Nat->Prop)->Value->Prop)
 | exr (refs:List Nat) (p:World->(Nat->Prop)->List Value->Value->Prop)
abbrev W4:=Nat->AVal
abbrev W5:=Nat->Option Obj
structure Ctx where
 w0:World
 D:Nat->Prop
 M:Nat->Prop
 X:Nat->Prop
 pin:Nat->Option Value
inductive DRep (w:World) (X:Nat->Prop):Value->DVal->Prop
 | any (v:Value):v.oneCell'=true->DRep w X v .any
 | int (k:IntKind) (n:Int):DRep w X (.int k n) (.int k n)
 | bool (b:Bool):DRep w X (.bool b) (.bool b)
 | str (s:ByteArray):DRep w X (.string s) (.str s)
 | nil (a:Option Addr) (cap:Nat) (f:Nat->List DVal):DRep w X (.slice a 0 cap) (.lst 0 f)
 | lst (b off n cap:Nat) (c:Array Value) (e:TypeId) (fz:Nat×Nat) (f:Nat->List DVal) (es:Nat) :
   ¬ X b->w.heap[b]?=some (.cells c e fz)->n<=cap->off+n*es<=c.size->(∀ i,i<n->(f i).length=es) ->
   (∀ i j,i<n->j<es->DRep w X (c.getD (off+(i*es+j)) undef) ((f i).getD j .any)) ->
   DRep w X (.slice (some ⟨b,off,none⟩) n cap) (.lst n f)
 | mp (b:Nat) (es:Array MapEntry) (clock n:Nat) (ks:Nat->Int) (Zl:Nat->Value) (vs:Nat->DVal):¬ X b->w.heap[b]?=some (.map es clock)->MapKept.Stamped es clock->es.size=n ->
   (∀ i,i<n->∃ bo,es[i]?=some ⟨.int .i64 (ks i),Zl i,bo⟩)->(∀ i,i<n->DRep w X (Zl i) (vs i))->DRep w X (.map (some b)) (.mp n ks vs)
theorem DRep.one{w:World}{X:Nat->Prop}{v:Value}{x:DVal}(h:DRep w X v x):v.oneCell'=true:=by
 cases h <;> first|assumption|rfl
theorem YJ{w:World}{b:Nat}{o:Go.Obj}(h:w.heap[b]?=some o):b<w.heap.size:=
 (Array.getElem?_eq_some_iff.1 h).1
structure Stp (Z:Nat->Prop) (w w' : World):Prop where
 os:w'.os=w.os
 tape:w'.tape=w.tape
 output:w'.output=w.output
 size:w.heap.size<=w'.heap.size
 block:∀ b,b<w.heap.size->¬ Z b->w'.heap[b]?=w.heap[b]?
 dr:w.drawn<=w'.drawn
theorem Stp.refl(Z:Nat->Prop)(w:World):Stp Z w w:=⟨rfl,rfl,rfl,Nat.le_refl _,fun _ _ _=>rfl,Nat.le_refl _⟩
theorem Stp.mono{Z Z' : Nat->Prop}{w w' : World}(h:Stp Z w w')(hz:∀ b,b<w.heap.size->Z b->Z' b):Stp Z' w w' :=
 ⟨h.os,h.tape,h.output,h.size,fun b a c=>h.block b a fun d=>c (hz b a d),h.dr⟩
theorem Stp.trans{Z:Nat->Prop}{a b c:World}(h:Stp Z a b)(k:Stp (fun x=>Z x\/a.heap.size<=x) b c):Stp Z a c:=
 ⟨k.os.trans h.os,k.tape.trans h.tape,k.output.trans h.output,Nat.le_trans h.size k.size,
  fun x e f=>(k.block x (Nat.lt_of_lt_of_le e h.size) fun d=>by rcases d with d|d;exact f d;omega).trans (h.block x e f),Nat.le_trans h.dr k.dr⟩
theorem Stp.drew(Z:Nat->Prop)(w:World):Stp Z w { w with drawn:=w.drawn+1 }:=⟨rfl,rfl,rfl,Nat.le_refl _,fun _ _ _=>rfl,Nat.le_succ _⟩
theorem Stp.alloc(Z:Nat->Prop)(w:World)(o:Go.Obj):Stp Z w { w with heap:=w.heap.push o } :=
 ⟨rfl,rfl,rfl,by simp,fun b a _=>by show (w.heap.push o)[b]?=_;rw [Array.getElem?_push,if_neg (by omega)],Nat.le_refl _⟩
theorem Stp.below{Z:Nat->Prop}{w w' : World}(h:Stp Z w w')(B:Nat)(hB:B<=w.heap.size)(hZ:∀ b,b<B->¬ Z b):Go.RowKit.Below B w w' :=
 ⟨h.os,h.tape,h.output,h.size,fun k a=>h.block k (Nat.lt_of_lt_of_le a hB) (hZ k a)⟩
theorem DRep.mono{w w' : World}{X X' : Nat->Prop}{v:Value}{x:DVal}(h:DRep w X v x)(hk:∀ b,b<w.heap.size->¬ X b->w'.heap[b]?=w.heap[b]? /\ ¬ X' b):DRep w' X' v x:=by
 induction h with
 | any v hv=>exact .any v hv
 | int k n=>exact .int k n
 | bool b=>exact .bool b
 | str s=>exact .str s
 | nil a cap f=>exact .nil a cap f
 | lst b off n cap c e fz f es hX hb hn ho hf _ ih=>
  have d:=hk b (YJ hb) hX;exact .lst b off n cap c e fz f es d.2 (d.1.trans hb) hn ho hf ih
 | mp b es clock n ks Zl vs hX hb h1 h2 h3 _ ih=>
  have d:=hk b (YJ hb) hX;exact .mp b es clock n ks Zl vs d.2 (d.1.trans hb) h1 h2 h3 ih
def PH:Value->List Nat
 | .pointer (some a)=>[a.block]
 | .slice (some a) _ cap=>if cap=0 then [] else [a.block]
 | .map (some b)=>[b]
 | _=>[]
def Y7:Value->List Nat
 | .pointer (some a)=>[a.block]
 | .slice (some a) _ cap=>if cap=0 then [] else [a.block]
 | .map (some b)=>[b]
 | .agg vs=>vs.toList.flatMap PH
 | _=>[]
def QZ(w w' : World)(X X' : Nat->Prop):Prop:=∀ b,b<w.heap.size->¬ X b->w'.heap[b]?=w.heap[b]? /\ ¬ X' b
def PQ(p:World->(Nat->Prop)->Value->Prop)(v:Value):Prop:=∀ w w' X X',QZ w w' X X' -> (∀ b ∈ Y7 v,w'.heap[b]?=w.heap[b]?)->p w X v->p w' X' v
section
variable (w:World) (X:Nat->Prop) (η:Nat->Value) (C:Ctx)
inductive CRep:Value->CV->Prop
 | d (v:Value) (x:DVal):DRep w X v x->CRep v (.d x)
 | fl (a:Option Addr) (n:Nat) (f:Nat->List DVal):DRep w X (.slice a n n) (.lst n f)->CRep (.slice a n n) (.fl n f)
 | own (v:Value) (id:Nat):v=η id->v.oneCell'=true->CRep v (.own id)
 | ptr (b id off:Nat):η id=.pointer (some ⟨b,0,none⟩)->CRep (.pointer (some ⟨b,off,none⟩)) (.ptr id off)
 | pte (b n cap id es idx off:Nat):η id=.slice (some ⟨b,0,none⟩) n cap->CRep (.pointer (some ⟨b,idx*es+off,none⟩)) (.pte id es idx off)
 | sub (b N cap id es lo n:Nat):η id=.slice (some ⟨b,0,none⟩) N cap->lo+n<=N->lo<cap->CRep (.slice (some ⟨b,lo*es,none⟩) n (cap-lo)) (.sub id es lo n)
 | subN (ad ad' : Option Addr) (N id es:Nat):η id=.slice ad N N->CRep (.slice ad' 0 0) (.sub id es N 0)
 | elm (b off:Nat) (c:Array Value) (e:TypeId) (fz:Nat×Nat) (cs:List DVal):¬ X b->w.heap[b]?=some (.cells c e fz)->off+cs.length<=c.size ->
   (∀ j,j<cs.length->DRep w X (c.getD (off+j) undef) (cs.getD j .any))->CRep (.pointer (some ⟨b,off,none⟩)) (.elm cs)
 | clo (f:Nat) (ids:List Nat) (vs:Array Value):vs=(ids.map η).toArray->CRep (.func (.func f) #[] vs) (.clo f ids)
 | sem (v:Value) (p:World->(Nat->Prop)->(Nat->Prop)->Value->Prop):p C.w0 C.D C.X v->v.oneCell'=true->CRep v (.sem p)
 | ap (v:Value) (id:Nat):(η id=v\/η id=.tuple #[v]\/∃ l,η id=.agg (v::l).toArray)->v.oneCell'=true->CRep v (.ap id)
 | bnd (f:Nat) (vs:Array Value) (cs:List DVal):vs.size=cs.length->(∀ j,j<cs.length->DRep w X (vs.getD j undef) (cs.getD j .any))->CRep (.func (.func f) #[.agg vs] #[]) (.bnd f cs)
 | cp (v:Value) (id j:Nat) (vs:Array Value):η id=.agg vs->vs[j]?=some v->v.oneCell'=true->CRep v (.cp id j)
def G8(vs:Array Value)(cs:List CV):Prop:=vs.size=cs.length/\∀ j,j<cs.length->CRep w X η C (vs.getD j undef) (cs.getD j (.d .any))
inductive TRep:Value->TV->Prop
 | c (v:Value) (x:CV):CRep w X η C v x->TRep v (.c x)
 | g (vs:Array Value) (xs:List CV):G8 w X η C vs xs->TRep (.agg vs) (.g xs)
inductive ARep:Value->AVal->Prop
 | any (v:Value):ARep v .any
 | v (u:Value) (x:TV):TRep w X η C u x->ARep u (.v x)
 | t (us:Array Value) (xs:List TV):us.size=xs.length->(∀ j,j<xs.length->TRep w X η C (us.getD j undef) (xs.getD j (.c (.d .any))))->ARep (.tuple us) (.t xs)
inductive ORep:Value->Obj->Prop
 | box (b:Nat) (ro:Bool) (c:Array Value) (e:TypeId) (cs:List CV):w.heap[b]?=some (.cells c e (0,0))->G8 w X η C c cs ->
   ORep (.pointer (some ⟨b,0,none⟩)) (.box ro cs)
 | nil (ad:Option Addr) (es:Nat) (f:Nat->List DVal):ORep (.slice ad 0 0) (.arr es 0 f)
 | arr (b n cap es:Nat) (c:Array Value) (e:TypeId) (f:Nat->List DVal):w.heap[b]?=some (.cells c e (0,0))->c.size=cap*es->n<=cap->cap<=maxLen->0<cap ->
   (∀ i,i<n->(f i).length=es)->(∀ i j,i<n->j<es->DRep w X (c.getD (i*es+j) undef) ((f i).getD j .any)) ->
   ORep (.slice (some ⟨b,0,none⟩) n cap) (.arr es n f)
 | ext (v:Value) (p:World->(Nat->Prop)->Value->Prop):p w X v->PQ p v->(∀ b ∈ Y7 v,b<w.heap.size)->ORep v (.ext p)
 | exr (v:Value) (refs:List Nat) (p:World->(Nat->Prop)->List Value->Value->Prop):p w X (refs.map η) v->PQ (fun w X v=>p w X (refs.map η) v) v->(∀ b ∈ Y7 v,b<w.heap.size)->ORep v (.exr refs p)
end
theorem CRep.one{w:World}{X:Nat->Prop}{η:Nat->Value}{C:Ctx}{v:Value}{x:CV}(h:CRep w X η C v x):v.oneCell'=true:=by
 cases h with
 | d _ _ h=>exact h.one
 | own _ _ _ h=>exact h
 | sem _ _ _ h=>exact h
 | ap _ _ _ h=>exact h
 | cp _ _ _ _ _ _ h=>exact h
 | _=>rfl
def CV.refs:CV->List Nat
 | .own id=>[id]
 | .ptr id _=>[id]
 | .pte id _ _ _=>[id]
 | .sub id _ _ _=>[id]
 | .clo _ ids=>ids
 | .ap id=>[id]
 | .cp id _=>[id]
 | _=>[]
def TV.refs:TV->List Nat
 | .c x=>x.refs
 | .g xs=>xs.flatMap CV.refs
def AVal.refs:AVal->List Nat
 | .any=>[]
 | .v x=>x.refs
 | .t xs=>xs.flatMap TV.refs
def Obj.refs:Obj->List Nat
 | .box _ cs=>cs.flatMap CV.refs
 | .arr _ _ _=>[]
 | .ext _=>[]
 | .exr refs _=>refs
def Obj.ro:Obj->Bool
 | .box ro _=>ro
 | .arr _ _ _=>false
 | .ext _=>false
 | .exr _ _=>false
section
variable {w w' : World} {X X' : Nat->Prop} {η η' : Nat->Value} {C:Ctx}
theorem CRep.mono{v:Value}{x:CV}(h:CRep w X η C v x)(hk:QZ w w' X X')(hη:∀ i ∈ x.refs,η' i=η i):CRep w' X' η' C v x:=by
 cases h with
 | d _ _ h=>exact .d _ _ (h.mono hk)
 | fl a n f h=>exact .fl a n f (h.mono hk)
 | own _ id h h1=>exact .own _ id (by rw [hη id (by simp [CV.refs])];exact h) h1
 | ptr b id off h=>exact .ptr b id off (by rw [hη id (by simp [CV.refs])];exact h)
 | pte b n cap id es idx off h=>exact .pte b n cap id es idx off (by rw [hη id (by simp [CV.refs])];exact h)
 | sub b N cap id es lo n h h1 h2=>exact .sub b N cap id es lo n (by rw [hη id (by simp [CV.refs])];exact h) h1 h2
 | subN ad ad' N id es h=>exact .subN ad ad' N id es (by rw [hη id (by simp [CV.refs])];exact h)
 | elm b off c e fz cs hX hb ho hc=>
  have k:=hk b (YJ hb) hX;exact .elm b off c e fz cs k.2 (k.1.trans hb) ho fun j g=>(hc j g).mono hk
 | clo f ids vs h=>
  refine .clo f ids vs ?_;rw [h]
  congr 1
  exact List.map_congr_left fun i l=>(hη i (by simpa [CV.refs] using l)).symm
 | sem _ p h h1=>exact .sem _ p h h1
 | ap _ id h h1=>exact .ap _ id (by rw [hη id (by simp [CV.refs])];exact h) h1
 | bnd f vs cs h1 h2=>exact .bnd f vs cs h1 fun j g=>(h2 j g).mono hk
 | cp _ id j vs h h1 h2=>exact .cp _ id j vs (by rw [hη id (by simp [CV.refs])];exact h) h1 h2
theorem YA{α:Type}{l:List α}{j:Nat}{d:α}(h:j<l.length):l.getD j d ∈ l:=by
 grind
theorem G8.mono{vs:Array Value}{cs:List CV}(h:G8 w X η C vs cs)(hk:QZ w w' X X')(hη:∀ i ∈ cs.flatMap CV.refs,η' i=η i):G8 w' X' η' C vs cs:=
 ⟨h.1,fun j a=>(h.2 j a).mono hk fun i b=>hη i (List.mem_flatMap.2 ⟨_,YA a,b⟩)⟩
theorem TRep.mono{v:Value}{x:TV}(h:TRep w X η C v x)(hk:QZ w w' X X')(hη:∀ i ∈ x.refs,η' i=η i):TRep w' X' η' C v x:=by
 cases h with
 | c _ x h=>exact .c _ x (h.mono hk hη)
 | g vs xs h=>exact .g vs xs (h.mono hk hη)
theorem ARep.mono{v:Value}{x:AVal}(h:ARep w X η C v x)(hk:QZ w w' X X')(hη:∀ i ∈ x.refs,η' i=η i):ARep w' X' η' C v x:=by
 cases h with
 | any=>exact .any v
 | v _ x h=>exact .v _ x (h.mono hk hη)
 | t us xs hs h=>exact .t us xs hs fun j a=>(h j a).mono hk fun i b=>hη i (List.mem_flatMap.2 ⟨_,YA a,b⟩)
theorem ORep.mono{v:Value}{o:Obj}(h:ORep w X η C v o)(hk:QZ w w' X X')(hη:∀ i ∈ o.refs,η' i=η i)(hb:∀ b,b ∈ Y7 v->w'.heap[b]?=w.heap[b]?):ORep w' X' η' C v o:=by
 cases h with
 | box b ro c e cs hh hc=>exact .box b ro c e cs ((hb b (by simp [Y7])).trans hh) (hc.mono hk hη)
 | nil ad es f=>exact .nil ad es f
 | arr b n cap es c e f hh hs hn hm hc hl he=>
  exact .arr b n cap es c e f ((hb b (by simp [Y7];omega)).trans hh) hs hn hm hc hl fun i j a k=>(he i j a k).mono hk
 | ext _ p h h1 h2=>
  refine .ext _ p (h1 w w' X X' hk hb h) h1 fun b d=>?_
  grind
 | exr _ refs p h h1 h2=>
  have g:refs.map η'=refs.map η:=List.map_congr_left fun i a=>hη i a
  refine .exr _ refs p (by rw [g];exact h1 w w' X X' hk hb h) (by rw [g];exact h1) fun b d=>?_
  grind
theorem ORep.lt{v:Value}{o:Obj}(h:ORep w X η C v o){b:Nat}(hb:b ∈ Y7 v):b<w.heap.size:=by
 cases h with
 | box b' ro c e cs hh hc=>simp [Y7] at hb;subst hb;exact YJ hh
 | nil ad es f=>cases ad <;> simp [Y7] at hb
 | arr b' n cap es c e f hh hs hn hm hc hl he=>simp [Y7] at hb;obtain ⟨_,rfl⟩:=hb;exact YJ hh
 | ext _ p h h1 h2=>exact h2 b hb
 | exr _ refs p h h1 h2=>exact h2 b hb
end
def Own(s:W5)(η:Nat->Value)(b:Nat):Prop:=∃ i o,s i=some o/\b ∈ Y7 (η i)
def XS(C:Ctx)(s:W5)(η:Nat->Value)(b:Nat):Prop:=(C.X b/\¬ C.D b)\/Own s η b
structure Ctx.Ok (C:Ctx):Prop where
 md:∀ b,C.M b->C.D b
 dx:∀ b,C.D b->C.X b
 lt:∀ b,C.X b->b<C.w0.heap.size
structure Conc (C:Ctx) (nt:Nat) (R:Nat->Prop) (η:Nat->Value) (e:W4) (s:W5) (a:Act) (w:World):Prop where
 ok:C.Ok
 df:a.defers=[]
 sz:a.tmps.size=nt
 ev:∀ t,ARep w (XS C s η) η C (a.tmps.getD t undef) (e t)
 er:∀ t i,i ∈ (e t).refs->R i
 st:∀ i o,s i=some o->ORep w (XS C s η) η C (η i) o
 sr:∀ i o,s i=some o->R i/\∀ j ∈ o.refs,R j
 ds:∀ i j b,s i≠none->s j≠none->b ∈ Y7 (η i)->b ∈ Y7 (η j)->i=j
 ow:∀ i o b,s i=some o->b ∈ Y7 (η i)->(o.ro=true/\C.D b)\/C.M b\/C.w0.heap.size<=b
 fr:Stp C.M C.w0 w
 pn:∀ i v,C.pin i=some v->η i=v/\R i
end
section
structure SR where
 v:AVal:=.any
 del:List Nat:=[]
 upd:Option (Nat×Obj):=none
 new:Option Obj:=none
 cond:Prop:=True
def SR.env(r:SR)(d:Option Tmp)(e:W4):W4:=
 match d with
 | some d=>fun t=>if t=d then r.v else e t
 | none=>e
def SR.sto(r:SR)(d:Option Tmp)(s:W5):W5:=fun i=>
 match r.new,d with
 | some o,some d=>if i=d then some o else
  match r.upd with
  | some (k,o')=>if i=k then some o' else if r.del.contains i then none else s i
  | none=>if r.del.contains i then none else s i
 | _,_=>
  match r.upd with
  | some (k,o')=>if i=k then some o' else if r.del.contains i then none else s i
  | none=>if r.del.contains i then none else s i
def SR.eta(r:SR)(d:Option Tmp)(v:Value)(η:Nat->Value):Nat->Value:=fun i=>
 match r.new,d with
 | some _,some d=>if i=d then v else η i
 | _,_=>η i
def SR.rng(r:SR)(d:Option Tmp)(R:Nat->Prop):Nat->Prop:=fun i=>R i\/(r.new≠none/\d=some i)
theorem ye(a:Act)(d:Option Tmp)(v:Value)(t:Nat)(hd:∀ x,d=some x->x<a.tmps.size):
  (a.put d v).tmps.getD t undef=if d=some t then v else a.tmps.getD t undef:=by
 cases d with
 | none=>simp [Act.put]
 | some x=>
  have b:=hd x rfl;simp only [Act.put,Option.some.injEq]
  by_cases h:x=t
  .subst h;simp [b]
  .simp [h]
theorem Q0q(a:Act)(d:Option Tmp)(v:Value):(a.put d v).tmps.size=a.tmps.size:=by cases d <;> simp [Act.put]
theorem Q0r(a:Act)(d:Option Tmp)(v:Value):(a.put d v).defers=a.defers:=by cases d <;> rfl
section
variable {C:Ctx} {nt:Nat} {R:Nat->Prop} {η:Nat->Value} {e:W4} {s:W5} {a:Act} {w:World}
theorem Conc.lt(h:Conc C nt R η e s a w){b:Nat}(hb:Own s η b):b<w.heap.size:=by
 obtain ⟨i,o,c,hb⟩:=hb;exact (h.st i o c).lt hb
theorem LO(r:SR)(d:Option Tmp):∀ i o,r.sto d s i=some o->(r.new=some o/\d=some i)\/(r.upd=some (i,o)/\(r.new=none\/d≠some i))\/(s i=some o/\i ∉ r.del/\(∀ o',r.upd≠some (i,o'))/\(r.new=none\/d≠some i)):=by
 intro i o c;have b:(match r.upd with|some (k,o')=>if i=k then some o' else if r.del.contains i then none else s i|none=>if r.del.contains i then none else s i)=some o ->
   r.upd=some (i,o)\/(s i=some o/\i ∉ r.del/\∀ o',r.upd≠some (i,o')):=by
  intro f
  cases hu:r.upd with
  | none=>
   grind
  | some ko=>
   grind
 unfold SR.sto at c
 cases hn:r.new with
 | none=>
  grind
 | some on=>
  grind
theorem Fj(r:SR)(d:Option Tmp)(v:Value):∀ i,(r.new=none\/d≠some i)->r.eta d v η i=η i:=by
 intro i b;unfold SR.eta
 grind
theorem Q8L(r:SR)(d:Option Tmp)(v:Value)(N:Nat->Prop)(hnew:∀ o dd,r.new=some o->d=some dd->∀ b,b ∈ Y7 v->N b\/Own s η b)(hupd:∀ k o,r.upd=some (k,o)->s k≠none):∀ b,Own (r.sto d s) (r.eta d v η) b->N b\/Own s η b:=by
 rintro b ⟨i,o,l,c⟩;rcases LO r d i o l with ⟨h,f⟩|⟨m,g⟩|⟨j,_,_,g⟩
 .rw [show r.eta d v η i=v from by simp [SR.eta,h,f]] at c
  exact hnew o i h f b c
 .rw [Fj r d v i g] at c
  obtain ⟨n,p⟩:=Option.ne_none_iff_exists'.1 (hupd i o m);exact .inr ⟨i,n,p,c⟩
 .rw [Fj r d v i g] at c
  exact .inr ⟨i,o,j,c⟩
theorem UX{w w' : World}(r:SR)(d:Option Tmp)(v:Value)(Z:Nat->Prop)(hstep:Stp Z w w')(hZ:∀ b,Z b->Own s η b)(hnew:∀ o dd,r.new=some o->d=some dd->∀ b,b ∈ Y7 v->w.heap.size<=b\/Own s η b)(hupd:∀ k o,r.upd=some (k,o)->s k≠none):QZ w w' (XS C s η) (XS C (r.sto d s) (r.eta d v η)):=by
 intro b j i;have f:¬ Own s η b:=fun c=>i (.inr c)
 refine ⟨hstep.block b j fun l=>f (hZ b l),fun g=>?_⟩;rcases g with c|c
 .exact i (.inl c)
 .rcases Q8L r d v _ hnew hupd b c with h|h
  .omega
  .exact f h
theorem Z1z{R:Nat->Prop}(r:SR)(d:Option Tmp)(v:Value)(hR:∀ o dd,r.new=some o->d=some dd->¬ R dd):∀ i,R i->r.eta d v η i=η i:=by
 intro i c;refine Fj r d v i ?_
 cases hn:r.new with
 | none=>exact .inl rfl
 | some o=>right;intro b;exact hR o i hn b c
theorem Conc.stepG(h:Conc C nt R η e s a w)(d:Option Tmp)(hd:∀ x,d=some x->x<nt)(r:SR)(v u:Value)(w' : World)(Z:Nat->Prop)(hstep:Stp Z w w')(hZ:∀ b,Z b->(∃ i,(i ∈ r.del\/∃ o,r.upd=some (i,o))/\s i≠none/\b ∈ Y7 (η i))/\(C.M b\/C.w0.heap.size<=b))(hnew:∀ o dd,r.new=some o->d=some dd->¬ R dd/\o.ro=false/\(∀ j ∈ o.refs,R j)/\ORep w' (XS C (r.sto d s) (r.eta d u η)) (r.eta d u η) C u o /\
   (∀ b,b ∈ Y7 u->w.heap.size<=b\/((∃ i ∈ r.del,s i≠none/\b ∈ Y7 (η i))/\(C.M b\/C.w0.heap.size<=b))))(hupd:∀ k o,r.upd=some (k,o)->(∃ o0,s k=some o0/\o0.ro=false)/\o.ro=false/\k ∉ r.del/\(∀ j ∈ o.refs,R j)/\ORep w' (XS C (r.sto d s) (r.eta d u η)) (r.eta d u η) C (η k) o)(hv:d≠none->ARep w' (XS C (r.sto d s) (r.eta d u η)) (r.eta d u η) C v r.v/\∀ j ∈ r.v.refs,r.rng d R j):
  Conc C nt (r.rng d R) (r.eta d u η) (r.env d e) (r.sto d s) (a.put d v) w':=by
 have Y:=LO (s:=s) r d;have g:=Fj (η:=η) r d u
 have l:∀ o i,r.new=some o->d=some i->r.eta d u η i=u:=by
  intro o i K h2;simp [SR.eta,K,h2]
 have y:∀ i,R i->r.eta d u η i=η i:=by
  intro i f;refine g i ?_
  cases p:r.new with
  | none=>exact .inl rfl
  | some o=>right;intro c;exact (hnew o i p c).1 f
 have b5:∀ b,Own (r.sto d s) (r.eta d u η) b->w.heap.size<=b\/Own s η b:=by
  rintro b ⟨i,o,f,m⟩;rcases Y i o f with ⟨p,c⟩|⟨O,B⟩|⟨H,_,_,B⟩
  .rw [l o i p c] at m
   rcases (hnew o i p c).2.2.2.2 b m with W|⟨⟨j,_,n,P⟩,_⟩
   .exact .inl W
   .obtain ⟨J,q⟩:=Option.ne_none_iff_exists'.1 n
    exact .inr ⟨j,J,q,P⟩
  .rw [g i B] at m
   obtain ⟨o0,U,_⟩:=(hupd i o O).1;exact .inr ⟨i,o0,U,m⟩
  .rw [g i B] at m
   exact .inr ⟨i,o,H,m⟩
 have E:QZ w w' (XS C s η) (XS C (r.sto d s) (r.eta d u η)):=by
  intro b m hX;have a5:¬ Own s η b:=fun N=>hX (.inr N)
  refine ⟨hstep.block b m fun T=>?_,fun a7=>?_⟩
  .obtain ⟨⟨i,_,f,a2⟩,_⟩:=hZ b T
   obtain ⟨L,G⟩:=Option.ne_none_iff_exists'.1 f;exact a5 ⟨i,L,G,a2⟩
  .rcases a7 with N|N
   .exact hX (.inl N)
   all_goals grind
 refine ⟨h.ok,by rw [Q0r];exact h.df,by rw [Q0q];exact h.sz,?_,?_,?_,?_,?_,?_,?_,fun i u' f=>⟨(y i (h.pn i u' f).2).trans (h.pn i u' f).1,.inl (h.pn i u' f).2⟩⟩
 .intro t
  rw [ye a d v t (by rw [h.sz];exact hd)]
  by_cases ht:d=some t
  .subst ht
   simp only [if_true,SR.env];exact (hv (by simp)).1
  .rw [if_neg ht]
   have:r.env d e t=e t:=by
    unfold SR.env
    cases d with
    | none=>rfl
    | some x=>simp only [];rw [if_neg];intro N;subst N;exact ht rfl
   rw [this];exact (h.ev t).mono E fun i f=>y i (h.er t i f)
 .intro t i f
  by_cases ht:d=some t
  .subst ht
   simp only [SR.env,if_true] at f;exact (hv (by simp)).2 i f
  .have:r.env d e t=e t:=by
    unfold SR.env
    cases d with
    | none=>rfl
    | some x=>simp only [];rw [if_neg];intro N;subst N;exact ht rfl
   rw [this] at f;exact .inl (h.er t i f)
 .intro i o f
  rcases Y i o f with ⟨p,c⟩|⟨O,B⟩|⟨H,D,Q,B⟩
  .rw [l o i p c];exact (hnew o i p c).2.2.2.1
  .rw [g i B];exact (hupd i o O).2.2.2.2
  .rw [g i B]
   refine (h.st i o H).mono E (fun j n=>y j ((h.sr i o H).2 j n)) fun b m=>?_
   refine hstep.block b ((h.st i o H).lt m) fun T=>?_
   obtain ⟨⟨j,n,b2,P⟩,_⟩:=hZ b T;have a9:i=j:=h.ds i j b (by rw [H];simp) b2 m P
   subst a9;rcases n with n|⟨S,a0⟩
   .exact D n
   .exact Q S a0
 .intro i o f
  rcases Y i o f with ⟨p,c⟩|⟨O,B⟩|⟨H,D,Q,B⟩
  .exact ⟨.inr ⟨by rw [p];simp,c⟩,fun j n=>.inl ((hnew o i p c).2.2.1 j n)⟩
  .obtain ⟨o0,U,_⟩:=(hupd i o O).1
   exact ⟨.inl (h.sr i o0 U).1,fun j n=>.inl ((hupd i o O).2.2.2.1 j n)⟩
  .exact ⟨.inl (h.sr i o H).1,fun j n=>.inl ((h.sr i o H).2 j n)⟩
 .
  have F:∀ i o,r.sto d s i=some o->¬ (r.new=some o/\d=some i)->s i≠none/\i ∉ r.del/\r.eta d u η i=η i:=by
   grind
  have I:∀ i o j S,r.sto d s j=some S -> (r.new=some o/\d=some i)->¬ (r.new=some S /\ d=some j)->∀ b,b ∈ Y7 u->b ∈ Y7 (η j)->False:=by
   intro i o j S n p a8 b m V;obtain ⟨K,h2,_⟩:=F j S n a8
   obtain ⟨J,q⟩:=Option.ne_none_iff_exists'.1 K;rcases (hnew o i p.1 p.2).2.2.2.2 b m with W|⟨⟨k,hk,a4,a6⟩,_⟩
   .have:=(h.st j J q).lt V;omega
   .have:j=k:=h.ds j k b K a4 V a6
    grind
  intro i j b f n z A;obtain ⟨L,G⟩:=Option.ne_none_iff_exists'.1 f
  obtain ⟨J,q⟩:=Option.ne_none_iff_exists'.1 n
  by_cases ni:r.new=some L/\d=some i
  .by_cases nj:r.new=some J/\d=some j
   .have:=ni.2.symm.trans nj.2;simpa using this
   .exfalso
    rw [l L i ni.1 ni.2] at z;rw [(F j J q nj).2.2] at A
    exact I i L j J q ni nj b z A
  .by_cases nj:r.new=some J/\d=some j
   .exfalso
    rw [l J j nj.1 nj.2] at A;rw [(F i L G ni).2.2] at z
    exact I j J i L G nj ni b A z
   .obtain ⟨a1,_,a3⟩:=F i L G ni
    obtain ⟨b1,_,b3⟩:=F j J q nj;rw [a3] at z;rw [b3] at A
    exact h.ds i j b a1 b1 z A
 .intro i o b f m
  rcases Y i o f with ⟨p,c⟩|⟨O,B⟩|⟨H,D,Q,B⟩
  .rw [l o i p c] at m
   rcases (hnew o i p c).2.2.2.2 b m with W|⟨_,hm⟩
   .exact .inr (.inr (Nat.le_trans h.fr.size W))
   .exact .inr hm
  .rw [g i B] at m
   obtain ⟨o0,U,b0⟩:=(hupd i o O).1;rcases h.ow i o0 b U m with ⟨K,_⟩|K
   .rw [b0] at K;cases K
   .exact .inr K
  .rw [g i B] at m
   exact h.ow i o b H m
 .refine h.fr.trans (hstep.mono fun b _ T=>?_)
  exact (hZ b T).2
theorem Conc.step(h:Conc C nt R η e s a w)(d:Option Tmp)(hd:∀ x,d=some x->x<nt)(r:SR)(v:Value)(w' : World)(Z:Nat->Prop)(hstep:Stp Z w w')(hZ:∀ b,Z b->(∃ i,(i ∈ r.del\/∃ o,r.upd=some (i,o))/\s i≠none/\b ∈ Y7 (η i))/\(C.M b\/C.w0.heap.size<=b))(hnew:∀ o dd,r.new=some o->d=some dd->¬ R dd/\o.ro=false/\(∀ j ∈ o.refs,R j)/\ORep w' (XS C (r.sto d s) (r.eta d v η)) (r.eta d v η) C v o /\
   (∀ b,b ∈ Y7 v->w.heap.size<=b\/((∃ i ∈ r.del,s i≠none/\b ∈ Y7 (η i))/\(C.M b\/C.w0.heap.size<=b))))(hupd:∀ k o,r.upd=some (k,o)->(∃ o0,s k=some o0/\o0.ro=false)/\o.ro=false/\k ∉ r.del/\(∀ j ∈ o.refs,R j)/\ORep w' (XS C (r.sto d s) (r.eta d v η)) (r.eta d v η) C (η k) o)(hv:d≠none->ARep w' (XS C (r.sto d s) (r.eta d v η)) (r.eta d v η) C v r.v/\∀ j ∈ r.v.refs,r.rng d R j):
  Conc C nt (r.rng d R) (r.eta d v η) (r.env d e) (r.sto d s) (a.put d v) w' :=
 h.stepG d hd r v v w' Z hstep hZ hnew hupd hv
theorem Conc.val(h:Conc C nt R η e s a w)(d:Option Tmp)(hd:∀ x,d=some x->x<nt)(x:AVal)(v:Value)(hv:d≠none->ARep w (XS C s η) η C v x/\∀ j ∈ x.refs,R j):
  Conc C nt R η (SR.env { v:=x } d e) s (a.put d v) w:=by
 have l:SR.sto { v:=x } d s=s:=by funext i;simp [SR.sto]
 have f:SR.eta { v:=x } d v η=η:=by funext i;simp [SR.eta]
 have g:SR.rng { v:=x } d R=R:=by funext i;simp [SR.rng]
 have:=h.step d hd { v:=x } v w (fun _=>False) (Stp.refl _ _) (fun b m=>m.elim) (fun o dd c=>by cases c) (fun k o c=>by cases c)
  (fun n=>by rw [l,f,g];exact hv n)
 rwa [l,f,g] at this
theorem Conc.drew(h:Conc C nt R η e s a w):Conc C nt R η e s a { w with drawn:=w.drawn+1 }:=by
 have c:QZ w { w with drawn:=w.drawn+1 } (XS C s η) (XS C s η):=fun b _ f=>⟨rfl,f⟩
 exact ⟨h.ok,h.df,h.sz,fun t=>(h.ev t).mono c fun _ _=>rfl,h.er,fun i o d=>(h.st i o d).mono c (fun _ _=>rfl) fun _ _=>rfl,h.sr,h.ds,h.ow,
  ⟨h.fr.os,h.fr.tape,h.fr.output,h.fr.size,h.fr.block,Nat.le_succ_of_le h.fr.dr⟩,h.pn⟩
end
end
inductive TK where
 | int (k:IntKind)
 | bool
 | str
 | slice (e:Nat)
 | struct (fs:List (Nat×Nat))
 | array (n e:Nat)
 | other
def TK.agg:TK->Bool
 | .struct _=>true
 | .array _ _=>true
 | _=>false
structure TI where
 kind:TK
 size:Nat
 bytes:Nat
 zero:List CV
abbrev V9:=Nat->Option TI
def Q9(n:Int):Prop:= -9223372036854775808<=n/\n<=9223372036854775807
def Y5:Nat:=4294967296
def vi(n:Int):AVal:=.v (.c (.d (.int .i64 n)))
def vb(b:Bool):AVal:=.v (.c (.d (.bool b)))
def FV:Value->AVal
 | .int k n=>.v (.c (.d (.int k n)))
 | .bool b=>.v (.c (.d (.bool b)))
 | .string s=>.v (.c (.d (.str s)))
 | .slice none 0 0=>.v (.c (.fl 0 fun _=>[]))
 | _=>.any
def Y2(e:W4):Operand->AVal
 | .tmp t=>e t
 | .const v=>FV v
 | .func f=>.v (.c (.clo f []))
 | .global _=>.any
def GW:AVal->Option (List CV)
 | .v (.c x)=>some [x]
 | .v (.g xs)=>some xs
 | _=>none
def Vx(agg:Bool)(cs:List CV):Option AVal:=
 match agg with
 | true=>some (.v (.g cs))
 | false=>match cs with
  | [x]=>some (.v (.c x))
  | _=>none
def Lq:CV->Option DVal
 | .d x=>some x
 | .fl n f=>some (.lst n f)
 | _=>none
def VP:List CV->Option (List DVal)
 | []=>some []
 | x::xs=>match Lq x,VP xs with
  | some a,some b=>some (a::b)
  | _,_=>none
def rd(s:W5)(n:Nat):AVal->Option (List CV×Prop)
 | .v (.c (.ptr id off))=>match s id with
  | some (.box _ cs)=>if off+n<=cs.length then some ((cs.drop off).take n,True) else none
  | _=>none
 | .v (.c (.elm cs))=>if n<=cs.length then some ((cs.take n).map .d,True) else none
 | .v (.c (.pte id es idx off))=>match s id with
  | some (.arr es' k f)=>if es=es' /\ off+n<=es/\(f idx).length=es then some ((((f idx).drop off).take n).map .d,idx<k) else none
  | _=>none
 | _=>none
def Ys{α:Type}(cs:List α)(off:Nat)(xs:List α):List α:=cs.take off++(xs++cs.drop (off+xs.length))
def wr(s:W5)(xs:List CV):AVal->Option SR
 | .v (.c (.ptr id off))=>match s id with
  | some (.box false cs)=>if off+xs.length<=cs.length then some { upd:=some (id,.box false (Ys cs off xs)) } else none
  | _=>none
 | .v (.c (.pte id es idx off))=>match s id with
  | some (.arr es' k f)=>match VP xs with
   | some ds=>if es=es' /\ off+ds.length<=es/\(f idx).length=es then
     some { upd:=some (id,.arr es k fun j=>if j=idx then Ys (f idx) off ds else f j),cond:=idx<k } else none
   | none=>none
  | _=>none
 | _=>none
def UD(m:Bool)(k:IntKind)(n:Int)(c:Prop):SR:=
 match k,m with
 | .i64,false=> { v:=vi n,cond:=Q9 n/\c }
 | k,_=> { v:=.v (.c (.d (.int k (k.wrap n)))),cond:=c }
def QN(k:IntKind)(x y:Int):Int:=k.wrap (BitVec.ofInt k.bits x &&& BitVec.ofInt k.bits y).toNat
def J8(k:IntKind)(x y:Int):Int:=k.wrap (BitVec.ofInt k.bits x ||| BitVec.ofInt k.bits y).toNat
def xm(k:IntKind)(x y:Int):Int:=k.wrap (BitVec.ofInt k.bits x ^^^ BitVec.ofInt k.bits y).toNat
def GX(m:Bool)(op:BinOp)(x y:AVal):Option SR:=
 match x,y with
 | .v (.c (.d (.int k a))),.v (.c (.d (.int k' b)))=>
  match op with
  | .shl=>some (UD m k (a*2 ^ (min b.toNat k.bits)) (0<=b))
  | .shr=>some { v:=.v (.c (.d (.int k (a.fdiv (2 ^ (min b.toNat k.bits)))))),cond:=0<=b }
  | op=>if k=k' then match op with
   | .add=>some (UD m k (a+b) True)
   | .sub=>some (UD m k (a-b) True)
   | .mul=>some (UD m k (a*b) True)
   | .quo=>some (UD m k (a.tdiv b) (b≠0))
   | .rem=>some { v:=.v (.c (.d (.int k (a.tmod b)))),cond:=b≠0 }
   | .and=>some { v:=.v (.c (.d (.int k (QN k a b)))) }
   | .or=>some { v:=.v (.c (.d (.int k (J8 k a b)))) }
   | .xor=>some { v:=.v (.c (.d (.int k (xm k a b)))) }
   | .eql=>some { v:=vb (a==b) }
   | .neq=>some { v:=vb (a != b) }
   | .lss=>some { v:=vb (a<b) }
   | .leq=>some { v:=vb (a<=b) }
   | .gtr=>some { v:=vb (b<a) }
   | .geq=>some { v:=vb (b<=a) }
   | _=>none else none
 | _,_=>none
def FQ(m:Bool)(op:UnOp)(x:AVal):Option SR:=
 match op,x with
 | .not,.v (.c (.d (.bool b)))=>some { v:=vb (!b) }
 | .neg,.v (.c (.d (.int k n)))=>some (UD m k (0-n) True)
 | _,_=>none
def Qd(a b:Int):Int:=if b<a then b else a
def J3(a b:Int):Int:=if a<b then b else a
def ZJ:AVal->Option Int
 | .v (.c (.d (.int _ n)))=>some n
 | _=>none
def VI(s:W5):AVal->Option (Nat×(Nat->List DVal))
 | .v (.c (.d (.lst n f)))=>some (n,f)
 | .v (.c (.fl n f))=>some (n,f)
 | .v (.c (.own id))=>match s id with
  | some (.arr _ n f)=>some (n,f)
  | _=>none
 | .v (.c (.sub id es lo n))=>match s id with
  | some (.arr es' _ f)=>if es=es' then some (n,fun j=>f (lo+j)) else none
  | _=>none
 | _=>none
def QH(n:Nat)(f g:Nat->List DVal):Nat->List DVal:=fun i=>if i<n then f i else g (i-n)
def Jf(s:W5)(es m:Nat):AVal->Option (List Nat×Nat×(Nat->List DVal)×Prop)
 | .v (.c (.own id))=>match s id with
  | some (.arr es' n f)=>if es=es' then some ([id],n,f,True) else none
  | _=>none
 | .v (.c (.fl n f))=>if n=0\/0<m then some ([],n,f,∀ j,j<n->(f j).length=es) else none
 | _=>none
def Ur(pl:Nat->Option (Nat×Nat))(cells:List CV):List (Nat×AVal)->Option (List CV)
 | []=>some cells
 | (i,x)::rest=>match pl i,GW x with
  | some (off,size),some xs=>if xs.length=size/\off+size<=cells.length then Ur pl (Ys cells off xs) rest else none
  | _,_=>none
def Pu(L:V9):List (Nat×Nat)->Option (List (Nat×Nat))
 | []=>some []
 | (off,t)::r=>match L t,Pu L r with
  | some ti,some l=>some ((off,ti.size)::l)
  | _,_=>none
def VV{α:Type}(n:Nat)(xs:List α):List α:=match n with|0=>[] | n+1=>xs++VV n xs
def Kp(L:V9)(s:W5)(b:Builtin)(tys:Array TypeId)(xs:List AVal):Option SR:=
 match b,xs with
 | .len,[x]=>match tys.toList with
  | [t]=>match L t with
   | some { kind:=.slice _,.. }=>match VI s x with
    | some (n,_)=>some { v:=vi n }
    | none=>none
   | some { kind:=.array n _,.. }=>some { v:=vi n }
   | some { kind:=.str,.. }=>match x with
    | .v (.c (.d (.str b)))=>some { v:=vi b.size }
    | _=>none
   | _=>none
  | _=>none
 | .min,[.v (.c (.d (.int k a))),.v (.c (.d (.int _ b)))]=>some { v:=.v (.c (.d (.int k (Qd a b)))) }
 | .max,[.v (.c (.d (.int k a))),.v (.c (.d (.int _ b)))]=>some { v:=.v (.c (.d (.int k (J3 a b)))) }
 | .append,[x,y]=>match tys.toList with
  | [t,t']=>if t=t' then match L t with
   | some { kind:=.slice el,.. }=>match L el with
    | some te=>match VI s y with
     | some (k,g)=>match Jf s te.size k x with
      | some (del,n,f,c)=>if 0<te.size/\te.bytes<=8192/\te.zero.length=te.size then
        some { v:=.any,del:=del,new:=some (.arr te.size (n+k) (QH n f g)),cond:=n+k<=Y5/\(∀ j,j<k->(g j).length=te.size)/\c } else none
      | none=>none
     | none=>none
    | none=>none
   | _=>none else none
  | _=>none
 | _,_=>none
def sl(n:Nat)(f:Nat->List DVal)(lo hi:Option Int):(Nat×(Nat->List DVal))×Prop:=
 match lo,hi with
 | none,none=>((n,f),True)
 | some l,none=>((n-l.toNat,fun i=>f (l.toNat+i)),0<=l/\l<=n)
 | none,some h=>((h.toNat,f),0<=h/\h<=n)
 | some l,some h=>((h.toNat-l.toNat,fun i=>f (l.toNat+i)),0<=l/\l<=h/\h<=n)
def oI(e:W4):Option Operand->Option (Option Int)
 | none=>some none
 | some x=>match ZJ (Y2 e x) with
  | some n=>some (some n)
  | none=>none
def Zr(L:V9)(m:Bool)(e:W4)(s:W5)(o:Oper):Option SR:=
 match o.op with
 | .move x=>some { v:=Y2 e x }
 | .assign x=>match m,Y2 e x,o.dst with
  | false,x,_=>some { v:=x }
  | true,.v (.c (.fl 0 f)),some d=>match L o.type with
   | some { kind:=.slice el,.. }=>match L el with
    | some te=>some { v:=.v (.c (.own d)),new:=some (.arr te.size 0 f) }
    | none=>none
   | _=>none
  | _,_,_=>none
 | .pick c x y=>match Y2 e c with
  | .v (.c (.d (.bool true)))=>some { v:=Y2 e x }
  | .v (.c (.d (.bool false)))=>some { v:=Y2 e y }
  | _=>none
 | .alloc t=>match L t,o.dst with
  | some ti,some d=>some { v:=.v (.c (.ptr d 0)),new:=some (.box false ti.zero) }
  | _,_=>none
 | .box _ x=>match GW (Y2 e x),o.dst with
  | some xs,some d=>some { v:=.v (.c (.ptr d 0)),new:=some (.box false xs) }
  | _,_=>none
 | .build t ps=>match L t with
  | some { kind:=.struct fs,zero:=z,.. }=>match Pu L fs with
   | some pl=>match Ur (fun i=>pl[i]?) z (ps.toList.map fun p=>(p.1,Y2 e p.2)) with
    | some cs=>some { v:=.v (.g cs) }
    | none=>none
   | none=>none
  | some { kind:=.array _ el,zero:=z,.. }=>match L el with
   | some te=>match Ur (fun i=>some (i*te.size,te.size)) z (ps.toList.map fun p=>(p.1,Y2 e p.2)) with
    | some cs=>some { v:=.v (.g cs) }
    | none=>none
   | none=>none
  | _=>none
 | .buildSlice t len ps=>match L t with
  | some { kind:=.slice el,.. }=>match L el with
   | some te=>if len*te.size<=16777216/\te.zero.length=te.size/\0<te.size then
     match Ur (fun i=>some (i*te.size,te.size)) (VV len te.zero) (ps.toList.map fun p=>(p.1,Y2 e p.2)) with
     | some cs=>match VP cs with
      | some ds=>match m,o.dst with
       | false,_=>some { v:=.v (.c (.d (.lst len fun i=>(ds.drop (i*te.size)).take te.size))) }
       | true,some d=>some { v:=.v (.c (.own d)),new:=some (.arr te.size len fun i=>(ds.drop (i*te.size)).take te.size) }
       | _,_=>none
      | none=>none
     | none=>none else none
   | none=>none
  | _=>none
 | .load t x=>match L t with
  | some ti=>match rd s ti.size (Y2 e x) with
   | some (cs,c)=>match Vx ti.kind.agg cs with
    | some v=>some { v:=v,cond:=c }
    | none=>none
   | none=>none
  | none=>none
 | .store t x y=>match L t,GW (Y2 e y) with
  | some ti,some xs=>if xs.length=ti.size then wr s xs (Y2 e x) else none
  | _,_=>none
 | .nilCheck x=>match Y2 e x with
  | .v (.c (.ptr id off))=>some { v:=.v (.c (.ptr id off)) }
  | .v (.c (.pte id es idx off))=>some { v:=.v (.c (.pte id es idx off)) }
  | .v (.c (.elm cs))=>some { v:=.v (.c (.elm cs)) }
  | _=>none
 | .binOp op _ x y _=>GX m op (Y2 e x) (Y2 e y)
 | .unOp op _ x=>FQ m op (Y2 e x)
 | .convert src dst x=>match L src,L dst,Y2 e x with
  | some { kind:=.int _,.. },some { kind:=.int k,.. },.v (.c (.d (.int _ n)))=>some (UD m k n True)
  | some { kind:=.str,.. },some { kind:=.str,.. },.v (.c (.d (.str b)))=>some { v:=.v (.c (.d (.str b))) }
  | _,_,_=>none
 | .makeFunc (.func f) first caps=>if first.size=0 then match cloIds (caps.toList.map (Y2 e)) with
   | some ids=>some { v:=.v (.c (.clo f ids)) }
   | none=>none else none
 | .slice t x lo hi none=>match L t with
  | some { kind:=.slice el,.. }=>match L el with
   | some te=>match m,Y2 e x,oI e lo,oI e hi with
    | false,x,some lo,some hi=>match asF x with
     | some (n,f)=>some { v:=.v (.c (.d (.lst (sl n f lo hi).1.1 (sl n f lo hi).1.2))),cond:=(sl n f lo hi).2/\∀ j,j<n->(f j).length=te.size }
     | none=>none
    | true,.v (.c (.own id)),some none,some (some h)=>match s id,o.dst with
     | some (.arr es n f),some d=>some { v:=.v (.c (.own d)),del:=[id],new:=some (.arr es h.toNat f),cond:=0<=h/\h<=n }
     | _,_=>none
    | _,_,_,_=>none
   | none=>none
  | _=>none
 | .slice t x none (some h) (some mx)=>match L t with
  | some { kind:=.slice el,.. }=>match L el,asF (Y2 e x),ZJ (Y2 e h),ZJ (Y2 e mx) with
   | some te,some (n,f),some h,some mx=>if h=mx/\0<h then
     some { v:=.v (.c (.fl h.toNat f)),cond:=h<=n/\∀ j,j<n->(f j).length=te.size } else none
   | _,_,_,_=>none
  | _=>none
 | .fieldAddr t x k=>match L t with
  | some { kind:=.struct fs,.. }=>match fs[k]? with
   | some (off,ft)=>match L ft with
    | some tf=>if tf.size=0 then none else match Y2 e x with
     | .v (.c (.ptr id o))=>some { v:=.v (.c (.ptr id (o+off))) }
     | .v (.c (.pte id es idx o))=>some { v:=.v (.c (.pte id es idx (o+off))) }
     | .v (.c (.elm cs))=>if off<=cs.length then some { v:=.v (.c (.elm (cs.drop off))) } else none
     | _=>none
    | none=>none
   | none=>none
  | _=>none
 | .field t x k=>match L t with
  | some { kind:=.struct fs,.. }=>match fs[k]?,Y2 e x with
   | some (off,ft),.v (.g cs)=>match L ft with
    | some tf=>if off+tf.size<=cs.length then match Vx tf.kind.agg ((cs.drop off).take tf.size) with
      | some v=>some { v:=v }
      | none=>none else none
    | none=>none
   | _,_=>none
  | _=>none
 | .indexAddr t x i=>match L t,ZJ (Y2 e i) with
  | some { kind:=.slice el,.. },some i=>match L el with
   | some te=>match Y2 e x with
    | .v (.c (.own id))=>match s id with
     | some (.arr es n _)=>if es=te.size then some { v:=.v (.c (.pte id es i.toNat 0)),cond:=0<=i/\i<n } else none
     | _=>none
    | x=>match asF x with
     | some (n,f)=>if (f i.toNat).length=te.size then some { v:=.v (.c (.elm (f i.toNat))),cond:=0<=i/\i<n } else none
     | none=>none
   | none=>none
  | some { kind:=.array n el,.. },some i=>match L el,Y2 e x with
   | some te,.v (.c (.ptr id off))=>if 0<=i/\i<n then some { v:=.v (.c (.ptr id (off+i.toNat*te.size))) } else none
   | _,_=>none
  | _,_=>none
 | .index t x i=>match L t,ZJ (Y2 e i),Y2 e x with
  | some { kind:=.array n el,.. },some i,.v (.g cs)=>match L el with
   | some te=>if 0<=i/\i<n/\i.toNat*te.size+te.size<=cs.length then match Vx te.kind.agg ((cs.drop (i.toNat*te.size)).take te.size) with
     | some v=>some { v:=v }
     | none=>none else none
   | none=>none
  | _,_,_=>none
 | .makeSlice t l c=>match L t,ZJ (Y2 e l),ZJ (Y2 e c),o.dst with
  | some { kind:=.slice el,.. },some l,some c,some d=>match L el with
   | some te=>match VP te.zero with
    | some z=>if 0<te.size/\te.bytes<=8192/\te.zero.length=te.size then some { v:=.v (.c (.own d)),new:=some (.arr te.size l.toNat fun _=>z),cond:=0<=l/\l=c/\l<=Y5 } else none
    | none=>none
   | none=>none
  | _,_,_,_=>none
 | .extract x k=>match Y2 e x with
  | .t xs=>match xs[k]? with
   | some v=>some { v:=.v v }
   | none=>none
  | _=>none
 | .call { callee:=.builtin b,args,argTypes }=>match Kp L s b argTypes (args.toList.map (Y2 e)),o.dst with
  | some r,d=>match r.new,d with
   | some _,some d=>some { r with v:=.v (.c (.own d)) }
   | some _,none=>none
   | none,_=>some r
  | none,_=>none
 | _=>none
where
 cloIds:List AVal->Option (List Nat)
  | []=>some []
  | .v (.c (.ptr id 0))::r=>match cloIds r with
   | some ids=>some (id::ids)
   | none=>none
  | _::_=>none
 asF:AVal->Option (Nat×(Nat->List DVal))
  | .v (.c (.d (.lst n f)))=>some (n,f)
  | .v (.c (.fl n f))=>some (n,f)
  | _=>none
section
def ZK(d:TypeDesc):TK->Prop
 | .int k=>d=.int k
 | .bool=>d=.bool
 | .str=>d=.string
 | .slice e=>d=.slice e
 | .struct fs=>∃ fields,d=.struct fields/\fields.toList.map (fun f=>(f.offset,f.type))=fs
 | .array n e=>d=.array n e
 | .other=>(∀ fs,d≠.struct fs)/\∀ n e,d≠.array n e
structure TIOk (P:Program) (t:Nat) (ti:TI) (i:TypeInfo) (d:TypeDesc) (z:Value):Prop where
 info:P.info? t=some i
 und:P.underlying t=some d
 size:i.size=ti.size
 bytes:i.bytes=ti.bytes
 zero:i.zero=some z
 zrep:∀ w X η C,G8 w X η C z.cells ti.zero
 zrefs:ti.zero.flatMap CV.refs=[]
 kind:ZK d ti.kind
def z7(P:Program)(L:V9):Prop:=∀ t ti,L t=some ti->∃ i d z,TIOk P t ti i d z
section
variable {P:Program} {L:V9}
theorem RV{t:Nat}{ti:TI}{i:TypeInfo}{d:TypeDesc}{z:Value}(h:TIOk P t ti i d z)(w:World):(isAgg t).run P w=.ok ti.kind.agg w:=by
 have b:=h.kind;simp only [isAgg,Sem.run_bind,run_underlying h.und,Result.andThen_ok]
 cases hkk:ti.kind <;> simp only [hkk,ZK] at b
 all_goals first
  | (subst b;rfl)
  | (obtain ⟨f,rfl,_⟩:=b;rfl)
  | skip
 split
 .grind
 .grind
 .rfl
theorem YG{t:Nat}{ti:TI}{i:TypeInfo}{d:TypeDesc}{z:Value}(h:TIOk P t ti i d z)(w:World):(sizeOf t).run P w=.ok ti.size w:=by
 simp [sizeOf,typeInfo,h.info,h.size]
theorem RU{t:Nat}{ti:TI}{i:TypeInfo}{d:TypeDesc}{z:Value}(h:TIOk P t ti i d z)(w:World):(zeroValue t).run P w=.ok z w:=by
 simp [zeroValue,typeInfo,h.info,h.zero]
theorem add_lit(b o n:Nat):(⟨b,o,none⟩:Addr).add n=⟨b,o+n,none⟩:=by unfold Addr.add;split <;> simp_all
theorem Mf{w:World}{b:Nat}{c:Array Value}{e:TypeId}{fz:Nat×Nat}(h:w.heap[b]?=some (.cells c e fz))(j:Nat)(hj:j<c.size):
  w.cell? ⟨b,j,none⟩=some (c.getD j undef):=by
 rw [cell_of_row w b j c e fz h];simp [hj]
def Zl(c:Array Value)(off n:Nat):List Value:=(List.range n).map fun j=>c.getD (off+j) undef
theorem jC{t:Nat}{ti:TI}{i:TypeInfo}{d:TypeDesc}{z:Value}(h:TIOk P t ti i d z){w:World}{b off:Nat}{c:Array Value}{e:TypeId}{fz:Nat×Nat}(hb:w.heap[b]?=some (.cells c e fz))(ho:off+ti.size<=c.size)(h1:ti.kind.agg=false->ti.size=1):
  (loadVar t ⟨b,off,none⟩).run P w=.ok (if ti.kind.agg then .agg (Zl c off ti.size).toArray else c.getD off undef) w:=by
 simp only [loadVar,Sem.run_bind,RV h,Result.andThen_ok]
 cases ha:ti.kind.agg with
 | true=>
  have:=run_loadCells (P:=P) w ⟨b,off,none⟩ ti.size (fun j=>c.getD (off+j) undef) (fun j f=>by rw [add_lit];exact Mf hb _ (by omega))
  simp only [Sem.run_bind,YG h,Result.andThen_ok,this,if_true,Sem.run_pure,Zl]
 | false=>
  have:=h1 ha
  simp only [Bool.false_eq_true,if_false];rw [run_load,Mf hb off (by omega)]
theorem PZ{o:Oper}{a:Act}{w w' : World}{v:Value}{K:Act->World->Prop}{Q:Exit->Act->World->Prop}(h:(execOp a.eval o).run P w=.ok (.value v) w')(hK:K (a.put o.dst v) w'):o.wp P a w K Q:=by
 unfold Oper.wp;rw [h];exact hK
theorem kc{o:Oper}{a:Act}{w w' : World}{K:Act->World->Prop}{Q:Exit->Act->World->Prop}(h:(execOp a.eval o).run P w=.ok .skip w')(hK:K (a.put o.dst undef) w'):o.wp P a w K Q:=by
 unfold Oper.wp;rw [h];exact hK
end
section
variable {P:Program} {L:V9} {C:Ctx} {nt:Nat} {R:Nat->Prop} {η:Nat->Value} {e:W4} {s:W5} {a:Act} {w:World}
def G4(P:Program)(C:Ctx)(nt:Nat)(R:Nat->Prop)(η:Nat->Value)(e:W4)(s:W5)(a:Act)(w:World)(o:Oper)(r:SR):Prop:=
 ∃ v w',((execOp a.eval o).run P w=.ok (.value v) w' \/ ((execOp a.eval o).run P w=.ok .skip w' /\ v=undef)) /\
  Conc C nt (r.rng o.dst R) (r.eta o.dst v η) (r.env o.dst e) (r.sto o.dst s) (a.put o.dst v) w'
theorem G4.wp{o:Oper}{r:SR}(h:G4 P C nt R η e s a w o r){K:Act->World->Prop}{Q:Exit->Act->World->Prop}(hK:∀ η' a' w',Conc C nt (r.rng o.dst R) η' (r.env o.dst e) (r.sto o.dst s) a' w' -> K a' w'):o.wp P a w K Q:=by
 obtain ⟨v,w',b|⟨b,rfl⟩,c⟩:=h
 .exact PZ b (hK _ _ _ c)
 .exact kc b (hK _ _ _ c)
theorem Q6S(d:Option Tmp)(x:AVal)(c:Prop):SR.rng { v:=x,cond:=c } d R=R:=by funext i;simp [SR.rng]
theorem Q5d(d:Option Tmp)(x:AVal)(c:Prop):SR.sto { v:=x,cond:=c } d s=s:=by funext i;simp [SR.sto]
theorem Z1y(d:Option Tmp)(x:AVal)(c:Prop)(v:Value):SR.eta { v:=x,cond:=c } d v η=η:=by funext i;simp [SR.eta]
theorem Z1C(d:Option Tmp)(x:AVal)(c:Prop):SR.env { v:=x,cond:=c } d e=SR.env { v:=x } d e:=rfl
theorem Ze(h:Conc C nt R η e s a w){o:Oper}(hd:∀ x,o.dst=some x->x<nt){x:AVal}{c:Prop}{v:Value}(hr:(execOp a.eval o).run P w=.ok (.value v) w)(hv:ARep w (XS C s η) η C v x)(hx:∀ j ∈ x.refs,R j):G4 P C nt R η e s a w o { v:=x,cond:=c }:=by
 refine ⟨v,w,.inl hr,?_⟩;rw [Q6S,Q5d,Z1y,Z1C]
 exact h.val o.dst hd x v fun _=>⟨hv,hx⟩
theorem Z2V(v:Value)(X:Nat->Prop):ARep w X η C v (FV v)/\(FV v).refs=[]:=by
 unfold FV;split
 .exact ⟨.v _ _ (.c _ _ (.d _ _ (.int _ _))),rfl⟩
 .exact ⟨.v _ _ (.c _ _ (.d _ _ (.bool _))),rfl⟩
 .exact ⟨.v _ _ (.c _ _ (.d _ _ (.str _))),rfl⟩
 .exact ⟨.v _ _ (.c _ _ (.fl _ _ _ (.nil _ _ _))),rfl⟩
 .exact ⟨.any _,rfl⟩
theorem U5(h:Conc C nt R η e s a w)(x:Operand):ARep w (XS C s η) η C (a.eval x) (Y2 e x)/\∀ j ∈ (Y2 e x).refs,R j:=by
 cases x with
 | tmp t=>exact ⟨h.ev t,h.er t⟩
 | const v=>
  obtain ⟨d,b⟩:=Z2V (w:=w) (η:=η) (C:=C) v (XS C s η);exact ⟨d,by simp only [Y2];rw [b];simp⟩
 | global g=>exact ⟨.any _,by simp [Y2,AVal.refs]⟩
 | func f=>exact ⟨.v _ _ (.c _ _ (.clo f [] #[] rfl)),by simp [Y2,AVal.refs,TV.refs,CV.refs]⟩
theorem vy{α β:Type}(f:α->List β)(l:List α)(n:Nat):∀ j ∈ (l.take n).flatMap f,j ∈ l.flatMap f:=by
 grind
theorem vz{α β:Type}(f:α->List β)(l:List α)(n:Nat):∀ j ∈ (l.drop n).flatMap f,j ∈ l.flatMap f:=by
 grind
theorem jX(ds:List DVal):(ds.map CV.d).flatMap CV.refs=[]:=by
 induction ds with
 | nil=>rfl
 | cons x r ih=>simp [CV.refs]
theorem vr{α:Type}(l:List α)(off n j:Nat)(x:α)(hj:j<n):((l.drop off).take n).getD j x=l.getD (off+j) x:=by
 grind
theorem Q0n(h:Conc C nt R η e s a w){n:Nat}{x:AVal}{v:Value}{cs:List CV}{c:Prop}(hr:rd s n x=some (cs,c))(hc:c)(hv:ARep w (XS C s η) η C v x):
  ∃ b off c' e' fz,v=.pointer (some ⟨b,off,none⟩)/\w.heap[b]?=some (.cells c' e' fz)/\off+n<=c'.size/\cs.length=n /\
   (∀ j,j<n->CRep w (XS C s η) η C (c'.getD (off+j) undef) (cs.getD j (.d .any)))/\∀ j ∈ cs.flatMap CV.refs,R j:=by
 unfold rd at hr;split at hr
 .rename_i r off
  split at hr
  .rename_i A B q
   split at hr
   .rename_i m
    cases hr
    have l:=h.st r _ q
    cases hv with
    | v _ _ hv=>
    cases hv with
    | c _ _ hv=>
    cases hv with
    | ptr b _ _ he=>
    rw [he] at l
    cases l with
    | box _ _ c' e' _ hb hcs=>
    have t:=hcs.1;refine ⟨b,off,c',e',(0,0),rfl,hb,by omega,by simp;omega,fun j i=>?_,fun j i=>?_⟩
    .rw [vr _ _ _ _ _ i];exact hcs.2 (off+j) (by omega)
    .exact (h.sr r _ q).2 j (vz _ _ _ j (vy _ _ _ j i))
   .cases hr
  .cases hr
 .rename_i u
  split at hr
  .rename_i m
   cases hr
   cases hv with
   | v _ _ hv=>
   cases hv with
   | c _ _ hv=>
   cases hv with
   | elm b off c' e' fz _ hX hb p hd=>
   refine ⟨b,off,c',e',fz,rfl,hb,by omega,by simp;omega,fun j i=>?_,fun j i=>?_⟩
   .have:((u.take n).map CV.d).getD j (.d .any)=.d (u.getD j .any):=by
     grind
    rw [this];exact .d _ _ (hd j (by omega))
   .rw [jX] at i;cases i
  .cases hr
 .rename_i r o g off
  split at hr
  .rename_i z k f q
   split at hr
   .rename_i m
    obtain ⟨rfl,m,p⟩:=m;cases hr
    have l:=h.st r _ q
    cases hv with
    | v _ _ hv=>
    cases hv with
    | c _ _ hv=>
    cases hv with
    | pte b n' cap _ _ _ _ he=>
    rw [he] at l
    cases l with
    | nil=>exact absurd hc (by omega)
    | arr _ _ _ _ c' e' _ hb t hn hm hc0 hl hel=>
    have y:g*o+o<=cap*o:=by
     have:(g+1)*o<=cap*o:=Nat.mul_le_mul_right _ (by omega)
     grind
    refine ⟨b,g*o+off,c',e',(0,0),rfl,hb,by omega,by simp;omega,fun j i=>?_,fun j i=>?_⟩
    .have:(((((f g).drop off).take n).map CV.d)).getD j (.d .any)=.d ((f g).getD (off+j) .any):=by
      grind
     rw [this];have:=hel g (off+j) hc (by omega)
     rw [Nat.add_assoc];exact .d _ _ this
    .rw [jX] at i;cases i
   .cases hr
  .cases hr
 .cases hr
end
end
section
section
variable {P:Program} {L:V9} {C:Ctx} {nt:Nat} {R:Nat->Prop} {η:Nat->Value} {e:W4} {s:W5} {a:Act} {w:World}
theorem kb{n:Int}(h:Q9 n):IntKind.i64.wrap n=n:=by
  obtain ⟨b,c⟩:=h;have e:IntKind.i64.wrap n=if n % 18446744073709551616 ≥ 9223372036854775808 then n % 18446744073709551616-18446744073709551616 else n % 18446744073709551616:=by
    simp [IntKind.wrap,IntKind.bits,IntKind.signed]
  grind
theorem Vd{v:Value}{k:IntKind}{n:Int}(h:ARep w (XS C s η) η C v (.v (.c (.d (.int k n))))):v=.int k n:=by
  cases h with|v _ _ h=>cases h with|c _ _ h=>cases h with|d _ _ h=>cases h;rfl
theorem FP{v:Value}{b:Bool}(h:ARep w (XS C s η) η C v (.v (.c (.d (.bool b))))):v=.bool b:=by
  cases h with|v _ _ h=>cases h with|c _ _ h=>cases h with|d _ _ h=>cases h;rfl
theorem KC{v:Value}{b:ByteArray}(h:ARep w (XS C s η) η C v (.v (.c (.d (.str b))))):v=.string b:=by
  cases h with|v _ _ h=>cases h with|c _ _ h=>cases h with|d _ _ h=>cases h;rfl
theorem WM(X:Nat->Prop)(k:IntKind)(n:Int):ARep w X η C (.int k n) (.v (.c (.d (.int k n)))):=.v _ _ (.c _ _ (.d _ _ (.int _ _)))
theorem FO(X:Nat->Prop)(b:Bool):ARep w X η C (.bool b) (.v (.c (.d (.bool b)))):=.v _ _ (.c _ _ (.d _ _ (.bool _)))
def ym(r:SR)(v:Value):Prop:=∃ x c,r={ v:=x,cond:=c } /\ (c->∀ (w:World) (X:Nat->Prop) (η:Nat->Value) (C:Ctx),ARep w X η C v x)/\x.refs=[]
theorem FT(m:Bool)(k:IntKind)(n:Int)(c:Prop):(UD m k n c).cond->ym (UD m k n c) (.int k (k.wrap n))/\c:=by
  unfold UD;split
  . intro h
    refine ⟨⟨_,_,rfl,fun _ w X η C=>?_,rfl⟩,h.2⟩;rw [kb h.1];exact WM _ _ _
  . intro h
    exact ⟨⟨_,_,rfl,fun _ w X η C=>WM _ _ _,rfl⟩,h⟩
theorem Z2X(op:BinOp)(t:TypeId)(m:Bool){k k' : IntKind}{n n' : Int}{r:SR}(w:World)(hr:GX m op (.v (.c (.d (.int k n)))) (.v (.c (.d (.int k' n'))))=some r)(hc:r.cond):
    ∃ v,(binOp op t (.int k n) (.int k' n')).run P w=.ok v w/\ym r v:=by
  simp only [GX] at hr;split at hr
  . cases hr
    obtain ⟨f,i⟩:=FT m k _ _ hc;refine ⟨_,?_,f⟩
    have:¬ n' < 0:=by omega
    simp [binOp,Op.shift,this]
  . cases hr
    have:¬ n' < 0:=by have:(0:Int)<=n':=hc;omega
    exact ⟨.int k (n.fdiv (2 ^ min n'.toNat k.bits)),by simp [binOp,Op.shift,this],_,_,rfl,fun _ _ _ _ _=>WM _ _ _,rfl⟩
  . rename_i h g
    split at hr
    . rename_i j
      subst j;split at hr <;> first
        | (cases hr;done)
        | (cases hr
           obtain ⟨f,i⟩:=FT m k _ _ hc;refine ⟨_,?_,f⟩
           first
             | (simp [binOp,Op.intArith];done)
             | (simp [binOp,Op.intDiv,i];done))
        | (cases hr
           have b : n' ≠ 0:=hc;exact ⟨.int k (n.tmod n'),by simp [binOp,Op.intDiv,b],_,_,rfl,fun _ _ _ _ _=>WM _ _ _,rfl⟩)
        | (cases hr;refine ⟨.int k (QN k n n'),?_,_,_,rfl,fun _ _ _ _ _=>WM _ _ _,rfl⟩;simp [binOp,Op.intBits,QN];done)
        | (cases hr;refine ⟨.int k (J8 k n n'),?_,_,_,rfl,fun _ _ _ _ _=>WM _ _ _,rfl⟩;simp [binOp,Op.intBits,J8];done)
        | (cases hr;refine ⟨.int k (xm k n n'),?_,_,_,rfl,fun _ _ _ _ _=>WM _ _ _,rfl⟩;simp [binOp,Op.intBits,xm];done)
        | (cases hr;refine ⟨.bool _,?_,_,_,rfl,fun _ _ _ _ _=>FO _ _,rfl⟩;simp [binOp,Op.intCmp];done)
    . cases hr
theorem Q6L(op:BinOp)(t:TypeId)(x y:Operand)(k k' : IntKind)(n n' : Int)(w:World):(eqGuard op t x y (.int k n) (.int k' n')).run P w=.ok () w:=by
  unfold eqGuard;split <;> rfl
theorem Rh(h:Conc C nt R η e s a w){o:Oper}(hd:∀ x,o.dst=some x->x<nt){r:SR}{v:Value}(hn:ym r v)(hc:r.cond)(hr:(execOp a.eval o).run P w=.ok (.value v) w):G4 P C nt R η e s a w o r:=by
  obtain ⟨x,c,rfl,b,d⟩:=hn;exact Ze h hd hr (b hc _ _ _ _) (by rw [d];simp)
theorem Q5O(h:Conc C nt R η e s a w){o:Oper}(hd:∀ x,o.dst=some x->x<nt){op:BinOp}{t t' : TypeId}{x y:Operand}(hop:o.op=.binOp op t x y t'){m:Bool}{r:SR}(hr:GX m op (Y2 e x) (Y2 e y)=some r)(hc:r.cond):G4 P C nt R η e s a w o r:=by
  have f:=(U5 h x).1;have b:=(U5 h y).1
  unfold GX at hr;split at hr
  . rename_i k n p q g z
    rw [g] at f;rw [z] at b
    have i:=Vd f;have j:=Vd b
    obtain ⟨v,l,u⟩:=Z2X (P:=P) op t m w (show GX m op (.v (.c (.d (.int k n)))) (.v (.c (.d (.int p q))))=some r from hr) hc;refine Rh h hd u hc ?_
    simp only [execOp,hop,Sem.run_bind,i,j,Q6L,l,Result.andThen_ok,Sem.run_pure]
  . cases hr
theorem Q5x(h:Conc C nt R η e s a w){o:Oper}(hd:∀ x,o.dst=some x->x<nt){op:UnOp}{t:TypeId}{x:Operand}(hop:o.op=.unOp op t x){m:Bool}{r:SR}(hr:FQ m op (Y2 e x)=some r)(hc:r.cond):G4 P C nt R η e s a w o r:=by
  have c:=(U5 h x).1;unfold FQ at hr
  split at hr
  . rename_i b d
    cases hr
    rw [d] at c;have f:=FP c
    exact Rh h hd ⟨_,_,rfl,fun _ _ _ _ _=>FO _ _,rfl⟩ hc (by simp [execOp,hop,f,Op.unary])
  . rename_i k n d
    cases hr
    rw [d] at c;have f:=Vd c
    obtain ⟨g,_⟩:=FT m k (0-n) _ hc;exact Rh h hd g hc (by simp [execOp,hop,f,Op.unary,Op.intArith])
  . cases hr
theorem gi(h:Conc C nt R η e s a w){o:Oper}(hd:∀ x,o.dst=some x->x<nt){x:Operand}(hop:o.op=.move x\/o.op=.assign x):G4 P C nt R η e s a w o { v:=Y2 e x }:=by
  obtain ⟨c,b⟩:=U5 h x;refine Ze h hd ?_ c b
  rcases hop with hop|hop <;> simp [execOp,hop]
theorem gg(h:Conc C nt R η e s a w){o:Oper}(hd:∀ x,o.dst=some x->x<nt){c x y:Operand}(hop:o.op=.pick c x y){b:Bool}(hb:Y2 e c=.v (.c (.d (.bool b)))):
    G4 P C nt R η e s a w o { v:=Y2 e (if b then x else y) }:=by
  have f:=(U5 h c).1;rw [hb] at f
  have i:=FP f;obtain ⟨g,j⟩:=U5 h (if b then x else y)
  refine Ze h hd ?_ g j
  cases b <;> simp [execOp,hop,i,asBool]
theorem Q5E(hL:z7 P L)(h:Conc C nt R η e s a w){o:Oper}(hd:∀ x,o.dst=some x->x<nt){t:TypeId}{x:Operand}(hop:o.op=.load t x){ti:TI}(ht:L t=some ti){cs:List CV}{c:Prop}(hr:rd s ti.size (Y2 e x)=some (cs,c)){v:AVal}(hv:Vx ti.kind.agg cs=some v)(hc:c):G4 P C nt R η e s a w o { v:=v,cond:=c }:=by
  obtain ⟨i,d,z,r⟩:=hL t ti ht;obtain ⟨b,f,q,F,G,B,E,D,A,n,p⟩:=Q0n h hr hc (U5 h x).1
  have u:ti.kind.agg=false->ti.size=1:=by
    intro k;rw [k] at hv
    simp only [Vx] at hv
    grind
  have l:=jC r E D u;refine Ze h hd (v:=if ti.kind.agg then .agg (Zl q f ti.size).toArray else q.getD f undef) ?_ ?_ ?_
  . simp only [execOp,hop,Sem.run_bind,Instr.loadAt,B,Instr.sureAddr,Sem.run_pure,Result.andThen_ok,l]
  . unfold Vx at hv
    split at hv
    . rename_i k
      cases hv
      simp only [k,if_true];refine .v _ _ (.g _ _ ⟨by simp [Zl,A],fun j m=>?_⟩)
      rw [A] at m;have:(Zl q f ti.size).toArray.getD j undef=q.getD (f+j) undef:=by simp [Zl,m]
      rw [this];exact n j m
    . rename_i k
      split at hv
      . cases hv
        rename_i y
        simp only [k,Bool.false_eq_true,if_false];have:=n 0 (by rw [u k];exact Nat.zero_lt_one)
        exact .v _ _ (.c _ _ (by simpa using this))
      . cases hv
  . unfold Vx at hv
    split at hv
    . cases hv;exact p
    . split at hv
      . cases hv;intro j m;exact p j (by simpa [AVal.refs,TV.refs] using m)
      . cases hv
theorem Q5L(hL:z7 P L)(h:Conc C nt R η e s a w){o:Oper}(hd:∀ x,o.dst=some x->x<nt){t:TypeId}{x:Operand}{k:Nat}(hop:o.op=.fieldAddr t x k){ti:TI}(ht:L t=some ti){fs:List (Nat×Nat)}(hk:ti.kind=.struct fs){off ft:Nat}(hf:fs[k]?=some (off,ft)){tf:TI}(hft:L ft=some tf)(hz:tf.size≠0){v:AVal}(hv:∀ b o',a.eval x=.pointer (some ⟨b,o',none⟩)->ARep w (XS C s η) η C (.pointer (some ⟨b,o' + off,none⟩)) v)(hx:∀ j ∈ v.refs,R j)(hp:∃ b o',a.eval x=.pointer (some ⟨b,o',none⟩)):G4 P C nt R η e s a w o { v:=v }:=by
  obtain ⟨i,d,z,g⟩:=hL t ti ht;obtain ⟨y,A,u,m⟩:=hL ft tf hft
  have l:=g.kind;rw [hk] at l
  obtain ⟨c,rfl,r⟩:=l;obtain ⟨b,o',q⟩:=hp
  have n : ∃ f,c[k]?=some f/\f.offset=off/\f.type=ft:=by
    grind
  obtain ⟨f,p,rfl,rfl⟩:=n;refine Ze h hd ?_ (hv b o' q) hx
  simp only [execOp,hop,Sem.run_bind,Instr.fieldAt,run_underlying g.und,Result.andThen_ok,p,q,Instr.sureAddr,Sem.run_pure,fieldPlace,YG m,hz,if_false,add_lit]
theorem yg(X:Nat->Prop){b id off:Nat}(h:η id=.pointer (some ⟨b,0,none⟩)):ARep w X η C (.pointer (some ⟨b,off,none⟩)) (.v (.c (.ptr id off))):=.v _ _ (.c _ _ (.ptr _ _ _ h))
theorem Hi{v:Value}{id off:Nat}(h:ARep w (XS C s η) η C v (.v (.c (.ptr id off)))):∃ b,v=.pointer (some ⟨b,off,none⟩)/\η id=.pointer (some ⟨b,0,none⟩):=by
  cases h with|v _ _ h=>cases h with|c _ _ h=>cases h with|ptr b _ _ h=>exact ⟨b,rfl,h⟩
theorem yh{v:Value}{id es idx off:Nat}(h:ARep w (XS C s η) η C v (.v (.c (.pte id es idx off)))):∃ b n cap,v=.pointer (some ⟨b,idx*es+off,none⟩)/\η id=.slice (some ⟨b,0,none⟩) n cap:=by
  cases h with|v _ _ h=>cases h with|c _ _ h=>cases h with|pte b n cap _ _ _ _ h=>exact ⟨b,n,cap,rfl,h⟩
theorem Q2j{v:Value}{cs:List DVal}(h:ARep w (XS C s η) η C v (.v (.c (.elm cs)))):∃ b off c e' fz,v=.pointer (some ⟨b,off,none⟩)/\¬ XS C s η b/\w.heap[b]?=some (.cells c e' fz) /\
    off+cs.length<=c.size/\∀ j,j<cs.length->DRep w (XS C s η) (c.getD (off+j) undef) (cs.getD j .any):=by
  cases h with|v _ _ h=>cases h with|c _ _ h=>cases h with|elm b off c e' fz _ hX hb ho hc=>exact ⟨b,off,c,e',fz,rfl,hX,hb,ho,hc⟩
theorem Vv{v:Value}{id:Nat}(h:ARep w (XS C s η) η C v (.v (.c (.own id)))):v=η id:=by
  cases h with|v _ _ h=>cases h with|c _ _ h=>cases h with|own _ _ h _=>exact h
theorem Z1D{b off:Nat}{c:Array Value}{e' : TypeId}{fz:Nat×Nat}{cs:List DVal}(X:Nat->Prop)(hX:¬ X b)(hb:w.heap[b]?=some (.cells c e' fz))(ho:off+cs.length<=c.size)(hc:∀ j,j<cs.length->DRep w X (c.getD (off+j) undef) (cs.getD j .any))(k:Nat)(hk:k<=cs.length):
    ARep w X η C (.pointer (some ⟨b,off+k,none⟩)) (.v (.c (.elm (cs.drop k)))):=by
  refine .v _ _ (.c _ _ (.elm b (off+k) c e' fz _ hX hb (by simp;omega) fun j g=>?_));have d : k+j<cs.length:=by simp at g;omega
  have:=hc (k+j) d
  have f:(cs.drop k).getD j .any=cs.getD (k+j) .any:=by simp [List.getD_eq_getElem?_getD]
  rw [f,Nat.add_assoc];exact this
theorem xt{v:Value}{x:AVal}(h:ARep w (XS C s η) η C v x){n:Nat}{f:Nat->List DVal}(hx:Zr.asF x=some (n,f)):
    ∃ ad cap,v=.slice ad n cap/\DRep w (XS C s η) v (.lst n f):=by
  unfold Zr.asF at hx;split at hx
  . cases hx
    cases h with|v _ _ h=>cases h with|c _ _ h=>cases h with|d _ _ h=>
    cases h with
    | nil ad cap _=>exact ⟨ad,cap,rfl,.nil _ _ _⟩
    | lst b off _ cap c e' fz _ es h1 h2 h3 h4 h5 h6=>exact ⟨_,cap,rfl,.lst b off _ cap c e' fz _ es h1 h2 h3 h4 h5 h6⟩
  . cases hx
    cases h with|v _ _ h=>cases h with|c _ _ h=>cases h with|fl ad _ _ h=>exact ⟨ad,_,rfl,h⟩
  . cases hx
end
end
section
theorem Z2Y{v:Value}(h:v.oneCell'=true):v.cells=#[v]:=by
 cases v <;> first|rfl | (simp [Value.oneCell'] at h)
section
variable {P:Program} {L:V9} {C:Ctx} {nt:Nat} {R:Nat->Prop} {η:Nat->Value} {e:W4} {s:W5} {a:Act} {w:World}
theorem xj{X:Nat->Prop}{v:Value}{x:AVal}{xs:List CV}(h:ARep w X η C v x)(hx:GW x=some xs):G8 w X η C v.cells xs/\∀ j ∈ xs.flatMap CV.refs,j ∈ x.refs:=by
 unfold GW at hx;split at hx
 .cases hx
  cases h with|v _ _ h=>cases h with|c _ _ h=>
  rw [Z2Y h.one];exact ⟨⟨rfl,fun j b=>by
   have:j=0:=by simp at b;omega
   subst this;simpa using h⟩,fun j b=>by simpa [AVal.refs,TV.refs] using b⟩
 .cases hx
  cases h with|v _ _ h=>cases h with|g vs _ h=>
  exact ⟨h,fun j b=>b⟩
 .cases hx
theorem KF{α:Type}(cs xs:List α)(off:Nat)(h:off+xs.length<=cs.length):(Ys cs off xs).length=cs.length:=by
 simp [Ys];omega
theorem Rg{α:Type}(cs xs:List α)(off t:Nat)(d:α)(h:off+xs.length<=cs.length):
  (Ys cs off xs).getD t d=if off<=t/\t<off+xs.length then xs.getD (t-off) d else cs.getD t d:=by
 unfold Ys;simp only [List.getD_eq_getElem?_getD,List.getElem?_append,List.length_take,List.getElem?_take,List.getElem?_drop]
 have b:min off cs.length=off:=by omega
 rw [b]
 by_cases h1:t<off
 .rw [if_pos h1,if_pos h1,if_neg (by omega)]
 .rw [if_neg h1]
  by_cases h2:t<off+xs.length
  .rw [if_pos (by omega),if_pos (by omega)]
  .rw [if_neg (by omega),if_neg (by omega)]
   congr 2;omega
theorem kW{α:Type}(cs xs:List α)(off:Nat):∀ x ∈ Ys cs off xs,x ∈ cs\/x ∈ xs:=by
 intro x b;unfold Ys at b
 grind
theorem Z0W(off:Nat)(vs:List Value):∀ (k:Nat) (cs:Array Value),off+k+vs.length<=cs.size ->
  ((vs.zipIdx k).foldl (fun cs p=>cs.setIfInBounds (off+p.2) p.1) cs).size=cs.size /\
  ∀ t,((vs.zipIdx k).foldl (fun cs p=>cs.setIfInBounds (off+p.2) p.1) cs).getD t undef=if off+k<=t/\t<off+k+vs.length then vs.getD (t-off-k) undef else cs.getD t undef:=by
 induction vs with
 | nil=>intro k cs _;refine ⟨rfl,fun t=>?_⟩;rw [if_neg (by simp)];rfl
 | cons v r ih=>
  intro k cs h;simp only [List.length_cons] at h
  obtain ⟨c,b⟩:=ih (k+1) (cs.setIfInBounds (off+k) v) (by simp;omega);refine ⟨by simpa [List.zipIdx_cons] using c,fun t=>?_⟩
  simp only [List.zipIdx_cons,List.foldl_cons,List.length_cons];rw [b t]
  by_cases h3:off+(k+1)<=t/\t<off+(k+1)+r.length
  .grind
  .rw [if_neg h3]
   by_cases h4:t=off+k
   .subst h4
    rw [if_pos (by omega)];have:off+k<cs.size:=by omega
    simp [this]
   .rw [if_neg (by omega)]
    simp [Ne.symm h4]
theorem Q1U{X:Nat->Prop}{pl:Nat->Option (Nat×Nat)}:∀ (ps:List (Nat×AVal)) (vs:List (Nat×Value)) (cells:List CV) (vc:Array Value) (cs:List CV),
  Ur pl cells ps=some cs->G8 w X η C vc cells->vs.map (·.1)=ps.map (·.1)->(∀ (j:Nat) x v,ps[j]?=some x->vs[j]?=some v->ARep w X η C v.2 x.2) ->
  ∃ vc',Instr.fill pl vc vs=some vc' /\ G8 w X η C vc' cs/\∀ j ∈ cs.flatMap CV.refs,j ∈ cells.flatMap CV.refs\/∃ x ∈ ps,j ∈ x.2.refs:=by
 intro ps
 induction ps with
 | nil=>
  intro vs cells vc cs h u k _;cases h
  have:vs=[]:=by simpa using k
  subst this;exact ⟨vc,rfl,u,fun j d=>.inl d⟩
 | cons p ps ih=>
  intro vs cells vc cs h u k J;obtain ⟨i,x⟩:=p
  cases vs with
  | nil=>simp at k
  | cons v vs=>
   obtain ⟨O,v⟩:=v;simp only [List.map_cons,List.cons.injEq] at k
   obtain ⟨rfl,k⟩:=k;simp only [Ur] at h
   split at h
   .rename_i b f G D E
    split at h
    .rename_i q
     obtain ⟨c,q⟩:=q;have A:ARep w X η C v x:=J 0 _ _ rfl rfl
     obtain ⟨n,F⟩:=xj A E;have o:v.cells.size=f:=by rw [n.1,c]
     have B:vc.size=cells.length:=u.1;have I:=Z0W b v.cells.toList 0 vc (by simp [o];omega)
     have g:v.cells.zipIdx.foldl (fun cs (p:Value×Nat)=>cs.setIfInBounds (b+p.2) p.1) vc=(v.cells.toList.zipIdx 0).foldl (fun cs p=>cs.setIfInBounds (b+p.2) p.1) vc:=by
      rw [<-Array.foldl_toList,Array.toList_zipIdx]
     have m:G8 w X η C (v.cells.zipIdx.foldl (fun cs (p:Value×Nat)=>cs.setIfInBounds (b+p.2) p.1) vc) (Ys cells b G):=by
      rw [g];refine ⟨by rw [I.1,KF _ _ _ (by omega)];exact B,fun t H=>?_⟩
      rw [I.2 t,Rg _ _ _ _ _ (by omega)];rw [KF _ _ _ (by omega)] at H
      simp only [Nat.add_zero,Nat.sub_zero,Array.length_toList,o,c]
      by_cases l:b<=t/\t<b+f
      .rw [if_pos l,if_pos l]
       have:=n.2 (t-b) (by omega)
       simpa [List.getD_eq_getElem?_getD] using this
      .rw [if_neg l,if_neg l]
       exact u.2 t H
     obtain ⟨vc',N,K,l⟩:=ih vs (Ys cells b G) _ cs h m k (fun j x v M A=>J (j+1) x v (by simpa using M) (by simpa using A));refine ⟨vc',?_,K,fun j d=>?_⟩
     .simp only [Instr.fill,D]
      grind
     .rcases l j d with d|⟨y,Q,d⟩
      .obtain ⟨z,r,d⟩:=List.mem_flatMap.1 d
       rcases kW _ _ _ z r with r|r
       .grind
       .exact .inr ⟨_,List.mem_cons_self,F j (List.mem_flatMap.2 ⟨z,r,d⟩)⟩
      all_goals grind
    .cases h
   .cases h
theorem Q6I(hL:z7 P L):∀ (fields:List Field) (fs:List (Nat×Nat)) (pl:List (Nat×Nat)),fields.map (fun f=>(f.offset,f.type))=fs->Pu L fs=some pl ->
  fields.mapM (fun f=>(P.info? f.type).map fun i=>(f.offset,i.size))=some pl:=by
 intro fields
 induction fields with
 | nil=>intro fs pl g b;subst g;simpa [Pu] using b
 | cons f r ih=>
  intro fs pl g b;subst g
  simp only [List.map_cons,Pu] at b;split at b
  .rename_i k l h j
   cases b
   obtain ⟨i,d,z,c⟩:=hL _ _ h;have:=ih _ l rfl j
   simp [List.mapM_cons,c.info,this,c.size]
  .cases b
theorem Q2f(h:Conc C nt R η e s a w)(ps:Array (Nat×Operand)):
  ((ps.map fun (p:Nat×Operand)=>(p.1,a.eval p.2)).toList).map (·.1)=(ps.toList.map fun p=>(p.1,Y2 e p.2)).map (·.1) /\
  (∀ (j:Nat) x v,(ps.toList.map fun p=>(p.1,Y2 e p.2))[j]?=some x->((ps.map fun (p:Nat×Operand)=>(p.1,a.eval p.2)).toList)[j]?=some v->ARep w (XS C s η) η C v.2 x.2) /\
  ∀ x ∈ (ps.toList.map fun p=>(p.1,Y2 e p.2)),∀ j ∈ x.2.refs,R j:=by
 refine ⟨by simp,fun j x v b c=>?_,fun x b j d=>?_⟩
 .rw [List.getElem?_map] at b
  simp only [Array.toList_map,List.getElem?_map] at c
  cases hp:ps.toList[j]? with
  | none=>rw [hp] at b;cases b
  | some p=>
   rw [hp] at b c
   cases b;cases c
   exact (U5 h p.2).1
 .obtain ⟨p,_,rfl⟩:=List.mem_map.1 b
  exact (U5 h p.2).2 j d
theorem gp(hL:z7 P L)(h:Conc C nt R η e s a w){o:Oper}(hd:∀ x,o.dst=some x->x<nt){t:TypeId}{ps:Array (Nat×Operand)}(hop:o.op=.build t ps){ti:TI}(ht:L t=some ti){pl:Nat->Option (Nat×Nat)}(hpl:(∃ fs l,ti.kind=.struct fs/\Pu L fs=some l/\pl=fun i=>l[i]?)\/(∃ n el te,ti.kind=.array n el/\L el=some te/\pl=fun i=>some (i*te.size,te.size))){cs:List CV}(hf:Ur pl ti.zero (ps.toList.map fun p=>(p.1,Y2 e p.2))=some cs):G4 P C nt R η e s a w o { v:=.v (.g cs) }:=by
 obtain ⟨i,d,z,b⟩:=hL t ti ht;obtain ⟨H,E,G⟩:=Q2f h ps
 obtain ⟨y,c,r,D⟩:=Q1U _ _ _ _ _ hf (b.zrep w (XS C s η) η C) H E;refine Ze h hd (v:=.agg y) ?_ (.v _ _ (.g _ _ r)) fun j m=>?_
 .have F:P.built t (ps.map fun (p:Nat×Operand)=>(p.1,a.eval p.2)).toList=some y:=by
   have q:=b.kind;rcases hpl with ⟨fs,l,k,I,rfl⟩|⟨n,el,te,k,B,rfl⟩
   .rw [k] at q
    obtain ⟨u,rfl,A⟩:=q;have:=Q6I hL _ _ _ A I
    simp only [Program.built,b.info,b.und,b.zero,this];simpa using c
   .rw [k] at q
    simp only [ZK] at q;subst q
    obtain ⟨N,K,M,f⟩:=hL el te B;simp only [Program.built,b.info,b.und,b.zero,f.info,f.size]
    exact c
  simp only [execOp,hop,Sem.run_bind];rw [run_build w t _ y F];rfl
 .rcases D j m with m|⟨x,J,m⟩
  .rw [b.zrefs] at m;cases m
  .exact G x J j m
theorem gh(h:Conc C nt R η e s a w){o:Oper}{d:Nat}(hd:o.dst=some d)(hdn:d<nt)(hR:¬ R d){vs:Array Value}{cs:List CV}{ety:TypeId}(hrun:(execOp a.eval o).run P w=.ok (.value (.pointer (some ⟨w.heap.size,0,none⟩))) { w with heap:=w.heap.push (.cells vs ety) })(hcs:G8 w (XS C s η) η C vs cs)(hrf:∀ j ∈ cs.flatMap CV.refs,R j):
  G4 P C nt R η e s a w o { v:=.v (.c (.ptr d 0)),new:=some (.box false cs) }:=by
 refine ⟨_,_,.inl hrun,?_⟩;have i:∀ b,b ∈ Y7 (.pointer (some (⟨w.heap.size,0,none⟩:Addr)))->w.heap.size<=b:=by intro b g;simp [Y7] at g;omega
 have r:=UX (C:=C) (s:=s) (η:=η) { v:=.v (.c (.ptr d 0)),new:=some (.box false cs) } o.dst (.pointer (some ⟨w.heap.size,0,none⟩)) (fun _=>False) (Stp.alloc _ w (.cells vs ety)) (fun b g=>g.elim)
  (fun _ _ _ _ b g=>.inl (i b g)) (fun k o p=>by cases p)
 have m:=Z1z (η:=η) (R:=R) { v:=.v (.c (.ptr d 0)),new:=some (.box false cs) } o.dst (.pointer (some ⟨w.heap.size,0,none⟩)) (fun _ dd _ f=>by rw [hd] at f;cases f;exact hR);refine h.step o.dst (fun x q=>by rw [hd] at q;cases q;exact hdn) _ _ _ (fun _=>False) (Stp.alloc _ w _) (fun b g=>g.elim) ?_ (fun k o p=>by cases p) ?_
 .intro t dd n f
  cases n
  rw [hd] at f;cases f
  exact ⟨hR,rfl,hrf,.box _ _ vs ety cs (by simp) (hcs.mono r fun j l=>m j (hrf j l)),fun b g=>.inl (i b g)⟩
 .intro _
  refine ⟨yg _ (by simp [SR.eta,hd]),fun j l=>?_⟩;simp [AVal.refs,TV.refs,CV.refs] at l
  exact .inr ⟨by simp,by rw [hd,l]⟩
theorem Q5P(hL:z7 P L)(h:Conc C nt R η e s a w){o:Oper}{d:Nat}(hd:o.dst=some d)(hdn:d<nt)(hR:¬ R d){t:TypeId}(hop:o.op=.alloc t){ti:TI}(ht:L t=some ti):
  G4 P C nt R η e s a w o { v:=.v (.c (.ptr d 0)),new:=some (.box false ti.zero) }:=by
 obtain ⟨i,dd,z,b⟩:=hL t ti ht;refine gh h hd hdn hR (vs:=z.cells) (ety:=t) ?_ (b.zrep _ _ _ _) (by rw [b.zrefs];simp)
 simp [execOp,hop,Instr.alloc,RU b,newVar,newRow]
theorem Q5N(h:Conc C nt R η e s a w){o:Oper}{d:Nat}(hd:o.dst=some d)(hdn:d<nt)(hR:¬ R d){t:TypeId}{x:Operand}(hop:o.op=.box t x){xs:List CV}(hx:GW (Y2 e x)=some xs):
  G4 P C nt R η e s a w o { v:=.v (.c (.ptr d 0)),new:=some (.box false xs) }:=by
 obtain ⟨i,g⟩:=U5 h x;obtain ⟨k,b⟩:=xj i hx
 refine gh h hd hdn hR (vs:=(a.eval x).cells) (ety:=t) ?_ k fun j f=>g j (b j f)
 simp [execOp,hop,Instr.box,newVar,newRow]
end
end
section
section
variable {P:Program} {L:V9} {C:Ctx} {nt:Nat} {R:Nat->Prop} {η:Nat->Value} {e:W4} {s:W5} {a:Act} {w:World}
theorem Q4y{X:Nat->Prop}{v:Value}{x:CV}{y:DVal}(h:CRep w X η C v x)(hx:Lq x=some y):DRep w X v y:=by
 unfold Lq at hx;split at hx
 .cases hx;cases h with|d _ _ h=>exact h
 .cases hx;cases h with|fl _ _ _ h=>exact h
 .cases hx
theorem kr{X:Nat->Prop}:∀ (cs:List CV) (ds:List DVal) (c:Array Value) (off:Nat),VP cs=some ds->(∀ j,j<cs.length->CRep w X η C (c.getD (off+j) undef) (cs.getD j (.d .any))) ->
  ds.length=cs.length/\∀ j,j<ds.length->DRep w X (c.getD (off+j) undef) (ds.getD j .any):=by
 intro cs
 induction cs with
 | nil=>intro ds c off h _;cases h;exact ⟨rfl,fun j b=>by simp at b⟩
 | cons x r ih=>
  intro ds c off h g;simp only [VP] at h
  split at h
  .rename_i y l k f
   cases h
   obtain ⟨m,i⟩:=ih l c (off+1) f (fun j b=>by have:=g (j+1) (by simp;omega);rwa [Nat.add_assoc,Nat.add_comm 1 j]);refine ⟨by simp [m],fun j b=>?_⟩
   cases j with
   | zero=>exact Q4y (g 0 (by simp)) k
   | succ j=>have:=i j (by simpa using b);rw [Nat.add_assoc,Nat.add_comm 1 j] at this;simpa using this
  .cases h
theorem RI(w:World)(b:Nat)(cs:Array Value):Stp (fun x=>x=b) w (w.setRow b cs):=
 ⟨rfl,rfl,rfl,by simp,fun x _ c=>setRow_other w b x cs c,Nat.le_refl _⟩
theorem RJ(c:Array Value)(off:Nat)(vs:List Value)(h:off+vs.length<=c.size):
  (c.toList.take off++vs++c.toList.drop (off+vs.length)).toArray.size=c.size /\
  ∀ t,(c.toList.take off++vs++c.toList.drop (off+vs.length)).toArray.getD t undef=if off<=t/\t<off+vs.length then vs.getD (t-off) undef else c.getD t undef:=by
 have b:off+vs.length<=c.toList.length:=by simpa using h
 have d:c.toList.take off++vs++c.toList.drop (off+vs.length)=Ys c.toList off vs:=by simp [Ys]
 rw [d];refine ⟨by simp [KF _ _ _ b],fun t=>?_⟩
 have:=Rg c.toList vs off t undef b
 simpa [List.getD_eq_getElem?_getD,Array.getD_eq_getD_getElem?] using this
theorem gf(h:Conc C nt R η e s a w){o:Oper}(hd:o.dst=none){id:Nat}{ob ob' : Obj}(hs:s id=some ob)(hro:ob.ro=false)(hro' : ob'.ro=false)(hrf:∀ j ∈ ob'.refs,R j){b:Nat}{cs:Array Value}{c:Prop}(hb:b ∈ Y7 (η id))(hrun:(execOp a.eval o).run P w=.ok .skip (w.setRow b cs))(hob:∀ X',QZ w (w.setRow b cs) (XS C s η) X' -> ORep (w.setRow b cs) X' η C (η id) ob'):G4 P C nt R η e s a w o { upd:=some (id,ob'),cond:=c }:=by
 have l:Own s η b:=⟨id,ob,hs,hb⟩;have n:=UX (C:=C) (s:=s) (η:=η) { upd:=some (id,ob'),cond:=c } o.dst undef (fun x=>x=b) (RI w b cs) (fun x g=>by subst g;exact l) (fun _ _ d=>by cases d)
  (fun k o d=>by cases d;rw [hs];simp)
 have f:SR.eta { upd:=some (id,ob'),cond:=c } o.dst undef η=η:=by funext i;simp [SR.eta]
 refine ⟨undef,_,.inr ⟨hrun,rfl⟩,?_⟩;refine h.step o.dst (fun x g=>by rw [hd] at g;cases g) _ _ _ (fun x=>x=b) (RI w b cs) ?_ (fun _ _ d=>by cases d) ?_ (fun d=>absurd hd d)
 .intro x g
  subst g;refine ⟨⟨id,.inr ⟨ob',rfl⟩,by rw [hs];simp,hb⟩,?_⟩
  rcases h.ow id ob _ hs hb with ⟨m,_⟩|m
  .rw [hro] at m;cases m
  .exact m
 .intro k p d
  cases d
  refine ⟨⟨ob,hs,hro⟩,hro',by simp,hrf,?_⟩;rw [f]
  rw [f] at n;exact hob _ n
theorem Q5y(hL:z7 P L)(h:Conc C nt R η e s a w){o:Oper}(hd:o.dst=none){t:TypeId}{x y:Operand}(hop:o.op=.store t x y){ti:TI}(ht:L t=some ti){xs:List CV}(hy:GW (Y2 e y)=some xs)(hsz:xs.length=ti.size){r:SR}(hr:wr s xs (Y2 e x)=some r)(hc:r.cond):G4 P C nt R η e s a w o r:=by
 obtain ⟨i,dd,z,a3⟩:=hL t ti ht;obtain ⟨Y,a0⟩:=U5 h y
 obtain ⟨B,W⟩:=xj Y hy;have G:=(U5 h x).1
 have S:∀ v ∈ (a.eval y).cells.toList,v.oneCell'=true:=by
  intro v hv;obtain ⟨j,p,rfl⟩:=List.getElem_of_mem hv
  have N : j<(a.eval y).cells.size:=by simpa using p
  have:=(B.2 j (by rw [<-B.1];exact N)).one
  simpa [N] using this
 have g:(a.eval y).cells.toList.length=xs.length:=by simpa using B.1
 have T:∀ (b d:Nat) (c:Array Value) (E : TypeId),a.eval x=.pointer (some ⟨b,d,none⟩)->w.heap[b]?=some (.cells c E (0,0))->d+xs.length<=c.size ->
   (execOp a.eval o).run P w=.ok .skip (w.setRow b (c.toList.take d++(a.eval y).cells.toList++c.toList.drop (d+(a.eval y).cells.toList.length)).toArray):=by
  intro b d c E O K ho;have:=run_storeCells_at P b d E (a.eval y).cells.toList 0 c w K (by rw [g];omega) S
  simp only [Nat.add_zero] at this;have n : (a.eval y).cells.size=ti.size:=by rw [<-Array.length_toList,g,hsz]
  simp only [execOp,hop,Sem.run_bind,Instr.storeAt,O,Instr.sureAddr,Sem.run_pure,Result.andThen_ok,storeVar,YG a3,n,ne_eq,not_true,if_false,Sem.run_ite,this]
 unfold wr at hr;split at hr
 .rename_i U d e1
  rw [e1] at G;obtain ⟨b,O,I⟩:=Hi G
  split at hr
  .rename_i bs M
   split at hr
   .rename_i q
    cases hr
    have D:=h.st U _ M;rw [I] at D
    cases D with
    | box _ _ c E _ K hbs=>
    have F:=RJ c d (a.eval y).cells.toList (by rw [g,hbs.1];omega);refine gf h hd M rfl rfl (fun j p=>?_) (b:=b) (by rw [I];simp [Y7]) (T b d c E O K (by rw [hbs.1];omega)) fun X' J=>?_
    .obtain ⟨u,Q,p⟩:=List.mem_flatMap.1 p
     rcases kW _ _ _ u Q with Q|Q
     .exact (h.sr U _ M).2 j (List.mem_flatMap.2 ⟨u,Q,p⟩)
     .exact a0 j (W j (List.mem_flatMap.2 ⟨u,Q,p⟩))
    .rw [I]
     refine .box b false _ E _ (setRow_heap w b c _ E _ K) ⟨by rw [F.1,KF _ _ _ q];exact hbs.1,fun j p=>?_⟩;rw [KF _ _ _ q] at p
     rw [F.2 j,Rg _ _ _ _ _ q]
     by_cases h3:d<=j/\j<d+xs.length
     .rw [if_pos (by rw [g];exact h3),if_pos h3]
      have:=(B.2 (j-d) (by omega)).mono J (fun _ _=>rfl)
      simpa [List.getD_eq_getElem?_getD] using this
     .rw [if_neg (by rw [g];exact h3),if_neg h3]
      exact (hbs.2 j p).mono J (fun _ _=>rfl)
   .cases hr
  .cases hr
 .rename_i U m l d e1
  rw [e1] at G;obtain ⟨b,n0,A,O,I⟩:=yh G
  split at hr
  .rename_i b3 k f M
   split at hr
   .rename_i ds a2
    split at hr
    .rename_i q
     obtain ⟨rfl,q,a1⟩:=q;cases hr
     have D:=h.st U _ M;rw [I] at D
     cases D with
     | nil=>exact absurd hc (by simp)
     | arr _ _ _ _ c E _ K n hn hm hc0 hl hel=>
     have b2:l*m+m<=A*m:=by
      have J:l<n0:=hc;have:(l+1)*m<=A*m:=Nat.mul_le_mul_right _ (by omega)
      grind
     obtain ⟨b1,Z⟩:=kr (w:=w) (η:=η) (C:=C) (X:=XS C s η) xs ds (a.eval y).cells 0 a2 (fun j p=>by rw [Nat.zero_add];exact B.2 j p);have H:l*m+d+xs.length<=c.size:=by rw [n];omega
     have F:=RJ c (l*m+d) (a.eval y).cells.toList (by rw [g];exact H);refine gf h hd M rfl rfl (by simp [Obj.refs]) (b:=b) (by rw [I];simp [Y7];omega) (T b _ c E O K H) fun X' J=>?_
     rw [I];refine .arr b n0 A m _ E _ (setRow_heap w b c _ E _ K) (by rw [F.1];exact n) hn hm hc0 (fun i V=>?_) fun i j V p=>?_
     .by_cases hii:i=l
      .subst hii;simp only [if_true];rw [KF _ _ _ (by omega)];exact a1
      .simp only [hii,if_false];exact hl i V
     .rw [F.2]
      by_cases hii:i=l
      .subst hii
       simp only [if_true];rw [Rg _ _ _ _ _ (by omega)]
       by_cases h3:d<=j/\j<d+ds.length
       .rw [if_pos (by rw [g];omega),if_pos h3]
        have:=(Z (j-d) (by omega)).mono J
        have e3:i*m+j-(i*m+d)=j-d:=by omega
        rw [e3];simpa [List.getD_eq_getElem?_getD] using this
       .rw [if_neg (by rw [g];omega),if_neg h3]
        exact (hel i j V p).mono J
      .simp only [hii,if_false]
       have a5:¬ (l*m+d<=i*m+j/\i*m+j<l*m+d+xs.length):=by
        rintro ⟨h4,h5⟩;rcases Nat.lt_or_gt_of_ne hii with h6|h6
        .have:(i+1)*m<=l*m:=Nat.mul_le_mul_right _ h6
         grind
        .have:(l+1)*m<=i*m:=Nat.mul_le_mul_right _ h6
         grind
       rw [if_neg (by rw [g];exact a5)];exact (hel i j V p).mono J
    .cases hr
   .cases hr
  .cases hr
 .cases hr
end
end
section
section
variable {P:Program} {L:V9} {C:Ctx} {nt:Nat} {R:Nat->Prop} {η:Nat->Value} {e:W4} {s:W5} {a:Act} {w:World}
theorem Ui(h:Conc C nt R η e s a w){o:Oper}{d:Nat}(hd:o.dst=some d)(hdn:d<nt)(hR:¬ R d){del:List Nat}{es n:Nat}{f:Nat->List DVal}{c:Prop}{v:Value}{w' : World}{Z:Nat->Prop}(hrun:(execOp a.eval o).run P w=.ok (.value v) w')(hstep:Stp Z w w')(hone:v.oneCell'=true)(hZ:∀ b,Z b->∃ i ∈ del,s i≠none/\b ∈ Y7 (η i))(hdel:∀ i ∈ del,∀ o',s i=some o' -> o'.ro=false)(hv:∀ b,b ∈ Y7 v->w.heap.size<=b\/∃ i ∈ del,s i≠none/\b ∈ Y7 (η i))(hob:∀ X',QZ w w' (XS C s η) X' -> ORep w' X' (SR.eta { v:=.v (.c (.own d)),del:=del,new:=some (.arr es n f),cond:=c } o.dst v η) C v (.arr es n f)):
  G4 P C nt R η e s a w o { v:=.v (.c (.own d)),del:=del,new:=some (.arr es n f),cond:=c }:=by
 have q:∀ i ∈ del,s i≠none->∀ b,b ∈ Y7 (η i)->C.M b\/C.w0.heap.size<=b:=by
  intro i m r b p;obtain ⟨o',l⟩:=Option.ne_none_iff_exists'.1 r
  rcases h.ow i o' b l p with ⟨u,_⟩|u
  all_goals grind
 have B:=UX (C:=C) (s:=s) (η:=η) { v:=.v (.c (.own d)),del:=del,new:=some (.arr es n f),cond:=c } o.dst v Z hstep
  (fun b p=>by
   obtain ⟨i,_,m,g⟩:=hZ b p;obtain ⟨o',l⟩:=Option.ne_none_iff_exists'.1 m
   exact ⟨i,o',l,g⟩)
  (fun _ _ _ _ b p=>(hv b p).imp id fun ⟨i,_,m,g⟩=>by
   obtain ⟨o',l⟩:=Option.ne_none_iff_exists'.1 m;exact ⟨i,o',l,g⟩)
  (fun k o y=>by cases y)
 refine ⟨v,w',.inl hrun,h.step o.dst (fun x A=>by rw [hd] at A;cases A;exact hdn) _ _ _ Z hstep ?_ ?_ (fun k o y=>by cases y) ?_⟩
 .intro b p
  obtain ⟨i,m,r,g⟩:=hZ b p;exact ⟨⟨i,.inl m,r,g⟩,q i m r b g⟩
 .intro o' dd l t
  cases l
  rw [hd] at t;cases t
  refine ⟨hR,rfl,by simp [Obj.refs],hob _ B,fun b p=>?_⟩;rcases hv b p with u|⟨i,m,r,g⟩
  .exact .inl u
  .exact .inr ⟨⟨i,m,r,g⟩,q i m r b g⟩
 .intro _
  refine ⟨.v _ _ (.c _ _ (.own _ _ (by simp [SR.eta,hd]) hone)),fun j z=>?_⟩;simp [AVal.refs,TV.refs,CV.refs] at z
  exact .inr ⟨by simp,by rw [hd,z]⟩
theorem Q3k(h:Conc C nt R η e s a w){v:Value}{x:AVal}(hv:ARep w (XS C s η) η C v x){n:Nat}{f:Nat->List DVal}(hx:VI s x=some (n,f)):
  ∃ ad cap,v=.slice ad n cap/\n<=cap/\(n=0\/∃ b off c e' fz es,ad=some ⟨b,off,none⟩/\w.heap[b]?=some (.cells c e' fz)/\off+n*es<=c.size/\(∀ i,i<n->(f i).length=es) /\
   ∀ i j,i<n->j<es->DRep w (XS C s η) (c.getD (off+(i*es+j)) undef) ((f i).getD j .any)):=by
 have k:∀ {v:Value},DRep w (XS C s η) v (.lst n f)->∃ ad cap,v=.slice ad n cap/\n<=cap/\(n=0\/∃ b off c e' fz es,ad=some ⟨b,off,none⟩/\w.heap[b]?=some (.cells c e' fz)/\off+n*es<=c.size/\(∀ i,i<n->(f i).length=es) /\
   ∀ i j,i<n->j<es->DRep w (XS C s η) (c.getD (off+(i*es+j)) undef) ((f i).getD j .any)):=by
  intro v A
  cases A with
  | nil ad cap _=>exact ⟨ad,cap,rfl,Nat.zero_le _,.inl rfl⟩
  | lst b off _ cap c e' fz _ es h1 h2 h3 h4 h5 h6=>exact ⟨_,cap,rfl,h3,.inr ⟨b,off,c,e',fz,es,rfl,h2,h4,h5,h6⟩⟩
 unfold VI at hx;split at hx
 .cases hx
  cases hv with|v _ _ hv=>cases hv with|c _ _ hv=>cases hv with|d _ _ hv=>exact k hv
 .cases hx
  cases hv with|v _ _ hv=>cases hv with|c _ _ hv=>cases hv with|fl _ _ _ hv=>exact k hv
 .split at hx
  .rename_i l _ es z t o
   cases hx
   have g:=h.st l _ o;have y:=Vv hv
   rw [y];generalize η l=u at g
   cases g with
   | nil _ es _=>exact ⟨_,_,rfl,Nat.le_refl _,.inl rfl⟩
   | arr b _ cap es c e' _ hb hsz hn hm hc hl hel=>
    exact ⟨_,cap,rfl,hn,.inr ⟨b,0,c,e',(0,0),es,rfl,hb,by rw [Nat.zero_add,hsz];exact Nat.mul_le_mul_right _ hn,hl,fun i j m r=>by rw [Nat.zero_add];exact hel i j m r⟩⟩
  .cases hx
 .split at hx
  .rename_i l es q z _ B N t o
   split at hx
   .rename_i p
    subst p;cases hx
    have g:=h.st l _ o
    cases hv with|v _ _ hv=>cases hv with|c _ _ hv=>cases hv with
    | sub b N' cap _ _ _ _ hη h1 h2=>
     rw [hη] at g
     cases g with
     | nil=>exact absurd h2 (Nat.not_lt_zero _)
     | arr b _ cap es c e' _ hb hsz hn hm hc hl hel=>
      refine ⟨_,cap-q,rfl,by omega,.inr ⟨b,q*es,c,e',(0,0),es,rfl,hb,?_,fun i m=>hl _ (by omega),fun i j m r=>?_⟩⟩
      .rw [hsz, <-Nat.add_mul];exact Nat.mul_le_mul_right _ (by omega)
      all_goals grind
    | subN ad ad' N' _ _ hη=>exact ⟨_,_,rfl,Nat.le_refl _,.inl rfl⟩
   .cases hx
  .cases hx
 .cases hx
theorem Q5H(hL:z7 P L)(h:Conc C nt R η e s a w){o:Oper}(hd:∀ x,o.dst=some x->x<nt){t:TypeId}{x:Operand}(hop:o.op=.call { callee:=.builtin .len,args:= #[x],argTypes:= #[t] }){ti:TI}(ht:L t=some ti){el:Nat}(hk:ti.kind=.slice el){n:Nat}{f:Nat->List DVal}(hx:VI s (Y2 e x)=some (n,f)):G4 P C nt R η e s a w o { v:=vi n }:=by
 obtain ⟨i,dd,z,c⟩:=hL t ti ht;have b:=c.kind
 rw [hk] at b;simp only [ZK] at b
 obtain ⟨j,g,d,_⟩:=Q3k h (U5 h x).1 hx;refine Ze h hd (v:=.int .i64 n) ?_ (WM _ _ _) (by simp [vi,AVal.refs,TV.refs,CV.refs])
 simp [execOp,hop,resolve,invoke,builtin,Builtin.len_,run_underlying c.und,b,d,goInt]
theorem Q5G(hL:z7 P L)(h:Conc C nt R η e s a w){o:Oper}(hd:∀ x,o.dst=some x->x<nt){t:TypeId}{x:Operand}(hop:o.op=.call { callee:=.builtin .len,args:= #[x],argTypes:= #[t] }){ti:TI}(ht:L t=some ti){n el:Nat}(hk:ti.kind=.array n el):G4 P C nt R η e s a w o { v:=vi n }:=by
 obtain ⟨i,dd,z,c⟩:=hL t ti ht;have b:=c.kind
 rw [hk] at b;simp only [ZK] at b
 refine Ze h hd (v:=.int .i64 n) ?_ (WM _ _ _) (by simp [vi,AVal.refs,TV.refs,CV.refs]);simp [execOp,hop,resolve,invoke,builtin,Builtin.len_,run_underlying c.und,b,goInt]
theorem Q5F(hL:z7 P L)(h:Conc C nt R η e s a w){o:Oper}(hd:∀ x,o.dst=some x->x<nt){t:TypeId}{x:Operand}(hop:o.op=.call { callee:=.builtin .len,args:= #[x],argTypes:= #[t] }){ti:TI}(ht:L t=some ti)(hk:ti.kind=.str){b:ByteArray}(hx:Y2 e x=.v (.c (.d (.str b)))):G4 P C nt R η e s a w o { v:=vi b.size }:=by
 obtain ⟨i,dd,z,g⟩:=hL t ti ht;have f:=g.kind
 rw [hk] at f;simp only [ZK] at f
 have j:=(U5 h x).1;rw [hx] at j
 have k:=KC j;refine Ze h hd (v:=.int .i64 b.size) ?_ (WM _ _ _) (by simp [vi,AVal.refs,TV.refs,CV.refs])
 simp [execOp,hop,resolve,invoke,builtin,Builtin.len_,run_underlying g.und,f,k,goInt]
theorem gj(h:Conc C nt R η e s a w){o:Oper}(hd:∀ x,o.dst=some x->x<nt){tys:Array TypeId}{x y:Operand}{bi:Builtin}(hop:o.op=.call { callee:=.builtin bi,args:= #[x,y],argTypes:=tys }){k k' : IntKind}{n n' : Int}(hx:Y2 e x=.v (.c (.d (.int k n))))(hy:Y2 e y=.v (.c (.d (.int k' n')))){u:Int}(hu:(bi=.min/\u=Qd n n')\/(bi=.max/\u=J3 n n')):
  G4 P C nt R η e s a w o { v:=.v (.c (.d (.int k u))) }:=by
 have i:=(U5 h x).1;have f:=(U5 h y).1
 rw [hx] at i;rw [hy] at f
 have b:=Vd i;have g:=Vd f
 refine Ze h hd (v:=.int k u) ?_ (WM _ _ _) (by simp [AVal.refs,TV.refs,CV.refs]);rcases hu with ⟨rfl,rfl⟩|⟨rfl,rfl⟩
 .simp [execOp,hop,resolve,invoke,builtin,Builtin.min_,Builtin.min2,b,g,Qd]
 .simp [execOp,hop,resolve,invoke,builtin,Builtin.max_,Builtin.max2,b,g,J3]
theorem Uj(v:Int)(m:Nat)(code:BoundsCode)(h:0<=v/\v<=m)(k:IntKind):(Instr.sliceBound (.int k v) m code).run P w=.ok v.toNat w:=by
 simp [Instr.sliceBound,asIntOf,h]
theorem TM(h:Conc C nt R η e s a w){x:Option Operand}{n:Option Int}(hx:oI e x=some n):(x=none/\n=none)\/∃ k m,x.map a.eval=some (.int k m)/\n=some m:=by
 unfold oI at hx;split at hx
 .grind
 .rename_i y
  split at hx
  .rename_i m b
   cases hx
   unfold ZJ at b;split at b
   .rename_i k f d
    cases b
    have c:=(U5 h y).1;rw [d] at c
    exact .inr ⟨k,m,by simp [Vd c],rfl⟩
   .cases b
  .cases hx
theorem je(h:Conc C nt R η e s a w){lo hi:Option Operand}{l u:Option Int}(hl:oI e lo=some l)(hu:oI e hi=some u)(n cap:Nat)(hn:n<=cap)(f:Nat->List DVal)(hc:(sl n f l u).2):
  (Instr.sliceBounds true n cap (lo.map a.eval) (hi.map a.eval) none).run P w=.ok ((l.getD 0).toNat,(u.getD n).toNat,cap) w/\(l.getD 0).toNat<=(u.getD n).toNat/\(u.getD n).toNat<=n /\
   (sl n f l u).1.1=(u.getD n).toNat-(l.getD 0).toNat/\∀ i,(sl n f l u).1.2 i=f ((l.getD 0).toNat+i):=by
 rcases TM h hl with ⟨h1,h2⟩|⟨k,m,h1,h2⟩ <;> rcases TM h hu with ⟨h3,h4⟩|⟨k',m',h3,h4⟩ <;> subst h2 <;> subst h4 <;> simp only [sl] at hc
 .subst h1;subst h3
  simp [Instr.sliceBounds,sl]
 .subst h1
  simp [Instr.sliceBounds,sl,h3,Uj m' cap _ ⟨hc.1,by omega⟩];omega
 .subst h3
  simp [Instr.sliceBounds,sl,h1,Uj m n _ hc];omega
 .have b:=Uj (P:=P) (w:=w) m m'.toNat .sliceB ⟨hc.1,by omega⟩ k
  simp [Instr.sliceBounds,sl,h1,h3,Uj m' cap _ ⟨by omega,by omega⟩,b];omega
theorem Q2y{X:Nat->Prop}{ad:Option Addr}{n cap:Nat}{f:Nat->List DVal}{es:Nat}(h:DRep w X (.slice ad n cap) (.lst n f))(hes:∀ j,j<n->(f j).length=es)(l u:Nat)(hlu:l<=u)(hun:u<=n)(m:Nat)(hm:u-l<=m)(g:Nat->List DVal)(hg:∀ i,g i=f (l+i)):
  DRep w X (.slice (if cap=l then ad else ad.map (·.add (l*es))) (u-l) m) (.lst (u-l) g):=by
 by_cases h0:u-l=0
 .rw [h0];exact .nil _ _ _
 .cases h with
  | nil=>omega
  | lst b off _ _ c e' fz _ es' h1 h2 h3 h4 h5 h6=>
   have o:es'=es:=by rw [<-h5 l (by omega),hes l (by omega)]
   subst o;have k:¬ cap=l:=by omega
   simp only [k,if_false,Option.map_some,add_lit];have d:l*es' + (u-l)*es' <= n*es':=by rw [<-Nat.add_mul];exact Nat.mul_le_mul_right _ (by omega)
   refine .lst b (off+l*es') _ m c e' fz _ es' h1 h2 hm (by omega) (fun i p=>by rw [hg];exact h5 _ (by omega)) fun i j p q=>?_
   grind
theorem Q5A(hL:z7 P L)(h:Conc C nt R η e s a w){o:Oper}(hd:∀ x,o.dst=some x->x<nt){t:TypeId}{x:Operand}{lo hi:Option Operand}(hop:o.op=.slice t x lo hi none){ti:TI}(ht:L t=some ti){el:Nat}(hk:ti.kind=.slice el){te:TI}(hte:L el=some te){l u:Option Int}(hl:oI e lo=some l)(hu:oI e hi=some u){n:Nat}{f:Nat->List DVal}(hx:Zr.asF (Y2 e x)=some (n,f)){c:Prop}(hc:(sl n f l u).2)(hes:∀ j,j<n->(f j).length=te.size):
  G4 P C nt R η e s a w o { v:=.v (.c (.d (.lst (sl n f l u).1.1 (sl n f l u).1.2))),cond:=c }:=by
 obtain ⟨i,dd,z,q⟩:=hL t ti ht;obtain ⟨I,D,H,p⟩:=hL el te hte
 have k:=q.kind;rw [hk] at k
 simp only [ZK] at k;obtain ⟨J,m,y,b⟩:=xt (U5 h x).1 hx
 rw [y] at b;have G:n<=m:=by cases b with|nil=>exact Nat.zero_le _|lst _ _ _ _ _ _ _ _ _ _ _ r=>exact r
 obtain ⟨E,B,A,r,F⟩:=je (P:=P) h hl hu n m G f hc;have g:=Q2y b hes (l.getD 0).toNat (u.getD n).toNat B A (m-(l.getD 0).toNat) (by omega) (sl n f l u).1.2 F
 rw [<-r] at g;refine Ze h hd ?_ (.v _ _ (.c _ _ (.d _ _ g))) (by simp [AVal.refs,TV.refs,CV.refs])
 simp only [execOp,hop,Sem.run_bind,Instr.sliceAt,run_underlying q.und,Result.andThen_ok,k,Instr.slice,y,Option.map_none,E,YG p,Sem.run_pure,r]
theorem Q5z(hL:z7 P L)(h:Conc C nt R η e s a w){o:Oper}(hd:∀ x,o.dst=some x->x<nt){t:TypeId}{x hx mx:Operand}(hop:o.op=.slice t x none (some hx) (some mx)){ti:TI}(ht:L t=some ti){el:Nat}(hk:ti.kind=.slice el){te:TI}(hte:L el=some te){u:Int}(hu:ZJ (Y2 e hx)=some u)(hm:ZJ (Y2 e mx)=some u)(h0:0<u){n:Nat}{f:Nat->List DVal}(hxx:Zr.asF (Y2 e x)=some (n,f)){c:Prop}(hc:u<=n)(hes:∀ j,j<n->(f j).length=te.size):
  G4 P C nt R η e s a w o { v:=.v (.c (.fl u.toNat f)),cond:=c }:=by
 obtain ⟨i,dd,z,A⟩:=hL t ti ht;obtain ⟨O,J,N,r⟩:=hL el te hte
 have p:=A.kind;rw [hk] at p
 simp only [ZK] at p;obtain ⟨D,q,H,d⟩:=xt (U5 h x).1 hxx
 rw [H] at d;have S:n<=q:=by cases d with|nil=>exact Nat.zero_le _|lst _ _ _ _ _ _ _ _ _ _ _ h3=>exact h3
 have b:∀ {y:Operand} {m:Int},ZJ (Y2 e y)=some m->∃ k,a.eval y=.int k m:=by
  intro y m hm;unfold ZJ at hm
  split at hm
  .rename_i k Q E
   cases hm
   have G:=(U5 h y).1;rw [E] at G
   exact ⟨k,Vd G⟩
  .cases hm
 obtain ⟨k1,E⟩:=b hu;obtain ⟨k2,I⟩:=b hm
 have g:=Q2y d hes 0 u.toNat (Nat.zero_le _) (by omega) u.toNat (by omega) f (fun i=>by rw [Nat.zero_add]);have B:¬ q=0:=by omega
 simp only [B,if_false,Nat.zero_mul,Nat.sub_zero] at g;have l:D.map (fun x:Addr=>x.add 0)=D:=by cases D <;> simp [Addr.add]
 rw [l] at g;refine Ze h hd (v:=.slice D u.toNat u.toNat) ?_ (.v _ _ (.c _ _ (.fl _ _ _ g))) (by simp [AVal.refs,TV.refs,CV.refs])
 have K:=Uj (P:=P) (w:=w) u q .slice3Acap ⟨by omega,by omega⟩ k2;have M:=Uj (P:=P) (w:=w) u u.toNat .slice3B ⟨by omega,by omega⟩ k1
 have F:¬ u.toNat=0:=by omega
 simp only [execOp,hop,Sem.run_bind,Instr.sliceAt,run_underlying A.und,Result.andThen_ok,p,Instr.slice,H,Instr.sliceBounds,Option.map_some,Option.map_none,if_true,E,I,K,M,Sem.run_pure,YG r,F,if_false,Nat.zero_mul,Nat.sub_zero,l]
end
end
section
section
variable {P:Program} {L:V9} {C:Ctx} {nt:Nat} {R:Nat->Prop} {η:Nat->Value} {e:W4} {s:W5} {a:Act} {w:World}
theorem Q0H{X:Nat->Prop}{ad:Option Addr}{n es:Nat}{g:Nat->List DVal}(hn:n≠0)(h:n=0\/∃ b off c e' fz es',ad=some ⟨b,off,none⟩/\w.heap[b]?=some (.cells c e' fz)/\off+n*es' <= c.size/\(∀ i,i<n->(g i).length=es') /\
   ∀ i j,i<n->j<es' -> DRep w X (c.getD (off+(i*es' + j)) undef) ((g i).getD j .any))(hes:∀ i,i<n->(g i).length=es):
  ∃ b off,ad=some ⟨b,off,none⟩/\∃ news:List Value,news.length=n*es/\(∀ j u,news[j]?=some u->w.cell? ((⟨b,off,none⟩:Addr).add j)=some u)/\(∀ u ∈ news,u.oneCell'=true) /\
   ∀ i j,i<n->j<es->DRep w X (news.getD (i*es+j) undef) ((g i).getD j .any):=by
 rcases h with h|⟨b,off,c,e',fz,es',rfl,v,y,x,q⟩
 .exact absurd h hn
 .have f:es'=es:=by rw [<-x 0 (by omega),hes 0 (by omega)]
  subst f;refine ⟨b,off,rfl,Zl c off (n*es'),by simp [Zl],fun j u d=>?_,fun u d=>?_,fun i j p m=>?_⟩
  .simp only [Zl,List.getElem?_map] at d
   by_cases m:j<n*es'
   .rw [List.getElem?_range m] at d
    cases d
    rw [add_lit];exact Mf v _ (by omega)
   .rw [List.getElem?_eq_none (by simp;omega)] at d;cases d
  .simp only [Zl] at d
   obtain ⟨k,l,rfl⟩:=List.mem_map.1 d;rw [List.mem_range] at l
   by_cases hz:es'=0
   .subst hz;simp at l
   .have t:k / es' < n:=Nat.div_lt_of_lt_mul (by rw [Nat.mul_comm];exact l)
    have r:k % es' < es':=Nat.mod_lt _ (by omega);have:=(q (k / es') (k % es') t r).one
    rwa [show k / es' * es' + k % es'=k from by rw [Nat.mul_comm];exact Nat.div_add_mod k es'] at this
  .have o:i*es' + j<n*es':=by
    have:(i+1)*es' <= n*es':=Nat.mul_le_mul_right _ p
    grind
   have:(Zl c off (n*es')).getD (i*es' + j) undef=c.getD (off+(i*es' + j)) undef:=by simp [Zl,List.getD_eq_getElem?_getD,o]
   rw [this];exact q i j p m
theorem Q2X{n b:Nat}(h:n<=Y5)(hb:b<=8192):n*b<=140737488355328:=by
 have:=Nat.mul_le_mul h hb
 simp only [Y5] at this;omega
theorem kL{c:Array Value}{k t:Nat}{xs:List Value}(h:c.toList.take k=xs)(ht:t<k):c.getD t undef=xs.getD t undef:=by
 rw [<-h];simp [List.getD_eq_getElem?_getD,ht]
theorem Q3m{X:Nat->Prop}{es n k:Nat}{f g:Nat->List DVal}{c:Array Value}{olds news:List Value}(hc:c.toList.take ((n+k)*es)=olds++news)(ho:olds.length=n*es)(h1:∀ i j,i<n->j<es->DRep w X (olds.getD (i*es+j) undef) ((f i).getD j .any))(h2:∀ i j,i<k->j<es->DRep w X (news.getD (i*es+j) undef) ((g i).getD j .any)):
  ∀ i j,i<n+k->j<es->DRep w X (c.getD (i*es+j) undef) ((QH n f g i).getD j .any):=by
 intro i j m h;have d:i*es+j<(n+k)*es:=by
  have:(i+1)*es<=(n+k)*es:=Nat.mul_le_mul_right _ m
  grind
 rw [kL hc d];unfold QH
 by_cases h3:i<n
 .have b : i*es+j<olds.length:=by
   have:(i+1)*es<=n*es:=Nat.mul_le_mul_right _ h3
   grind
  rw [if_pos h3];have:(olds++news).getD (i*es+j) undef=olds.getD (i*es+j) undef:=by simp [List.getD_eq_getElem?_getD,List.getElem?_append,b]
  rw [this];exact h1 i j h3 h
 .have o:n*es<=i*es:=Nat.mul_le_mul_right _ (by omega)
  rw [if_neg h3];have:(olds++news).getD (i*es+j) undef=news.getD ((i-n)*es+j) undef:=by
   have l:i*es+j-olds.length=(i-n)*es+j:=by rw [ho,Nat.sub_mul];omega
   grind
  rw [this];exact h2 (i-n) j (by omega) h
theorem Q3l(t ty:TypeId){el:TypeId}{i:TypeInfo}(hu:P.underlying t=some (.slice el))(hi:P.info? el=some i)(base:Option Addr)(n cap:Nat)(hn:n<=cap)(ad:Option Addr)(c:Nat):
  (Builtin.append_ #[t,t] ty #[.slice base n cap,.slice ad 0 c]).run P w=.ok (.slice base n cap) w:=by
 have b:(Builtin.firstCells i.size 0 (.slice ad 0 c)).run P w=.ok #[] w:=by cases ad <;> simp [Builtin.firstCells,loadCells,loadCellsFrom]
 cases base <;> simp [Builtin.append_,run_underlying hu,sizeOf,typeInfo,hi,Builtin.lenOf,hn,b,storeCells]
theorem Q6N(t ty e e' : TypeId)(i:TypeInfo)(ht:P.underlying t=some (.slice e))(hi:P.info? e=some i)(g sLen sCap:Nat)(cur:Array Value)(hg:w.heap[g]?=some (.cells cur e' (0,0)))(a:Addr)(m c:Nat)(news:List Value)(hl:news.length=m*i.size)(hnews:∀ j u,news[j]?=some u->w.cell? (a.add j)=some u)(h1:∀ u ∈ news,u.oneCell'=true)(hroom:sLen+m<=sCap)(hfit:sLen*i.size+news.length<=cur.size):
  (Builtin.append_ #[t,t] ty #[.slice (some ⟨g,0,none⟩) sLen sCap,.slice (some a) m c]).run P w =
   .ok (.slice (some ⟨g,0,none⟩) (sLen+m) sCap) (w.setRow g (cur.toList.take (sLen*i.size)++news++cur.toList.drop (sLen*i.size+news.length)).toArray):=by
 have d:=run_firstCells_some (P:=P) w i.size m a m c news hl hnews;have b:=run_storeCells_at P g (sLen*i.size) e' news 0 cur w hg (by simpa using hfit) h1
 simp only [Nat.add_zero] at b;simp [Builtin.append_,run_underlying ht,sizeOf,typeInfo,hi,Builtin.lenOf,hroom,d,Addr.add_lit,b]
theorem Z1N(Z:Nat->Prop)(w:World)(o:Go.Obj):Stp Z w (w.drew.alloc o):=
 ⟨rfl,rfl,rfl,by simp,fun b c _=>by rw [heap_alloc_old w.drew o b c];rfl,Nat.le_succ _⟩
theorem gk(h:Conc C nt R η e s a w){o:Oper}{d:Nat}(hd:o.dst=some d)(hdn:d<nt)(hR:¬ R d){del:List Nat}(hdel:∀ i ∈ del,∀ o',s i=some o' -> o'.ro=false){es n k gc:Nat}{f g:Nat->List DVal}{c:Prop}{olds news:List Value}{z:Array Value}{el:TypeId}(hrun:(execOp a.eval o).run P w=.ok (.value (.slice (some ⟨w.heap.size,0,none⟩) (n+k) gc)) (w.drew.alloc (.cells (olds.toArray++news.toArray++Builtin.zeroCells z (gc-(n+k))) el)))(hz:z.size=es)(ho:olds.length=n*es)(hnl:news.length=k*es)(hgc:n+k<=gc)(hgm:gc<=maxLen)(hk:0<k)(hfl:∀ i,i<n->(f i).length=es)(hgl:∀ i,i<k->(g i).length=es)(h1:∀ i j,i<n->j<es->DRep w (XS C s η) (olds.getD (i*es+j) undef) ((f i).getD j .any))(h2:∀ i j,i<k->j<es->DRep w (XS C s η) (news.getD (i*es+j) undef) ((g i).getD j .any)):
  G4 P C nt R η e s a w o { v:=.v (.c (.own d)),del:=del,new:=some (.arr es (n+k) (QH n f g)),cond:=c }:=by
 refine Ui h hd hdn hR (Z:=fun _=>False) hrun (Z1N _ w _) rfl (fun b q=>q.elim) hdel (fun b q=>.inl (by simp [Y7] at q;omega)) fun X' l=>?_
 refine .arr _ _ gc es _ el _ (heap_alloc_new w.drew _) ?_ hgc hgm (by omega) (fun i p=>?_) ?_
 .simp only [Array.size_append,List.size_toArray,size_zeroCells,hz,ho,hnl, <-Nat.add_mul]
  congr 1;omega
 .unfold QH
  by_cases h3:i<n
  .rw [if_pos h3];exact hfl i h3
  .rw [if_neg h3];exact hgl _ (by omega)
 .refine Q3m (olds:=olds) (news:=news) ?_ ho (fun i j p r=>(h1 i j p r).mono l) (fun i j p r=>(h2 i j p r).mono l)
  have m:(olds++news).length=(n+k)*es:=by rw [List.length_append,ho,hnl,Nat.add_mul]
  simp only [Array.toList_append,List.append_assoc];rw [<-List.append_assoc, <-m]
  exact List.take_left
theorem Br(hL:z7 P L)(h:Conc C nt R η e s a w){o:Oper}{d:Nat}(hd:o.dst=some d)(hdn:d<nt)(hR:¬ R d){t:TypeId}{x y:Operand}(hop:o.op=.call { callee:=.builtin .append,args:= #[x,y],argTypes:= #[t,t] }){ti:TI}(ht:L t=some ti){el:Nat}(hk:ti.kind=.slice el){te:TI}(hte:L el=some te)(hby:te.bytes<=8192)(hzl:te.zero.length=te.size){del:List Nat}(hdel:∀ i ∈ del,∀ o',s i=some o' -> o'.ro=false){n k cap:Nat}{f g:Nat->List DVal}{c:Prop}(hlim:n+k<=Y5){base:Option Addr}(ex:a.eval x=.slice base n cap)(hcap:cap<n+k)(hb0:base=none->n=0/\cap=0){olds:List Value}(holdl:olds.length=n*te.size)(holds:∀ b0,base=some b0->∀ j u,olds[j]?=some u->w.cell? (b0.add j)=some u){b2:Addr}{cy:Nat}(ey:a.eval y=.slice (some b2) k cy){news:List Value}(hnl:news.length=k*te.size)(hncell:∀ j u,news[j]?=some u->w.cell? (b2.add j)=some u)(hk0:0<k)(hfl:∀ i,i<n->(f i).length=te.size)(hgl:∀ i,i<k->(g i).length=te.size)(h1:∀ i j,i<n->j<te.size->DRep w (XS C s η) (olds.getD (i*te.size+j) undef) ((f i).getD j .any))(h2:∀ i j,i<k->j<te.size->DRep w (XS C s η) (news.getD (i*te.size+j) undef) ((g i).getD j .any)):
  G4 P C nt R η e s a w o { v:=.v (.c (.own d)),del:=del,new:=some (.arr te.size (n+k) (QH n f g)),cond:=c }:=by
 obtain ⟨i,dd,z,m⟩:=hL t ti ht;obtain ⟨E,F,A,b⟩:=hL el te hte
 have p:=m.kind;rw [hk] at p
 simp only [ZK] at p;subst p
 have r:A.cells.size=te.size:=by rw [(b.zrep w (fun _=>False) η C).1,hzl]
 have l:∀ {v:Value} {w' : World},(Builtin.append_ #[t,t] o.type #[a.eval x,a.eval y]).run P w=.ok v w' -> (execOp a.eval o).run P w=.ok (.value v) w':=by
  intro v w' G;simp [execOp,hop,resolve,invoke,builtin,G]
 cases base with
 | none=>
  obtain ⟨rfl,rfl⟩:=hb0 rfl;have:olds=[]:=List.eq_nil_of_length_eq_zero (by rw [holdl,Nat.zero_mul])
  subst this;have B:=run_append_nil (P:=P) w t o.type el E A m.und b.info b.zero b2 k cy news (by rw [b.size];exact hnl) hncell (by omega) (by simp only [Y5] at hlim;omega)
   (by have:=Q2X (n:=k) (by omega) hby;rw [b.bytes];omega)
  have D:=l (by rw [ex,ey];exact B);have q : (execOp a.eval o).run P w=.ok (.value (.slice (some ⟨w.heap.size,0,none⟩) (0+k) (grownCap w k 0 el))) (w.drew.alloc (.cells (([]:List Value).toArray++news.toArray++Builtin.zeroCells A.cells (grownCap w k 0 el-(0+k))) el)):=by
   grind
  exact gk h hd hdn hR hdel q r (by simp) hnl (by have:=grownCap_ge w k 0 el;omega) (grownCap_le_maxLen w k 0 el (by simp only [Y5] at hlim;simp only [maxLen];omega)) (by omega) hfl hgl h1 h2
 | some b0=>
  have B:=run_append_grow (P:=P) w t o.type el E A m.und b.info b.zero b0 n cap olds (by rw [b.size];exact holdl) (holds b0 rfl) b2 k cy news (by rw [b.size];exact hnl) hncell (by omega) (by simp only [Y5] at hlim;omega)
   (growslice_fits (by omega) (by rw [b.bytes];exact Q2X hlim hby))
  exact gk h hd hdn hR hdel (l (by rw [ex,ey];exact B)) r holdl hnl (grownCap_ge w (n+k) cap el) (grownCap_le_maxLen w (n+k) cap el (by simp only [Y5] at hlim;simp only [maxLen];omega)) (by omega) hfl hgl h1 h2
theorem LX(hL:z7 P L)(h:Conc C nt R η e s a w){o:Oper}{d:Nat}(hd:o.dst=some d)(hdn:d<nt)(hR:¬ R d){t:TypeId}{x y:Operand}(hop:o.op=.call { callee:=.builtin .append,args:= #[x,y],argTypes:= #[t,t] }){ti:TI}(ht:L t=some ti){el:Nat}(hk:ti.kind=.slice el){te:TI}(hte:L el=some te){k:Nat}{g:Nat->List DVal}(hy:VI s (Y2 e y)=some (k,g)){del:List Nat}{n:Nat}{f:Nat->List DVal}{c0:Prop}(hx:Jf s te.size k (Y2 e x)=some (del,n,f,c0))(hc0:c0)(hby:te.bytes<=8192)(hzl:te.zero.length=te.size){c:Prop}(hlim:n+k<=Y5)(hgl:∀ j,j<k->(g j).length=te.size):
  G4 P C nt R η e s a w o { v:=.v (.c (.own d)),del:=del,new:=some (.arr te.size (n+k) (QH n f g)),cond:=c }:=by
 obtain ⟨i,dd,z,S⟩:=hL t ti ht;obtain ⟨i2,e2,z2,B⟩:=hL el te hte
 have a9:=S.kind;rw [hk] at a9
 simp only [ZK] at a9;subst a9
 obtain ⟨ad,cy,V,e0,a2⟩:=Q3k h (U5 h y).1 hy;have d9:z2.cells.size=te.size:=by rw [(B.zrep w (fun _=>False) η C).1,hzl]
 have I:∀ {v:Value} {w' : World},(Builtin.append_ #[t,t] o.type #[a.eval x,a.eval y]).run P w=.ok v w' -> (execOp a.eval o).run P w=.ok (.value v) w':=by
  intro v w' hh;simp [execOp,hop,resolve,invoke,builtin,hh]
 unfold Jf at hx;split at hx
 .
  rename_i Q e1
  split at hx
  .rename_i b9 n' f' hs
   split at hx
   .rename_i c1
    cases hx
    subst c1;have r:=(U5 h x).1
    rw [e1] at r;have ex:=Vv r
    have O:=h.st Q _ hs
    by_cases hk0:k=0
    .
     subst hk0;have a0:=O
     generalize hu:η Q=u at O ex;have hn:∃ l D,u=.slice l n D/\n<=D:=by
      cases O with
      | nil=>exact ⟨_,_,rfl,Nat.le_refl _⟩
      | arr b _ D _ c' e' _ _ _ hn _ _ _ _=>exact ⟨_,_,rfl,hn⟩
     obtain ⟨l,D,b6,hn⟩:=hn;refine Ui h hd hdn hR (Z:=fun _=>False) (v:=u) (w':=w) (I (by rw [ex,V,b6];exact Q3l t o.type S.und B.info l n D hn ad cy)) (Stp.refl _ _) (by rw [b6];rfl) (fun b K=>K.elim)
      (fun U p o' H=>by simp at p;subst p;rw [hs] at H;cases H;rfl) (fun b K=>.inr ⟨Q,by simp,by rw [hs];simp,by rw [hu];exact K⟩) fun X' F=>?_
     rw [hu] at a0;have c3 : ∀ b,b ∈ Y7 u->w.heap[b]?=w.heap[b]?:=fun _ _=>rfl
     have:=a0.mono (η':=SR.eta { v:=.v (.c (.own d)),del:=[Q],new:=some (.arr te.size (n+0) (QH n f g)),cond:=c } o.dst u η) F (by simp [Obj.refs]) c3
     cases this with
     | nil=>exact .nil _ _ _
     | arr b _ cap' _ c' e' _ q1 q2 q3 q4 q5 q6 q7=>
      refine .arr b n cap' _ c' e' _ q1 q2 q3 q4 q5 (fun i E=>?_) fun i j E A=>?_
      .simp only [QH,if_pos E];exact q6 i E
      .simp only [QH,if_pos E];exact q7 i j E A
    .obtain ⟨b2,T,a4,news,G,m,N,q⟩:=Q0H hk0 a2 hgl
     subst a4;generalize hu:η Q=u at O ex
     cases O with
     | nil l _ _=>
      exact Br hL h hd hdn hR hop ht hk hte hby hzl (fun U p o' H=>by simp at p;subst p;rw [hs] at H;cases H;rfl) hlim ex (by omega) (fun _=>⟨rfl,rfl⟩) (olds:=[]) (by simp) (fun _ _ j u A=>by simp at A) V G m (by omega)
       (fun i E=>by omega) hgl (fun i j E=>by omega) q
     | arr b _ D _ c' e' _ K hsz hn hm hc hl hel=>
      have a1:∀ U ∈ [Q],∀ o',s U=some o' -> o'.ro=false:=fun U p o' H=>by simp at p;subst p;rw [hs] at H;cases H;rfl
      have e3:n*te.size<=D*te.size:=Nat.mul_le_mul_right _ hn;have J:(c'.toList.take (n*te.size)).length=n*te.size:=by simp;omega
      have W:∀ i j,i<n->j<te.size->DRep w (XS C s η) ((c'.toList.take (n*te.size)).getD (i*te.size+j) undef) ((f i).getD j .any):=by
       intro i j E A;have b8:i*te.size+j<n*te.size:=by
        have:(i+1)*te.size<=n*te.size:=Nat.mul_le_mul_right _ E
        grind
       rw [<-kL rfl b8];exact hel i j E A
      by_cases hroom:n+k<=D
      .have M:n*i2.size+news.length<=c'.size:=by rw [B.size,G,hsz, <-Nat.add_mul];exact Nat.mul_le_mul_right _ hroom
       have hr:=Q6N (P:=P) t o.type el e' i2 S.und B.info b n D c' K ⟨b2,T,none⟩ k cy news (by rw [B.size];exact G) m N hroom M;rw [B.size] at hr M
       have b4:=I (by rw [ex,V];exact hr);have Y:b ∈ Y7 (η Q):=by rw [hu];simp [Y7];omega
       refine Ui h hd hdn hR (Z:=fun x=>x=b) b4 (RI w b _) rfl (fun x hx=>⟨Q,by simp,by rw [hs];simp,by rw [hx];exact Y⟩) a1 (fun x hx=>.inr ⟨Q,by simp,by rw [hs];simp,by simp [Y7] at hx;rw [hx.2];exact Y⟩) fun X' F=>?_
       refine .arr b (n+k) D te.size _ e' _ (setRow_heap w b c' _ e' _ K) (by rw [(RJ c' (n*te.size) news M).1];exact hsz) hroom hm hc (fun i E=>?_) ?_
       .unfold QH
        grind
       .refine Q3m (olds:=c'.toList.take (n*te.size)) (news:=news) ?_ J (fun i j E A=>(W i j E A).mono F) (fun i j E A=>(q i j E A).mono F)
        have c8:(c'.toList.take (n*te.size)++news).length=(n+k)*te.size:=by rw [List.length_append,J,G,Nat.add_mul]
        grind
      .have a5:∀ j u,(c'.toList.take (n*te.size))[j]?=some u->w.cell? ((⟨b,0,none⟩:Addr).add j)=some u:=by
        intro j u A;rw [List.getElem?_take] at A
        split at A
        .rw [add_lit,Nat.zero_add,cell_of_row w b j c' e' (0,0) K];simpa using A
        .cases A
       exact Br hL h hd hdn hR hop ht hk hte hby hzl a1 hlim ex (by omega) (fun hh=>by cases hh) J (fun b0 a7=>by cases a7;exact a5) V G m (by omega) hl hgl W q
   .cases hx
  .cases hx
 .
  rename_i n' f' e1
  split at hx
  .rename_i d5
   cases hx
   have r:=(U5 h x).1;rw [e1] at r
   generalize hex:a.eval x=u at r;have c2:∃ l,u=.slice l n n/\DRep w (XS C s η) (.slice l n n) (.lst n f):=by
    cases r with|v _ _ r=>cases r with|c _ _ r=>cases r with|fl l _ _ r=>exact ⟨l,rfl,r⟩
   obtain ⟨l,rfl,b7⟩:=c2
   by_cases hk0:k=0
   .subst hk0
    have a8:n=0:=by omega
    subst a8;exact Ui h hd hdn hR (del:=[]) (Z:=fun _=>False) (v:=.slice l 0 0) (w':=w) (I (by rw [hex,V];exact Q3l t o.type S.und B.info l 0 0 (Nat.le_refl _) ad cy)) (Stp.refl _ _) rfl (fun b K=>K.elim)
     (fun U p=>by cases p) (fun b K=>by cases l <;> simp [Y7] at K) fun X' _=>.nil _ _ _
   .obtain ⟨b2,T,a4,news,G,m,N,q⟩:=Q0H hk0 a2 hgl
    subst a4
    cases b7 with
    | nil _ _ _=>
     exact Br hL h hd hdn hR hop ht hk hte hby hzl (fun U p=>by cases p) hlim hex (by omega) (fun _=>⟨rfl,rfl⟩) (olds:=[]) (by simp) (fun _ _ j u A=>by simp at A) V G m (by omega)
      (fun i E=>by omega) hgl (fun i j E=>by omega) q
    | lst b off _ _ c' e' fz _ b9 q1 q2 q3 q4 q5 q6=>
     by_cases a8:n=0
     .subst a8
      exact Br hL h hd hdn hR hop ht hk hte hby hzl (fun U p=>by cases p) hlim hex (by omega) (fun hh=>by cases hh) (olds:=[]) (by simp) (fun _ _ j u A=>by simp at A) V G m (by omega)
       (fun i E=>by omega) hgl (fun i j E=>by omega) q
     have c5:b9=te.size:=by rw [<-q5 0 (by omega),hc0 0 (by omega)]
     subst c5;have hv:∀ j,j<n*te.size->(Zl c' off (n*te.size)).getD j undef=c'.getD (off+j) undef:=fun j A=>by simp [Zl,List.getD_eq_getElem?_getD,A]
     refine Br hL h hd hdn hR hop ht hk hte hby hzl (fun U p=>by cases p) hlim hex (by omega) (fun hh=>by cases hh) (olds:=Zl c' off (n*te.size)) (by simp [Zl]) (fun b0 a7 j u A=>?_) V G m (by omega)
      q5 hgl (fun i j E A=>?_) q
     .cases a7
      simp only [Zl,List.getElem?_map] at A
      by_cases hjj:j<n*te.size
      .rw [List.getElem?_range hjj] at A
       cases A
       rw [add_lit];exact Mf q2 _ (by omega)
      all_goals grind
     .have b8:i*te.size+j<n*te.size:=by
       have:(i+1)*te.size<=n*te.size:=Nat.mul_le_mul_right _ E
       grind
      grind
  .cases hx
 .cases hx
end
end
section
section
variable {P:Program} {L:V9} {C:Ctx} {nt:Nat} {R:Nat->Prop} {η:Nat->Value} {e:W4} {s:W5} {a:Act} {w:World}
theorem qA{α:Type}(n:Nat)(xs:List α):(VV n xs).length=n*xs.length:=by
 induction n with
 | zero=>simp [VV]
 | succ n ih=>simp [VV,ih,Nat.add_mul];omega
theorem Q6Y{α:Type}(n:Nat)(xs:List α)(d:α)(i:Nat)(h:i<n*xs.length):(VV n xs).getD i d=xs.getD (i % xs.length) d:=by
 induction n generalizing i with
 | zero=>simp at h
 | succ n ih=>
  rw [Nat.add_mul,Nat.one_mul] at h
  by_cases h1:i<xs.length
  .simp [VV,List.getD_eq_getElem?_getD,List.getElem?_append,h1,Nat.mod_eq_of_lt h1]
  .have:=ih (i-xs.length) (by omega)
   have b:(i-xs.length) % xs.length=i % xs.length:=by rw [<-Nat.mod_eq_sub_mod (by omega)]
   rw [b] at this;rw [<-this]
   simp [VV,List.getD_eq_getElem?_getD,List.getElem?_append,h1]
theorem yd(n:Nat)(f:Nat->Value)(j:Nat)(hj:j<n):((Array.range n).map f).getD j undef=f j:=by
 have h:j<((Array.range n).map f).size:=by simpa using hj
 have:((Array.range n).map f).getD j undef=((Array.range n).map f)[j]:=by simp only [Array.getD,h,dite_true];rfl
 grind
theorem yc(f:Nat->Value):(Array.range 0).map f=#[]:=Array.eq_empty_of_size_eq_zero (by simp)
theorem Q4k{X:Nat->Prop}{z:Array Value}{zs:List CV}(h:G8 w X η C z zs)(len:Nat):G8 w X η C ((Array.range (len*zs.length)).map (z[· % z.size]!)) (VV len zs):=by
 refine ⟨by simp [qA],fun j c=>?_⟩;rw [qA] at c
 rw [Q6Y _ _ _ _ c];have b:0<zs.length:=by rcases Nat.eq_zero_or_pos zs.length with d|d;simp [d] at c;exact d
 have f:=Nat.mod_lt j b;have:=h.2 _ f
 have g:((Array.range (len*zs.length)).map (z[· % z.size]!)).getD j undef=z.getD (j % zs.length) undef:=by
  have:j % z.size<z.size:=by rw [h.1];exact f
  rw [yd _ _ _ c, <-h.1];simp [this]
 grind
theorem Q6M{t:TypeId}{ti:TI}{i:TypeInfo}{el:TypeId}{z:Value}(hti:TIOk P t ti i (.slice el) z){te:TI}{i2:TypeInfo}{d2:TypeDesc}{z2:Value}(hte:TIOk P el te i2 d2 z2)(len:Nat)(hl:len*te.size<=16777216){Ym:Array (Nat×Value)}{cells:Array Value}(hf:Instr.fill (fun i=>some (i*te.size,te.size)) ((Array.range (len*te.size)).map (z2.cells[· % z2.cells.size]!)) Ym.toList=some cells):
  (Instr.buildSlice t len Ym).run P w=.ok (.slice (some ⟨w.heap.size,0,none⟩) len len) { w with heap:=w.heap.push (.cells cells el) }:=by
 have b:¬ (16777216<len*te.size):=by omega
 by_cases h0:len*te.size=0
 .rw [h0,yc] at hf
  simp only [Instr.buildSlice,Sem.run_bind,run_underlying hti.und,Result.andThen_ok,YG hte,gt_iff_lt,Nat.reducePow,h0,if_true,Sem.run_pure,Sem.run_ite,yc];rw [hf]
  simp [newRow]
 .simp only [Instr.buildSlice,Sem.run_bind,run_underlying hti.und,Result.andThen_ok,YG hte,b,gt_iff_lt,Nat.reducePow,if_false,h0,Sem.run_pure,Sem.run_ite,RU hte]
  rw [hf];simp [newRow]
theorem Lp{X:Nat->Prop}{c:Array Value}{cs:List CV}{ds:List DVal}(h:G8 w X η C c cs)(hd:VP cs=some ds):ds.length=c.size/\∀ j,j<ds.length->DRep w X (c.getD j undef) (ds.getD j .any):=by
 obtain ⟨f,d⟩:=kr cs ds c 0 hd (fun j b=>by rw [Nat.zero_add];exact h.2 j b);exact ⟨by rw [f,h.1],fun j b=>by have:=d j b;rwa [Nat.zero_add] at this⟩
theorem Q5M(hL:z7 P L)(h:Conc C nt R η e s a w){o:Oper}(hdn:∀ x,o.dst=some x->x<nt){t:TypeId}{len:Nat}{ps:Array (Nat×Operand)}(hop:o.op=.buildSlice t len ps){ti:TI}(ht:L t=some ti){el:Nat}(hk:ti.kind=.slice el){te:TI}(hte:L el=some te)(hle:len*te.size<=16777216)(hzl:te.zero.length=te.size){cs:List CV}(hf:Ur (fun i=>some (i*te.size,te.size)) (VV len te.zero) (ps.toList.map fun p=>(p.1,Y2 e p.2))=some cs){ds:List DVal}(hds:VP cs=some ds):
  G4 P C nt R η e s a w o { v:=.v (.c (.d (.lst len fun i=>(ds.drop (i*te.size)).take te.size))) } /\
  ∀ d,o.dst=some d->¬ R d->0<te.size->G4 P C nt R η e s a w o { v:=.v (.c (.own d)),new:=some (.arr te.size len fun i=>(ds.drop (i*te.size)).take te.size) }:=by
 obtain ⟨i,dd,z,M⟩:=hL t ti ht;obtain ⟨i2,d2,z2,k⟩:=hL el te hte
 have y:=M.kind;rw [hk] at y
 simp only [ZK] at y;subst y
 obtain ⟨m1,m2,_⟩:=Q2f h ps;have hz:=k.zrep w (XS C s η) η C
 have a7:z2.cells.size=te.size:=by rw [hz.1,hzl]
 have H:=Q4k hz len;rw [hzl] at H
 obtain ⟨B,u,l,_⟩:=Q1U _ _ _ _ _ hf H m1 m2;have E:=Q6M (w:=w) M k len hle u
 have f:(execOp a.eval o).run P w=.ok (.value (.slice (some ⟨w.heap.size,0,none⟩) len len)) { w with heap:=w.heap.push (.cells B el) }:=by
  simp only [execOp,hop,Sem.run_bind];rw [E];rfl
 obtain ⟨A,a8⟩:=Lp l hds;have m:ds.length=len*te.size:=by
  have:=l.1
  have V:cs.length=(VV len te.zero).length:=by
   have U:∀ (ps:List (Nat×AVal)) (pl:Nat->Option (Nat×Nat)) (O cs:List CV),Ur pl O ps=some cs->cs.length=O.length:=by
    intro ps pl
    induction ps with
    | nil=>intro O cs h;cases h;rfl
    | cons p r ih=>
     intro O cs h;obtain ⟨i,x⟩:=p
     simp only [Ur] at h;split at h
     .split at h
      .rename_i a2;rw [ih _ _ h,KF _ _ _ (by omega)]
      .cases h
     .cases h
   exact U _ _ _ _ hf
  rw [A,this,V,qA,hzl]
 have G:∀ i,i<len->((ds.drop (i*te.size)).take te.size).length=te.size:=by
  intro i K;have:(i+1)*te.size<=len*te.size:=Nat.mul_le_mul_right _ K
  grind
 have D:∀ i j,i<len->j<te.size->DRep w (XS C s η) (B.getD (i*te.size+j) undef) (((ds.drop (i*te.size)).take te.size).getD j .any):=by
  grind
 have T:QZ w { w with heap:=w.heap.push (.cells B el) } (XS C s η) (XS C s η):=fun b g hX=>⟨by show (w.heap.push _)[b]?=_;rw [Array.getElem?_push,if_neg (by omega)],hX⟩
 have W:¬ XS C s η w.heap.size:=by
  rintro (⟨hx,_⟩|hx)
  .have:=h.ok.lt _ hx;have:=h.fr.size;omega
  .have:=h.lt hx;omega
 refine ⟨?_,fun d Q Y I=>?_⟩
 .refine ⟨_,_,.inl f,?_⟩
  have J:∀ v,SR.eta { v:=.v (.c (.d (.lst len fun i=>(ds.drop (i*te.size)).take te.size))) } o.dst v η=η:=fun v=>by funext i;simp [SR.eta]
  have F:SR.sto { v:=.v (.c (.d (.lst len fun i=>(ds.drop (i*te.size)).take te.size))) } o.dst s=s:=by funext i;simp [SR.sto]
  refine h.step o.dst hdn _ _ _ (fun _=>False) (Stp.alloc _ w _) (fun b g=>g.elim) (fun _ _ S=>by cases S) (fun _ _ S=>by cases S) fun _=>?_
  rw [J,F];refine ⟨.v _ _ (.c _ _ (.d _ _ ?_)),fun j N=>by simp [AVal.refs,TV.refs,CV.refs] at N⟩
  refine .lst w.heap.size 0 len len B el (0,0) _ te.size W (by simp) (Nat.le_refl _) (by rw [Nat.zero_add, <-A,m];exact Nat.le_refl _) G fun i j K N=>?_
  rw [Nat.zero_add];exact (D i j K N).mono T
 .by_cases hl0:len=0
  .subst hl0
   exact Ui h Q (hdn d Q) Y (del:=[]) (Z:=fun _=>False) f (Stp.alloc _ w _) rfl (fun b g=>g.elim) (fun i' n=>by cases n) (fun b g=>by simp [Y7] at g) fun X' _=>.nil _ _ _
  .refine Ui h Q (hdn d Q) Y (del:=[]) (Z:=fun _=>False) f (Stp.alloc _ w _) rfl (fun b g=>g.elim) (fun i' n=>by cases n) (fun b g=>.inl (by simp [Y7] at g;omega)) fun X' q=>?_
   refine .arr w.heap.size len len te.size B el _ (by simp) (by rw [<-A,m]) (Nat.le_refl _) ?_ (by omega) G fun i j K N=>(D i j K N).mono q
   have:len*1<=len*te.size:=Nat.mul_le_mul_left _ I
   simp only [maxLen];omega
theorem Q5D(hL:z7 P L)(h:Conc C nt R η e s a w){o:Oper}{d:Nat}(hd:o.dst=some d)(hdn:d<nt)(hR:¬ R d){t:TypeId}{l c:Operand}(hop:o.op=.makeSlice t l c){ti:TI}(ht:L t=some ti){el:Nat}(hk:ti.kind=.slice el){te:TI}(hte:L el=some te){n n' : Int}(hl:ZJ (Y2 e l)=some n)(hc:ZJ (Y2 e c)=some n')(h0:0<te.size)(hby:te.bytes<=8192)(hzl:te.zero.length=te.size){zd:List DVal}(hz:VP te.zero=some zd){c0:Prop}(hn:0<=n/\n=n' /\ n<=Y5):G4 P C nt R η e s a w o { v:=.v (.c (.own d)),new:=some (.arr te.size n.toNat fun _=>zd),cond:=c0 }:=by
 obtain ⟨i,dd,z,D⟩:=hL t ti ht;obtain ⟨i2,d2,F,f⟩:=hL el te hte
 have E:=D.kind;rw [hk] at E
 simp only [ZK] at E;subst E
 obtain ⟨a2,rfl,A⟩:=hn;have p:∀ {y:Operand} {m:Int},ZJ (Y2 e y)=some m->∃ k,a.eval y=.int k m:=by
  intro y m G;unfold ZJ at G
  split at G
  .rename_i k m' M
   cases G
   have J:=(U5 h y).1;rw [M] at J
   exact ⟨k,Vd J⟩
  .cases G
 obtain ⟨k1,M⟩:=p hl;obtain ⟨k2,V⟩:=p hc
 have Y:IntKind.i64.wrap n=n:=kb ⟨by omega,by simp only [Y5] at A;omega⟩;have r:(te.bytes:Int)*n<=2 ^ 48:=by
  have hh:te.bytes*n.toNat<=8192*4294967296:=Nat.mul_le_mul hby (by simp only [Y5] at A;omega)
  grind
 have q:F.cells.size=te.size:=by rw [(f.zrep w (XS C s η) η C).1,hzl]
 have T:(decide (n<0)||decide ((te.bytes:Int)*n > 2 ^ 48))=false:=by simp;omega
 have g:∃ I,(execOp a.eval o).run P w=.ok (.value (.slice (some ⟨w.heap.size,0,none⟩) n.toNat n.toNat)) { w with heap:=w.heap.push (.cells I el) } /\ I.size=n.toNat*te.size/\∀ j,j<n.toNat*te.size->I.getD j undef=F.cells.getD (j % te.size) undef:=by
  by_cases hz0:n.toNat*te.size=0
  .have W:n.toNat=0:=by rcases Nat.mul_eq_zero.1 hz0 with J|J;exact J;omega
   have S:n=0:=by omega
   subst S;refine ⟨#[],?_,by simp,fun j H=>by simp at H⟩
   simp [execOp,hop,Instr.makeSlice,M,V,asInt,asIntOf,run_underlying D.und,typeInfo,f.info,newRow,IntKind.wrap,IntKind.bits,IntKind.signed,YG f,yc]
  .refine ⟨(Array.range (n.toNat*te.size)).map (F.cells[· % F.cells.size]!),?_,by simp,fun j H=>?_⟩
   .have B:¬ n<0:=by omega
    have U:¬ (281474976710656:Int)<(te.bytes:Int)*n:=by omega
    simp [execOp,hop,Instr.makeSlice,M,V,asInt,asIntOf,run_underlying D.und,typeInfo,f.info,f.bytes,newRow,Y,B,U,YG f,RU f,hz0]
   .have:j % F.cells.size<F.cells.size:=by rw [q];exact Nat.mod_lt _ h0
    rw [yd _ _ _ H, <-q];simp [this]
 obtain ⟨I,g,O,N⟩:=g;obtain ⟨K,Q⟩:=Lp (f.zrep w (XS C s η) η C) hz
 by_cases hl0:n.toNat=0
 .rw [hl0] at g ⊢
  exact Ui h hd hdn hR (del:=[]) (Z:=fun _=>False) g (Stp.alloc _ w _) rfl (fun b r=>r.elim) (fun i' u=>by cases u) (fun b r=>by simp [Y7] at r) fun X' _=>.nil _ _ _
 .refine Ui h hd hdn hR (del:=[]) (Z:=fun _=>False) g (Stp.alloc _ w _) rfl (fun b r=>r.elim) (fun i' u=>by cases u) (fun b r=>.inl (by simp [Y7] at r;omega)) fun X' x=>?_
  refine .arr w.heap.size n.toNat n.toNat te.size I el _ (by simp) O (Nat.le_refl _) (by simp only [maxLen];simp only [Y5] at A;omega) (by omega) (fun i _=>by rw [K,q]) fun i j hi H=>?_
  have B:i*te.size+j<n.toNat*te.size:=by
   have:(i+1)*te.size<=n.toNat*te.size:=Nat.mul_le_mul_right _ hi
   grind
  rw [N _ B];have G:(i*te.size+j) % te.size=j:=by rw [Nat.add_comm,Nat.add_mul_mod_self_right,Nat.mod_eq_of_lt H]
  rw [G];exact (Q j (by rw [K,q];exact H)).mono x
end
end
section
section
variable {P:Program} {L:V9} {C:Ctx} {nt:Nat} {R:Nat->Prop} {η:Nat->Value} {e:W4} {s:W5} {a:Act} {w:World}
theorem PI(h:Conc C nt R η e s a w){y:Operand}{m:Int}(hm:ZJ (Y2 e y)=some m):∃ k,a.eval y=.int k m:=by
 unfold ZJ at hm;split at hm
 .rename_i k d c
  cases hm
  have b:=(U5 h y).1;rw [c] at b
  exact ⟨k,Vd b⟩
 .cases hm
theorem Q0y(hL:z7 P L){X:Nat->Prop}{vs:Array Value}{cs:List CV}(h:G8 w X η C vs cs){t off:Nat}{ti:TI}(ht:L t=some ti)(ho:off+ti.size<=cs.length){v:AVal}(hv:Vx ti.kind.agg ((cs.drop off).take ti.size)=some v):
  ∃ u,(part t vs off).run P w=.ok u w/\ARep w X η C u v/\∀ j ∈ v.refs,j ∈ cs.flatMap CV.refs:=by
 obtain ⟨i,d,z,f⟩:=hL t ti ht;have r:=h.1
 unfold Vx at hv;split at hv
 .rename_i m
  cases hv
  refine ⟨.agg (vs.extract off (off+ti.size)),?_,.v _ _ (.g _ _ ⟨by simp;omega,fun j l=>?_⟩),fun j l=>vz _ _ _ j (vy _ _ _ j l)⟩
  .simp only [part,Sem.run_bind,RV f,Result.andThen_ok,m,if_true,YG f,Sem.run_pure]
  .have n : j<ti.size:=by simp at l;omega
   rw [vr _ _ _ _ _ n];have k:off+j<vs.size:=by omega
   have:(vs.extract off (off+ti.size)).getD j undef=vs.getD (off+j) undef:=by
    have q:j<min (off+ti.size) vs.size-off:=by omega
    simp [k,q]
   rw [this];exact h.2 _ (by omega)
 .rename_i m
  split at hv
  .rename_i y p
   cases hv
   have b:((cs.drop off).take ti.size).length=ti.size:=by simp;omega
   rw [p] at b;have A:ti.size=1:=by simpa using b.symm
   have k:off<vs.size:=by omega
   refine ⟨vs.getD off undef,?_,.v _ _ (.c _ _ ?_),fun j l=>?_⟩
   .simp [part,RV f,m,k]
   .have:=h.2 off (by omega)
    have o:cs.getD off (.d .any)=y:=by
     have x:=vr cs off ti.size 0 (.d .any) (by omega)
     grind
    rwa [o] at this
   .refine vz _ _ off j (vy _ _ ti.size j ?_)
    rw [p];simpa [AVal.refs,TV.refs] using l
  .cases hv
theorem Z2r(h:Conc C nt R η e s a w):∀ (xs:List Operand) (ids:List Nat),Zr.cloIds (xs.map (Y2 e))=some ids->xs.map a.eval=ids.map η/\∀ j ∈ ids,R j:=by
 intro xs
 induction xs with
 | nil=>intro ids c;cases c;exact ⟨rfl,by simp⟩
 | cons x r ih=>
  intro ids c;obtain ⟨n,l⟩:=U5 h x
  rw [List.map_cons] at c;unfold Zr.cloIds at c
  split at c
  .grind
  .rename_i t q f
   injection f with f e2
   subst e2;split at c
   .rename_i m d
    cases c
    obtain ⟨o,p⟩:=ih _ d;rw [f] at n l
    obtain ⟨b,k,i⟩:=Hi n;refine ⟨by rw [List.map_cons,List.map_cons,o,k,i],fun j g=>?_⟩
    rcases List.mem_cons.1 g with rfl|g
    .exact l _ (by simp [AVal.refs,TV.refs,CV.refs])
    .exact p j g
   .cases c
  .cases c
theorem Z1b(h:Conc C nt R η e s a w){x:Operand}{off:Nat}{v:AVal}(hv:(match Y2 e x with
     | .v (.c (.ptr id o))=>some ({ v:=.v (.c (.ptr id (o+off))) }:SR)
     | .v (.c (.pte id es idx o))=>some { v:=.v (.c (.pte id es idx (o+off))) }
     | .v (.c (.elm cs))=>if off<=cs.length then some { v:=.v (.c (.elm (cs.drop off))) } else none
     | _=>none)=some { v:=v }):
  (∀ b o',a.eval x=.pointer (some ⟨b,o',none⟩)->ARep w (XS C s η) η C (.pointer (some ⟨b,o' + off,none⟩)) v)/\(∀ j ∈ v.refs,R j)/\∃ b o',a.eval x=.pointer (some ⟨b,o',none⟩):=by
 obtain ⟨i,l⟩:=U5 h x;split at hv
 .rename_i id o k
  cases hv
  rw [k] at i l;obtain ⟨b,d,g⟩:=Hi i
  exact ⟨fun r o' f=>by rw [d] at f;cases f;exact yg _ g,fun j p=>l j (by simpa [AVal.refs,TV.refs,CV.refs] using p),b,o,d⟩
 .rename_i id es idx o k
  cases hv
  rw [k] at i l;obtain ⟨b,n,q,d,g⟩:=yh i
  exact ⟨fun r o' f=>by rw [d] at f;cases f;rw [Nat.add_assoc];exact .v _ _ (.c _ _ (.pte b n q _ _ _ _ g)),fun j p=>l j (by simpa [AVal.refs,TV.refs,CV.refs] using p),b,_,d⟩
 .rename_i cs k
  split at hv
  .rename_i m
   cases hv
   rw [k] at i;obtain ⟨b,o,c,A,B,d,z,y,t,u⟩:=Q2j i
   exact ⟨fun r o' f=>by rw [d] at f;cases f;exact Z1D _ z y t u off m,by simp [AVal.refs,TV.refs,CV.refs],b,o,d⟩
  .cases hv
 .cases hv
theorem Q5J(hL:z7 P L)(h:Conc C nt R η e s a w){o:Oper}(hd:∀ x,o.dst=some x->x<nt){t:TypeId}{x i:Operand}(hop:o.op=.indexAddr t x i){ti:TI}(ht:L t=some ti){el:Nat}(hk:ti.kind=.slice el){te:TI}(hte:L el=some te){m:Int}(hi:ZJ (Y2 e i)=some m){n:Nat}{f:Nat->List DVal}(hx:Zr.asF (Y2 e x)=some (n,f))(hf:(f m.toNat).length=te.size){c:Prop}(hc:0<=m/\m<n):
  G4 P C nt R η e s a w o { v:=.v (.c (.elm (f m.toNat))),cond:=c }:=by
 obtain ⟨G,d1,E,p⟩:=hL t ti ht;obtain ⟨B,H,A,l⟩:=hL el te hte
 have g:=p.kind;rw [hk] at g
 simp only [ZK] at g;subst g
 obtain ⟨k,y⟩:=PI h hi;obtain ⟨D,z,u,d⟩:=xt (U5 h x).1 hx
 rw [u] at d
 cases d with
 | nil=>omega
 | lst b off _ _ c' e' fz _ es h1 h2 h3 h4 h5 h6=>
  have r:es=te.size:=by rw [<-h5 m.toNat (by omega),hf]
  subst r;have q:m.toNat*te.size+te.size<=n*te.size:=by
   have:(m.toNat+1)*te.size<=n*te.size:=Nat.mul_le_mul_right _ (by omega)
   grind
  refine Ze h hd (v:=.pointer (some ⟨b,off+m.toNat*te.size,none⟩)) ?_ (.v _ _ (.c _ _ (.elm b _ c' e' fz _ h1 h2 (by rw [hf];omega) fun j F=>?_))) (by simp [AVal.refs,TV.refs,CV.refs])
  .simp [execOp,hop,Instr.indexAt,y,u,asIntOf,run_underlying p.und,hc,YG l,add_lit]
  all_goals grind
theorem Q5I(hL:z7 P L)(h:Conc C nt R η e s a w){o:Oper}(hd:∀ x,o.dst=some x->x<nt){t:TypeId}{x i:Operand}(hop:o.op=.indexAddr t x i){ti:TI}(ht:L t=some ti){el:Nat}(hk:ti.kind=.slice el){te:TI}(hte:L el=some te){m:Int}(hi:ZJ (Y2 e i)=some m){id:Nat}(hx:Y2 e x=.v (.c (.own id))){n:Nat}{f:Nat->List DVal}(hs:s id=some (.arr te.size n f)){c:Prop}(hc:0<=m/\m<n):
  G4 P C nt R η e s a w o { v:=.v (.c (.pte id te.size m.toNat 0)),cond:=c }:=by
 obtain ⟨E,d1,G,p⟩:=hL t ti ht;obtain ⟨D,F,B,g⟩:=hL el te hte
 have d:=p.kind;rw [hk] at d
 simp only [ZK] at d;subst d
 obtain ⟨k,A⟩:=PI h hi;obtain ⟨y,r⟩:=U5 h x
 rw [hx] at y r;have q:=Vv y
 have l:=h.st id _ hs;generalize hu:η id=u at l q
 cases l with
 | nil=>omega
 | arr b _ cap _ c' e' _ hb hsz hn hm hc0 hl hel=>
  refine Ze h hd (v:=.pointer (some ⟨b,m.toNat*te.size+0,none⟩)) ?_ (.v _ _ (.c _ _ (.pte b n cap _ _ _ _ hu))) (fun j z=>r j (by simpa [AVal.refs,TV.refs,CV.refs] using z));simp [execOp,hop,Instr.indexAt,A,q,asIntOf,run_underlying p.und,hc,YG g,add_lit]
theorem Q5K(hL:z7 P L)(h:Conc C nt R η e s a w){o:Oper}(hd:∀ x,o.dst=some x->x<nt){t:TypeId}{x i:Operand}(hop:o.op=.indexAddr t x i){ti:TI}(ht:L t=some ti){n el:Nat}(hk:ti.kind=.array n el){te:TI}(hte:L el=some te){m:Int}(hi:ZJ (Y2 e i)=some m){id off:Nat}(hx:Y2 e x=.v (.c (.ptr id off)))(hc:0<=m/\m<n):
  G4 P C nt R η e s a w o { v:=.v (.c (.ptr id (off+m.toNat*te.size))) }:=by
 obtain ⟨B,d1,E,g⟩:=hL t ti ht;obtain ⟨A,D,z,f⟩:=hL el te hte
 have d:=g.kind;rw [hk] at d
 simp only [ZK] at d;subst d
 obtain ⟨k,y⟩:=PI h hi;obtain ⟨p,l⟩:=U5 h x
 rw [hx] at p l;obtain ⟨b,q,r⟩:=Hi p
 refine Ze h hd (v:=.pointer (some ⟨b,off+m.toNat*te.size,none⟩)) ?_ (yg _ r) (fun j u=>l j (by simpa [AVal.refs,TV.refs,CV.refs] using u));simp [execOp,hop,Instr.indexAt,y,q,asIntOf,run_underlying g.und,hc,YG f,add_lit,Instr.sureAddr]
end
end
section
section
variable {P:Program} {L:V9} {C:Ctx} {nt:Nat} {R:Nat->Prop} {η:Nat->Value} {e:W4} {s:W5} {a:Act} {w:World}
theorem yv{α β:Type}{f:α->β}{l:List α}{u v:β}(h:l.map f=[u,v]):∃ x y,l=[x,y]/\f x=u/\f y=v:=by
 match l,h with
 | [],h=>simp at h
 | [_],h=>simp at h
 | [x,y],h=>simp at h;exact ⟨x,y,rfl,h.1,h.2⟩
 | _::_::_::_,h=>simp at h
theorem Q3o(hL:z7 P L)(h:Conc C nt R η e s a w)(m:Bool)(o:Oper)(hd:∀ x,o.dst=some x->x<nt){r:SR}(hr:Zr L m e s o=some r)(hc:r.cond)(hR:∀ d,o.dst=some d->r.new≠none->¬ R d)(hst:∀ t x y,o.op=.store t x y->o.dst=none):G4 P C nt R η e s a w o r:=by
 unfold Zr at hr;split at hr
 .
  rename_i x p
  cases hr
  exact gi h hd (.inl p)
 .
  rename_i x p
  split at hr
  .cases hr
   exact gi h hd (.inr p)
  .rename_i f d G A
   split at hr
   .rename_i el U H zz F
    split at hr
    .rename_i te D
     cases hr
     have Q:=(U5 h x).1;rw [G] at Q
     have e7:∃ ad,a.eval x=.slice ad 0 0:=by
      generalize a.eval x=u at Q
      cases Q with|v _ _ Q=>cases Q with|c _ _ Q=>cases Q with|fl ad _ _ Q=>exact ⟨ad,rfl⟩
     obtain ⟨ad,Y⟩:=e7;exact Ui h A (hd d A) (hR d A (by simp)) (del:=[]) (v:=.slice ad 0 0) (Z:=fun _=>False) (by simp [execOp,p,Y]) (Stp.refl _ _) rfl (fun b I=>I.elim) (fun i hi=>by cases hi) (fun b I=>by cases ad <;> simp [Y7] at I) (fun X' _=>.nil _ _ _)
    .cases hr
   .cases hr
  .cases hr
 .
  rename_i c x y p
  split at hr
  .rename_i I;cases hr;exact gg h hd p I
  .rename_i I;cases hr;exact gg h hd p I
  .cases hr
 .
  rename_i t p
  split at hr
  .rename_i ti d F A
   cases hr
   exact Q5P hL h A (hd d A) (hR d A (by simp)) p F
  .cases hr
 .
  rename_i t x p
  split at hr
  .rename_i xs d G A
   cases hr
   exact Q5N h A (hd d A) (hR d A (by simp)) p G
  .cases hr
 .
  rename_i t ps p
  split at hr
  .rename_i fs U H z F
   split at hr
   .rename_i pl i5
    split at hr
    .rename_i cs hf
     cases hr
     exact gp hL h hd p F (.inl ⟨fs,pl,rfl,i5,rfl⟩) hf
    .cases hr
   .cases hr
  .rename_i n el U H z F
   split at hr
   .rename_i te D
    split at hr
    .rename_i cs hf
     cases hr
     exact gp hL h hd p F (.inr ⟨n,el,te,rfl,D,rfl⟩) hf
    .cases hr
   .cases hr
  .cases hr
 .
  rename_i t h8 ps p
  split at hr
  .rename_i el U H z F
   split at hr
   .rename_i te D
    split at hr
    .rename_i b5
     split at hr
     .rename_i cs hf
      split at hr
      .rename_i ds j5
       obtain ⟨B,K⟩:=Q5M hL h hd p F rfl D b5.1 b5.2.1 hf j5;split at hr
       .cases hr;exact B
       .rename_i d A
        cases hr
        exact K d A (hR d A (by simp)) b5.2.2
       .cases hr
      .cases hr
     .cases hr
    .cases hr
   .cases hr
  .cases hr
 .
  rename_i t x p
  split at hr
  .rename_i ti F
   split at hr
   .rename_i cs c i0
    split at hr
    .rename_i v Q
     cases hr
     exact Q5E hL h hd p F i0 Q hc
    .cases hr
   .cases hr
  .cases hr
 .
  rename_i t x y p
  split at hr
  .rename_i ti xs F hy
   split at hr
   .rename_i h4
    exact Q5y hL h (hst t x y p) p F hy h4 hr hc
   .cases hr
  .cases hr
 .
  rename_i x p
  obtain ⟨B,K⟩:=U5 h x;split at hr
  .rename_i id a2 e1
   cases hr
   rw [e1] at B K;obtain ⟨b,V,d5⟩:=Hi B
   exact Ze h hd (v:=a.eval x) (by simp [execOp,p,V]) B K
  .rename_i id es l7 a2 e1
   cases hr
   rw [e1] at B K;obtain ⟨b,n,J,V,d5⟩:=yh B
   exact Ze h hd (v:=a.eval x) (by simp [execOp,p,V]) B K
  .rename_i cs e1
   cases hr
   rw [e1] at B K;obtain ⟨b,a2,c,e',fz,V,_⟩:=Q2j B
   exact Ze h hd (v:=a.eval x) (by simp [execOp,p,V]) B K
  .cases hr
 .
  rename_i op t x y t' p
  exact Q5O h hd p hr hc
 .
  rename_i op t x p
  exact Q5x h hd p hr hc
 .
  rename_i k6 dst x p
  split at hr
  .rename_i k0 s1 b1 z1 k s2 b2 z2 k1 n c9 c6 G
   cases hr
   obtain ⟨i1,d1,j6,S⟩:=hL _ _ c9;obtain ⟨i2,d2,h9,O⟩:=hL _ _ c6
   have a6:=S.kind;have b0:=O.kind
   simp only [ZK] at a6 b0;subst a6;subst b0
   have B:=(U5 h x).1;rw [G] at B
   have Y:=Vd B;obtain ⟨g1,_⟩:=FT m k n _ hc
   refine Rh h hd g1 hc ?_;simp [execOp,p,convert,run_underlying S.und,run_underlying O.und,Y,Conv.intToInt]
  .rename_i s1 b1 z1 s2 b2 z2 b c9 c6 G
   cases hr
   obtain ⟨i1,d1,j6,S⟩:=hL _ _ c9;obtain ⟨i2,d2,h9,O⟩:=hL _ _ c6
   have a6:=S.kind;have b0:=O.kind
   simp only [ZK] at a6 b0;subst a6;subst b0
   obtain ⟨B,K⟩:=U5 h x;rw [G] at B
   have Y:=KC B;refine Ze h hd (v:=.string b) ?_ (by rw [Y] at B;exact B) (by simp [AVal.refs,TV.refs,CV.refs])
   simp [execOp,p,convert,run_underlying S.und,run_underlying O.und,Y]
  .cases hr
 .
  rename_i f d9 f3 p
  split at hr
  .rename_i j3
   split at hr
   .rename_i j0 e6
    cases hr
    obtain ⟨g1,g2⟩:=Z2r h _ _ e6;have h6:d9=#[]:=by simpa using j3
    subst h6;refine Ze h hd (v:=.func (.func f) #[] (f3.map a.eval)) (by simp [execOp,p,Instr.makeFunc]) (.v _ _ (.c _ _ (.clo f j0 _ ?_))) (fun j hj=>g2 j (by simpa [AVal.refs,TV.refs,CV.refs] using hj))
    rw [<-g1];exact Array.ext' (by simp)
   .cases hr
  .cases hr
 .
  rename_i t x lo hi p
  split at hr
  .rename_i el U H z F
   split at hr
   .rename_i te D
    split at hr
    .rename_i y l u hl hu
     split at hr
     .rename_i n f G
      cases hr
      exact Q5A hL h hd p F rfl D hl hu G hc.1 hc.2
     .cases hr
    .rename_i id u G hl hu
     split at hr
     .rename_i es n f d hs A
      cases hr
      obtain ⟨i1,d1,z1,T⟩:=hL _ _ F;obtain ⟨i2,d2,z2,a5⟩:=hL _ _ D
      have W:=T.kind;simp only [ZK] at W
      subst W;have B:=(U5 h x).1
      rw [G] at B;have Y:=Vv B
      have a1:=h.st id _ hs;have d0:0<=u/\u<=n:=hc
      have hn:∃ E J,η id=.slice E n J/\n<=J:=by
       generalize η id=v at a1
       cases a1 with
       | nil=>exact ⟨_,_,rfl,Nat.le_refl _⟩
       | arr b _ J _ c' e' _ _ _ hn _ _ _ _=>exact ⟨_,_,rfl,hn⟩
      obtain ⟨E,J,d7,hn⟩:=hn;obtain ⟨I,g1,g2,g3,g4⟩:=je (P:=P) h hl hu n J hn f (by simpa [sl] using d0)
      simp only [Option.getD_none,Option.getD_some,Int.toNat_zero] at I g1 g2;have e5:E.map (fun x:Addr=>x.add 0)=E:=by cases E <;> simp [Addr.add]
      have c5:(execOp a.eval o).run P w=.ok (.value (.slice E u.toNat J)) w:=by
       have d4:(if J=0 then E else E.map (fun x:Addr=>x.add 0))=E:=by rw [e5];split <;> rfl
       simp only [execOp,p,Sem.run_bind,Instr.sliceAt,run_underlying T.und,Result.andThen_ok,Instr.slice,Y,d7,Option.map_none,I,YG a5,Sem.run_pure,Nat.zero_mul,Nat.sub_zero];rw [d4]
      have g8:Y7 (.slice E u.toNat J)=Y7 (.slice E n J):=by cases E <;> rfl
      refine Ui h A (hd d A) (hR d A (by simp)) (Z:=fun _=>False) c5 (Stp.refl _ _) rfl (fun b I=>I.elim) (fun i' e3 o' f5=>by simp at e3;subst e3;rw [hs] at f5;cases f5;rfl)
       (fun b I=>.inr ⟨id,by simp,by rw [hs];simp,by rw [d7, <-g8];exact I⟩) fun X' c8=>?_
      rw [d7] at a1;have:=a1.mono (η':=SR.eta { v:=.v (.c (.own d)),del:=[id],new:=some (.arr es u.toNat f),cond:=0<=u/\u<=n } o.dst (.slice E u.toNat J) η) c8 (by simp [Obj.refs]) (fun _ _=>rfl)
      cases this with
      | nil=>
       have h0:u.toNat=0:=by omega
       rw [h0];exact .nil _ _ _
      | arr b _ _ _ c' e' _ q1 q2 q3 q4 q5 q6 q7=>
       exact .arr b u.toNat J _ c' e' _ q1 q2 (by omega) q4 q5 (fun i hi=>q6 i (by omega)) fun i j hi hj=>q7 i j (by omega) hj
     .cases hr
    .cases hr
   .cases hr
  .cases hr
 .
  rename_i t x G mx p
  split at hr
  .rename_i el U H z F
   split at hr
   .rename_i te n f u u' D i8 hu hm
    split at hr
    .rename_i g0
     obtain ⟨rfl,h0⟩:=g0;cases hr
     exact Q5z hL h hd p F rfl D hu hm h0 i8 hc.1 hc.2
    .cases hr
   .cases hr
  .cases hr
 .
  rename_i t x k p
  split at hr
  .rename_i fs U H z F
   split at hr
   .rename_i a2 ft hf
    split at hr
    .rename_i tf c4
     split at hr
     .cases hr
     .rename_i hz
      have e8:∃ v,r={ v:=v }:=by
       grind
      obtain ⟨v,rfl⟩:=e8;obtain ⟨g1,g2,g3⟩:=Z1b h hr
      exact Q5L hL h hd p F rfl hf c4 hz g1 g2 g3
    .cases hr
   .cases hr
  .cases hr
 .
  rename_i t x k p
  split at hr
  .rename_i fs U H z F
   split at hr
   .rename_i a2 ft cs hf G
    split at hr
    .rename_i tf c4
     split at hr
     .rename_i b5
      split at hr
      .rename_i v Q
       cases hr
       obtain ⟨i1,d1,z1,T⟩:=hL _ _ F;have W:=T.kind
       obtain ⟨c0,rfl,l0⟩:=W;have i7 : ∃ f,c0[k]?=some f/\f.offset=a2/\f.type=ft:=by
        grind
       obtain ⟨f,g6,rfl,rfl⟩:=i7;obtain ⟨B,K⟩:=U5 h x
       rw [G] at B K;have a8:∃ vs,a.eval x=.agg vs/\G8 w (XS C s η) η C vs cs:=by
        generalize a.eval x=u at B
        cases B with|v _ _ B=>cases B with|g vs _ B=>exact ⟨vs,rfl,B⟩
       obtain ⟨vs,Y,d6⟩:=a8;obtain ⟨u,g1,g2,g3⟩:=Q0y (P:=P) hL d6 c4 b5 Q
       refine Ze h hd (v:=u) ?_ g2 (fun j hj=>K j (by simpa [AVal.refs,TV.refs] using g3 j hj));simp only [execOp,p,Sem.run_bind,Instr.field,run_underlying T.und,Result.andThen_ok,g6,Y,asAgg,Sem.run_pure,g1]
      .cases hr
     .cases hr
    .cases hr
   .cases hr
  .cases hr
 .
  rename_i t x i p
  split at hr
  .rename_i el U H z m' F hi
   split at hr
   .rename_i te D
    split at hr
    .rename_i id G
     split at hr
     .rename_i es n f hs
      split at hr
      .rename_i g9
       subst g9;cases hr
       exact Q5I hL h hd p F rfl D hi G hs hc
      .cases hr
     .cases hr
    .split at hr
     .rename_i n f G
      split at hr
      .rename_i hf
       cases hr
       exact Q5J hL h hd p F rfl D hi G hf hc
      .cases hr
     .cases hr
   .cases hr
  .rename_i n el U H z m' F hi
   split at hr
   .rename_i te id a2 D G
    split at hr
    .rename_i I
     cases hr
     exact Q5K hL h hd p F rfl D hi G I
    .cases hr
   .cases hr
  .cases hr
 .
  rename_i t x i p
  split at hr
  .rename_i n el U H z m' cs F hi G
   split at hr
   .rename_i te D
    split at hr
    .rename_i I
     obtain ⟨V,d5,h5⟩:=I;split at hr
     .rename_i v Q
      cases hr
      obtain ⟨i1,d1,z1,T⟩:=hL _ _ F;obtain ⟨i2,d2,z2,a5⟩:=hL _ _ D
      have W:=T.kind;simp only [ZK] at W
      subst W;obtain ⟨k,ei⟩:=PI h hi
      obtain ⟨B,K⟩:=U5 h x;rw [G] at B K
      have a8:∃ vs,a.eval x=.agg vs/\G8 w (XS C s η) η C vs cs:=by
       generalize a.eval x=u at B
       cases B with|v _ _ B=>cases B with|g vs _ B=>exact ⟨vs,rfl,B⟩
      obtain ⟨vs,Y,d6⟩:=a8;obtain ⟨u,g1,g2,g3⟩:=Q0y (P:=P) hL d6 D h5 Q
      refine Ze h hd (v:=u) ?_ g2 (fun j hj=>K j (by simpa [AVal.refs,TV.refs] using g3 j hj));simp [execOp,p,Instr.index,ei,Y,asIntOf,run_underlying T.und,V,d5,YG a5,g1]
     .cases hr
    .cases hr
   .cases hr
  .cases hr
 .
  rename_i t l c p
  split at hr
  .rename_i el U H z n n' d F hl d0 A
   split at hr
   .rename_i te D
    split at hr
    .rename_i zd hz
     split at hr
     .rename_i I
      cases hr
      exact Q5D hL h A (hd d A) (hR d A (by simp)) p F rfl D hl d0 I.1 I.2.1 I.2.2 hz hc
     .cases hr
    .cases hr
   .cases hr
  .cases hr
 .
  rename_i x k p
  split at hr
  .rename_i xs G
   split at hr
   .rename_i v Q
    cases hr
    obtain ⟨B,K⟩:=U5 h x;rw [G] at B K
    have a8:∃ us,a.eval x=.tuple us/\us.size=xs.length/\∀ j,j<xs.length->TRep w (XS C s η) η C (us.getD j undef) (xs.getD j (.c (.d .any))):=by
     generalize a.eval x=u at B
     cases B with|t us _ g1 g2=>exact ⟨us,rfl,g1,g2⟩
    obtain ⟨us,Y,g1,g2⟩:=a8;have hk:k<xs.length:=by
     grind
    have g5 : k<us.size:=by omega
    have h3:=g2 k hk;have j1 : xs.getD k (.c (.d .any))=v:=by rw [List.getD_eq_getElem?_getD,Q];rfl
    rw [j1] at h3;refine Ze h hd (v:=us.getD k undef) ?_ (.v _ _ h3) (fun j hj=>K j ?_)
    .simp [execOp,p,Instr.extract,Y,g5]
    .exact List.mem_flatMap.2 ⟨v,List.mem_of_getElem? Q,hj⟩
   .cases hr
  .cases hr
 .
  rename_i b N f2 p
  split at hr
  .rename_i r' d q
   unfold Kp at q;split at q
   .
    rename_i y M
    obtain ⟨x,hargs,hy⟩:∃ x,N=#[x]/\y=Y2 e x:=by
     match hl:N.toList,M with
     | [x],M=>simp at M;exact ⟨x,Array.ext' hl,M.symm⟩
    subst hargs;subst hy
    split at q
    .rename_i t a7
     have d8:f2=#[t]:=Array.ext' a7;subst d8
     split at q
     .rename_i el U H z F
      split at q
      .rename_i n f G
       cases q
       simp only at hr;cases hr
       exact Q5H hL h hd p F rfl G
      .cases q
     .rename_i n el U H z F
      cases q
      simp only at hr;cases hr
      exact Q5G hL h hd p F rfl
     .rename_i U H z F
      split at q
      .rename_i bb G
       cases q
       simp only at hr;cases hr
       exact Q5F hL h hd p F rfl G
      .cases q
     .cases q
    .cases q
   .
    rename_i k n k' n' M
    obtain ⟨x,y,hargs,G,hy⟩:∃ x y,N=#[x,y]/\Y2 e x=.v (.c (.d (.int k n)))/\Y2 e y=.v (.c (.d (.int k' n'))):=by
     obtain ⟨x,y,hl,B,K⟩:=yv M
     grind
    subst hargs;cases q
    simp only at hr;cases hr
    exact gj h hd p G hy (.inl ⟨rfl,rfl⟩)
   .
    rename_i k n k' n' M
    obtain ⟨x,y,hargs,G,hy⟩:∃ x y,N=#[x,y]/\Y2 e x=.v (.c (.d (.int k n)))/\Y2 e y=.v (.c (.d (.int k' n'))):=by
     obtain ⟨x,y,hl,B,K⟩:=yv M
     grind
    subst hargs;cases q
    simp only at hr;cases hr
    exact gj h hd p G hy (.inr ⟨rfl,rfl⟩)
   .
    rename_i u1 u2 M
    obtain ⟨x,y,hargs,G,hy⟩:∃ x y,N=#[x,y]/\Y2 e x=u1/\Y2 e y=u2:=by
     obtain ⟨x,y,hl,B,K⟩:=yv M
     grind
    subst hargs;subst G;subst hy
    split at q
    .rename_i t t' a7
     split at q
     .rename_i f6
      subst f6;have d8:f2=#[t,t]:=Array.ext' a7
      subst d8;split at q
      .rename_i el U H z F
       split at q
       .rename_i te D
        split at q
        .rename_i k g hy
         split at q
         .rename_i del n f c G
          split at q
          .rename_i I
           cases q
           simp only at hr;split at hr
           .rename_i dd k3 A
            cases hr
            exact LX hL h A (hd _ A) (hR _ A (by simp)) p F rfl D hy G hc.2.2 I.2.1 I.2.2 hc.1 hc.2.1
           .cases hr
           .cases ‹some _=none›
          .cases q
         .cases q
        .cases q
       .cases q
      .cases q
     .cases q
    .cases q
   .cases q
  .cases hr
 .cases hr
end
end
section
def Zw(d:Option Tmp)(v:AVal)(e:W4):W4:=
 match d with
 | some d=>fun t=>if t=d then v else e t
 | none=>e
def ZC(l:List (Nat×Option Obj))(s:W5):W5:=fun i=>
 match l.lookup i with
 | some o=>o
 | none=>s i
structure Eff where
 rd:List Nat
 ids:List Nat
 v:AVal
 l:List (Nat×Option Obj)
 news:List Nat
section
variable (P:Program) (C:Ctx) (nt:Nat) (ops:Array Oper)
def WG(o:Oper)(f:Eff)(e:W4)(s:W5):Prop:=
 ∀ R η e0 s0 a w,(∀ t ∈ f.rd,e0 t=e t)->(∀ i ∈ f.ids,s0 i=s i)->(∀ n ∈ f.news,¬ R n)->Conc C nt R η e0 s0 a w ->
  ∀ (K:Act->World->Prop) (Q:Exit->Act->World->Prop),(∀ η' a' w',Conc C nt (fun i=>R i\/i ∈ f.news) η' (Zw o.dst f.v e0) (ZC f.l s0) a' w' -> K a' w') ->
   if Region.wanted o (yielded ops a.tmps) then o.wp P a w K Q else K (a.put o.dst undef) w
def Mn:List Oper->List Eff->W4->W5->Prop
 | [],[],_,_=>True
 | o::os,f::fs,e,s=>WG P C nt ops o f e s/\Mn os fs (Zw o.dst f.v e) (ZC f.l s)
 | _,_,_,_=>False
end
def Jc:List Oper->List Eff->W4->W4
 | o::os,f::fs,e=>Jc os fs (Zw o.dst f.v e)
 | _,_,e=>e
def Jb:List Eff->W5->W5
 | f::fs,s=>Jb fs (ZC f.l s)
 | _,s=>s
def YI(fs:List Eff):List Nat:=fs.flatMap (·.news)
theorem Conc.wider{C:Ctx}{nt:Nat}{R R' : Nat->Prop}{η:Nat->Value}{e:W4}{s:W5}{a:Act}{w:World}(h:Conc C nt R η e s a w)(hR:∀ i,R i->R' i):Conc C nt R' η e s a w:=
 ⟨h.ok,h.df,h.sz,h.ev,fun t i b=>hR i (h.er t i b),h.st,fun i o c=>⟨hR i (h.sr i o c).1,fun j d=>hR j ((h.sr i o c).2 j d)⟩,h.ds,h.ow,h.fr,fun i v b=>⟨(h.pn i v b).1,hR i (h.pn i v b).2⟩⟩
section
variable {P:Program} {C:Ctx} {nt:Nat} {ops:Array Oper}
theorem Q6O{Q:Exit->Act->World->Prop}:∀ (os:List Oper) (fs:List Eff) (R:Nat->Prop) (η:Nat->Value) (e:W4) (s:W5) (a:Act) (w:World),Mn P C nt ops os fs e s->(YI fs).Nodup->(∀ n ∈ YI fs,¬ R n)->Conc C nt R η e s a w ->
  (∀ η' a' w',Conc C nt (fun i=>R i\/i ∈ YI fs) η' (Jc os fs e) (Jb fs s) a' w' -> Q .normal a' w')->wpList P ops Q os a w:=by
 intro os
 induction os with
 | nil=>
  intro fs R η e s a w g _ _ k h
  cases fs with
  | nil=>exact h η a w (k.wider fun i p=>.inl p)
  | cons f fs=>exact g.elim
 | cons o os ih=>
  intro fs R η e s a w g c d k h
  cases fs with
  | nil=>exact g.elim
  | cons f fs=>
   obtain ⟨t,y⟩:=g;have b:YI (f::fs)=f.news++YI fs:=rfl
   rw [b] at c d h;have m:=t R η e s a w (fun _ _=>rfl) (fun _ _=>rfl) (fun n q=>d n (List.mem_append.2 (.inl q))) k
   refine wpList_step fun K v=>?_
   refine m K Q fun η' a' w' j=>v a' w' ?_
   refine ih fs _ η' _ _ a' w' y (List.nodup_append.1 c).2.1 (fun n q z=>?_) j fun x r u l=>h x r u (l.wider fun i p=>?_)
   all_goals grind
end
def Uw(oi oj:Oper)(fi fj:Eff):Bool:=
 (match oi.dst with|some d=>fj.rd.contains d||oj.dst==some d|none=>false)||(match oj.dst with|some d=>fi.rd.contains d|none=>false) ||
 (fi.l.any fun p=>fj.ids.contains p.1||fj.l.any (·.1==p.1))||(fj.l.any fun p=>fi.ids.contains p.1)
def UV(acc:List Nat):List Edge->Nat
 | []=>0
 | e::r=>if Region.binds .any e then (2 ^ e.on ||| acc.getD e.on 0) ||| UV acc r else UV acc r
def PA:List Oper->List Eff->List Nat->List (Oper×Eff)->Bool
 | o::os,f::fs,acc,seen=>
  let m:=UV acc o.after.toList
  (o.after.toList.all fun e=> !Region.binds .any e||decide (e.on<acc.length)) &&
  (seen.zipIdx.all fun p=> !Uw p.1.1 o p.1.2 f||m.testBit p.2)&&PA os fs (acc++[m]) (seen++[(o,f)])
 | [],[],_,_=>true
 | _,_,_,_=>false
def Q2K(ops:List Oper)(fs:List Eff):Bool:=PA ops fs [] []
inductive Anc (ops:List Oper):Nat->Nat->Prop
 | edge (j:Nat) (o:Oper) (e:Edge):ops[j]?=some o->e ∈ o.after.toList->Region.binds .any e=true->Anc ops e.on j
 | trans (i j k:Nat):Anc ops i j->Anc ops j k->Anc ops i k
theorem Q9c{ops:List Oper}{acc:List Nat}{j:Nat}{o:Oper}(ho:ops[j]?=some o)(hacc:∀ k i,(acc.getD k 0).testBit i=true->Anc ops i k):∀ (es:List Edge),(∀ e ∈ es,e ∈ o.after.toList)->∀ i,(UV acc es).testBit i=true->Anc ops i j:=by
 intro es
 induction es with
 | nil=>intro _ i c;simp [UV] at c
 | cons e r ih=>
  intro b i c;have f:=ih (fun l d=>b l (List.mem_cons_of_mem _ d))
  simp only [UV] at c;split at c
  .rename_i h
   have g:Anc ops e.on j:=.edge j o e ho (b e List.mem_cons_self) h;rw [Nat.testBit_or,Nat.testBit_or] at c
   rcases (by simpa using c:((2 ^ e.on).testBit i=true\/(acc.getD e.on 0).testBit i=true)\/(UV acc r).testBit i=true) with (h1|h1) | h1
   .grind
   .exact .trans _ _ _ (hacc _ _ h1) g
   .exact f i h1
  .exact f i c
theorem Z2c(ops:List Oper)(fs:List Eff):∀ (os:List Oper) (gs:List Eff) (acc:List Nat) (seen:List (Oper×Eff)),PA os gs acc seen=true ->
  acc.length=seen.length->ops=seen.map (·.1)++os->fs=seen.map (·.2)++gs->(∀ k i,(acc.getD k 0).testBit i=true->Anc ops i k) ->
  (∀ j o e,seen.length<=j->ops[j]?=some o->e ∈ o.after.toList->Region.binds .any e=true->e.on<j) /\
  (∀ i j oi oj fi fj,i<j->seen.length<=j->ops[i]?=some oi->ops[j]?=some oj->fs[i]?=some fi->fs[j]?=some fj->Uw oi oj fi fj=true->Anc ops i j)/\os.length=gs.length:=by
 intro os
 induction os with
 | nil=>
  intro gs acc seen h x q p _
  cases gs with
  | cons g gs=>simp [PA] at h
  | nil=>
   grind
 | cons o os ih=>
  intro gs acc seen h x q p f
  cases gs with
  | nil=>simp [PA] at h
  | cons g gs=>
   simp only [PA,Bool.and_eq_true] at h;obtain ⟨⟨I,K⟩,A⟩:=h
   have d:ops[seen.length]?=some o:=by rw [q];simp
   have u:fs[seen.length]?=some g:=by rw [p];simp
   have n:∀ i,(UV acc o.after.toList).testBit i=true->Anc ops i seen.length:=Q9c d f _ (fun e l=>l);obtain ⟨F,G,D⟩:=ih gs (acc++[UV acc o.after.toList]) (seen++[(o,g)]) A (by simp [x]) (by simp [q]) (by simp [p]) (fun k i J=>by
    by_cases hk1:k<acc.length
    .grind
    .by_cases hk2:k=acc.length
     all_goals grind)
   refine ⟨fun j z e H b l B=>?_,fun i j oi oj fi fj t H v b r c m=>?_,by simp [D]⟩
   .by_cases hjs:j=seen.length
    .grind
    .exact F j z e (by simp;omega) b l B
   .by_cases hjs:j=seen.length
    .subst hjs
     rw [d] at b;cases b
     rw [u] at c;cases c
     have E:seen[i]?=some (oi,fi):=by
      grind
     have y:((oi,fi),i) ∈ seen.zipIdx:=by
      grind
     grind
    .exact G i j oi oj fi fj t (by simp;omega) v b r c m
end
section
instance:Inhabited Eff:=⟨⟨[],[],.any,[],[]⟩⟩
section
variable (l:List Oper) (fs:List Eff)
def VD(i:Nat):Option Tmp:=(l[i]?).bind (·.dst)
def Qo(i:Nat):Eff:=fs.getD i default
def hE(e0:W4):List Nat->W4
 | []=>e0
 | i::h=>Zw (VD l i) (Qo fs i).v (hE e0 h)
def hS(s0:W5):List Nat->W5
 | []=>s0
 | i::h=>ZC (Qo fs i).l (hS s0 h)
def UF(t:Nat)(j:Nat):Bool:=VD l j==some t
def Jp(i:Nat)(j:Nat):Bool:=((Qo fs j).l.lookup i).isSome
theorem Q1y(e0:W4)(t:Nat):∀ h,hE l fs e0 h t=match h.find? (UF l t) with|some j=>(Qo fs j).v|none=>e0 t:=by
 intro h
 induction h with
 | nil=>rfl
 | cons i h ih=>
  simp only [hE,List.find?_cons,Zw]
  cases hd:VD l i with
  | none=>simp [UF,hd,ih]
  | some d=>
   by_cases hdt:t=d
   .subst hdt;simp [UF,hd]
   .have:UF l t i=false:=by simp [UF,hd];exact fun b=>hdt b.symm
    grind
theorem Q1x(s0:W5)(k:Nat):∀ h,hS fs s0 h k=match h.find? (Jp fs k) with|some j=>((Qo fs j).l.lookup k).getD none|none=>s0 k:=by
 intro h
 induction h with
 | nil=>rfl
 | cons i h ih=>
  simp only [hS,List.find?_cons,ZC]
  cases hl:(Qo fs i).l.lookup k with
  | none=>simp [Jp,hl,ih]
  | some o=>simp [Jp,hl]
end
structure Hist (ops:List Oper) (h:List Nat):Prop where
 nd:h.Nodup
 ord:∀ l1 k l2,h=l1++k::l2->∀ i,Anc ops i k->i ∈ l2
theorem Hist.anc{ops:List Oper}{h:List Nat}(H:Hist ops h){i k:Nat}(hk:k ∈ h)(ha:Anc ops i k):i ∈ h:=by
 obtain ⟨b,c,rfl⟩:=List.append_of_mem hk;exact List.mem_append.2 (.inr (List.mem_cons_of_mem _ (H.ord b k c rfl i ha)))
theorem Q1P{ops:List Oper}{h:List Nat}(H:Hist ops h){p:Nat->Bool}{f g:Nat}(hf:h.find? p=some f)(hg:g ∈ h)(hp:p g=true)(ha:Anc ops f g):False:=by
 obtain ⟨_,d,i,rfl,n⟩:=List.find?_eq_some_iff_append.1 hf;have b:g ∈ i:=by
  rcases List.mem_append.1 hg with j|j
  .grind
  .rcases List.mem_cons.1 j with c|c
   .subst c
    have:=H.ord d g i rfl g ha
    exact this
   .exact c
 obtain ⟨m,o,rfl⟩:=List.append_of_mem b;have:=H.ord (d++f::m) g o (by simp) f ha
 have k:=H.nd
 grind
theorem Q1Q{ops:List Oper}{h1 h2:List Nat}(H1:Hist ops h1)(H2:Hist ops h2){p:Nat->Bool}(hord:∀ j k,j<k->k ∈ h1->k ∈ h2->j ∈ h1->p j=true->p k=true->Anc ops j k)(hset:∀ j,p j=true->(j ∈ h1↔j ∈ h2)):h1.find? p=h2.find? p:=by
 cases hf:h1.find? p with
 | none=>
  grind
 | some f=>
  have c:p f=true:=List.find?_some hf;have i:f ∈ h1:=List.mem_of_find?_eq_some hf
  have b:=(hset f c).1 i
  cases hg:h2.find? p with
  | none=>rw [List.find?_eq_none] at hg;exact absurd c (hg f b)
  | some g=>
   have d:p g=true:=List.find?_some hg;have h:g ∈ h2:=List.mem_of_find?_eq_some hg
   have n:=(hset g d).2 h;rcases Nat.lt_trichotomy f g with m|o|m
   .exact (Q1P H1 hf n d (hord f g m n h i c d)).elim
   .rw [o]
   .exact (Q1P H2 hg b c (hord g f m i b n d c)).elim
section
variable {P:Program} {C:Ctx} {nt:Nat} {ops:Array Oper} {fs:List Eff}
theorem Z2O{l:List Oper}(hb:∀ j o e,l[j]?=some o->e ∈ o.after.toList->Region.binds .any e=true->e.on<j){i k:Nat}(h:Anc l i k):i<k:=by
 induction h with
 | edge j o e h1 h2 h3=>exact hb j o e h1 h2 h3
 | trans i j k _ _ ih1 ih2=>omega
theorem MF{l:List Oper}(hb:∀ j o e,l[j]?=some o->e ∈ o.after.toList->Region.binds .any e=true->e.on<j)(n:Nat):Hist l (List.range n).reverse:=by
 refine ⟨by unfold List.Nodup;rw [List.pairwise_reverse];exact (List.nodup_range (n:=n)).imp (fun h=>Ne.symm h),?_⟩
 induction n with
 | zero=>intro b k d h;simp at h
 | succ n ih=>
  intro b k d h i c;rw [List.range_succ,List.reverse_append,List.reverse_singleton,List.singleton_append] at h
  cases b with
  | nil=>
   simp only [List.nil_append,List.cons.injEq] at h;obtain ⟨rfl,rfl⟩:=h
   have:=Z2O hb c
   grind
  | cons x b=>
   grind
theorem Q8V{fs:List Eff}(hnd:(YI fs).Nodup){i j:Nat}(hij:i≠j){x:Nat}(hi:x ∈ (Qo fs i).news)(hj:x ∈ (Qo fs j).news):False:=by
 induction fs generalizing i j with
 | nil=>simp [Qo,default] at hi
 | cons f r ih=>
  have d:YI (f::r)=f.news++YI r:=rfl;rw [d,List.nodup_append] at hnd
  have b:∀ k,x ∈ (Qo r k).news->x ∈ YI r:=by
   intro k c
   by_cases hkl:k<r.length
   .exact List.mem_flatMap.2 ⟨_,YA hkl,c⟩
   .have:Qo r k=default:=by unfold Qo;rw [List.getD_eq_getElem?_getD,List.getElem?_eq_none (by omega)];rfl
    rw [this] at c;cases c
  cases i with
  | zero=>
   cases j with
   | zero=>exact hij rfl
   | succ j=>exact hnd.2.2 x hi x (b j hj) rfl
  | succ i=>
   cases j with
   | zero=>exact hnd.2.2 x hj x (b i hi) rfl
   | succ j=>exact ih hnd.2.1 (by omega) hi hj
theorem Q2x{fs:List Eff}{k x:Nat}(hx:x ∈ (Qo fs k).news):x ∈ YI fs:=by
 by_cases hk:k<fs.length
 .exact List.mem_flatMap.2 ⟨_,YA hk,hx⟩
 .have:Qo fs k=default:=by unfold Qo;rw [List.getD_eq_getElem?_getD,List.getElem?_eq_none (by omega)];rfl
  rw [this] at hx;cases hx
theorem Q6P:∀ (os:List Oper) (gs:List Eff) (l:List Oper) (fs:List Eff) (k:Nat) (e0:W4) (s0:W5),(∀ j,os[j]?=l[k+j]?)->(∀ j,j<gs.length->gs[j]?=fs[k+j]?)->os.length=gs.length ->
  Mn P C nt ops os gs (hE l fs e0 (List.range k).reverse) (hS fs s0 (List.range k).reverse) ->
  (∀ j o,os[j]?=some o->WG P C nt ops o (Qo fs (k+j)) (hE l fs e0 (List.range (k+j)).reverse) (hS fs s0 (List.range (k+j)).reverse)) /\
  Jc os gs (hE l fs e0 (List.range k).reverse)=hE l fs e0 (List.range (k+os.length)).reverse/\Jb gs (hS fs s0 (List.range k).reverse)=hS fs s0 (List.range (k+os.length)).reverse:=by
 intro os
 induction os with
 | nil=>
  intro gs l fs k e0 s0 _ _ d _
  cases gs with
  | nil=>exact ⟨fun j o h=>by simp at h,rfl,rfl⟩
  | cons g gs=>simp at d
 | cons o os ih=>
  intro gs l fs k e0 s0 i f d t
  cases gs with
  | nil=>simp at d
  | cons g gs=>
   obtain ⟨z,r⟩:=t;have u:VD l k=o.dst:=by
    have:=i 0;simp at this;simp [VD, <-this]
   have n:Qo fs k=g:=by
    have:=f 0 (by simp);simp at this;simp [Qo,List.getD_eq_getElem?_getD, <-this]
   have b:hE l fs e0 (List.range (k+1)).reverse=Zw o.dst g.v (hE l fs e0 (List.range k).reverse):=by
    rw [List.range_succ,List.reverse_append,List.reverse_singleton,List.singleton_append];simp only [hE,u,n]
   have c:hS fs s0 (List.range (k+1)).reverse=ZC g.l (hS fs s0 (List.range k).reverse):=by
    rw [List.range_succ,List.reverse_append,List.reverse_singleton,List.singleton_append];simp only [hS,n]
   obtain ⟨x,m,q⟩:=ih gs l fs (k+1) e0 s0 (fun j=>by have:=i (j+1);simp at this;rw [this];congr 1;omega) (fun j p=>by have:=f (j+1) (by simpa using p);simp at this;rw [this];congr 1;omega) (by simpa using d)
    (by rw [b,c];exact r)
   refine ⟨fun j y p=>?_,?_,?_⟩
   .grind
   .rw [b] at m
    simp only [Jc];rw [m];congr 3;simp;omega
   .rw [c] at q
    simp only [Jb];rw [q];congr 3;simp;omega
theorem Q8O:∀ (n:Nat) (l:List Nat),l.Nodup->(∀ x ∈ l,x<n)->l.length<=n:=by
 intro n
 induction n with
 | zero=>intro l _ h;cases l with
  | nil=>simp
  | cons x r=>exact absurd (h x List.mem_cons_self) (by omega)
 | succ n ih=>
  intro l b h
  by_cases hn:n ∈ l
  .have d:=ih (l.erase n) (b.erase n) (fun x c=>by
    grind)
   grind
  all_goals grind
theorem Q8X{listed:Array Bool}{h:List Nat}{n:Nat}(hsz:listed.size=n)(hl:∀ i,i<n->(listed.getD i false=true↔i ∈ h))(hb:∀ i ∈ h,i<n)(i:Nat):listed.getD i false=true↔i ∈ h:=by
 grind
theorem ya{ops:Array Oper}{listed:Array Bool}(hsz:listed.size=ops.size)(i:Nat):i ∈ Region.ready .any ops listed↔∃ o,ops[i]?=some o/\listed.getD i false=false/\∀ e ∈ o.after.toList,Region.binds .any e=true->listed.getD e.on false=true:=by
 unfold Region.ready;rw [List.mem_filter,List.mem_range]
 constructor
 .rintro ⟨c,b⟩
  refine ⟨ops[i],by simp [c],?_,?_⟩
  .grind
  .intro e f g
   simp only [Bool.and_eq_true] at b;have d:=b.2
   simp only [Array.getElem?_eq_getElem c,Option.map_some,Option.getD_some] at d;rw [Array.all_eq_true'] at d
   grind
 all_goals grind
theorem Z2L{Q:Exit->Act->World->Prop}{e0:W4}{s0:W5}{R:Nat->Prop}(hlen:ops.toList.length=fs.length)(hback:∀ j o e,ops.toList[j]?=some o->e ∈ o.after.toList->Region.binds .any e=true->e.on<j)(hconf:∀ i j oi oj fi fj,i<j->ops.toList[i]?=some oi->ops.toList[j]?=some oj->fs[i]?=some fi->fs[j]?=some fj->Uw oi oj fi fj=true->Anc ops.toList i j)(hst:∀ j o,ops.toList[j]?=some o->WG P C nt ops o (Qo fs j) (hE ops.toList fs e0 (List.range j).reverse) (hS fs s0 (List.range j).reverse))(hnd:(YI fs).Nodup)(hfr:∀ n ∈ YI fs,¬ R n)(hq:∀ η a w,Conc C nt (fun i=>R i\/i ∈ YI fs) η (hE ops.toList fs e0 (List.range ops.size).reverse) (hS fs s0 (List.range ops.size).reverse) a w->Q .normal a w):
  ∀ (fuel:Nat) (listed:Array Bool) (h:List Nat) (η:Nat->Value) (a:Act) (w:World),listed.size=ops.size->(∀ i,i<ops.size->(listed.getD i false=true↔i ∈ h))->(∀ i ∈ h,i<ops.size)->Hist ops.toList h->ops.size<=fuel+h.length ->
   Conc C nt (fun i=>R i\/∃ j ∈ h,i ∈ (Qo fs j).news) η (hE ops.toList fs e0 h) (hS fs s0 h) a w->wpAny P .any ops Q fuel listed a w:=by
 have b:∀ {i:Nat},i<ops.size->∃ o,ops.toList[i]?=some o/\ops[i]?=some o:=fun {i} d=>⟨ops[i],by simp [d],by simp [d]⟩
 have a1:∀ {i:Nat},i<ops.size->fs[i]?=some (Qo fs i):=by
  intro i d;have:i<fs.length:=by rw [<-hlen];simpa using d
  simp [Qo,List.getD_eq_getElem?_getD,this]
 have hC:∀ i j oi oj,i<j->j<ops.size->ops.toList[i]?=some oi->ops.toList[j]?=some oj->Uw oi oj (Qo fs i) (Qo fs j)=true->Anc ops.toList i j:=by
  grind
 have F:∀ (M q:List Nat),Hist ops.toList M->Hist ops.toList q->(∀ i ∈ M,i<ops.size)->∀ t,(∀ j,j<ops.size->VD ops.toList j=some t->(j ∈ M↔j ∈ q))->(∀ i ∈ q,i<ops.size)->hE ops.toList fs e0 M t=hE ops.toList fs e0 q t:=by
  intro M q H1 H2 A t hw c2;rw [Q1y,Q1y,Q1Q (p:=UF ops.toList t) H1 H2 ?_ ?_]
  .intro j k c1 b2 _ S T a5
   obtain ⟨oj,c,_⟩:=b (A j S);obtain ⟨ok,a9,_⟩:=b (A k b2)
   refine hC j k oj ok c1 (A k b2) c a9 ?_;simp [UF,VD,c] at T
   simp [UF,VD,a9] at a5
   simp [Uw,T,a5]
  .intro j hp
   have hd:VD ops.toList j=some t:=by simpa [UF] using hp
   grind
 have B:∀ (M q:List Nat),Hist ops.toList M->Hist ops.toList q->(∀ i ∈ M,i<ops.size)->∀ k,(∀ j,j<ops.size->Jp fs k j=true->(j ∈ M↔j ∈ q))->(∀ i ∈ q,i<ops.size)->hS fs s0 M k=hS fs s0 q k:=by
  intro M q H1 H2 A k hw c2;have V:∀ j,Jp fs k j=true->∃ o,(k,o) ∈ (Qo fs j).l:=by
   intro j g;simp only [Jp,Option.isSome_iff_exists] at g
   grind
  rw [Q1x,Q1x,Q1Q (p:=Jp fs k) H1 H2 ?_ ?_]
  .intro i j d0 S _ b7 d2 T
   obtain ⟨oi,c6,_⟩:=b (A i b7);obtain ⟨oj,c,_⟩:=b (A j S)
   refine hC i j oi oj d0 (A j S) c6 c ?_;obtain ⟨u,hu⟩:=V i d2
   obtain ⟨v,hv⟩:=V j T;have:((Qo fs i).l.any fun p=>(Qo fs j).ids.contains p.1||(Qo fs j).l.any (·.1==p.1))=true:=by
    grind
   simp only [Uw,this,Bool.or_true,Bool.true_or]
  all_goals grind
 have m:∀ n,n<=ops.size->(∀ i ∈ (List.range n).reverse,i<ops.size):=by intro n hn i d;simp at d;omega
 have K:∀ (listed:Array Bool) (h:List Nat) (η:Nat->Value) (a:Act) (w:World),(∀ i ∈ h,i<ops.size)->Hist ops.toList h->(∀ i,i<ops.size->i ∈ h) ->
   Conc C nt (fun i=>R i\/∃ j ∈ h,i ∈ (Qo fs j).news) η (hE ops.toList fs e0 h) (hS fs s0 h) a w->Q .normal a w:=by
  intro listed h η a w N H E hc;have e1:hE ops.toList fs e0 h=hE ops.toList fs e0 (List.range ops.size).reverse:=
   funext fun t=>F _ _ H (MF hback _) N t (fun j g _=>⟨fun _=>by simp;exact g,fun _=>E j g⟩) (m _ (Nat.le_refl _))
  have e2:hS fs s0 h=hS fs s0 (List.range ops.size).reverse:=
   funext fun k=>B _ _ H (MF hback _) N k (fun j g _=>⟨fun _=>by simp;exact g,fun _=>E j g⟩) (m _ (Nat.le_refl _))
  rw [e1,e2] at hc;refine hq η a w (hc.wider fun i d=>?_)
  rcases d with d|⟨j,_,d⟩
  .exact .inl d
  .exact .inr (Q2x d)
 intro fuel
 induction fuel with
 | zero=>
  intro listed h η a w G hl N H hf hc;have E:∀ i,i<ops.size->i ∈ h:=by
   intro i d;rcases Classical.em (i ∈ h) with f|f
   .exact f
   .have:=Q8O ops.size (i::h) (List.nodup_cons.2 ⟨f,H.nd⟩) (fun x J=>by rcases List.mem_cons.1 J with rfl|J;exact d;exact N x J)
    grind
  refine ⟨?_,K listed h η a w N H E hc⟩;refine List.eq_nil_iff_forall_not_mem.2 fun i d=>?_
  obtain ⟨o,Y,q,_⟩:=(ya G i).1 d
  grind
 | succ fuel ih=>
  intro listed h η a w G hl N H hf hc;have a8:=Q8X G hl N
  refine ⟨fun d9=>?_,fun i d=>?_⟩
  .refine K listed h η a w N H (fun i d=>?_) hc
   induction i using Nat.strongRecOn with
   | _ i ihi=>
    rcases Classical.em (i ∈ h) with f|f
    .exact f
    .exfalso
     obtain ⟨o,Y,b6⟩:=b d;have:i ∈ Region.ready .any ops listed:=(ya G i).2 ⟨o,b6,by
      grind,fun e he a6=>(a8 e.on).2 (ihi e.on (hback i o e Y he a6) (by have:=hback i o e Y he a6;omega))⟩
     grind
  .obtain ⟨o,Y,q,h3⟩:=(ya G i).1 d
   have O : i<ops.size:=(Array.getElem?_eq_some_iff.1 Y).1;have f:i ∉ h:=fun hh=>by rw [(a8 i).2 hh] at q;cases q
   have I:ops.toList[i]?=some o:=by simpa using Y
   have Z : ∀ k z,Anc ops.toList k z->(z=i\/z ∈ h)->k ∈ h:=by
    intro k z D
    induction D with
    | edge j o' e g1 g2 g3=>
     intro hz;rcases hz with rfl|hz
     .grind
     .exact H.anc hz (.edge j o' e g1 g2 g3)
    | trans x y z _ _ ih1 ih2=>intro hz;exact ih1 (.inr (ih2 hz))
   have d6:∀ k,Anc ops.toList k i->k ∈ h:=fun k D=>Z k i D (.inl rfl)
   have f1:=a1 O;have c3 : Hist ops.toList (i::h):=by
    refine ⟨List.nodup_cons.2 ⟨f,H.nd⟩,fun l1 k l2 hh x J=>?_⟩
    cases l1 with
    | nil=>
     grind
    | cons y l1=>
     simp only [List.cons_append,List.cons.injEq] at hh;exact H.ord l1 k l2 hh.2 x J
   have b1:=m i (Nat.le_of_lt O);have c0:∀ t ∈ (Qo fs i).rd,hE ops.toList fs e0 h t=hE ops.toList fs e0 (List.range i).reverse t:=by
    intro t ht;refine F _ _ H (MF hback i) N t (fun j g hd=>?_) b1
    obtain ⟨oj,c,_⟩:=b g;have b0:oj.dst=some t:=by simpa [VD,c] using hd
    rcases Nat.lt_trichotomy j i with r|rfl|r
    .have:=hC j i oj o r O c I (by simp [Uw,b0,ht])
     grind
    .grind
    .have:=hC i j o oj r g I c (by simp [Uw,b0,ht])
     grind
   have b9:∀ k ∈ (Qo fs i).ids,hS fs s0 h k=hS fs s0 (List.range i).reverse k:=by
    intro k D;refine B _ _ H (MF hback i) N k (fun j g hw=>?_) b1
    obtain ⟨oj,c,_⟩:=b g;simp only [Jp,Option.isSome_iff_exists] at hw
    obtain ⟨u,hu⟩:=hw;obtain ⟨l1,l2,c8,_⟩:=List.lookup_eq_some_iff.1 hu
    have W:(k,u) ∈ (Qo fs j).l:=by rw [c8];simp
    rcases Nat.lt_trichotomy j i with r|rfl|r
    .have J:((Qo fs j).l.any fun p=>(Qo fs i).ids.contains p.1||(Qo fs i).l.any (·.1==p.1))=true:=by
      rw [List.any_eq_true];exact ⟨_,W,by simp [D]⟩
     have:=hC j i oj o r O c I (by simp only [Uw,J,Bool.or_true,Bool.true_or])
     grind
    .grind
    .have J:((Qo fs j).l.any fun p=>(Qo fs i).ids.contains p.1)=true:=by
      rw [List.any_eq_true];exact ⟨_,W,by simp [D]⟩
     have:=hC i j o oj r g I c (by simp only [Uw,J,Bool.or_true])
     grind
   have U:∀ n ∈ (Qo fs i).news,¬ (R n\/∃ j ∈ h,n ∈ (Qo fs j).news):=by
    rintro n hn (J|⟨j,g,J⟩)
    .exact hfr n (Q2x hn) J
    .exact Q8V hnd (fun hh=>f (hh ▸ g):i≠j) hn J
   have c9:=hst i o I _ η _ _ a w c0 b9 U hc (wpAny P .any ops Q fuel (listed.setIfInBounds i true)) Q fun η' a' w' b8=>by
    refine ih (listed.setIfInBounds i true) (i::h) η' a' w' (by simp [G]) (fun k D=>?_) (fun k D=>?_) c3 (by simp;omega) ?_
    .have a4 : k<listed.size:=by omega
     by_cases hki:i=k
     .subst hki;simp [Array.getD,a4]
     .have:=hl k D
      simp [Array.getD,a4] at this ⊢
      grind
    .grind
    .have hd:VD ops.toList i=o.dst:=by simp [VD,I]
     simp only [hE,hS,hd];refine b8.wider fun k D=>?_
     rcases D with (D|⟨j,g,D⟩) | D
     all_goals grind
   simp only [wpOp,Y]
   grind
end
end
section
section
variable {L:V9} {e e0:W4} {s s0:W5}
theorem Q8u{n:Nat}{x:AVal}(h:∀ i ∈ x.refs,s0 i=s i):rd s0 n x=rd s n x:=by
 unfold rd;split
 .rename_i c b;rw [h c (by simp [AVal.refs,TV.refs,CV.refs])]
 .rfl
 .rename_i c f d b;rw [h c (by simp [AVal.refs,TV.refs,CV.refs])]
 .rfl
theorem Q4p{xs:List CV}{x:AVal}(h:∀ i ∈ x.refs,s0 i=s i):wr s0 xs x=wr s xs x:=by
 unfold wr;split
 .rename_i c b;rw [h c (by simp [AVal.refs,TV.refs,CV.refs])]
 .rename_i c f d b;rw [h c (by simp [AVal.refs,TV.refs,CV.refs])]
 .rfl
theorem xr{x:AVal}(h:∀ i ∈ x.refs,s0 i=s i):VI s0 x=VI s x:=by
 unfold VI;split
 .rfl
 .rfl
 .rename_i b;rw [h b (by simp [AVal.refs,TV.refs,CV.refs])]
 .rename_i b d c n;rw [h b (by simp [AVal.refs,TV.refs,CV.refs])]
 .rfl
theorem Z2E{x:AVal}{es m:Nat}(h:∀ i ∈ x.refs,s0 i=s i):Jf s0 es m x=Jf s es m x:=by
 unfold Jf;split
 .rename_i b;rw [h b (by simp [AVal.refs,TV.refs,CV.refs])]
 .rfl
 .rfl
theorem Z2W{b:Builtin}{tys:Array TypeId}{xs:List AVal}(h:∀ x ∈ xs,∀ i ∈ x.refs,s0 i=s i):Kp L s0 b tys xs=Kp L s b tys xs:=by
 unfold Kp;split
 .rename_i x
  rw [xr (h x (by simp))]
 .rfl
 .rfl
 .rename_i x y
  rw [xr (h y (by simp))];simp only [Z2E (h x (by simp))]
 .rfl
theorem TN{x:Option Operand}(h:∀ y,x=some y->Y2 e0 y=Y2 e y):oI e0 x=oI e x:=by
 cases x with
 | none=>rfl
 | some y=>simp only [oI,h y rfl]
theorem Q3p(m:Bool)(o:Oper)(he:∀ x ∈ o.op.operands.toList,Y2 e0 x=Y2 e x)(hs:∀ x ∈ o.op.operands.toList,∀ i ∈ (Y2 e x).refs,s0 i=s i):Zr L m e0 s0 o=Zr L m e s o:=by
 have g:∀ (v:Array Operand),(∀ x ∈ v.toList,Y2 e0 x=Y2 e x)->v.toList.map (Y2 e0)=v.toList.map (Y2 e):=fun v h=>List.map_congr_left h
 unfold Zr
 cases ho:o.op <;> simp only [ho,Op.operands] at he hs <;> try rfl
 case move x=>simp only [he x (by simp)]
 case assign x=>simp only [he x (by simp)]
 case pick c a b=>simp only [he c (by simp),he a (by simp),he b (by simp)]
 case box t x=>simp only [he x (by simp)]
 case build t ps=>
  have:ps.toList.map (fun p=>(p.1,Y2 e0 p.2))=ps.toList.map (fun p=>(p.1,Y2 e p.2)):=List.map_congr_left fun p A=>by rw [he p.2 (by simp;exact ⟨p.1,by simpa using A⟩)]
  simp only [this]
 case buildSlice t n ps=>
  have:ps.toList.map (fun p=>(p.1,Y2 e0 p.2))=ps.toList.map (fun p=>(p.1,Y2 e p.2)):=List.map_congr_left fun p A=>by rw [he p.2 (by simp;exact ⟨p.1,by simpa using A⟩)]
  simp only [this]
 case load t x=>simp only [he x (by simp),Q8u (hs x (by simp))]
 case store t x y=>simp only [he x (by simp),he y (by simp),Q4p (hs x (by simp))]
 case nilCheck x=>simp only [he x (by simp)]
 case binOp op t x y t'=>simp only [he x (by simp),he y (by simp)]
 case unOp op t x=>simp only [he x (by simp)]
 case convert src dst x=>simp only [he x (by simp)]
 case makeFunc fn first caps=>
  cases fn <;> try rfl
  simp only [g caps (fun x j=>he x (by simp;exact .inr (by simpa using j)))]
 case makeSlice t l c=>simp only [he l (by simp),he c (by simp)]
 case slice t x lo hi mx=>
  have j:=he x (by simp);have F:oI e0 lo=oI e lo:=TN fun y B=>he y (by subst B;simp)
  have E:oI e0 hi=oI e hi:=TN fun y B=>he y (by subst B;simp)
  have f:=hs x (by simp)
  cases mx with
  | none=>
   simp only [j,F,E];split
   .split
    .split <;> try rfl
     rename_i z u q _ _
     rw [q] at f;simp only [f z (by simp [AVal.refs,TV.refs,CV.refs])]
    .rfl
   .rfl
  | some mx=>
   cases lo with
   | some lo=>rfl
   | none=>
    cases hi with
    | none=>rfl
    | some hi=>simp only [j,he hi (by simp),he mx (by simp)]
 case fieldAddr t x k=>simp only [he x (by simp)]
 case field t x k=>simp only [he x (by simp)]
 case indexAddr t x i=>
  have f:=hs x (by simp);simp only [he x (by simp),he i (by simp)]
  split
  .split
   .split
    .rename_i z q
     rw [q] at f;simp only [f z (by simp [AVal.refs,TV.refs,CV.refs])]
    .rfl
   .rfl
  .rfl
  .rfl
 case index t x i=>simp only [he x (by simp),he i (by simp)]
 case extract x k=>simp only [he x (by simp)]
 case call c=>
  obtain ⟨D,d,r⟩:=c
  cases D <;> try rfl
  rename_i b
  simp only [Call.operands] at he hs;have H:d.toList.map (Y2 e0)=d.toList.map (Y2 e):=g d (fun x j=>he x (by simpa using j))
  have G:Kp L s0 b r (d.toList.map (Y2 e))=Kp L s b r (d.toList.map (Y2 e)):=Z2W fun x j=>by
   grind
  simp only [H,G]
end
end
section
def Ph:AVal->Bool
 | .v (.c (.pte _ _ _ _))=>true
 | _=>false
def GG(e:W4)(o:Oper):Bool:=
 match o.op with
 | .binOp op _ _ _ _=>match op with
  | .add | .sub | .mul | .quo | .rem | .shl | .shr=>true
  | _=>false
 | .unOp op _ _=>match op with
  | .neg=>true
  | _=>false
 | .convert _ _ _=>true
 | .load _ x=>Ph (Y2 e x)
 | .store _ x _=>Ph (Y2 e x)
 | .slice _ _ _ _ _=>true
 | .indexAddr _ _ _=>true
 | .makeSlice _ _ _=>true
 | .call { callee:=.builtin .append,.. }=>true
 | _=>false
theorem Z0D{L:V9}{m:Bool}{e:W4}{s:W5}{o:Oper}{r:SR}(h:GG e o=false)(hr:Zr L m e s o=some r):r.cond:=by
 unfold GG at h;unfold Zr at hr
 split at hr
 case h_1=>cases hr;trivial
 case h_2=>
  split at hr
  .cases hr;trivial
  .split at hr
   .split at hr
    .cases hr;trivial
    .cases hr
   .cases hr
  .cases hr
 case h_3=>split at hr <;> first | (cases hr;done) | (cases hr;trivial)
 case h_4=>split at hr <;> first | (cases hr;done) | (cases hr;trivial)
 case h_5=>split at hr <;> first | (cases hr;done) | (cases hr;trivial)
 case h_6=>
  split at hr
  .split at hr
   .split at hr <;> first | (cases hr;done) | (cases hr;trivial)
   .cases hr
  .split at hr
   .split at hr <;> first | (cases hr;done) | (cases hr;trivial)
   .cases hr
  .cases hr
 case h_7=>
  split at hr
  .split at hr
   .split at hr
    .split at hr
     .split at hr
      .split at hr <;> first | (cases hr;done) | (cases hr;trivial)
      .cases hr
     .cases hr
    .cases hr
   .cases hr
  .cases hr
 case h_8 t x hop=>
  rw [hop] at h;simp only at h
  split at hr
  .split at hr
   .rename_i j c g
    split at hr
    .cases hr
     unfold rd at g;split at g
     .split at g
      .split at g <;> first | (cases g;done) | (cases g;trivial)
      .cases g
     .split at g <;> first | (cases g;done) | (cases g;trivial)
     .rename_i i;rw [i] at h;simp [Ph] at h
     .cases g
    .cases hr
   .cases hr
  .cases hr
 case h_9 t x y hop=>
  rw [hop] at h;simp only at h
  split at hr
  .split at hr
   .unfold wr at hr
    split at hr
    .split at hr
     .split at hr <;> first | (cases hr;done) | (cases hr;trivial)
     .cases hr
    .rename_i i;rw [i] at h;simp [Ph] at h
    .cases hr
   .cases hr
  .cases hr
 case h_10=>split at hr <;> first | (cases hr;done) | (cases hr;trivial)
 case h_11 op t x y t' hop=>
  rw [hop] at h;unfold GX at hr
  split at hr
  .split at hr
   .simp at h
   .simp at h
   .split at hr
    .split at hr <;> first | (cases hr;done) | (simp at h;done) | (cases hr;trivial)
    .cases hr
  .cases hr
 case h_12 op t x hop=>
  rw [hop] at h;unfold FQ at hr
  split at hr
  .cases hr;trivial
  .simp at h
  .cases hr
 case h_13 hop=>rw [hop] at h;simp at h
 case h_14=>
  split at hr
  .split at hr <;> first | (cases hr;done) | (cases hr;trivial)
  .cases hr
 case h_15 hop=>rw [hop] at h;simp at h
 case h_16 hop=>rw [hop] at h;simp at h
 case h_17=>
  split at hr
  .split at hr
   .split at hr
    .split at hr
     .cases hr
     .split at hr
      .cases hr;trivial
      .cases hr;trivial
      .split at hr <;> first | (cases hr;done) | (cases hr;trivial)
      .cases hr
    .cases hr
   .cases hr
  .cases hr
 case h_18=>
  split at hr
  .split at hr
   .split at hr
    .split at hr
     .split at hr <;> first | (cases hr;done) | (cases hr;trivial)
     .cases hr
    .cases hr
   .cases hr
  .cases hr
 case h_19 hop=>rw [hop] at h;simp at h
 case h_20=>
  split at hr
  .split at hr
   .split at hr
    .split at hr <;> first | (cases hr;done) | (cases hr;trivial)
    .cases hr
   .cases hr
  .cases hr
 case h_21 hop=>rw [hop] at h;simp at h
 case h_22=>
  split at hr
  .split at hr <;> first | (cases hr;done) | (cases hr;trivial)
  .cases hr
 case h_23 b args tys hop=>
  rw [hop] at h;split at hr
  .rename_i k d f
   unfold Kp at f;split at f
   .split at f
    .split at f
     .split at f
      .cases f;simp only at hr;cases hr;trivial
      .cases f
     .cases f;simp only at hr;cases hr;trivial
     .split at f
      .cases f;simp only at hr;cases hr;trivial
      .cases f
     .cases f
    .cases f
   .cases f;simp only at hr;cases hr;trivial
   .cases f;simp only at hr;cases hr;trivial
   .simp at h
   .cases f
  .cases hr
 case h_24=>cases hr
inductive Dir where
 | s
 | m
 | w (v:AVal)
 | k (f:Array Oper->Oper->W4->Eff)
def Qx(o:Oper):List Nat:=o.op.operands.toList.filterMap fun | .tmp t=>some t|_=>none
def WN(e:W4)(o:Oper):List Nat:=o.op.operands.toList.flatMap fun x=>(Y2 e x).refs
def Qi(ops:Array Oper)(o:Oper):List Nat:=
 match o.guard with
 | some (j,_)=>((ops[j]?).bind (·.dst)).toList
 | none=>[]
def Zg(ops:Array Oper)(e:W4)(o:Oper):Option Bool:=
 match o.guard with
 | none=>some true
 | some (j,want)=>match (ops[j]?).bind (·.dst) with
  | some d=>match e d with
   | .v (.c (.d (.bool b)))=>some (b==want)
   | .t []=>some false
   | _=>none
  | none=>none
def SR.l(r:SR)(d:Option Tmp):List (Nat×Option Obj):=
 (match r.new,d with|some o,some d=>[(d,some o)] | _,_=>[])++((match r.upd with|some (k,o)=>[(k,some o)] | none=>[])++r.del.map fun i=>(i,none))
def SR.nw(r:SR)(d:Option Tmp):List Nat:=match r.new,d with|some _,some d=>[d] | _,_=>[]
def HZ(ops:Array Oper)(o:Oper)(e:W4)(r:SR)(v:AVal):Eff:= { rd:=Qx o++Qi ops o,ids:=WN e o,v:=v,l:=r.l o.dst,news:=r.nw o.dst }
def Mk(o:Oper):Bool:=match o.op with
 | .move _ | .assign _ | .pick _ _ _ | .extract _ _ | .field _ _ _=>true
 | _=>false
def GM(ops:Array Oper)(o:Oper)(e:W4)(r:SR)(v:AVal):Eff:= { rd:=Qx o++Qi ops o,ids:=if Mk o then [] else WN e o,v:=v,l:=r.l o.dst,news:=r.nw o.dst }
def Fw(ops:Array Oper)(o:Oper):Eff:= { rd:=Qi ops o,ids:=[],v:=.t [],l:=[],news:=[] }
def WX(L:V9)(ops:Array Oper)(o:Oper)(d:Dir)(e:W4)(s:W5):Eff:=
 match Zg ops e o,d with
 | _,.k f=>f ops o e
 | some true,.s=>match Zr L false e s o with|some r=>GM ops o e r r.v|none=>default
 | some true,.m=>match Zr L true e s o with|some r=>GM ops o e r r.v|none=>default
 | some true,.w v=>match Zr L false e s o with|some r=>GM ops o e r v|none=>default
 | _,_=>Fw ops o
def Z8(x y:AVal):Prop:=(∀ w X η C v,ARep w X η C v x->ARep w X η C v y)/\∀ i ∈ y.refs,i ∈ x.refs
def Mv(b:Bool)(c rest:Prop):Prop:=match b with|true=>c/\rest|false=>rest
def kR(P:Program)(C:Ctx)(nt:Nat)(L:V9)(ops:Array Oper)(o:Oper)(d:Dir)(e:W4)(s:W5)(rest:Prop):Prop:=
 match Zg ops e o,d with
 | _,.k f=>WG P C nt ops o (f ops o e) e s/\rest
 | some true,.s=>match Zr L false e s o with|some r=>Mv (GG e o) r.cond rest|none=>False
 | some true,.m=>match Zr L true e s o with|some r=>Mv (GG e o) r.cond rest|none=>False
 | some true,.w v=>match Zr L false e s o with|some r=>Mv (GG e o) r.cond (Z8 r.v v/\rest) | none=>False
 | some false,.s=>rest
 | _,_=>False
def QS(nt:Nat)(o:Oper):Bool:=
 (match o.dst with|some d=>decide (d<nt) | none=>true)&&(match o.op with | .store _ _ _=>o.dst.isNone|_=>true)
section
variable (P:Program) (C:Ctx) (nt:Nat) (L:V9) (ops:Array Oper)
def VJ:List Oper->List Dir->W4->W5->List Eff
 | o::os,d::ds,e,s=>let f:=WX L ops o d e s;f::VJ os ds (Zw o.dst f.v e) (ZC f.l s)
 | _,_,_,_=>[]
def Km:List Oper->List Dir->W4->W5->Prop
 | o::os,d::ds,e,s=>kR P C nt L ops o d e s (Km os ds (Zw o.dst (WX L ops o d e s).v e) (ZC (WX L ops o d e s).l s))
 | [],[],_,_=>True
 | _,_,_,_=>False
end
theorem LR(r:SR)(d:Option Tmp)(s:W5):ZC (r.l d) s=r.sto d s:=by
 have c:∀ (l:List Nat) (i:Nat),(l.map fun i=>(i,(none:Option Obj))).lookup i=if l.contains i then some none else none:=by
  intro l i
  induction l with
  | nil=>rfl
  | cons x l ih=>
   simp only [List.map_cons,List.lookup_cons,List.contains_cons]
   by_cases hx:i=x
   .subst hx;simp
   .have:(i==x)=false:=by simpa using hx
    simp only [this,Bool.false_or];exact ih
 funext i
 unfold ZC SR.sto SR.l;rw [List.lookup_append,List.lookup_append,c]
 cases hn:r.new with
 | none=>
  cases hu:r.upd with
  | none=>by_cases hc:i ∈ r.del <;> simp [hc]
  | some ko=>
   obtain ⟨k,o⟩:=ko
   by_cases hk:i=k
   .subst hk;simp
   .have:(i==k)=false:=by simpa using hk
    by_cases hc:i ∈ r.del <;> simp [List.lookup_cons,this,hk,hc]
 | some o=>
  cases d with
  | none=>
   cases hu:r.upd with
   | none=>by_cases hc:i ∈ r.del <;> simp [hc]
   | some ko=>
    obtain ⟨k,o⟩:=ko
    by_cases hk:i=k
    .subst hk;simp
    .have:(i==k)=false:=by simpa using hk
     by_cases hc:i ∈ r.del <;> simp [List.lookup_cons,this,hk,hc]
  | some d=>
   by_cases hd:i=d
   .subst hd;simp
   .have b:(i==d)=false:=by simpa using hd
    cases hu:r.upd with
    | none=>by_cases hc:i ∈ r.del <;> simp [List.lookup_cons,b,hd,hc]
    | some ko=>
     obtain ⟨k,o⟩:=ko
     by_cases hk:i=k
     .subst hk;simp [List.lookup_cons,b,hd]
     .have:(i==k)=false:=by simpa using hk
      by_cases hc:i ∈ r.del <;> simp [List.lookup_cons,b,hd,this,hk,hc]
theorem LS(r:SR)(d:Option Tmp)(R:Nat->Prop):∀ i,r.rng d R i->R i\/i ∈ r.nw d:=by
 intro i b;rcases b with b|⟨g,f⟩
 .exact .inl b
 .right
  obtain ⟨o,c⟩:=Option.ne_none_iff_exists'.1 g;simp [SR.nw,c,f]
section
variable {P:Program} {C:Ctx} {nt:Nat} {L:V9} {ops:Array Oper}
theorem Q4u{w:World}{X:Nat->Prop}{η:Nat->Value}{C:Ctx}{v:Value}(h:ARep w X η C v (.t [])):v=.tuple #[]:=by
 cases h with|t us _ h _=>exact congrArg Value.tuple (Array.size_eq_zero_iff.1 h)
theorem UG{R:Nat->Prop}{η:Nat->Value}{e e0:W4}{s:W5}{a:Act}{w:World}(h:Conc C nt R η e0 s a w){o:Oper}(hg:∀ t ∈ Qi ops o,e0 t=e t){b:Bool}(hb:Zg ops e o=some b):
  Region.wanted o (yielded ops a.tmps)=b:=by
 unfold Zg at hb;unfold Region.wanted
 split at hb
 .rename_i c;rw [c];cases hb;rfl
 .rename_i j f c
  rw [c];split at hb
  .rename_i d q
   split at hb
   .rename_i u i
    cases hb
    have r:e0 d=e d:=hg d (by simp [Qi,c,q]);have k:=h.ev d
    rw [r,i] at k;have p:=FP k
    have n:d<a.tmps.size:=by
     rcases Nat.lt_or_ge d a.tmps.size with g|g
     .exact g
     .simp [g,undef] at p
    have m:a.tmps[d]?=some (.bool u):=by
     rw [Array.getElem?_eq_getElem n];simpa [n] using p
    have v:yielded ops a.tmps j=some u:=by
     unfold yielded;rw [q];simp only [Option.bind_some,m]
    simp only [v]
    cases u <;> cases f <;> rfl
   .rename_i i
    cases hb
    have r:e0 d=e d:=hg d (by simp [Qi,c,q]);have k:=h.ev d
    rw [r,i] at k;have p:=Q4u k
    have v:yielded ops a.tmps j=none:=by
     unfold yielded;rw [q];simp only [Option.bind_some]
     rcases Nat.lt_or_ge d a.tmps.size with g|g
     .rw [Array.getElem?_eq_getElem g]
      have x : a.tmps[d]=.tuple #[]:=by simpa [g,Array.getD] using p
      rw [x]
     .rw [Array.getElem?_eq_none g]
    simp only [v]
    cases f <;> rfl
   .cases hb
  .cases hb
theorem Z2K{e e0:W4}{s s0:W5}(m:Bool)(o:Oper)(he:∀ x ∈ o.op.operands.toList,Y2 e0 x=Y2 e x)(ha:Mk o=true):Zr L m e0 s0 o=Zr L m e s o:=by
 unfold Mk at ha;unfold Zr
 cases ho:o.op <;> simp only [ho,Op.operands] at he ha <;> first | (cases ha;done) | skip
 case move x=>simp only [he x (by simp)]
 case assign x=>simp only [he x (by simp)]
 case pick c a b=>simp only [he c (by simp),he a (by simp),he b (by simp)]
 case field t x k=>simp only [he x (by simp)]
 case extract x k=>simp only [he x (by simp)]
theorem LQ(hL:z7 P L){o:Oper}(hdo:QS nt o=true){m:Bool}{e:W4}{s:W5}{r:SR}(hr:Zr L m e s o=some r)(hc:r.cond)(hg:Zg ops e o=some true){v:AVal}(hv:Z8 r.v v):
  WG P C nt ops o (GM ops o e r v) e s:=by
 intro R η e0 s0 a w u q G h K Q T;have k:∀ x ∈ o.op.operands.toList,Y2 e0 x=Y2 e x:=by
  intro x k
  cases x with
  | tmp t=>exact u t (List.mem_append.2 (.inl (List.mem_filterMap.2 ⟨_,k,rfl⟩)))
  | const v=>rfl
  | global g=>rfl
  | func f=>rfl
 have I:Zr L m e0 s0 o=some r:=by
  rcases Bool.eq_false_or_eq_true (Mk o) with B|B
  .rw [Z2K m o k B];exact hr
  .have F:∀ x ∈ o.op.operands.toList,∀ i ∈ (Y2 e x).refs,s0 i=s i:=fun x k i j=>q i (by
    show i ∈ if Mk o=true then [] else WN e o;rw [B];exact List.mem_flatMap.2 ⟨x,k,j⟩)
   rw [Q3p m o k F];exact hr
 have M:∀ x,o.dst=some x->x<nt:=by
  intro x k;simp only [QS,k,Bool.and_eq_true,decide_eq_true_eq] at hdo
  exact hdo.1
 have H:∀ t x y,o.op=.store t x y->o.dst=none:=by
  intro t x y D;simp only [QS,D,Bool.and_eq_true] at hdo
  simpa using hdo.2
 have O:=UG (e:=e) h (fun t N=>u t (List.mem_append.2 (.inr N))) hg;rw [if_pos O]
 have z:=Q3o hL h m o M I hc (fun d n J=>G d (by
  obtain ⟨U,A⟩:=Option.ne_none_iff_exists'.1 J;simp [GM,SR.nw,A,n])) H
 refine z.wp fun η' S w' E=>T η' S w' ?_
 have b:=E.wider (LS r o.dst R);have p:ZC (GM ops o e r v).l s0=r.sto o.dst s0:=LR r o.dst s0
 rw [p];have J:(GM ops o e r v).news=r.nw o.dst:=rfl
 rw [J];refine ⟨b.ok,b.df,b.sz,fun t=>?_,fun t i j=>?_,b.st,b.sr,b.ds,b.ow,b.fr,b.pn⟩
 .have c:=b.ev t
  unfold Zw;unfold SR.env at c
  cases n:o.dst with
  | none=>rw [n] at c;exact c
  | some d=>
   rw [n] at c;simp only at c ⊢
   by_cases htd:t=d
   .rw [if_pos htd] at c ⊢;exact hv.1 _ _ _ _ _ c
   .rw [if_neg htd] at c ⊢;exact c
 .have c:=b.er t
  unfold Zw at j;unfold SR.env at c
  cases n:o.dst with
  | none=>rw [n] at c j;exact c i j
  | some d=>
   rw [n] at c j;simp only at c j
   by_cases htd:t=d
   .rw [if_pos htd] at c j;exact c i (hv.2 i j)
   .rw [if_neg htd] at c j;exact c i j
theorem Z8.refl(x:AVal):Z8 x x:=⟨fun _ _ _ _ _ h=>h,fun _ h=>h⟩
theorem Q5e{o:Oper}(hdo:QS nt o=true){e:W4}{s:W5}(hg:Zg ops e o=some false):WG P C nt ops o (Fw ops o) e s:=by
 intro R η e0 s0 a w c f m b K Q u;have p:=UG (e:=e) b (fun t n=>c t n) hg
 rw [if_neg (by rw [p];simp)];refine u η _ w ?_
 have d:∀ x,o.dst=some x->x<nt:=by
  intro x r;simp only [QS,r,Bool.and_eq_true,decide_eq_true_eq] at hdo
  exact hdo.1
 have:=b.val o.dst d (.t []) undef fun _=>⟨.t #[] [] rfl (fun j q=>absurd q (Nat.not_lt_zero j)),by simp [AVal.refs]⟩
 have k:ZC (Fw ops o).l s0=s0:=by funext i;rfl
 rw [k];have g:Zw o.dst (Fw ops o).v e0=SR.env { v:=.t [] } o.dst e0:=rfl
 rw [g];exact this.wider fun i h=>.inl h
theorem Z2F(hL:z7 P L):∀ (os:List Oper) (ds:List Dir) (e:W4) (s:W5),(os.all (QS nt))=true->Km P C nt L ops os ds e s->Mn P C nt ops os (VJ L ops os ds e s) e s:=by
 intro os
 induction os with
 | nil=>
  intro ds e s _ h
  cases ds with
  | nil=>trivial
  | cons d ds=>exact h.elim
 | cons o os ih=>
  intro ds e s j h
  cases ds with
  | nil=>exact h.elim
  | cons d ds=>
   simp only [List.all_cons,Bool.and_eq_true] at j;simp only [Km] at h
   simp only [VJ,Mn];have q:WG P C nt ops o (WX L ops o d e s) e s/\Km P C nt L ops os ds (Zw o.dst (WX L ops o d e s).v e) (ZC (WX L ops o d e s).l s):=by
    generalize hrest:Km P C nt L ops os ds (Zw o.dst (WX L ops o d e s).v e) (ZC (WX L ops o d e s).l s)=f at h;have i:∀ {b:Bool} {c f:Prop},Mv b c f->f:=by
     intro b c f p;cases b <;> first|exact p.2|exact p
    have g:∀ {m:Bool} {r:SR} {f:Prop},Zr L m e s o=some r->Mv (GG e o) r.cond f->r.cond:=by
     intro m r f n p
     cases hb:GG e o with
     | true=>rw [hb] at p;exact p.1
     | false=>exact Z0D hb n
    unfold kR at h;unfold WX
    split at h
    .exact ⟨by split <;> first|exact h.1|contradiction | (rename_i u t;cases t;exact h.1),h.2⟩
    .rename_i k
     split at h
     .rename_i r n
      simp only [k];exact ⟨LQ hL j.1 n (g n h) k (Z8.refl _),i h⟩
     .exact h.elim
    .rename_i k
     split at h
     .rename_i r n
      simp only [k];exact ⟨LQ hL j.1 n (g n h) k (Z8.refl _),i h⟩
     .exact h.elim
    .rename_i v k
     split at h
     .rename_i r n
      simp only [k];exact ⟨LQ hL j.1 n (g n h) k (i h).1,(i h).2⟩
     .exact h.elim
    .rename_i k
     simp only [k];exact ⟨Q5e j.1 k,h⟩
    .exact h.elim
   exact ⟨q.1,ih ds _ _ j.2 q.2⟩
end
end
section
def lk(E:List (Nat×AVal)):W4:=fun t=>(E.lookup t).getD .any
def ls(S:List (Nat×Obj)):W5:=fun i=>S.lookup i
def Xy(E:List (Nat×AVal))(S:List (Nat×Obj)):List Nat:=E.flatMap (fun p=>p.2.refs)++S.flatMap fun p=>p.1::p.2.refs
def U2(o o' : Obj):Prop:=(∀ w X η C v,ORep w X η C v o->ORep w X η C v o')/\o'.ro=o.ro/\∀ i ∈ o'.refs,i ∈ o.refs
theorem U2.refl(o:Obj):U2 o o:=⟨fun _ _ _ _ _ h=>h,rfl,fun _ h=>h⟩
theorem Z8.any(x:AVal):Z8 x .any:=⟨fun _ _ _ _ v _=>.any v,fun _ h=>by cases h⟩
theorem Z8.of_eq{x y:AVal}(h:x=y):Z8 x y:=h ▸ Z8.refl x
def CV.ren(ρ:Nat->Nat):CV->CV
  | .own i=>.own (ρ i)
  | .ptr i o=>.ptr (ρ i) o
  | .pte i es ix o=>.pte (ρ i) es ix o
  | .sub i es lo n=>.sub (ρ i) es lo n
  | .clo f ids=>.clo f (ids.map ρ)
  | .ap i=>.ap (ρ i)
  | .cp i j=>.cp (ρ i) j
  | x=>x
def TV.ren(ρ:Nat->Nat):TV->TV
  | .c x=>.c (x.ren ρ)
  | .g xs=>.g (xs.map (CV.ren ρ))
def AVal.ren(ρ:Nat->Nat):AVal->AVal
  | .any=>.any
  | .v x=>.v (x.ren ρ)
  | .t xs=>.t (xs.map (TV.ren ρ))
def Obj.ren(ρ:Nat->Nat):Obj->Obj
  | .box ro cs=>.box ro (cs.map (CV.ren ρ))
  | .exr refs p=>.exr (refs.map ρ) p
  | o=>o
section
variable {w:World} {X:Nat->Prop} {η:Nat->Value} {C:Ctx} {ρ:Nat->Nat}
theorem CRep.unren{v:Value}{x:CV}(h:CRep w X η C v (x.ren ρ)):CRep w X (fun i=>η (ρ i)) C v x:=by
  cases x with
  | d x=>cases h with|d _ _ h=>exact .d _ _ h
  | fl n f=>cases h with|fl _ _ _ h=>exact .fl _ _ _ h
  | own i=>cases h with|own _ _ h h1=>exact .own _ i h h1
  | ptr i o=>cases h with|ptr _ _ _ h=>exact .ptr _ i o h
  | pte i es ix o=>cases h with|pte _ _ _ _ _ _ _ h=>exact .pte _ _ _ i es ix o h
  | sub i es lo n=>cases h with
    | sub b N cap _ _ _ _ h h1 h2=>exact .sub b N cap i es lo n h h1 h2
    | subN ad ad' _ _ _ h=>exact .subN ad ad' _ i es h
  | elm cs=>cases h with|elm _ _ _ _ _ _ h1 h2 h3 h4=>exact .elm _ _ _ _ _ _ h1 h2 h3 h4
  | clo f ids=>cases h with|clo _ _ _ h=>exact .clo f ids _ (by rw [h,List.map_map];rfl)
  | sem p=>cases h with|sem _ _ h h1=>exact .sem _ _ h h1
  | ap i=>cases h with|ap _ _ h h1=>exact .ap _ i h h1
  | bnd f cs=>cases h with|bnd _ _ _ h1 h2=>exact .bnd _ _ _ h1 h2
  | cp i j=>cases h with|cp _ _ _ _ h h1 h2=>exact .cp _ i j _ h h1 h2
theorem G8.unren{vs:Array Value}{cs:List CV}(h:G8 w X η C vs (cs.map (CV.ren ρ))):G8 w X (fun i=>η (ρ i)) C vs cs:=by
  refine ⟨by simpa using h.1,fun j b=>CRep.unren (ρ:=ρ) ?_⟩;have:=h.2 j (by simpa using b)
  grind
theorem TRep.unren{v:Value}{x:TV}(h:TRep w X η C v (x.ren ρ)):TRep w X (fun i=>η (ρ i)) C v x:=by
  cases x with
  | c x=>cases h with|c _ _ h=>exact .c _ _ h.unren
  | g xs=>cases h with|g _ _ h=>exact .g _ _ h.unren
theorem ARep.unren{v:Value}{x:AVal}(h:ARep w X η C v (x.ren ρ)):ARep w X (fun i=>η (ρ i)) C v x:=by
  cases x with
  | any=>exact .any v
  | v x=>cases h with|v _ _ h=>exact .v _ _ h.unren
  | t xs=>
    cases h with
    | t us _ h1 h2=>
      refine .t us xs (by simpa using h1) fun j b=>TRep.unren (ρ:=ρ) ?_
      grind
theorem ORep.unren{v:Value}{o:Obj}(h:ORep w X η C v (o.ren ρ)):ORep w X (fun i=>η (ρ i)) C v o:=by
  cases o with
  | box ro cs=>cases h with|box b _ c e _ h1 h2=>exact .box b ro c e cs h1 h2.unren
  | arr es n f=>
    cases h with
    | nil ad _ _=>exact .nil ad _ _
    | arr b _ cap _ c e _ h1 h2 h3 h4 h5 h6 h7=>exact .arr b _ cap _ c e _ h1 h2 h3 h4 h5 h6 h7
  | ext p=>cases h with|ext _ _ h1 h2 h3=>exact .ext _ _ h1 h2 h3
  | exr refs p=>
    cases h with|exr _ _ _ h1 h2 h3=>
    rw [List.map_map] at h1 h2;exact .exr _ refs p h1 h2 h3
theorem FW(o:Obj):(o.ren ρ).ro=o.ro:=by cases o <;> rfl
theorem Conc.conv{nt:Nat}{R R' : Nat->Prop}{e e' : W4}{s s' : W5}{a:Act}(h:Conc C nt R η e s a w)(ρ:Nat->Nat)(he:∀ t,Z8 (e t) ((e' t).ren ρ))(hs:∀ i o',s' i=some o' -> ∃ o,s (ρ i)=some o/\U2 o (o'.ren ρ))(hinj:∀ i j,s' i≠none->s' j≠none->ρ i=ρ j->i=j)(hR:∀ t i,i ∈ (e' t).refs->R' i)(hR2:∀ i o',s' i=some o' -> R' i/\∀ j ∈ o'.refs,R' j)(hpin:∀ i,C.pin i≠none->ρ i=i/\R' i):
    Conc C nt R' (fun i=>η (ρ i)) e' s' a w:=by
  have u:QZ w w (XS C s η) (XS C s' fun i=>η (ρ i)):=by
    intro b y E;refine ⟨rfl,fun g=>E ?_⟩
    rcases g with F|⟨i,o',c,n⟩
    . exact .inl F
    . obtain ⟨o,f,_⟩:=hs i o' c
      exact .inr ⟨ρ i,o,f,n⟩
  refine ⟨h.ok,h.df,h.sz,fun t=>?_,hR,fun i o' c=>?_,hR2,fun i j b c x k r=>?_,fun i o' b c y=>?_,h.fr,fun i v c=>?_⟩
  . exact ARep.unren (((he t).1 _ _ _ _ _ (h.ev t)).mono u (fun _ _=>rfl))
  . obtain ⟨o,f,d⟩:=hs i o' c
    exact ORep.unren ((d.1 _ _ _ _ _ (h.st _ o f)).mono u (fun _ _=>rfl) (fun _ _=>rfl))
  . obtain ⟨z,q⟩:=Option.ne_none_iff_exists'.1 c
    obtain ⟨G,p⟩:=Option.ne_none_iff_exists'.1 x;obtain ⟨D,B,_⟩:=hs i z q
    obtain ⟨H,A,_⟩:=hs j G p;exact hinj i j c x (h.ds _ _ b (by rw [B];simp) (by rw [A];simp) k r)
  . obtain ⟨o,f,d⟩:=hs i o' c
    have:=h.ow _ o b f y
    have m:o'.ro=o.ro:=by rw [<-d.2.1,FW]
    rw [m];exact this
  . have:=hpin i (by rw [c];simp)
    exact ⟨by show η (ρ i)=v;rw [this.1];exact (h.pn i v c).1,this.2⟩
end
def V3(l:List (Nat×Nat))(i:Nat):Nat:=(l.lookup i).getD i
theorem XX{E:List (Nat×AVal)}{t:Nat}:lk E t=.any\/(t,lk E t) ∈ E:=by
  unfold lk
  cases h:E.lookup t with
  | none=>exact .inl rfl
  | some x=>
    right
    obtain ⟨c,d,b,_⟩:=List.lookup_eq_some_iff.1 h;rw [b];simp
theorem G7{S:List (Nat×Obj)}{i:Nat}{o:Obj}(h:ls S i=some o):(i,o) ∈ S:=by
  obtain ⟨c,d,b,_⟩:=List.lookup_eq_some_iff.1 h;rw [b];simp
def Yf:List Nat->Bool
  | []=>true
  | x::r=> !r.contains x&&Yf r
theorem Un{l:List Nat}(h:Yf l=true):l.Nodup:=by
  induction l with
  | nil=>exact List.nodup_nil
  | cons x r ih=>simp [Yf] at h;exact List.nodup_cons.2 ⟨h.1,ih h.2⟩
theorem vf{S:List (Nat×Obj)}{ρ:Nat->Nat}(h:(S.map fun p=>ρ p.1).Nodup){i j:Nat}(hi:ls S i≠none)(hj:ls S j≠none)(hij:ρ i=ρ j):i=j:=by
  obtain ⟨k,c⟩:=Option.ne_none_iff_exists'.1 hi;obtain ⟨q,b⟩:=Option.ne_none_iff_exists'.1 hj
  have g:=G7 c;have m:=G7 b
  rcases Nat.decEq i j with f|d
  . exfalso
    obtain ⟨n,o,rfl⟩:=List.append_of_mem g
    grind
  . exact d
section
variable {P:Program} {C:Ctx} {nt:Nat}
def Kn(C:Ctx)(nt:Nat)(E:List (Nat×AVal))(S:List (Nat×Obj))(K:Act->World->Prop):Prop:=
  ∀ R η a w,Conc C nt R η (lk E) (ls S) a w->K a w
def AW(P:Program)(C:Ctx)(nt:Nat)(c:Code)(E:List (Nat×AVal))(S:List (Nat×Obj))(Q:Exit->Act->World->Prop):Prop:=Kn C nt E S (fun a w=>c.wp P Q a w)
def pinsB(C:Ctx)(ρ:Nat->Nat):Prop:=∀ i,C.pin i≠none->ρ i=i
theorem Conc.lit{R:Nat->Prop}{η:Nat->Value}{e:W4}{s:W5}{a:Act}{w:World}(h:Conc C nt R η e s a w){E:List (Nat×AVal)}{S:List (Nat×Obj)}{ρ:Nat->Nat}(hpin:pinsB C ρ)(hE:∀ p ∈ E,Z8 (e p.1) (p.2.ren ρ))(hS:∀ p ∈ S,∃ o,s (ρ p.1)=some o/\U2 o (p.2.ren ρ))(hinj:(S.map fun p=>ρ p.1).Nodup):
    Conc C nt (fun i=>i ∈ Xy E S\/C.pin i≠none) (fun i=>η (ρ i)) (lk E) (ls S) a w:=by
  refine h.conv ρ (fun t=>?_) (fun i g b=>hS _ (G7 b)) (fun i j b d f=>vf hinj b d f) (fun t i b=>.inl ?_) (fun i g b=>⟨.inl ?_,fun j d=>.inl ?_⟩) (fun i b=>⟨hpin i b,.inr b⟩)
  . rcases XX (E:=E) (t:=t) with c|c
    . rw [c];exact Z8.any _
    . exact hE _ c
  . rcases XX (E:=E) (t:=t) with c|c
    . rw [c] at b;cases b
    . exact List.mem_append.2 (.inl (List.mem_flatMap.2 ⟨_,c,b⟩))
  . exact List.mem_append.2 (.inr (List.mem_flatMap.2 ⟨_,G7 b,List.mem_cons_self⟩))
  . exact List.mem_append.2 (.inr (List.mem_flatMap.2 ⟨_,G7 b,List.mem_cons_of_mem _ d⟩))
theorem Conc.narrow{R:Nat->Prop}{η:Nat->Value}{E:List (Nat×AVal)}{S:List (Nat×Obj)}{a:Act}{w:World}(h:Conc C nt R η (lk E) (ls S) a w):
    Conc C nt (fun i=>i ∈ Xy E S\/C.pin i≠none) η (lk E) (ls S) a w:=by
  refine ⟨h.ok,h.df,h.sz,h.ev,fun t i b=>.inl ?_,h.st,fun i o b=>⟨.inl ?_,fun j d=>.inl ?_⟩,h.ds,h.ow,h.fr,fun i v b=>⟨(h.pn i v b).1,.inr (by rw [b];simp)⟩⟩
  . rcases XX (E:=E) (t:=t) with c|c
    . rw [c] at b;cases b
    . exact List.mem_append.2 (.inl (List.mem_flatMap.2 ⟨_,c,b⟩))
  . exact List.mem_append.2 (.inr (List.mem_flatMap.2 ⟨_,G7 b,List.mem_cons_self⟩))
  . exact List.mem_append.2 (.inr (List.mem_flatMap.2 ⟨_,G7 b,List.mem_cons_of_mem _ d⟩))
theorem Z3w{E E' : List (Nat×AVal)}{S S' : List (Nat×Obj)}{K:Act->World->Prop}(ρ:Nat->Nat)(hpin:pinsB C ρ)(hE:∀ p ∈ E',Z8 (lk E p.1) (p.2.ren ρ))(hS:∀ p ∈ S',∃ o,ls S (ρ p.1)=some o/\U2 o (p.2.ren ρ))(hinj:(S'.map fun p=>ρ p.1).Nodup)(h:Kn C nt E' S' K):Kn C nt E S K:=fun R η a w b=>h _ _ a w (b.lit hpin hE hS hinj)
theorem Kc{α β:Type}{l:List α}{f g:α->β}(h:l.map f=l.map g):∀ x ∈ l,f x=g x:=by
  induction l with
  | nil=>intro x b;cases b
  | cons y r ih=>
    grind
theorem Z3p{E E' : List (Nat×AVal)}{S S' : List (Nat×Obj)}{K:Act->World->Prop}(ρ:List (Nat×Nat))(hpin:pinsB C (V3 ρ))(hE:E'.map (fun p=>lk E p.1)=E'.map (fun p=>p.2.ren (V3 ρ)))(hS:S'.map (fun p=>ls S (V3 ρ p.1))=S'.map (fun p=>some (p.2.ren (V3 ρ))))(hinj:Yf (S'.map fun p=>V3 ρ p.1)=true)(h:Kn C nt E' S' K):Kn C nt E S K:=
  Z3w (V3 ρ) hpin (fun p b=>Z8.of_eq (Kc hE p b)) (fun p b=>⟨_,Kc hS p b,U2.refl _⟩) (Un hinj) h
theorem xQ(x:CV):x.ren (fun i=>i)=x:=by cases x <;> simp [CV.ren]
theorem Q3u(x:TV):x.ren (fun i=>i)=x:=by
  cases x with
  | c x=>simp [TV.ren,xQ]
  | g xs=>
    simp only [TV.ren];congr 1;conv=>rhs;rw [<-List.map_id xs]
    exact List.map_congr_left fun y _=>xQ y
theorem Mw(x:AVal):x.ren (fun i=>i)=x:=by
  cases x with
  | any=>rfl
  | v x=>simp [AVal.ren,Q3u]
  | t xs=>
    simp only [AVal.ren];congr 1;conv=>rhs;rw [<-List.map_id xs]
    exact List.map_congr_left fun y _=>Q3u y
theorem Mq(o:Obj):o.ren (fun i=>i)=o:=by
  cases o with
  | box ro cs=>
    simp only [Obj.ren];congr 1;conv=>rhs;rw [<-List.map_id cs]
    exact List.map_congr_left fun y _=>xQ y
  | arr es n f=>rfl
  | ext p=>rfl
  | exr refs p=>simp [Obj.ren]
theorem Z3B{E:List (Nat×AVal)}{S:List (Nat×Obj)}{K:Act->World->Prop}{t:Nat}{x y:AVal}(hle:Z8 x y)(h:Kn C nt ((t,y)::E) S K):Kn C nt ((t,x)::E) S K:=by
  intro R η a w d;have c:∀ u,Z8 (lk ((t,x)::E) u) (lk ((t,y)::E) u):=by
    intro u;unfold lk
    rw [List.lookup_cons,List.lookup_cons]
    cases hut:u==t with
    | true=>exact hle
    | false=>exact Z8.refl _
  refine h R (fun i=>η i) a w (d.conv (fun i=>i) (fun u=>by rw [Mw];exact c u) (fun i x b=>⟨x,b,by rw [Mq];exact U2.refl _⟩) (fun i j b k f=>f) (fun u i b=>d.er u i ((c u).2 i b)) d.sr (fun i b=>?_));obtain ⟨v,g⟩:=Option.ne_none_iff_exists'.1 b
  exact ⟨rfl,(d.pn i v g).2⟩
structure Fr (P:Program) (L:V9) (C:Ctx) (pins:List Nat):Prop where
  mixed:P.follows .mixedOrders=true
  lay:z7 P L
  pin:∀ i,C.pin i≠none->i ∈ pins
def FL(L:V9)(pins:List Nat)(nt:Nat)(ops:Array Oper)(draw:Bool)(ds:List Dir)(E:List (Nat×AVal))(S:List (Nat×Obj))(ρ:List (Nat×Nat))(S' : List (Nat×Obj)):Bool:=
  let F:=VJ L ops ops.toList ds (lk E) (ls S)
  ops.toList.all (QS nt)&&Yf (YI F)&&(YI F).all (fun n=> !(Xy E S).contains n && !pins.contains n)&&(!draw||Q2K ops.toList F)&&Yf (S'.map fun p=>V3 ρ p.1)&&pins.all fun i=>V3 ρ i==i
theorem Z3Z{L:V9}{pins:List Nat}(Fm:Fr P L C pins){id:Nat}{ops:Array Oper}{draw:Bool}{E E' : List (Nat×AVal)}{S S' : List (Nat×Obj)}{Q:Exit->Act->World->Prop}(ds:List Dir)(ρ:List (Nat×Nat))(hchk:FL L pins nt ops draw ds E S ρ S'=true)(hC:Km P C nt L ops ops.toList ds (lk E) (ls S))(he0:E'.map (fun p=>Jc ops.toList (VJ L ops ops.toList ds (lk E) (ls S)) (lk E) p.1)=E'.map (fun p=>p.2.ren (V3 ρ)))(hs0:S'.map (fun p=>Jb (VJ L ops ops.toList ds (lk E) (ls S)) (ls S) (V3 ρ p.1))=S'.map (fun p=>some (p.2.ren (V3 ρ))))(k:Kn C nt E' S' (Q .normal)):AW P C nt (.region id ops draw) E S Q:=by
  simp only [FL,Bool.and_eq_true] at hchk;obtain ⟨⟨⟨⟨⟨M,I⟩,W⟩,H⟩,V⟩,Z⟩:=hchk
  have b:=Z2F (P:=P) (C:=C) (nt:=nt) (L:=L) (ops:=ops) Fm.lay ops.toList ds (lk E) (ls S) M hC;generalize hF:VJ L ops ops.toList ds (lk E) (ls S)=F at *
  have q:pinsB C (V3 ρ):=fun i h=>by
    have:=List.all_eq_true.1 Z i (Fm.pin i h)
    grind
  have d:=Un I;intro R η a w T
  have m:=T.narrow;have r:∀ n ∈ YI F,¬ (n ∈ Xy E S\/C.pin n≠none):=by
    intro n hn t;have:=List.all_eq_true.1 W n hn
    simp at this
    rcases t with t|t
    . grind
    . exact this.2 (Fm.pin n t)
  have f:∀ η' c w',Conc C nt (fun i=>(i ∈ Xy E S\/C.pin i≠none)\/i ∈ YI F) η' (Jc ops.toList F (lk E)) (Jb F (ls S)) c w' -> Q .normal c w':=fun η' c w' g =>
    k _ _ c w' (g.lit q (fun p A=>Z8.of_eq (Kc he0 p A)) (fun p A=>⟨_,Kc hs0 p A,U2.refl _⟩) (Un V))
  cases draw with
  | false=>exact wp_region_list (Q6O ops.toList F _ η _ _ a w b d r m f)
  | true=>
    have x:Q2K ops.toList F=true:=by simpa using H
    obtain ⟨O,U,D⟩:=Z2c ops.toList F ops.toList F [] [] x rfl rfl rfl (fun k i J=>by simp at J);have v:=Q6P (P:=P) (C:=C) (nt:=nt) (ops:=ops) ops.toList F ops.toList F 0 (lk E) (ls S) (fun j=>by rw [Nat.zero_add]) (fun j _=>by rw [Nat.zero_add]) D b
    obtain ⟨B,y,u⟩:=v;simp only [Nat.zero_add,List.range_zero,List.reverse_nil] at B y u
    refine wp_region_any Fm.mixed (Z2L (R:=fun i=>i ∈ Xy E S\/C.pin i≠none) (e0:=lk E) (s0:=ls S) D (fun j o e=>O j o e (Nat.zero_le _)) (fun i j G oj N Y z=>U i j G oj N Y z (Nat.zero_le _)) B d r (fun η' c w' g=>f η' c w' ?_)
      ops.size (Array.replicate ops.size false) [] η a _ (by simp) (fun i h=>by simp [h]) (by simp) ⟨List.nodup_nil,fun l1 k l2 K=>by simp at K⟩ (by simp) ?_)
    . have e2:Jc ops.toList F (lk E)=hE ops.toList F (lk E) (List.range ops.size).reverse:=by rw [Array.length_toList] at y;exact y
      have e3:Jb F (ls S)=hS F (ls S) (List.range ops.size).reverse:=by rw [Array.length_toList] at u;exact u
      grind
    . exact m.drew.wider fun i h=>.inl h
end
end
section
section
variable {P:Program} {C:Ctx} {nt:Nat} {L:V9} {pins:List Nat} {E:List (Nat×AVal)} {S:List (Nat×Obj)} {Q:Exit->Act->World->Prop}
theorem Q3R{x y:Code}(h:AW P C nt x E S (Exit.then (y.wp P Q) Q)):AW P C nt (.seq x y) E S Q:=fun R η a w b=>wp_seq (h R η a w b)
theorem Q5(h:Kn C nt E S (Q .normal)):AW P C nt .skip E S Q:=fun R η a w b=>wp_skip (h R η a w b)
theorem Jk(h:Kn C nt E S (Q .ret)):AW P C nt .ret E S Q:=fun R η a w b=>wp_ret (h R η a w b)
theorem Xc{id:Nat}(h:Kn C nt E S (Q (.exit id))):AW P C nt (.exit id) E S Q:=fun R η a w b=>wp_exit (h R η a w b)
theorem Z4i{id:Nat}{c:Code}(h:AW P C nt c E S (Exit.inBlock id Q)):AW P C nt (.block id c) E S Q:=fun R η a w b=>wp_block (h R η a w b)
theorem Uf{t:Nat}{x y:Code}{b:Bool}(hb:lk E t=vb b)(ht:b=true->AW P C nt x E S Q)(hf:b=false->AW P C nt y E S Q):AW P C nt (.cond (.tmp t) x y) E S Q:=by
 intro R η a w c;have f:=c.ev t
 rw [hb] at f;have d:a.eval (.tmp t)=.bool b:=FP f
 cases b with
 | true=>exact wp_cond_true d (ht rfl R η a w c)
 | false=>exact wp_cond_false d (hf rfl R η a w c)
def Ex{σ:Type}(C:Ctx)(nt:Nat)(I:σ->Prop)(E:σ->List (Nat×AVal))(S:σ->List (Nat×Obj))(a:Act)(w:World):Prop:=∃ z,I z/\∃ R η,Conc C nt R η (lk (E z)) (ls (S z)) a w
theorem Z3A{σ:Type}{I:σ->Prop}{E' : σ->List (Nat×AVal)}{S' : σ->List (Nat×Obj)}(z:σ)(hz:I z):Kn C nt (E' z) (S' z) (Ex C nt I E' S'):=fun R η _ _ b=>⟨z,hz,R,η,b⟩
theorem Z4d{σ:Type}{c:Code}(I:σ->Prop)(μ:σ->Nat)(E' : σ->List (Nat×AVal))(S' : σ->List (Nat×Obj))(round:∀ z,I z->AW P C nt c (E' z) (S' z) (Exit.then (Ex C nt (fun z'=>I z' /\ μ z' < μ z) E' S') Q))(z0:σ)(h0:I z0):
  AW P C nt (.loop c) (E' z0) (S' z0) Q:=by
 classical
 intro R η a w y
 let J:Act->World->Nat->Prop:=fun a w n=>∃ z,I z/\μ z=n/\∃ R η,Conc C nt R η (lk (E' z)) (ls (S' z)) a w
 let m:Act->World->Nat:=fun a w=>if h:∃ n,J a w n then h.choose else 0
 have g:∀ (n:Nat) a w,J a w n->∃ k,J a w k/\∀ j,J a w j->k<=j:=by
  intro n
  induction n using Nat.strongRecOn with
  | _ n ih=>
   intro a w H;rcases Classical.em (∃ j,j<n/\J a w j) with ⟨j,A,b⟩|B
   .exact ih j A a w b
   all_goals grind
 let μ' : Act->World->Nat:=fun a w=>if h:∃ n,J a w n then (g h.choose a w h.choose_spec).choose else 0
 have q:∀ a w,(∃ n,J a w n)->J a w (μ' a w)/\∀ j,J a w j->μ' a w<=j:=by
  intro a w v
  grind
 refine wp_loop (fun a w=>∃ n,J a w n) μ' ⟨_,z0,h0,rfl,R,η,y⟩ fun a w v=>?_
 obtain ⟨⟨z,G,i,F,η',d⟩,_⟩:=q a w v;refine Code.wp_mono (fun e r u t=>?_) (round z G F η' a w d)
 cases e with
 | normal=>
  obtain ⟨z',⟨f,p⟩,D,x,o⟩:=t;have b:J r u (μ z'):=⟨z',f,rfl,D,x,o⟩
  exact ⟨⟨_,b⟩,Nat.lt_of_le_of_lt ((q r u ⟨_,b⟩).2 _ b) (by rw [<-i];exact p)⟩
 | _=>exact t
def Sc(L:V9)(e:W4)(s:W5):ResultVar->Option TV
 | .tmp t=>match e t with
  | .v x=>some x
  | _=>none
 | .cell a t=>match L t with
  | some ti=>match rd s ti.size (e a) with
   | some (cs,_)=>if Ph (e a) then none else match Vx ti.kind.agg cs with
    | some (.v x)=>some x
    | _=>none
   | none=>none
  | none=>none
def KW(L:V9)(e:W4)(s:W5):List ResultVar->Option (List TV)
 | []=>some []
 | r::rs=>match Sc L e s r,KW L e s rs with
  | some x,some xs=>some (x::xs)
  | _,_=>none
def UJ(L:V9)(e:W4)(s:W5)(rs:List ResultVar):Option AVal:=
 match rs,KW L e s rs with
 | [_],some [x]=>some (.v x)
 | [_],_=>none
 | _,some xs=>some (.t xs)
 | _,none=>none
def RT(tmps:Array Value):ResultVar->Sem Value
 | .tmp t=>pure (tmps.getD t undef)
 | .cell a t=>do loadVar t (<-asAddr (tmps.getD a undef))
theorem Q6W(hL:z7 P L){R:Nat->Prop}{η:Nat->Value}{e:W4}{s:W5}{a:Act}{w:World}(h:Conc C nt R η e s a w){r:ResultVar}{x:TV}(hr:Sc L e s r=some x):
  ∃ v,(RT a.tmps r).run P w=.ok v w/\TRep w (XS C s η) η C v x:=by
 cases r with
 | tmp t=>
  simp only [Sc] at hr;split at hr
  .rename_i y f
   cases hr
   have:=h.ev t
   rw [f] at this;refine ⟨a.tmps.getD t undef,rfl,?_⟩
   generalize a.tmps.getD t undef=u at this
   cases this with
   | v _ _ hv=>exact hv
  .cases hr
 | cell a' t=>
  simp only [Sc] at hr;split at hr
  .rename_i o M
   split at hr
   .rename_i V c k
    split at hr
    .cases hr
    .rename_i q
     split at hr
     .rename_i y f
      cases hr
      have I:c:=by
       unfold rd at k;split at k
       .grind
       .grind
       .rename_i O;rw [O] at q;simp [Ph] at q
       .cases k
      obtain ⟨i,d,z,B⟩:=hL t o M;obtain ⟨b,m,A,U,W,J,N,K,H,D,T⟩:=Q0n h k I (h.ev a')
      have F:o.kind.agg=false->o.size=1:=by
       intro n;rw [n] at f
       simp only [Vx] at f
       grind
      have p:=jC (P:=P) B N K F;refine ⟨if o.kind.agg then .agg (Zl A m o.size).toArray else A.getD m undef,?_,?_⟩
      .simp only [RT,Sem.run_bind,J,asAddr,Sem.run_pure,Result.andThen_ok,p]
      .unfold Vx at f
       split at f
       .rename_i n
        cases f
        simp only [n,if_true];refine .g _ _ ⟨by simp [Zl,H],fun j G=>?_⟩
        rw [H] at G;have:(Zl A m o.size).toArray.getD j undef=A.getD (m+j) undef:=by simp [Zl,G]
        grind
       .rename_i n
        split at f
        .cases f
         simp only [n,Bool.false_eq_true,if_false];have:=D 0 (by rw [F n];exact Nat.zero_lt_one)
         exact .c _ _ (by simpa using this)
        .cases f
     .cases hr
   .cases hr
  .cases hr
theorem Q6V(hL:z7 P L){R:Nat->Prop}{η:Nat->Value}{e:W4}{s:W5}{a:Act}{w:World}(h:Conc C nt R η e s a w):∀ (rs:List ResultVar) (xs:List TV),KW L e s rs=some xs ->
  ∃ vs:List Value,(rs.mapM (RT a.tmps)).run P w=.ok vs w/\vs.length=xs.length/\∀ j,j<xs.length->TRep w (XS C s η) η C (vs.getD j undef) (xs.getD j (.c (.d .any))):=by
 intro rs
 induction rs with
 | nil=>intro xs b;cases b;exact ⟨[],by simp,rfl,fun j i=>by simp at i⟩
 | cons r rs ih=>
  intro xs b;simp only [KW] at b
  split at b
  .rename_i x f n g
   cases b
   obtain ⟨v,k,q⟩:=Q6W hL h n;obtain ⟨vs,o,m,p⟩:=ih f g
   refine ⟨v::vs,?_,by simp [m],fun j i=>?_⟩
   .simp only [List.mapM_cons,Sem.run_bind,k,o,Result.andThen_ok,Sem.run_pure]
   all_goals grind
  .cases b
theorem Q6X(hL:z7 P L){R:Nat->Prop}{η:Nat->Value}{e:W4}{s:W5}{a:Act}{w:World}(h:Conc C nt R η e s a w){fn:Func}{x:AVal}(hr:UJ L e s fn.results.toList=some x):
  ∃ v,(results fn a.tmps).run P w=.ok v w/\ARep w (XS C s η) η C v x:=by
 have i:∀ g,KW L e s fn.results.toList=some g->∃ b:List Value,(results fn a.tmps).run P w=.ok (if h:b.toArray.size=1 then b.toArray[0] else .tuple b.toArray) w/\b.length=g.length/\∀ j,j<g.length->TRep w (XS C s η) η C (b.getD j undef) (g.getD j (.c (.d .any))):=by
  intro g f;obtain ⟨b,n,k,o⟩:=Q6V hL h _ _ f
  refine ⟨b,?_,k,o⟩;have p:results fn a.tmps=(do let b <-fn.results.mapM (RT a.tmps);pure (if h:b.size=1 then b[0] else .tuple b)):=by
   unfold results;congr 1
  rw [p];simp only [Sem.run_bind,Array.mapM_eq_mapM_toList,Sem.run_map,n,Result.andThen_ok,Sem.run_pure]
 unfold UJ at hr;split at hr
 .rename_i r F z f
  cases hr
  obtain ⟨b,n,k,o⟩:=i _ f;refine ⟨b.getD 0 undef,?_,.v _ _ (o 0 (by simp))⟩
  rw [n]
  cases b with
  | nil=>simp at k
  | cons v r=>cases r with
   | nil=>rfl
   | cons _ _=>simp at k
 .cases hr
 .skip
  rename_i g f _ u
  cases hr
  obtain ⟨b,n,k,o⟩:=i _ f;refine ⟨.tuple b.toArray,?_,.t _ _ (by simpa using k) (fun j B=>by simpa [List.getD_eq_getElem?_getD] using o j B)⟩
  rw [n];have q:∀ (m:List ResultVar) (g:List TV),KW L e s m=some g->m.length=g.length:=by
   intro m
   induction m with
   | nil=>intro g h;cases h;rfl
   | cons r m ih=>
    intro g h;simp only [KW] at h
    grind
  have y:¬ b.toArray.size=1:=by
   intro D;have A:b.length=1:=by simpa using D
   have:=q _ _ f
   rw [<-k,A] at this;obtain ⟨r,hr⟩:=List.length_eq_one_iff.1 this
   exact u r hr
  rw [dif_neg y]
 .cases hr
end
end
section
def QW(S:List (Nat×Obj))(w:World)(X:Nat->Prop)(η:Nat->Value):Ctx where
 w0:=w
 D:=Own (ls S) η
 M:=fun b=>∃ i o,ls S i=some o/\o.ro=false/\b ∈ Y7 (η i)
 X:=X
 pin:=fun i=>if (S.lookup i).isSome then some (η i) else none
structure Behind (C:Ctx) (r:AVal) (S' : List (Nat×Obj)) (v:Value) (η' : Nat->Value) (w' : World):Prop where
 stp:Stp C.M C.w0 w'
 res:ARep w' (XS C (ls S') η') η' C v r
 objs:∀ i o,ls S' i=some o->ORep w' (XS C (ls S') η') η' C (η' i) o
 ds:∀ i j b,ls S' i≠none->ls S' j≠none->b ∈ Y7 (η' i)->b ∈ Y7 (η' j)->i=j
 ow:∀ i o b,ls S' i=some o->b ∈ Y7 (η' i)->(o.ro=true/\C.D b)\/C.M b\/C.w0.heap.size<=b
 pn:∀ i v,C.pin i=some v->η' i=v
def K8(P:Program)(f:Nat)(args:List AVal)(S:List (Nat×Obj))(r:AVal)(S' : List (Nat×Obj)):Prop:=
 ∀ (w:World) (X:Nat->Prop) (η:Nat->Value) (vs:Array Value),(∀ b,X b->b<w.heap.size)->(∀ b,Own (ls S) η b->X b) ->
  (∀ i o,ls S i=some o->ORep w X η (QW S w X η) (η i) o)->(∀ i j b,ls S i≠none->ls S j≠none->b ∈ Y7 (η i)->b ∈ Y7 (η j)->i=j) ->
  vs.size=args.length->(∀ j,j<args.length->ARep w X η (QW S w X η) (vs.getD j undef) (args.getD j .any)) ->
  Calls P f vs w fun e w'=>∃ v η',e=.returned v/\Behind (QW S w X η) r S' v η' w'
def PJ(args:List AVal):List (Nat×AVal):=args.zipIdx.map fun p=>(p.2,p.1)
def WY(P:Program)(fn:Func)(C:Ctx)(r:AVal)(S' : List (Nat×Obj)):Exit->Act->World->Prop:=
 bodyPost P fn fun e w'=>∃ v η',e=.returned v/\Behind C r S' v η' w'
section
variable {P:Program} {L:V9}
theorem TH{S:List (Nat×Obj)}{X:Nat->Prop}{η:Nat->Value}{w:World}(h:∀ b,Own (ls S) η b->X b):XS (QW S w X η) (ls S) η=X:=by
 funext b
 apply propext;constructor
 .rintro (⟨c,_⟩|c)
  .exact c
  .exact h b c
 .intro c
  rcases Classical.em (Own (ls S) η b) with d|d
  .exact .inr d
  .exact .inl ⟨c,d⟩
theorem Z2H(args:List AVal)(t:Nat):lk (PJ args) t=args.getD t .any:=by
 unfold lk PJ;have b:∀ (l:List AVal) (k t:Nat),(((l.zipIdx k).map fun p=>(p.2,p.1)).lookup t).getD .any=if t<k then .any else l.getD (t-k) .any:=by
  intro l
  induction l with
  | nil=>intro k t;simp
  | cons x l ih=>
   intro k t;simp only [List.zipIdx_cons,List.map_cons,List.lookup_cons]
   grind
 grind
theorem Z3Q(hm:P.follows .mixedOrders=true)(hL:z7 P L){f:Nat}{fn:Func}{c:Code}(hf:P.funcs[f]?=some fn)(hb:fn.body=some c){args:List AVal}{S:List (Nat×Obj)}{r:AVal}{S' : List (Nat×Obj)}(hn0:Nat.ble args.length fn.ntmps=true)(h:∀ C,Fr P L C (S.map (·.1))->AW P C fn.ntmps c (PJ args) S (WY P fn C r S')):K8 P f args S r S':=by
 have G:args.length<=fn.ntmps:=Nat.le_of_ble_eq_true hn0;intro w X η p A g n k x j
 have z:(QW S w X η).Ok:=⟨fun b ⟨i,o,h1,_,h2⟩=>⟨i,o,h1,h2⟩,fun b hb=>g b hb,A⟩;refine calls_of_wp hf hb (h (QW S w X η) ⟨hm,hL,fun i d=>?_⟩ (fun _=>True) η _ w ⟨z,rfl,?_,fun t=>?_,fun _ _ _=>trivial,fun i o d=>?_,fun _ _ _=>⟨trivial,fun _ _=>trivial⟩,k,fun i o b d m=>?_,Stp.refl _ _,fun i v d=>⟨?_,trivial⟩⟩)
 .simp only [QW] at d
  split at d
  .rename_i u
   obtain ⟨o,q⟩:=Option.isSome_iff_exists.1 u;obtain ⟨D,F,B,_⟩:=List.lookup_eq_some_iff.1 q
   rw [B];simp
  .exact absurd rfl d
 .simp;omega
 .rw [TH g,Z2H]
  by_cases ht:t<args.length
  .have y:(p++Array.replicate (fn.ntmps-p.size) undef).getD t undef=p.getD t undef:=by
    have:t<p.size:=by omega
    simp [this,Array.getElem?_append,Array.getD_eq_getD_getElem?]
   simp only [y];exact j t ht
  .rw [List.getD_eq_getElem?_getD,List.getElem?_eq_none (by omega)]
   exact .any _
 .rw [TH g];exact n i o d
 .cases hro:o.ro with
  | true=>exact .inl ⟨rfl,⟨i,o,d,m⟩⟩
  | false=>exact .inr (.inl ⟨i,o,d,hro,m⟩)
 .simp only [QW] at d
  split at d
  .cases d;rfl
  .cases d
theorem Z3C{C:Ctx}{nt:Nat}{pins:List Nat}(Fm:Fr P L C pins){fn:Func}{E:List (Nat×AVal)}{S:List (Nat×Obj)}{r:AVal}{S' : List (Nat×Obj)}(hr:UJ L (lk E) (ls S) fn.results.toList=some r)(hS:S'.map (fun p=>ls S p.1)=S'.map (fun p=>some p.2)):Kn C nt E S (WY P fn C r S' .ret):=by
 intro R η a w f;obtain ⟨v,q,n⟩:=Q6X (P:=P) Fm.lay f hr
 have d:∀ i o,ls S' i=some o->ls S i=some o:=fun i o c=>Kc hS (i,o) (G7 c)
 have m:QZ w w (XS C (ls S) η) (XS C (ls S') η):=by
  intro b z u;refine ⟨rfl,fun h=>u ?_⟩
  rcases h with x|⟨i,o,c,k⟩
  .exact .inl x
  .exact .inr ⟨i,o,d i o c,k⟩
 have g:∀ i,ls S' i≠none->ls S i≠none:=by
  intro i c;obtain ⟨o,y⟩:=Option.ne_none_iff_exists'.1 c
  grind
 exact ⟨f.df,v,q,v,η,rfl,f.fr,n.mono m (fun _ _=>rfl),fun i o c=>(f.st i o (d i o c)).mono m (fun _ _=>rfl) (fun _ _=>rfl),
  fun i j b c t=>f.ds i j b (g i c) (g j t),fun i o b c=>f.ow i o b (d i o c),fun i v c=>(f.pn i v c).1⟩
end
end
section
def MB:Value->CV
 | .int k n=>.d (.int k n)
 | .bool b=>.d (.bool b)
 | .string s=>.d (.str s)
 | .slice none 0 0=>.fl 0 fun _=>[]
 | _=>.d .any
def Q0X:TypeDesc->TK
 | .int k=>.int k
 | .bool=>.bool
 | .string=>.str
 | .slice e=>.slice e
 | .struct fs=>.struct (fs.toList.map fun f=>(f.offset,f.type))
 | .array n e=>.array n e
 | _=>.other
def TY(P:Program)(t:Nat):Option TI:=
 match P.info? t,P.underlying t with
 | some i,some d=>match i.zero with
  | some z=>if z.cells.toList.all Value.oneCell' then some ⟨Q0X d,i.size,i.bytes,z.cells.toList.map MB⟩ else none
  | none=>none
 | _,_=>none
theorem xX{w:World}{X:Nat->Prop}{η:Nat->Value}{C:Ctx}{v:Value}(h:v.oneCell'=true):CRep w X η C v (MB v)/\(MB v).refs=[]:=by
 unfold MB;split
 .exact ⟨.d _ _ (.int _ _),rfl⟩
 .exact ⟨.d _ _ (.bool _),rfl⟩
 .exact ⟨.d _ _ (.str _),rfl⟩
 .exact ⟨.fl _ _ _ (.nil _ _ _),rfl⟩
 .exact ⟨.d _ _ (.any _ h),rfl⟩
theorem Q9t(P:Program):z7 P (TY P):=by
 intro t q h;unfold TY at h
 split at h
 .rename_i i d k o
  split at h
  .rename_i z p
   split at h
   .rename_i b
    cases h
    rw [List.all_eq_true] at b;refine ⟨i,d,z,k,o,rfl,rfl,p,fun w X η C=>⟨by simp,fun j m=>?_⟩,?_,?_⟩
    .have c : j<z.cells.size:=by simpa using m
     have g:z.cells[j] ∈ z.cells.toList:=by simp
     have:=(xX (w:=w) (X:=X) (η:=η) (C:=C) (b _ g)).1
     simpa [List.getD_eq_getElem?_getD,c] using this
    .rw [List.flatMap_eq_nil_iff]
     intro x n;obtain ⟨v,f,rfl⟩:=List.mem_map.1 n
     exact (xX (w:=default) (X:=fun _=>False) (η:=fun _=>default) (C:=⟨default,fun _=>False,fun _=>False,fun _=>False,fun _=>none⟩) (b v f)).2
    .cases d <;> simp [Q0X,ZK]
   .cases h
  .cases h
 .cases h
def Jv(T:List (Nat×TI)):V9:=fun t=>T.lookup t
theorem Q4Y{P:Program}{T:List (Nat×TI)}(h:T.map (fun p=>TY P p.1)=T.map (fun p=>some p.2)):z7 P (Jv T):=by
 intro t b d;obtain ⟨f,g,c,_⟩:=List.lookup_eq_some_iff.1 d
 exact Q9t P t b (Kc h (t,b) (by rw [c];simp))
section
variable {P:Program} {C:Ctx} {nt:Nat} {L:V9} {pins:List Nat}
end
end
end
end Go.Ab
