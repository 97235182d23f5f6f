/- Abstract states over the model. -/
import Derived.Orders
import Derived.Laws.AppendOwn
import Derived.Below
import Derived.MapKept
import Derived.IntWalk
import Derived.Laws.Tables
import Derived.Tactics
import Derived.KernelRfl
set_option linter.unusedVariables false
set_option linter.unusedSimpArgs false
namespace Go.Ab
noncomputable section
section
inductive DVal where
 | any
 | int (k:IntKind) (n:Int)
 | bool (b:Bool)
 | str (s:ByteArray)
 | lst (n:Nat) (f:Nat->List DVal)
 | mp (n:Nat) (ks:Nat->Int) (vs:Nat->DVal)
inductive CV where
 | d (x:DVal)
 | fl (n:Nat) (f:Nat->List DVal)
 | own (id:Nat)
 | ptr (id off:Nat)
 | pte (id es idx off:Nat)
 | sub (id es lo n:Nat)
 | elm (cs:List DVal)
 | clo (f:Nat) (ids:List Nat)
 | sem (p:World->(Nat->Prop)->(Nat->Prop)->Value->Prop)
 | ap (id:Nat)
 | bnd (f:Nat) (cs:List DVal)
 | cp (id j:Nat)
inductive TV where
 | c (x:CV)
 | g (xs:List CV)
inductive AVal where
 | any
 | v (x:TV)
 | t (xs:List TV)
inductive Obj where
 | box (ro:Bool) (cs:List CV)
 | arr (es n:Nat) (f:Nat->List DVal)
 | ext (p:World->(Nat->Prop)->Value->Prop)
 | exr (refs:List Nat) (p:World->(Nat->Prop)->List Value->Value->Prop)
abbrev Env:=Nat->AVal
abbrev Sto:=Nat->Option Obj
structure Ctx where
 w0:World
 D:Nat->Prop
 M:Nat->Prop
 X:Nat->Prop
 pin:Nat->Option Value
inductive DRep (w:World) (X:Nat->Prop):Value->DVal->Prop
 | any (v:Value):v.oneCell'=true->DRep w X v .any
 | int (k:IntKind) (n:Int):DRep w X (.int k n) (.int k n)
 | bool (b:Bool):DRep w X (.bool b) (.bool b)
 | str (s:ByteArray):DRep w X (.string s) (.str s)
 | nil (a:Option Addr) (cap:Nat) (f:Nat->List DVal):DRep w X (.slice a 0 cap) (.lst 0 f)
 | lst (b off n cap:Nat) (c:Array Value) (e:TypeId) (fz:Nat×Nat) (f:Nat->List DVal) (es:Nat) :
   ¬ X b->w.heap[b]?=some (.cells c e fz)->n<=cap->off+n*es<=c.size->(∀ i,i<n->(f i).length=es) ->
   (∀ i j,i<n->j<es->DRep w X (c.getD (off+(i*es+j)) undef) ((f i).getD j .any)) ->
   DRep w X (.slice (some ⟨b,off,none⟩) n cap) (.lst n f)
 | mp (b:Nat) (es:Array MapEntry) (clock n:Nat) (ks:Nat->Int) (Q8L:Nat->Value) (vs:Nat->DVal):¬ X b->w.heap[b]?=some (.map es clock)->MapKept.Stamped es clock->es.size=n ->
   (∀ i,i<n->∃ bo,es[i]?=some ⟨.int .i64 (ks i),Q8L i,bo⟩)->(∀ i,i<n->DRep w X (Q8L i) (vs i))->DRep w X (.map (some b)) (.mp n ks vs)
theorem DRep.one{w:World}{X:Nat->Prop}{v:Value}{x:DVal}(h:DRep w X v x):v.oneCell'=true:=by
 cases h <;> first|assumption|rfl
theorem y7{w:World}{b:Nat}{o:Go.Obj}(h:w.heap[b]?=some o):b<w.heap.size:=
 (Array.getElem?_eq_some_iff.1 h).1
structure Stp (Z:Nat->Prop) (w w' : World):Prop where
 os:w'.os=w.os
 tape:w'.tape=w.tape
 output:w'.output=w.output
 size:w.heap.size<=w'.heap.size
 block:∀ b,b<w.heap.size->¬ Z b->w'.heap[b]?=w.heap[b]?
 dr:w.drawn<=w'.drawn
theorem Stp.refl(Z:Nat->Prop)(w:World):Stp Z w w:=⟨rfl,rfl,rfl,Nat.le_refl _,fun _ _ _=>rfl,Nat.le_refl _⟩
theorem Stp.mono{Z Z' : Nat->Prop}{w w' : World}(h:Stp Z w w')(hz:∀ b,b<w.heap.size->Z b->Z' b):Stp Z' w w' :=
 ⟨h.os,h.tape,h.output,h.size,fun b a c=>h.block b a fun d=>c (hz b a d),h.dr⟩
theorem Stp.trans{Z:Nat->Prop}{a b c:World}(h:Stp Z a b)(k:Stp (fun x=>Z x\/a.heap.size<=x) b c):Stp Z a c:=
 ⟨k.os.trans h.os,k.tape.trans h.tape,k.output.trans h.output,Nat.le_trans h.size k.size,
  fun x e f=>(k.block x (Nat.lt_of_lt_of_le e h.size) fun d=>by rcases d with d|d;exact f d;omega).trans (h.block x e f),Nat.le_trans h.dr k.dr⟩
theorem Stp.drew(Z:Nat->Prop)(w:World):Stp Z w { w with drawn:=w.drawn+1 }:=⟨rfl,rfl,rfl,Nat.le_refl _,fun _ _ _=>rfl,Nat.le_succ _⟩
theorem Stp.alloc(Z:Nat->Prop)(w:World)(o:Go.Obj):Stp Z w { w with heap:=w.heap.push o } :=
 ⟨rfl,rfl,rfl,by simp,fun b a _=>by show (w.heap.push o)[b]?=_;rw [Array.getElem?_push,if_neg (by omega)],Nat.le_refl _⟩
theorem Stp.below{Z:Nat->Prop}{w w' : World}(h:Stp Z w w')(B:Nat)(hB:B<=w.heap.size)(hZ:∀ b,b<B->¬ Z b):Go.RowKit.Below B w w' :=
 ⟨h.os,h.tape,h.output,h.size,fun k a=>h.block k (Nat.lt_of_lt_of_le a hB) (hZ k a)⟩
theorem DRep.mono{w w' : World}{X X' : Nat->Prop}{v:Value}{x:DVal}(h:DRep w X v x)(hk:∀ b,b<w.heap.size->¬ X b->w'.heap[b]?=w.heap[b]? /\ ¬ X' b):DRep w' X' v x:=by
 induction h with
 | any v hv=>exact .any v hv
 | int k n=>exact .int k n
 | bool b=>exact .bool b
 | str s=>exact .str s
 | nil a cap f=>exact .nil a cap f
 | lst b off n cap c e fz f es hX hb hn ho hf _ ih=>
  have d:=hk b (y7 hb) hX;exact .lst b off n cap c e fz f es d.2 (d.1.trans hb) hn ho hf ih
 | mp b es clock n ks Q8L vs hX hb h1 h2 h3 _ ih=>
  have d:=hk b (y7 hb) hX;exact .mp b es clock n ks Q8L vs d.2 (d.1.trans hb) h1 h2 h3 ih
def Y4E:Value->List Nat
 | .pointer (some a)=>[a.block]
 | .slice (some a) _ cap=>if cap=0 then [] else [a.block]
 | .map (some b)=>[b]
 | _=>[]
def W2:Value->List Nat
 | .pointer (some a)=>[a.block]
 | .slice (some a) _ cap=>if cap=0 then [] else [a.block]
 | .map (some b)=>[b]
 | .agg vs=>vs.toList.flatMap Y4E
 | _=>[]
def Q7o(w w' : World)(X X' : Nat->Prop):Prop:=∀ b,b<w.heap.size->¬ X b->w'.heap[b]?=w.heap[b]? /\ ¬ X' b
def Y4F(p:World->(Nat->Prop)->Value->Prop)(v:Value):Prop:=∀ w w' X X',Q7o w w' X X' -> (∀ b ∈ W2 v,w'.heap[b]?=w.heap[b]?)->p w X v->p w' X' v
section
variable (w:World) (X:Nat->Prop) (η:Nat->Value) (C:Ctx)
inductive CRep:Value->CV->Prop
 | d (v:Value) (x:DVal):DRep w X v x->CRep v (.d x)
 | fl (a:Option Addr) (n:Nat) (f:Nat->List DVal):DRep w X (.slice a n n) (.lst n f)->CRep (.slice a n n) (.fl n f)
 | own (v:Value) (id:Nat):v=η id->v.oneCell'=true->CRep v (.own id)
 | ptr (b id off:Nat):η id=.pointer (some ⟨b,0,none⟩)->CRep (.pointer (some ⟨b,off,none⟩)) (.ptr id off)
 | pte (b n cap id es idx off:Nat):η id=.slice (some ⟨b,0,none⟩) n cap->CRep (.pointer (some ⟨b,idx*es+off,none⟩)) (.pte id es idx off)
 | sub (b N cap id es lo n:Nat):η id=.slice (some ⟨b,0,none⟩) N cap->lo+n<=N->lo<cap->CRep (.slice (some ⟨b,lo*es,none⟩) n (cap-lo)) (.sub id es lo n)
 | subN (ad ad' : Option Addr) (N id es:Nat):η id=.slice ad N N->CRep (.slice ad' 0 0) (.sub id es N 0)
 | elm (b off:Nat) (c:Array Value) (e:TypeId) (fz:Nat×Nat) (cs:List DVal):¬ X b->w.heap[b]?=some (.cells c e fz)->off+cs.length<=c.size ->
   (∀ j,j<cs.length->DRep w X (c.getD (off+j) undef) (cs.getD j .any))->CRep (.pointer (some ⟨b,off,none⟩)) (.elm cs)
 | clo (f:Nat) (ids:List Nat) (vs:Array Value):vs=(ids.map η).toArray->CRep (.func (.func f) #[] vs) (.clo f ids)
 | sem (v:Value) (p:World->(Nat->Prop)->(Nat->Prop)->Value->Prop):p C.w0 C.D C.X v->v.oneCell'=true->CRep v (.sem p)
 | ap (v:Value) (id:Nat):(η id=v\/η id=.tuple #[v]\/∃ l,η id=.agg (v::l).toArray)->v.oneCell'=true->CRep v (.ap id)
 | bnd (f:Nat) (vs:Array Value) (cs:List DVal):vs.size=cs.length->(∀ j,j<cs.length->DRep w X (vs.getD j undef) (cs.getD j .any))->CRep (.func (.func f) #[.agg vs] #[]) (.bnd f cs)
 | cp (v:Value) (id j:Nat) (vs:Array Value):η id=.agg vs->vs[j]?=some v->v.oneCell'=true->CRep v (.cp id j)
def Q0e(vs:Array Value)(cs:List CV):Prop:=vs.size=cs.length/\∀ j,j<cs.length->CRep w X η C (vs.getD j undef) (cs.getD j (.d .any))
inductive TRep:Value->TV->Prop
 | c (v:Value) (x:CV):CRep w X η C v x->TRep v (.c x)
 | g (vs:Array Value) (xs:List CV):Q0e w X η C vs xs->TRep (.agg vs) (.g xs)
inductive ARep:Value->AVal->Prop
 | any (v:Value):ARep v .any
 | v (u:Value) (x:TV):TRep w X η C u x->ARep u (.v x)
 | t (us:Array Value) (xs:List TV):us.size=xs.length->(∀ j,j<xs.length->TRep w X η C (us.getD j undef) (xs.getD j (.c (.d .any))))->ARep (.tuple us) (.t xs)
inductive ORep:Value->Obj->Prop
 | box (b:Nat) (ro:Bool) (c:Array Value) (e:TypeId) (cs:List CV):w.heap[b]?=some (.cells c e (0,0))->Q0e w X η C c cs ->
   ORep (.pointer (some ⟨b,0,none⟩)) (.box ro cs)
 | nil (ad:Option Addr) (es:Nat) (f:Nat->List DVal):ORep (.slice ad 0 0) (.arr es 0 f)
 | arr (b n cap es:Nat) (c:Array Value) (e:TypeId) (f:Nat->List DVal):w.heap[b]?=some (.cells c e (0,0))->c.size=cap*es->n<=cap->cap<=maxLen->0<cap ->
   (∀ i,i<n->(f i).length=es)->(∀ i j,i<n->j<es->DRep w X (c.getD (i*es+j) undef) ((f i).getD j .any)) ->
   ORep (.slice (some ⟨b,0,none⟩) n cap) (.arr es n f)
 | ext (v:Value) (p:World->(Nat->Prop)->Value->Prop):p w X v->Y4F p v->(∀ b ∈ W2 v,b<w.heap.size)->ORep v (.ext p)
 | exr (v:Value) (refs:List Nat) (p:World->(Nat->Prop)->List Value->Value->Prop):p w X (refs.map η) v->Y4F (fun w X v=>p w X (refs.map η) v) v->(∀ b ∈ W2 v,b<w.heap.size)->ORep v (.exr refs p)
end
theorem CRep.one{w:World}{X:Nat->Prop}{η:Nat->Value}{C:Ctx}{v:Value}{x:CV}(h:CRep w X η C v x):v.oneCell'=true:=by
 cases h with
 | d _ _ h=>exact h.one
 | own _ _ _ h=>exact h
 | sem _ _ _ h=>exact h
 | ap _ _ _ h=>exact h
 | cp _ _ _ _ _ _ h=>exact h
 | _=>rfl
def CV.refs:CV->List Nat
 | .own id=>[id]
 | .ptr id _=>[id]
 | .pte id _ _ _=>[id]
 | .sub id _ _ _=>[id]
 | .clo _ ids=>ids
 | .ap id=>[id]
 | .cp id _=>[id]
 | _=>[]
def TV.refs:TV->List Nat
 | .c x=>x.refs
 | .g xs=>xs.flatMap CV.refs
def AVal.refs:AVal->List Nat
 | .any=>[]
 | .v x=>x.refs
 | .t xs=>xs.flatMap TV.refs
def Obj.refs:Obj->List Nat
 | .box _ cs=>cs.flatMap CV.refs
 | .arr _ _ _=>[]
 | .ext _=>[]
 | .exr refs _=>refs
def Obj.ro:Obj->Bool
 | .box ro _=>ro
 | .arr _ _ _=>false
 | .ext _=>false
 | .exr _ _=>false
section
variable {w w' : World} {X X' : Nat->Prop} {η η' : Nat->Value} {C:Ctx}
theorem CRep.mono{v:Value}{x:CV}(h:CRep w X η C v x)(hk:Q7o w w' X X')(hη:∀ i ∈ x.refs,η' i=η i):CRep w' X' η' C v x:=by
 cases h with
 | d _ _ h=>exact .d _ _ (h.mono hk)
 | fl a n f h=>exact .fl a n f (h.mono hk)
 | own _ id h h1=>exact .own _ id (by rw [hη id (by simp [CV.refs])];exact h) h1
 | ptr b id off h=>exact .ptr b id off (by rw [hη id (by simp [CV.refs])];exact h)
 | pte b n cap id es idx off h=>exact .pte b n cap id es idx off (by rw [hη id (by simp [CV.refs])];exact h)
 | sub b N cap id es lo n h h1 h2=>exact .sub b N cap id es lo n (by rw [hη id (by simp [CV.refs])];exact h) h1 h2
 | subN ad ad' N id es h=>exact .subN ad ad' N id es (by rw [hη id (by simp [CV.refs])];exact h)
 | elm b off c e fz cs hX hb ho hc=>
  have k:=hk b (y7 hb) hX;exact .elm b off c e fz cs k.2 (k.1.trans hb) ho fun j g=>(hc j g).mono hk
 | clo f ids vs h=>
  refine .clo f ids vs ?_;rw [h]
  congr 1
  exact List.map_congr_left fun i l=>(hη i (by simpa [CV.refs] using l)).symm
 | sem _ p h h1=>exact .sem _ p h h1
 | ap _ id h h1=>exact .ap _ id (by rw [hη id (by simp [CV.refs])];exact h) h1
 | bnd f vs cs h1 h2=>exact .bnd f vs cs h1 fun j g=>(h2 j g).mono hk
 | cp _ id j vs h h1 h2=>exact .cp _ id j vs (by rw [hη id (by simp [CV.refs])];exact h) h1 h2
theorem Q0R{α:Type}{l:List α}{j:Nat}{d:α}(h:j<l.length):l.getD j d ∈ l:=by
 rw [List.getD_eq_getElem?_getD,List.getElem?_eq_getElem h];exact List.getElem_mem h
theorem Q0e.mono{vs:Array Value}{cs:List CV}(h:Q0e w X η C vs cs)(hk:Q7o w w' X X')(hη:∀ i ∈ cs.flatMap CV.refs,η' i=η i):Q0e w' X' η' C vs cs:=
 ⟨h.1,fun j a=>(h.2 j a).mono hk fun i b=>hη i (List.mem_flatMap.2 ⟨_,Q0R a,b⟩)⟩
theorem TRep.mono{v:Value}{x:TV}(h:TRep w X η C v x)(hk:Q7o w w' X X')(hη:∀ i ∈ x.refs,η' i=η i):TRep w' X' η' C v x:=by
 cases h with
 | c _ x h=>exact .c _ x (h.mono hk hη)
 | g vs xs h=>exact .g vs xs (h.mono hk hη)
theorem ARep.mono{v:Value}{x:AVal}(h:ARep w X η C v x)(hk:Q7o w w' X X')(hη:∀ i ∈ x.refs,η' i=η i):ARep w' X' η' C v x:=by
 cases h with
 | any=>exact .any v
 | v _ x h=>exact .v _ x (h.mono hk hη)
 | t us xs hs h=>exact .t us xs hs fun j a=>(h j a).mono hk fun i b=>hη i (List.mem_flatMap.2 ⟨_,Q0R a,b⟩)
theorem ORep.mono{v:Value}{o:Obj}(h:ORep w X η C v o)(hk:Q7o w w' X X')(hη:∀ i ∈ o.refs,η' i=η i)(hb:∀ b,b ∈ W2 v->w'.heap[b]?=w.heap[b]?):ORep w' X' η' C v o:=by
 cases h with
 | box b ro c e cs hh hc=>exact .box b ro c e cs ((hb b (by simp [W2])).trans hh) (hc.mono hk hη)
 | nil ad es f=>exact .nil ad es f
 | arr b n cap es c e f hh hs hn hm hc hl he=>
  exact .arr b n cap es c e f ((hb b (by simp [W2];omega)).trans hh) hs hn hm hc hl fun i j g m=>(he i j g m).mono hk
 | ext _ p h h1 h2=>
  refine .ext _ p (h1 w w' X X' hk hb h) h1 fun b a=>?_
  have:=hb b a
  have k:=h2 b a;rcases Nat.lt_or_ge b w'.heap.size with d|d
  .exact d
  .rw [Array.getElem?_eq_none d,Array.getElem?_eq_getElem k] at this;cases this
 | exr _ refs p h h1 h2=>
  have l:refs.map η'=refs.map η:=List.map_congr_left fun i g=>hη i g
  refine .exr _ refs p (by rw [l];exact h1 w w' X X' hk hb h) (by rw [l];exact h1) fun b a=>?_
  have:=hb b a
  have k:=h2 b a;rcases Nat.lt_or_ge b w'.heap.size with d|d
  .exact d
  .rw [Array.getElem?_eq_none d,Array.getElem?_eq_getElem k] at this;cases this
theorem ORep.lt{v:Value}{o:Obj}(h:ORep w X η C v o){b:Nat}(hb:b ∈ W2 v):b<w.heap.size:=by
 cases h with
 | box b' ro c e cs hh hc=>simp [W2] at hb;subst hb;exact y7 hh
 | nil ad es f=>cases ad <;> simp [W2] at hb
 | arr b' n cap es c e f hh hs hn hm hc hl he=>simp [W2] at hb;obtain ⟨_,rfl⟩:=hb;exact y7 hh
 | ext _ p h h1 h2=>exact h2 b hb
 | exr _ refs p h h1 h2=>exact h2 b hb
end
def Own(s:Sto)(η:Nat->Value)(b:Nat):Prop:=∃ i o,s i=some o/\b ∈ W2 (η i)
def XS(C:Ctx)(s:Sto)(η:Nat->Value)(b:Nat):Prop:=(C.X b/\¬ C.D b)\/Own s η b
structure Ctx.Ok (C:Ctx):Prop where
 md:∀ b,C.M b->C.D b
 dx:∀ b,C.D b->C.X b
 lt:∀ b,C.X b->b<C.w0.heap.size
structure Conc (C:Ctx) (nt:Nat) (R:Nat->Prop) (η:Nat->Value) (e:Env) (s:Sto) (a:Act) (w:World):Prop where
 ok:C.Ok
 df:a.defers=[]
 sz:a.tmps.size=nt
 ev:∀ t,ARep w (XS C s η) η C (a.tmps.getD t undef) (e t)
 er:∀ t i,i ∈ (e t).refs->R i
 st:∀ i o,s i=some o->ORep w (XS C s η) η C (η i) o
 sr:∀ i o,s i=some o->R i/\∀ j ∈ o.refs,R j
 ds:∀ i j b,s i≠none->s j≠none->b ∈ W2 (η i)->b ∈ W2 (η j)->i=j
 ow:∀ i o b,s i=some o->b ∈ W2 (η i)->(o.ro=true/\C.D b)\/C.M b\/C.w0.heap.size<=b
 fr:Stp C.M C.w0 w
 pn:∀ i v,C.pin i=some v->η i=v/\R i
end
section
structure SR where
 v:AVal:=.any
 del:List Nat:=[]
 upd:Option (Nat×Obj):=none
 new:Option Obj:=none
 cond:Prop:=True
def SR.env(r:SR)(d:Option Tmp)(e:Env):Env:=
 match d with
 | some d=>fun t=>if t=d then r.v else e t
 | none=>e
def SR.sto(r:SR)(d:Option Tmp)(s:Sto):Sto:=fun i=>
 match r.new,d with
 | some o,some d=>if i=d then some o else
  match r.upd with
  | some (k,o')=>if i=k then some o' else if r.del.contains i then none else s i
  | none=>if r.del.contains i then none else s i
 | _,_=>
  match r.upd with
  | some (k,o')=>if i=k then some o' else if r.del.contains i then none else s i
  | none=>if r.del.contains i then none else s i
def SR.eta(r:SR)(d:Option Tmp)(v:Value)(η:Nat->Value):Nat->Value:=fun i=>
 match r.new,d with
 | some _,some d=>if i=d then v else η i
 | _,_=>η i
def SR.rng(r:SR)(d:Option Tmp)(R:Nat->Prop):Nat->Prop:=fun i=>R i\/(r.new≠none/\d=some i)
theorem Y2O(a:Act)(d:Option Tmp)(v:Value)(t:Nat)(hd:∀ x,d=some x->x<a.tmps.size):
  (a.put d v).tmps.getD t undef=if d=some t then v else a.tmps.getD t undef:=by
 cases d with
 | none=>simp [Act.put]
 | some x=>
  have b:=hd x rfl;simp only [Act.put,Option.some.injEq]
  by_cases h:x=t
  .subst h;simp [b]
  .simp [h]
theorem Y5W(a:Act)(d:Option Tmp)(v:Value):(a.put d v).tmps.size=a.tmps.size:=by cases d <;> simp [Act.put]
theorem Y2P(a:Act)(d:Option Tmp)(v:Value):(a.put d v).defers=a.defers:=by cases d <;> rfl
section
variable {C:Ctx} {nt:Nat} {R:Nat->Prop} {η:Nat->Value} {e:Env} {s:Sto} {a:Act} {w:World}
theorem Conc.lt(h:Conc C nt R η e s a w){b:Nat}(hb:Own s η b):b<w.heap.size:=by
 obtain ⟨i,o,c,hb⟩:=hb;exact (h.st i o c).lt hb
theorem Y0e(r:SR)(d:Option Tmp):∀ i o,r.sto d s i=some o->(r.new=some o/\d=some i)\/(r.upd=some (i,o)/\(r.new=none\/d≠some i))\/(s i=some o/\i ∉ r.del/\(∀ o',r.upd≠some (i,o'))/\(r.new=none\/d≠some i)):=by
 intro i o g;have b:(match r.upd with|some (k,o')=>if i=k then some o' else if r.del.contains i then none else s i|none=>if r.del.contains i then none else s i)=some o ->
   r.upd=some (i,o)\/(s i=some o/\i ∉ r.del/\∀ o',r.upd≠some (i,o')):=by
  intro f
  cases hu:r.upd with
  | none=>
   simp only [hu] at f;split at f
   .cases f
   .rename_i h;exact .inr ⟨f,by simpa using h,by simp⟩
  | some ko=>
   obtain ⟨k,o'⟩:=ko;simp only [hu] at f
   split at f
   .rename_i n;cases f;subst n;exact .inl rfl
   .rename_i n
    split at f
    .cases f
    .rename_i h;exact .inr ⟨f,by simpa using h,fun q p=>by cases p;exact n rfl⟩
 unfold SR.sto at g
 cases hn:r.new with
 | none=>
  simp only [hn] at g;rcases b g with c|⟨c,l,j⟩
  .exact .inr (.inl ⟨c,.inl rfl⟩)
  .exact .inr (.inr ⟨c,l,j,.inl rfl⟩)
 | some on=>
  cases hdd:d with
  | none=>
   simp only [hn,hdd] at g;rcases b g with c|⟨c,l,j⟩
   .exact .inr (.inl ⟨c,.inr (by simp)⟩)
   .exact .inr (.inr ⟨c,l,j,.inr (by simp)⟩)
  | some dd=>
   simp only [hn,hdd] at g;split at g
   .rename_i m;cases g;subst m;exact .inl ⟨rfl,rfl⟩
   .rename_i m
    rcases b g with c|⟨c,l,j⟩
    .exact .inr (.inl ⟨c,.inr fun h=>m (Option.some.inj h).symm⟩)
    .exact .inr (.inr ⟨c,l,j,.inr fun h=>m (Option.some.inj h).symm⟩)
theorem Y1T(r:SR)(d:Option Tmp)(v:Value):∀ i,(r.new=none\/d≠some i)->r.eta d v η i=η i:=by
 intro i b;unfold SR.eta
 cases hn:r.new with
 | none=>rfl
 | some on=>
  cases hdd:d with
  | none=>rfl
  | some dd=>
   rcases b with b|b
   .rw [hn] at b;cases b
   .simp only []
    rw [if_neg];intro c;subst c;exact b hdd
theorem Y9Q(r:SR)(d:Option Tmp)(v:Value)(N:Nat->Prop)(hnew:∀ o dd,r.new=some o->d=some dd->∀ b,b ∈ W2 v->N b\/Own s η b)(hupd:∀ k o,r.upd=some (k,o)->s k≠none):∀ b,Own (r.sto d s) (r.eta d v η) b->N b\/Own s η b:=by
 rintro b ⟨i,o,j,c⟩;rcases Y0e r d i o j with ⟨h,f⟩|⟨m,g⟩|⟨p,_,_,g⟩
 .rw [show r.eta d v η i=v from by simp [SR.eta,h,f]] at c
  exact hnew o i h f b c
 .rw [Y1T r d v i g] at c
  obtain ⟨l,n⟩:=Option.ne_none_iff_exists'.1 (hupd i o m);exact .inr ⟨i,l,n,c⟩
 .rw [Y1T r d v i g] at c
  exact .inr ⟨i,o,p,c⟩
theorem Q5X{w w' : World}(r:SR)(d:Option Tmp)(v:Value)(Z:Nat->Prop)(hstep:Stp Z w w')(hZ:∀ b,Z b->Own s η b)(hnew:∀ o dd,r.new=some o->d=some dd->∀ b,b ∈ W2 v->w.heap.size<=b\/Own s η b)(hupd:∀ k o,r.upd=some (k,o)->s k≠none):Q7o w w' (XS C s η) (XS C (r.sto d s) (r.eta d v η)):=by
 intro b j h;have c:¬ Own s η b:=fun f=>h (.inr f)
 refine ⟨hstep.block b j fun l=>c (hZ b l),fun g=>?_⟩;rcases g with f|f
 .exact h (.inl f)
 .rcases Y9Q r d v _ hnew hupd b f with i|i
  .omega
  .exact c i
theorem W3A{R:Nat->Prop}(r:SR)(d:Option Tmp)(v:Value)(hR:∀ o dd,r.new=some o->d=some dd->¬ R dd):∀ i,R i->r.eta d v η i=η i:=by
 intro i c;refine Y1T r d v i ?_
 cases hn:r.new with
 | none=>exact .inl rfl
 | some o=>right;intro b;exact hR o i hn b c
theorem Conc.stepG(h:Conc C nt R η e s a w)(d:Option Tmp)(hd:∀ x,d=some x->x<nt)(r:SR)(v u:Value)(w' : World)(Z:Nat->Prop)(hstep:Stp Z w w')(hZ:∀ b,Z b->(∃ i,(i ∈ r.del\/∃ o,r.upd=some (i,o))/\s i≠none/\b ∈ W2 (η i))/\(C.M b\/C.w0.heap.size<=b))(hnew:∀ o dd,r.new=some o->d=some dd->¬ R dd/\o.ro=false/\(∀ j ∈ o.refs,R j)/\ORep w' (XS C (r.sto d s) (r.eta d u η)) (r.eta d u η) C u o /\
   (∀ b,b ∈ W2 u->w.heap.size<=b\/((∃ i ∈ r.del,s i≠none/\b ∈ W2 (η i))/\(C.M b\/C.w0.heap.size<=b))))(hupd:∀ k o,r.upd=some (k,o)->(∃ o0,s k=some o0/\o0.ro=false)/\o.ro=false/\k ∉ r.del/\(∀ j ∈ o.refs,R j)/\ORep w' (XS C (r.sto d s) (r.eta d u η)) (r.eta d u η) C (η k) o)(hv:d≠none->ARep w' (XS C (r.sto d s) (r.eta d u η)) (r.eta d u η) C v r.v/\∀ j ∈ r.v.refs,r.rng d R j):
  Conc C nt (r.rng d R) (r.eta d u η) (r.env d e) (r.sto d s) (a.put d v) w':=by
 have V:=Y0e (s:=s) r d;have c:=Y1T (η:=η) r d u
 have l:∀ o i,r.new=some o->d=some i->r.eta d u η i=u:=by
  intro o i N h2;simp [SR.eta,N,h2]
 have A:∀ i,R i->r.eta d u η i=η i:=by
  intro i g;refine c i ?_
  cases n:r.new with
  | none=>exact .inl rfl
  | some o=>right;intro f;exact (hnew o i n f).1 g
 have W:∀ b,Own (r.sto d s) (r.eta d u η) b->w.heap.size<=b\/Own s η b:=by
  rintro b ⟨i,o,g,m⟩;rcases V i o g with ⟨n,f⟩|⟨K,q⟩|⟨D,_,_,q⟩
  .rw [l o i n f] at m
   rcases (hnew o i n f).2.2.2.2 b m with Q|⟨⟨j,_,p,S⟩,_⟩
   .exact .inl Q
   .obtain ⟨L,z⟩:=Option.ne_none_iff_exists'.1 p
    exact .inr ⟨j,L,z,S⟩
  .rw [c i q] at m
   obtain ⟨o0,T,_⟩:=(hupd i o K).1;exact .inr ⟨i,o0,T,m⟩
  .rw [c i q] at m
   exact .inr ⟨i,o,D,m⟩
 have I:Q7o w w' (XS C s η) (XS C (r.sto d s) (r.eta d u η)):=by
  intro b m hX;have a0:¬ Own s η b:=fun G=>hX (.inr G)
  refine ⟨hstep.block b m fun Y=>?_,fun b4=>?_⟩
  .obtain ⟨⟨i,_,g,a4⟩,_⟩:=hZ b Y
   obtain ⟨P,J⟩:=Option.ne_none_iff_exists'.1 g;exact a0 ⟨i,P,J,a4⟩
  .rcases b4 with G|G
   .exact hX (.inl G)
   .rcases W b G with Q|Q
    .omega
    .exact a0 Q
 refine ⟨h.ok,by rw [Y2P];exact h.df,by rw [Y5W];exact h.sz,?_,?_,?_,?_,?_,?_,?_,fun i u' g=>⟨(A i (h.pn i u' g).2).trans (h.pn i u' g).1,.inl (h.pn i u' g).2⟩⟩
 .intro t
  rw [Y2O a d v t (by rw [h.sz];exact hd)]
  by_cases ht:d=some t
  .subst ht
   simp only [if_true,SR.env];exact (hv (by simp)).1
  .rw [if_neg ht]
   have:r.env d e t=e t:=by
    unfold SR.env
    cases d with
    | none=>rfl
    | some x=>simp only [];rw [if_neg];intro G;subst G;exact ht rfl
   rw [this];exact (h.ev t).mono I fun i g=>A i (h.er t i g)
 .intro t i g
  by_cases ht:d=some t
  .subst ht
   simp only [SR.env,if_true] at g;exact (hv (by simp)).2 i g
  .have:r.env d e t=e t:=by
    unfold SR.env
    cases d with
    | none=>rfl
    | some x=>simp only [];rw [if_neg];intro G;subst G;exact ht rfl
   rw [this] at g;exact .inl (h.er t i g)
 .intro i o g
  rcases V i o g with ⟨n,f⟩|⟨K,q⟩|⟨D,y,O,q⟩
  .rw [l o i n f];exact (hnew o i n f).2.2.2.1
  .rw [c i q];exact (hupd i o K).2.2.2.2
  .rw [c i q]
   refine (h.st i o D).mono I (fun j p=>A j ((h.sr i o D).2 j p)) fun b m=>?_
   refine hstep.block b ((h.st i o D).lt m) fun Y=>?_
   obtain ⟨⟨j,p,a9,S⟩,_⟩:=hZ b Y;have a6:i=j:=h.ds i j b (by rw [D];simp) a9 m S
   subst a6;rcases p with p|⟨U,a8⟩
   .exact y p
   .exact O U a8
 .intro i o g
  rcases V i o g with ⟨n,f⟩|⟨K,q⟩|⟨D,y,O,q⟩
  .exact ⟨.inr ⟨by rw [n];simp,f⟩,fun j p=>.inl ((hnew o i n f).2.2.1 j p)⟩
  .obtain ⟨o0,T,_⟩:=(hupd i o K).1
   exact ⟨.inl (h.sr i o0 T).1,fun j p=>.inl ((hupd i o K).2.2.2.1 j p)⟩
  .exact ⟨.inl (h.sr i o D).1,fun j p=>.inl ((h.sr i o D).2 j p)⟩
 .
  have F:∀ i o,r.sto d s i=some o->¬ (r.new=some o/\d=some i)->s i≠none/\i ∉ r.del/\r.eta d u η i=η i:=by
   intro i o g n;rcases V i o g with G|⟨K,q⟩|⟨D,y,O,q⟩
   .exact absurd G n
   .obtain ⟨o0,T,_⟩:=(hupd i o K).1
    exact ⟨by rw [T];simp,(hupd i o K).2.2.1,c i q⟩
   .exact ⟨by rw [D];simp,y,c i q⟩
  have H:∀ i o j U,r.sto d s j=some U -> (r.new=some o/\d=some i)->¬ (r.new=some U /\ d=some j)->∀ b,b ∈ W2 u->b ∈ W2 (η j)->False:=by
   intro i o j U p n b5 b m a2;obtain ⟨N,h2,_⟩:=F j U p b5
   obtain ⟨L,z⟩:=Option.ne_none_iff_exists'.1 N;rcases (hnew o i n.1 n.2).2.2.2.2 b m with Q|⟨⟨k,hk,b0,b6⟩,_⟩
   .have:=(h.st j L z).lt a2;omega
   .have:j=k:=h.ds j k b N b0 a2 b6
    subst this;exact h2 hk
  intro i j b g p B E;obtain ⟨P,J⟩:=Option.ne_none_iff_exists'.1 g
  obtain ⟨L,z⟩:=Option.ne_none_iff_exists'.1 p
  by_cases ni:r.new=some P/\d=some i
  .by_cases nj:r.new=some L/\d=some j
   .have:=ni.2.symm.trans nj.2;simpa using this
   .exfalso
    rw [l P i ni.1 ni.2] at B;rw [(F j L z nj).2.2] at E
    exact H i P j L z ni nj b B E
  .by_cases nj:r.new=some L/\d=some j
   .exfalso
    rw [l L j nj.1 nj.2] at E;rw [(F i P J ni).2.2] at B
    exact H j L i P J nj ni b E B
   .obtain ⟨a1,_,a3⟩:=F i P J ni
    obtain ⟨b1,_,b3⟩:=F j L z nj;rw [a3] at B;rw [b3] at E
    exact h.ds i j b a1 b1 B E
 .intro i o b g m
  rcases V i o g with ⟨n,f⟩|⟨K,q⟩|⟨D,y,O,q⟩
  .rw [l o i n f] at m
   rcases (hnew o i n f).2.2.2.2 b m with Q|⟨_,hm⟩
   .exact .inr (.inr (Nat.le_trans h.fr.size Q))
   .exact .inr hm
  .rw [c i q] at m
   obtain ⟨o0,T,a5⟩:=(hupd i o K).1;rcases h.ow i o0 b T m with ⟨N,_⟩|N
   .rw [a5] at N;cases N
   .exact .inr N
  .rw [c i q] at m
   exact h.ow i o b D m
 .refine h.fr.trans (hstep.mono fun b _ Y=>?_)
  exact (hZ b Y).2
theorem Conc.step(h:Conc C nt R η e s a w)(d:Option Tmp)(hd:∀ x,d=some x->x<nt)(r:SR)(v:Value)(w' : World)(Z:Nat->Prop)(hstep:Stp Z w w')(hZ:∀ b,Z b->(∃ i,(i ∈ r.del\/∃ o,r.upd=some (i,o))/\s i≠none/\b ∈ W2 (η i))/\(C.M b\/C.w0.heap.size<=b))(hnew:∀ o dd,r.new=some o->d=some dd->¬ R dd/\o.ro=false/\(∀ j ∈ o.refs,R j)/\ORep w' (XS C (r.sto d s) (r.eta d v η)) (r.eta d v η) C v o /\
   (∀ b,b ∈ W2 v->w.heap.size<=b\/((∃ i ∈ r.del,s i≠none/\b ∈ W2 (η i))/\(C.M b\/C.w0.heap.size<=b))))(hupd:∀ k o,r.upd=some (k,o)->(∃ o0,s k=some o0/\o0.ro=false)/\o.ro=false/\k ∉ r.del/\(∀ j ∈ o.refs,R j)/\ORep w' (XS C (r.sto d s) (r.eta d v η)) (r.eta d v η) C (η k) o)(hv:d≠none->ARep w' (XS C (r.sto d s) (r.eta d v η)) (r.eta d v η) C v r.v/\∀ j ∈ r.v.refs,r.rng d R j):
  Conc C nt (r.rng d R) (r.eta d v η) (r.env d e) (r.sto d s) (a.put d v) w' :=
 h.stepG d hd r v v w' Z hstep hZ hnew hupd hv
theorem Conc.val(h:Conc C nt R η e s a w)(d:Option Tmp)(hd:∀ x,d=some x->x<nt)(x:AVal)(v:Value)(hv:d≠none->ARep w (XS C s η) η C v x/\∀ j ∈ x.refs,R j):
  Conc C nt R η (SR.env { v:=x } d e) s (a.put d v) w:=by
 have l:SR.sto { v:=x } d s=s:=by funext i;simp [SR.sto]
 have f:SR.eta { v:=x } d v η=η:=by funext i;simp [SR.eta]
 have g:SR.rng { v:=x } d R=R:=by funext i;simp [SR.rng]
 have:=h.step d hd { v:=x } v w (fun _=>False) (Stp.refl _ _) (fun b m=>m.elim) (fun o dd c=>by cases c) (fun k o c=>by cases c)
  (fun n=>by rw [l,f,g];exact hv n)
 rwa [l,f,g] at this
theorem Conc.drew(h:Conc C nt R η e s a w):Conc C nt R η e s a { w with drawn:=w.drawn+1 }:=by
 have c:Q7o w { w with drawn:=w.drawn+1 } (XS C s η) (XS C s η):=fun b _ d=>⟨rfl,d⟩
 exact ⟨h.ok,h.df,h.sz,fun t=>(h.ev t).mono c fun _ _=>rfl,h.er,fun i o f=>(h.st i o f).mono c (fun _ _=>rfl) fun _ _=>rfl,h.sr,h.ds,h.ow,
  ⟨h.fr.os,h.fr.tape,h.fr.output,h.fr.size,h.fr.block,Nat.le_succ_of_le h.fr.dr⟩,h.pn⟩
end
end
inductive TK where
 | int (k:IntKind)
 | bool
 | str
 | slice (e:Nat)
 | struct (fs:List (Nat×Nat))
 | array (n e:Nat)
 | other
def TK.agg:TK->Bool
 | .struct _=>true
 | .array _ _=>true
 | _=>false
structure TI where
 kind:TK
 size:Nat
 bytes:Nat
 zero:List CV
abbrev Lay:=Nat->Option TI
def I64(n:Int):Prop:= -9223372036854775808<=n/\n<=9223372036854775807
def LIM:Nat:=4294967296
def vi(n:Int):AVal:=.v (.c (.d (.int .i64 n)))
def vb(b:Bool):AVal:=.v (.c (.d (.bool b)))
def Y5t:Value->AVal
 | .int k n=>.v (.c (.d (.int k n)))
 | .bool b=>.v (.c (.d (.bool b)))
 | .string s=>.v (.c (.d (.str s)))
 | .slice none 0 0=>.v (.c (.fl 0 fun _=>[]))
 | _=>.any
def aev(e:Env):Operand->AVal
 | .tmp t=>e t
 | .const v=>Y5t v
 | .func f=>.v (.c (.clo f []))
 | .global _=>.any
def Z8R:AVal->Option (List CV)
 | .v (.c x)=>some [x]
 | .v (.g xs)=>some xs
 | _=>none
def mkT(agg:Bool)(cs:List CV):Option AVal:=
 match agg with
 | true=>some (.v (.g cs))
 | false=>match cs with
  | [x]=>some (.v (.c x))
  | _=>none
def toD:CV->Option DVal
 | .d x=>some x
 | .fl n f=>some (.lst n f)
 | _=>none
def Y2g:List CV->Option (List DVal)
 | []=>some []
 | x::xs=>match toD x,Y2g xs with
  | some a,some b=>some (a::b)
  | _,_=>none
def rd(s:Sto)(n:Nat):AVal->Option (List CV×Prop)
 | .v (.c (.ptr id off))=>match s id with
  | some (.box _ cs)=>if off+n<=cs.length then some ((cs.drop off).take n,True) else none
  | _=>none
 | .v (.c (.elm cs))=>if n<=cs.length then some ((cs.take n).map .d,True) else none
 | .v (.c (.pte id es idx off))=>match s id with
  | some (.arr es' k f)=>if es=es' /\ off+n<=es/\(f idx).length=es then some ((((f idx).drop off).take n).map .d,idx<k) else none
  | _=>none
 | _=>none
def Q4E{α:Type}(cs:List α)(off:Nat)(xs:List α):List α:=cs.take off++(xs++cs.drop (off+xs.length))
def wr(s:Sto)(xs:List CV):AVal->Option SR
 | .v (.c (.ptr id off))=>match s id with
  | some (.box false cs)=>if off+xs.length<=cs.length then some { upd:=some (id,.box false (Q4E cs off xs)) } else none
  | _=>none
 | .v (.c (.pte id es idx off))=>match s id with
  | some (.arr es' k f)=>match Y2g xs with
   | some ds=>if es=es' /\ off+ds.length<=es/\(f idx).length=es then
     some { upd:=some (id,.arr es k fun j=>if j=idx then Q4E (f idx) off ds else f j),cond:=idx<k } else none
   | none=>none
  | _=>none
 | _=>none
def Z8l(m:Bool)(k:IntKind)(n:Int)(c:Prop):SR:=
 match k,m with
 | .i64,false=> { v:=vi n,cond:=I64 n/\c }
 | k,_=> { v:=.v (.c (.d (.int k (k.wrap n)))),cond:=c }
def Q5K(k:IntKind)(x y:Int):Int:=k.wrap (BitVec.ofInt k.bits x &&& BitVec.ofInt k.bits y).toNat
def bor(k:IntKind)(x y:Int):Int:=k.wrap (BitVec.ofInt k.bits x ||| BitVec.ofInt k.bits y).toNat
def W3l(k:IntKind)(x y:Int):Int:=k.wrap (BitVec.ofInt k.bits x ^^^ BitVec.ofInt k.bits y).toNat
def Y7H(m:Bool)(op:BinOp)(x y:AVal):Option SR:=
 match x,y with
 | .v (.c (.d (.int k a))),.v (.c (.d (.int k' b)))=>
  match op with
  | .shl=>some (Z8l m k (a*2 ^ (min b.toNat k.bits)) (0<=b))
  | .shr=>some { v:=.v (.c (.d (.int k (a.fdiv (2 ^ (min b.toNat k.bits)))))),cond:=0<=b }
  | op=>if k=k' then match op with
   | .add=>some (Z8l m k (a+b) True)
   | .sub=>some (Z8l m k (a-b) True)
   | .mul=>some (Z8l m k (a*b) True)
   | .quo=>some (Z8l m k (a.tdiv b) (b≠0))
   | .rem=>some { v:=.v (.c (.d (.int k (a.tmod b)))),cond:=b≠0 }
   | .and=>some { v:=.v (.c (.d (.int k (Q5K k a b)))) }
   | .or=>some { v:=.v (.c (.d (.int k (bor k a b)))) }
   | .xor=>some { v:=.v (.c (.d (.int k (W3l k a b)))) }
   | .eql=>some { v:=vb (a==b) }
   | .neq=>some { v:=vb (a != b) }
   | .lss=>some { v:=vb (a<b) }
   | .leq=>some { v:=vb (a<=b) }
   | .gtr=>some { v:=vb (b<a) }
   | .geq=>some { v:=vb (b<=a) }
   | _=>none else none
 | _,_=>none
def aun(m:Bool)(op:UnOp)(x:AVal):Option SR:=
 match op,x with
 | .not,.v (.c (.d (.bool b)))=>some { v:=vb (!b) }
 | .neg,.v (.c (.d (.int k n)))=>some (Z8l m k (0-n) True)
 | _,_=>none
def Q2b(a b:Int):Int:=if b<a then b else a
def G2(a b:Int):Int:=if a<b then b else a
def asI:AVal->Option Int
 | .v (.c (.d (.int _ n)))=>some n
 | _=>none
def asL(s:Sto):AVal->Option (Nat×(Nat->List DVal))
 | .v (.c (.d (.lst n f)))=>some (n,f)
 | .v (.c (.fl n f))=>some (n,f)
 | .v (.c (.own id))=>match s id with
  | some (.arr _ n f)=>some (n,f)
  | _=>none
 | .v (.c (.sub id es lo n))=>match s id with
  | some (.arr es' _ f)=>if es=es' then some (n,fun j=>f (lo+j)) else none
  | _=>none
 | _=>none
def Q5L(n:Nat)(f g:Nat->List DVal):Nat->List DVal:=fun i=>if i<n then f i else g (i-n)
def Z9S(s:Sto)(es m:Nat):AVal->Option (List Nat×Nat×(Nat->List DVal)×Prop)
 | .v (.c (.own id))=>match s id with
  | some (.arr es' n f)=>if es=es' then some ([id],n,f,True) else none
  | _=>none
 | .v (.c (.fl n f))=>if n=0\/0<m then some ([],n,f,∀ j,j<n->(f j).length=es) else none
 | _=>none
def Z8g(pl:Nat->Option (Nat×Nat))(cells:List CV):List (Nat×AVal)->Option (List CV)
 | []=>some cells
 | (i,x)::rest=>match pl i,Z8R x with
  | some (off,size),some xs=>if xs.length=size/\off+size<=cells.length then Z8g pl (Q4E cells off xs) rest else none
  | _,_=>none
def Z7n(L:Lay):List (Nat×Nat)->Option (List (Nat×Nat))
 | []=>some []
 | (off,t)::r=>match L t,Z7n L r with
  | some ti,some l=>some ((off,ti.size)::l)
  | _,_=>none
def Y2y{α:Type}(n:Nat)(xs:List α):List α:=match n with|0=>[] | n+1=>xs++Y2y n xs
def Z0h(L:Lay)(s:Sto)(b:Builtin)(tys:Array TypeId)(xs:List AVal):Option SR:=
 match b,xs with
 | .len,[x]=>match tys.toList with
  | [t]=>match L t with
   | some { kind:=.slice _,.. }=>match asL s x with
    | some (n,_)=>some { v:=vi n }
    | none=>none
   | some { kind:=.array n _,.. }=>some { v:=vi n }
   | some { kind:=.str,.. }=>match x with
    | .v (.c (.d (.str b)))=>some { v:=vi b.size }
    | _=>none
   | _=>none
  | _=>none
 | .min,[.v (.c (.d (.int k a))),.v (.c (.d (.int _ b)))]=>some { v:=.v (.c (.d (.int k (Q2b a b)))) }
 | .max,[.v (.c (.d (.int k a))),.v (.c (.d (.int _ b)))]=>some { v:=.v (.c (.d (.int k (G2 a b)))) }
 | .append,[x,y]=>match tys.toList with
  | [t,t']=>if t=t' then match L t with
   | some { kind:=.slice el,.. }=>match L el with
    | some te=>match asL s y with
     | some (k,g)=>match Z9S s te.size k x with
      | some (del,n,f,c)=>if 0<te.size/\te.bytes<=8192/\te.zero.length=te.size then
        some { v:=.any,del:=del,new:=some (.arr te.size (n+k) (Q5L n f g)),cond:=n+k<=LIM/\(∀ j,j<k->(g j).length=te.size)/\c } else none
      | none=>none
     | none=>none
    | none=>none
   | _=>none else none
  | _=>none
 | _,_=>none
def sl(n:Nat)(f:Nat->List DVal)(lo hi:Option Int):(Nat×(Nat->List DVal))×Prop:=
 match lo,hi with
 | none,none=>((n,f),True)
 | some l,none=>((n-l.toNat,fun i=>f (l.toNat+i)),0<=l/\l<=n)
 | none,some h=>((h.toNat,f),0<=h/\h<=n)
 | some l,some h=>((h.toNat-l.toNat,fun i=>f (l.toNat+i)),0<=l/\l<=h/\h<=n)
def oI(e:Env):Option Operand->Option (Option Int)
 | none=>some none
 | some x=>match asI (aev e x) with
  | some n=>some (some n)
  | none=>none
def Q9s(L:Lay)(m:Bool)(e:Env)(s:Sto)(o:Oper):Option SR:=
 match o.op with
 | .move x=>some { v:=aev e x }
 | .assign x=>match m,aev e x,o.dst with
  | false,x,_=>some { v:=x }
  | true,.v (.c (.fl 0 f)),some d=>match L o.type with
   | some { kind:=.slice el,.. }=>match L el with
    | some te=>some { v:=.v (.c (.own d)),new:=some (.arr te.size 0 f) }
    | none=>none
   | _=>none
  | _,_,_=>none
 | .pick c x y=>match aev e c with
  | .v (.c (.d (.bool true)))=>some { v:=aev e x }
  | .v (.c (.d (.bool false)))=>some { v:=aev e y }
  | _=>none
 | .alloc t=>match L t,o.dst with
  | some ti,some d=>some { v:=.v (.c (.ptr d 0)),new:=some (.box false ti.zero) }
  | _,_=>none
 | .box _ x=>match Z8R (aev e x),o.dst with
  | some xs,some d=>some { v:=.v (.c (.ptr d 0)),new:=some (.box false xs) }
  | _,_=>none
 | .build t ps=>match L t with
  | some { kind:=.struct fs,zero:=z,.. }=>match Z7n L fs with
   | some pl=>match Z8g (fun i=>pl[i]?) z (ps.toList.map fun p=>(p.1,aev e p.2)) with
    | some cs=>some { v:=.v (.g cs) }
    | none=>none
   | none=>none
  | some { kind:=.array _ el,zero:=z,.. }=>match L el with
   | some te=>match Z8g (fun i=>some (i*te.size,te.size)) z (ps.toList.map fun p=>(p.1,aev e p.2)) with
    | some cs=>some { v:=.v (.g cs) }
    | none=>none
   | none=>none
  | _=>none
 | .buildSlice t len ps=>match L t with
  | some { kind:=.slice el,.. }=>match L el with
   | some te=>if len*te.size<=16777216/\te.zero.length=te.size/\0<te.size then
     match Z8g (fun i=>some (i*te.size,te.size)) (Y2y len te.zero) (ps.toList.map fun p=>(p.1,aev e p.2)) with
     | some cs=>match Y2g cs with
      | some ds=>match m,o.dst with
       | false,_=>some { v:=.v (.c (.d (.lst len fun i=>(ds.drop (i*te.size)).take te.size))) }
       | true,some d=>some { v:=.v (.c (.own d)),new:=some (.arr te.size len fun i=>(ds.drop (i*te.size)).take te.size) }
       | _,_=>none
      | none=>none
     | none=>none else none
   | none=>none
  | _=>none
 | .load t x=>match L t with
  | some ti=>match rd s ti.size (aev e x) with
   | some (cs,c)=>match mkT ti.kind.agg cs with
    | some v=>some { v:=v,cond:=c }
    | none=>none
   | none=>none
  | none=>none
 | .store t x y=>match L t,Z8R (aev e y) with
  | some ti,some xs=>if xs.length=ti.size then wr s xs (aev e x) else none
  | _,_=>none
 | .nilCheck x=>match aev e x with
  | .v (.c (.ptr id off))=>some { v:=.v (.c (.ptr id off)) }
  | .v (.c (.pte id es idx off))=>some { v:=.v (.c (.pte id es idx off)) }
  | .v (.c (.elm cs))=>some { v:=.v (.c (.elm cs)) }
  | _=>none
 | .binOp op _ x y _=>Y7H m op (aev e x) (aev e y)
 | .unOp op _ x=>aun m op (aev e x)
 | .convert src dst x=>match L src,L dst,aev e x with
  | some { kind:=.int _,.. },some { kind:=.int k,.. },.v (.c (.d (.int _ n)))=>some (Z8l m k n True)
  | some { kind:=.str,.. },some { kind:=.str,.. },.v (.c (.d (.str b)))=>some { v:=.v (.c (.d (.str b))) }
  | _,_,_=>none
 | .makeFunc (.func f) first caps=>if first.size=0 then match cloIds (caps.toList.map (aev e)) with
   | some ids=>some { v:=.v (.c (.clo f ids)) }
   | none=>none else none
 | .slice t x lo hi none=>match L t with
  | some { kind:=.slice el,.. }=>match L el with
   | some te=>match m,aev e x,oI e lo,oI e hi with
    | false,x,some lo,some hi=>match asF x with
     | some (n,f)=>some { v:=.v (.c (.d (.lst (sl n f lo hi).1.1 (sl n f lo hi).1.2))),cond:=(sl n f lo hi).2/\∀ j,j<n->(f j).length=te.size }
     | none=>none
    | true,.v (.c (.own id)),some none,some (some h)=>match s id,o.dst with
     | some (.arr es n f),some d=>some { v:=.v (.c (.own d)),del:=[id],new:=some (.arr es h.toNat f),cond:=0<=h/\h<=n }
     | _,_=>none
    | _,_,_,_=>none
   | none=>none
  | _=>none
 | .slice t x none (some h) (some mx)=>match L t with
  | some { kind:=.slice el,.. }=>match L el,asF (aev e x),asI (aev e h),asI (aev e mx) with
   | some te,some (n,f),some h,some mx=>if h=mx/\0<h then
     some { v:=.v (.c (.fl h.toNat f)),cond:=h<=n/\∀ j,j<n->(f j).length=te.size } else none
   | _,_,_,_=>none
  | _=>none
 | .fieldAddr t x k=>match L t with
  | some { kind:=.struct fs,.. }=>match fs[k]? with
   | some (off,ft)=>match L ft with
    | some tf=>if tf.size=0 then none else match aev e x with
     | .v (.c (.ptr id o))=>some { v:=.v (.c (.ptr id (o+off))) }
     | .v (.c (.pte id es idx o))=>some { v:=.v (.c (.pte id es idx (o+off))) }
     | .v (.c (.elm cs))=>if off<=cs.length then some { v:=.v (.c (.elm (cs.drop off))) } else none
     | _=>none
    | none=>none
   | none=>none
  | _=>none
 | .field t x k=>match L t with
  | some { kind:=.struct fs,.. }=>match fs[k]?,aev e x with
   | some (off,ft),.v (.g cs)=>match L ft with
    | some tf=>if off+tf.size<=cs.length then match mkT tf.kind.agg ((cs.drop off).take tf.size) with
      | some v=>some { v:=v }
      | none=>none else none
    | none=>none
   | _,_=>none
  | _=>none
 | .indexAddr t x i=>match L t,asI (aev e i) with
  | some { kind:=.slice el,.. },some i=>match L el with
   | some te=>match aev e x with
    | .v (.c (.own id))=>match s id with
     | some (.arr es n _)=>if es=te.size then some { v:=.v (.c (.pte id es i.toNat 0)),cond:=0<=i/\i<n } else none
     | _=>none
    | x=>match asF x with
     | some (n,f)=>if (f i.toNat).length=te.size then some { v:=.v (.c (.elm (f i.toNat))),cond:=0<=i/\i<n } else none
     | none=>none
   | none=>none
  | some { kind:=.array n el,.. },some i=>match L el,aev e x with
   | some te,.v (.c (.ptr id off))=>if 0<=i/\i<n then some { v:=.v (.c (.ptr id (off+i.toNat*te.size))) } else none
   | _,_=>none
  | _,_=>none
 | .index t x i=>match L t,asI (aev e i),aev e x with
  | some { kind:=.array n el,.. },some i,.v (.g cs)=>match L el with
   | some te=>if 0<=i/\i<n/\i.toNat*te.size+te.size<=cs.length then match mkT te.kind.agg ((cs.drop (i.toNat*te.size)).take te.size) with
     | some v=>some { v:=v }
     | none=>none else none
   | none=>none
  | _,_,_=>none
 | .makeSlice t l c=>match L t,asI (aev e l),asI (aev e c),o.dst with
  | some { kind:=.slice el,.. },some l,some c,some d=>match L el with
   | some te=>match Y2g te.zero with
    | some z=>if 0<te.size/\te.bytes<=8192/\te.zero.length=te.size then some { v:=.v (.c (.own d)),new:=some (.arr te.size l.toNat fun _=>z),cond:=0<=l/\l=c/\l<=LIM } else none
    | none=>none
   | none=>none
  | _,_,_,_=>none
 | .extract x k=>match aev e x with
  | .t xs=>match xs[k]? with
   | some v=>some { v:=.v v }
   | none=>none
  | _=>none
 | .call { callee:=.builtin b,args,argTypes }=>match Z0h L s b argTypes (args.toList.map (aev e)),o.dst with
  | some r,d=>match r.new,d with
   | some _,some d=>some { r with v:=.v (.c (.own d)) }
   | some _,none=>none
   | none,_=>some r
  | none,_=>none
 | _=>none
where
 cloIds:List AVal->Option (List Nat)
  | []=>some []
  | .v (.c (.ptr id 0))::r=>match cloIds r with
   | some ids=>some (id::ids)
   | none=>none
  | _::_=>none
 asF:AVal->Option (Nat×(Nat->List DVal))
  | .v (.c (.d (.lst n f)))=>some (n,f)
  | .v (.c (.fl n f))=>some (n,f)
  | _=>none
section
def KOk(d:TypeDesc):TK->Prop
 | .int k=>d=.int k
 | .bool=>d=.bool
 | .str=>d=.string
 | .slice e=>d=.slice e
 | .struct fs=>∃ fields,d=.struct fields/\fields.toList.map (fun f=>(f.offset,f.type))=fs
 | .array n e=>d=.array n e
 | .other=>(∀ fs,d≠.struct fs)/\∀ n e,d≠.array n e
structure TIOk (P:Program) (t:Nat) (ti:TI) (i:TypeInfo) (d:TypeDesc) (z:Value):Prop where
 info:P.info? t=some i
 und:P.underlying t=some d
 size:i.size=ti.size
 bytes:i.bytes=ti.bytes
 zero:i.zero=some z
 zrep:∀ w X η C,Q0e w X η C z.cells ti.zero
 zrefs:ti.zero.flatMap CV.refs=[]
 kind:KOk d ti.kind
def LOk(P:Program)(L:Lay):Prop:=∀ t ti,L t=some ti->∃ i d z,TIOk P t ti i d z
section
variable {P:Program} {L:Lay}
theorem Z6X{t:Nat}{ti:TI}{i:TypeInfo}{d:TypeDesc}{z:Value}(h:TIOk P t ti i d z)(w:World):(isAgg t).run P w=.ok ti.kind.agg w:=by
 have b:=h.kind;simp only [isAgg,Sem.run_bind,run_underlying h.und,Result.andThen_ok]
 cases hkk:ti.kind <;> simp only [hkk,KOk] at b
 all_goals first
  | (subst b;rfl)
  | (obtain ⟨f,rfl,_⟩:=b;rfl)
  | skip
 split
 .rename_i x c;exact absurd rfl (b.1 c)
 .rename_i x n e;exact absurd rfl (b.2 n e)
 .rfl
theorem y6{t:Nat}{ti:TI}{i:TypeInfo}{d:TypeDesc}{z:Value}(h:TIOk P t ti i d z)(w:World):(sizeOf t).run P w=.ok ti.size w:=by
 simp [sizeOf,typeInfo,h.info,h.size]
theorem Q9w{t:Nat}{ti:TI}{i:TypeInfo}{d:TypeDesc}{z:Value}(h:TIOk P t ti i d z)(w:World):(zeroValue t).run P w=.ok z w:=by
 simp [zeroValue,typeInfo,h.info,h.zero]
theorem add_lit(b o n:Nat):(⟨b,o,none⟩:Addr).add n=⟨b,o+n,none⟩:=by unfold Addr.add;split <;> simp_all
theorem Z9O{w:World}{b:Nat}{c:Array Value}{e:TypeId}{fz:Nat×Nat}(h:w.heap[b]?=some (.cells c e fz))(j:Nat)(hj:j<c.size):
  w.cell? ⟨b,j,none⟩=some (c.getD j undef):=by
 rw [cell_of_row w b j c e fz h];simp [hj]
def Q8L(c:Array Value)(off n:Nat):List Value:=(List.range n).map fun j=>c.getD (off+j) undef
theorem Y0Z{t:Nat}{ti:TI}{i:TypeInfo}{d:TypeDesc}{z:Value}(h:TIOk P t ti i d z){w:World}{b off:Nat}{c:Array Value}{e:TypeId}{fz:Nat×Nat}(hb:w.heap[b]?=some (.cells c e fz))(ho:off+ti.size<=c.size)(h1:ti.kind.agg=false->ti.size=1):
  (loadVar t ⟨b,off,none⟩).run P w=.ok (if ti.kind.agg then .agg (Q8L c off ti.size).toArray else c.getD off undef) w:=by
 simp only [loadVar,Sem.run_bind,Z6X h,Result.andThen_ok]
 cases ha:ti.kind.agg with
 | true=>
  have:=run_loadCells (P:=P) w ⟨b,off,none⟩ ti.size (fun j=>c.getD (off+j) undef) (fun j f=>by rw [add_lit];exact Z9O hb _ (by omega))
  simp only [Sem.run_bind,y6 h,Result.andThen_ok,this,if_true,Sem.run_pure,Q8L]
 | false=>
  have:=h1 ha
  simp only [Bool.false_eq_true,if_false];rw [run_load,Z9O hb off (by omega)]
theorem Z5x{o:Oper}{a:Act}{w w' : World}{v:Value}{K:Act->World->Prop}{Q:Exit->Act->World->Prop}(h:(execOp a.eval o).run P w=.ok (.value v) w')(hK:K (a.put o.dst v) w'):o.wp P a w K Q:=by
 unfold Oper.wp;rw [h];exact hK
theorem Y5x{o:Oper}{a:Act}{w w' : World}{K:Act->World->Prop}{Q:Exit->Act->World->Prop}(h:(execOp a.eval o).run P w=.ok .skip w')(hK:K (a.put o.dst undef) w'):o.wp P a w K Q:=by
 unfold Oper.wp;rw [h];exact hK
end
section
variable {P:Program} {L:Lay} {C:Ctx} {nt:Nat} {R:Nat->Prop} {η:Nat->Value} {e:Env} {s:Sto} {a:Act} {w:World}
def Snd(P:Program)(C:Ctx)(nt:Nat)(R:Nat->Prop)(η:Nat->Value)(e:Env)(s:Sto)(a:Act)(w:World)(o:Oper)(r:SR):Prop:=
 ∃ v w',((execOp a.eval o).run P w=.ok (.value v) w' \/ ((execOp a.eval o).run P w=.ok .skip w' /\ v=undef)) /\
  Conc C nt (r.rng o.dst R) (r.eta o.dst v η) (r.env o.dst e) (r.sto o.dst s) (a.put o.dst v) w'
theorem Snd.wp{o:Oper}{r:SR}(h:Snd P C nt R η e s a w o r){K:Act->World->Prop}{Q:Exit->Act->World->Prop}(hK:∀ η' a' w',Conc C nt (r.rng o.dst R) η' (r.env o.dst e) (r.sto o.dst s) a' w' -> K a' w'):o.wp P a w K Q:=by
 obtain ⟨v,w',b|⟨b,rfl⟩,c⟩:=h
 .exact Z5x b (hK _ _ _ c)
 .exact Y5x b (hK _ _ _ c)
theorem W1K(d:Option Tmp)(x:AVal)(c:Prop):SR.rng { v:=x,cond:=c } d R=R:=by funext i;simp [SR.rng]
theorem W1B(d:Option Tmp)(x:AVal)(c:Prop):SR.sto { v:=x,cond:=c } d s=s:=by funext i;simp [SR.sto]
theorem W2l(d:Option Tmp)(x:AVal)(c:Prop)(v:Value):SR.eta { v:=x,cond:=c } d v η=η:=by funext i;simp [SR.eta]
theorem W2n(d:Option Tmp)(x:AVal)(c:Prop):SR.env { v:=x,cond:=c } d e=SR.env { v:=x } d e:=rfl
theorem y8(h:Conc C nt R η e s a w){o:Oper}(hd:∀ x,o.dst=some x->x<nt){x:AVal}{c:Prop}{v:Value}(hr:(execOp a.eval o).run P w=.ok (.value v) w)(hv:ARep w (XS C s η) η C v x)(hx:∀ j ∈ x.refs,R j):Snd P C nt R η e s a w o { v:=x,cond:=c }:=by
 refine ⟨v,w,.inl hr,?_⟩;rw [W1K,W1B,W2l,W2n]
 exact h.val o.dst hd x v fun _=>⟨hv,hx⟩
theorem Y9k(v:Value)(X:Nat->Prop):ARep w X η C v (Y5t v)/\(Y5t v).refs=[]:=by
 unfold Y5t;split
 .exact ⟨.v _ _ (.c _ _ (.d _ _ (.int _ _))),rfl⟩
 .exact ⟨.v _ _ (.c _ _ (.d _ _ (.bool _))),rfl⟩
 .exact ⟨.v _ _ (.c _ _ (.d _ _ (.str _))),rfl⟩
 .exact ⟨.v _ _ (.c _ _ (.fl _ _ _ (.nil _ _ _))),rfl⟩
 .exact ⟨.any _,rfl⟩
theorem W8(h:Conc C nt R η e s a w)(x:Operand):ARep w (XS C s η) η C (a.eval x) (aev e x)/\∀ j ∈ (aev e x).refs,R j:=by
 cases x with
 | tmp t=>exact ⟨h.ev t,h.er t⟩
 | const v=>
  obtain ⟨b,d⟩:=Y9k (w:=w) (η:=η) (C:=C) v (XS C s η);exact ⟨b,by simp only [aev];rw [d];simp⟩
 | global g=>exact ⟨.any _,by simp [aev,AVal.refs]⟩
 | func f=>exact ⟨.v _ _ (.c _ _ (.clo f [] #[] rfl)),by simp [aev,AVal.refs,TV.refs,CV.refs]⟩
theorem Z4E{α β:Type}(f:α->List β)(l:List α)(n:Nat):∀ j ∈ (l.take n).flatMap f,j ∈ l.flatMap f:=by
 intro j c;obtain ⟨x,d,b⟩:=List.mem_flatMap.1 c
 exact List.mem_flatMap.2 ⟨x,List.mem_of_mem_take d,b⟩
theorem Z4F{α β:Type}(f:α->List β)(l:List α)(n:Nat):∀ j ∈ (l.drop n).flatMap f,j ∈ l.flatMap f:=by
 intro j c;obtain ⟨x,d,b⟩:=List.mem_flatMap.1 c
 exact List.mem_flatMap.2 ⟨x,List.mem_of_mem_drop d,b⟩
theorem Y2z(ds:List DVal):(ds.map CV.d).flatMap CV.refs=[]:=by
 induction ds with
 | nil=>rfl
 | cons x r ih=>simp [CV.refs]
theorem Q8t{α:Type}(l:List α)(off n j:Nat)(x:α)(hj:j<n):((l.drop off).take n).getD j x=l.getD (off+j) x:=by
 simp [List.getD_eq_getElem?_getD,hj]
theorem W2E(h:Conc C nt R η e s a w){n:Nat}{x:AVal}{v:Value}{cs:List CV}{c:Prop}(hr:rd s n x=some (cs,c))(hc:c)(hv:ARep w (XS C s η) η C v x):
  ∃ b off c' e' fz,v=.pointer (some ⟨b,off,none⟩)/\w.heap[b]?=some (.cells c' e' fz)/\off+n<=c'.size/\cs.length=n /\
   (∀ j,j<n->CRep w (XS C s η) η C (c'.getD (off+j) undef) (cs.getD j (.d .any)))/\∀ j ∈ cs.flatMap CV.refs,R j:=by
 unfold rd at hr;split at hr
 .rename_i r off
  split at hr
  .rename_i E D q
   split at hr
   .rename_i m
    cases hr
    have l:=h.st r _ q
    cases hv with
    | v _ _ hv=>
    cases hv with
    | c _ _ hv=>
    cases hv with
    | ptr b _ _ he=>
    rw [he] at l
    cases l with
    | box _ _ c' e' _ hb hcs=>
    have u:=hcs.1;refine ⟨b,off,c',e',(0,0),rfl,hb,by omega,by simp;omega,fun j i=>?_,fun j i=>?_⟩
    .rw [Q8t _ _ _ _ _ i];exact hcs.2 (off+j) (by omega)
    .exact (h.sr r _ q).2 j (Z4F _ _ _ j (Z4E _ _ _ j i))
   .cases hr
  .cases hr
 .rename_i t
  split at hr
  .rename_i m
   cases hr
   cases hv with
   | v _ _ hv=>
   cases hv with
   | c _ _ hv=>
   cases hv with
   | elm b off c' e' fz _ hX hb p hd=>
   refine ⟨b,off,c',e',fz,rfl,hb,by omega,by simp;omega,fun j i=>?_,fun j i=>?_⟩
   .have:((t.take n).map CV.d).getD j (.d .any)=.d (t.getD j .any):=by
     have y : j<t.length:=by omega
     simp [List.getD_eq_getElem?_getD,i,y]
    rw [this];exact .d _ _ (hd j (by omega))
   .rw [Y2z] at i;cases i
  .cases hr
 .rename_i r o g off
  split at hr
  .rename_i B k f q
   split at hr
   .rename_i m
    obtain ⟨rfl,m,p⟩:=m;cases hr
    have l:=h.st r _ q
    cases hv with
    | v _ _ hv=>
    cases hv with
    | c _ _ hv=>
    cases hv with
    | pte b n' cap _ _ _ _ he=>
    rw [he] at l
    cases l with
    | nil=>exact absurd hc (by omega)
    | arr _ _ _ _ c' e' _ hb u hn hm hc0 hl hel=>
    have z:g*o+o<=cap*o:=by
     have:(g+1)*o<=cap*o:=Nat.mul_le_mul_right _ (by omega)
     rwa [Nat.add_mul,Nat.one_mul] at this
    refine ⟨b,g*o+off,c',e',(0,0),rfl,hb,by omega,by simp;omega,fun j i=>?_,fun j i=>?_⟩
    .have:(((((f g).drop off).take n).map CV.d)).getD j (.d .any)=.d ((f g).getD (off+j) .any):=by
      have A:off+j<(f g).length:=by omega
      simp [List.getD_eq_getElem?_getD,i,A]
     rw [this];have:=hel g (off+j) hc (by omega)
     rw [Nat.add_assoc];exact .d _ _ this
    .rw [Y2z] at i;cases i
   .cases hr
  .cases hr
 .cases hr
end
end
section
section
variable {P:Program} {L:Lay} {C:Ctx} {nt:Nat} {R:Nat->Prop} {η:Nat->Value} {e:Env} {s:Sto} {a:Act} {w:World}
theorem Y5w{n:Int}(h:I64 n):IntKind.i64.wrap n=n:=by
  obtain ⟨c,b⟩:=h;have e:IntKind.i64.wrap n=if n % 18446744073709551616 ≥ 9223372036854775808 then n % 18446744073709551616-18446744073709551616 else n % 18446744073709551616:=by
    simp [IntKind.wrap,IntKind.bits,IntKind.signed]
  rw [e];split <;> omega
theorem Q6b{v:Value}{k:IntKind}{n:Int}(h:ARep w (XS C s η) η C v (.v (.c (.d (.int k n))))):v=.int k n:=by
  cases h with|v _ _ h=>cases h with|c _ _ h=>cases h with|d _ _ h=>cases h;rfl
theorem Z9Q{v:Value}{b:Bool}(h:ARep w (XS C s η) η C v (.v (.c (.d (.bool b))))):v=.bool b:=by
  cases h with|v _ _ h=>cases h with|c _ _ h=>cases h with|d _ _ h=>cases h;rfl
theorem Z4n{v:Value}{b:ByteArray}(h:ARep w (XS C s η) η C v (.v (.c (.d (.str b))))):v=.string b:=by
  cases h with|v _ _ h=>cases h with|c _ _ h=>cases h with|d _ _ h=>cases h;rfl
theorem Q5e(X:Nat->Prop)(k:IntKind)(n:Int):ARep w X η C (.int k n) (.v (.c (.d (.int k n)))):=.v _ _ (.c _ _ (.d _ _ (.int _ _)))
theorem Z9P(X:Nat->Prop)(b:Bool):ARep w X η C (.bool b) (.v (.c (.d (.bool b)))):=.v _ _ (.c _ _ (.d _ _ (.bool _)))
def Y9T(r:SR)(v:Value):Prop:=∃ x c,r={ v:=x,cond:=c } /\ (c->∀ (w:World) (X:Nat->Prop) (η:Nat->Value) (C:Ctx),ARep w X η C v x)/\x.refs=[]
theorem Z7r(m:Bool)(k:IntKind)(n:Int)(c:Prop):(Z8l m k n c).cond->Y9T (Z8l m k n c) (.int k (k.wrap n))/\c:=by
  unfold Z8l;split
  . intro h
    refine ⟨⟨_,_,rfl,fun _ w X η C=>?_,rfl⟩,h.2⟩;rw [Y5w h.1];exact Q5e _ _ _
  . intro h
    exact ⟨⟨_,_,rfl,fun _ w X η C=>Q5e _ _ _,rfl⟩,h⟩
theorem W2x(op:BinOp)(t:TypeId)(m:Bool){k k' : IntKind}{n n' : Int}{r:SR}(w:World)(hr:Y7H m op (.v (.c (.d (.int k n)))) (.v (.c (.d (.int k' n'))))=some r)(hc:r.cond):
    ∃ v,(binOp op t (.int k n) (.int k' n')).run P w=.ok v w/\Y9T r v:=by
  simp only [Y7H] at hr;split at hr
  . cases hr
    obtain ⟨f,h⟩:=Z7r m k _ _ hc;refine ⟨_,?_,f⟩
    have:¬ n' < 0:=by omega
    simp [binOp,Op.shift,this]
  . cases hr
    have:¬ n' < 0:=by have:(0:Int)<=n':=hc;omega
    exact ⟨.int k (n.fdiv (2 ^ min n'.toNat k.bits)),by simp [binOp,Op.shift,this],_,_,rfl,fun _ _ _ _ _=>Q5e _ _ _,rfl⟩
  . rename_i g i
    split at hr
    . rename_i j
      subst j;split at hr <;> first
        | (cases hr;done)
        | (cases hr
           obtain ⟨f,h⟩:=Z7r m k _ _ hc;refine ⟨_,?_,f⟩
           first
             | (simp [binOp,Op.intArith];done)
             | (simp [binOp,Op.intDiv,h];done))
        | (cases hr
           have b : n' ≠ 0:=hc;exact ⟨.int k (n.tmod n'),by simp [binOp,Op.intDiv,b],_,_,rfl,fun _ _ _ _ _=>Q5e _ _ _,rfl⟩)
        | (cases hr;refine ⟨.int k (Q5K k n n'),?_,_,_,rfl,fun _ _ _ _ _=>Q5e _ _ _,rfl⟩;simp [binOp,Op.intBits,Q5K];done)
        | (cases hr;refine ⟨.int k (bor k n n'),?_,_,_,rfl,fun _ _ _ _ _=>Q5e _ _ _,rfl⟩;simp [binOp,Op.intBits,bor];done)
        | (cases hr;refine ⟨.int k (W3l k n n'),?_,_,_,rfl,fun _ _ _ _ _=>Q5e _ _ _,rfl⟩;simp [binOp,Op.intBits,W3l];done)
        | (cases hr;refine ⟨.bool _,?_,_,_,rfl,fun _ _ _ _ _=>Z9P _ _,rfl⟩;simp [binOp,Op.intCmp];done)
    . cases hr
theorem Y1t(op:BinOp)(t:TypeId)(x y:Operand)(k k' : IntKind)(n n' : Int)(w:World):(eqGuard op t x y (.int k n) (.int k' n')).run P w=.ok () w:=by
  unfold eqGuard;split <;> rfl
theorem Y1M(h:Conc C nt R η e s a w){o:Oper}(hd:∀ x,o.dst=some x->x<nt){r:SR}{v:Value}(hn:Y9T r v)(hc:r.cond)(hr:(execOp a.eval o).run P w=.ok (.value v) w):Snd P C nt R η e s a w o r:=by
  obtain ⟨x,c,rfl,b,d⟩:=hn;exact y8 h hd hr (b hc _ _ _ _) (by rw [d];simp)
theorem W1G(h:Conc C nt R η e s a w){o:Oper}(hd:∀ x,o.dst=some x->x<nt){op:BinOp}{t t' : TypeId}{x y:Operand}(hop:o.op=.binOp op t x y t'){m:Bool}{r:SR}(hr:Y7H m op (aev e x) (aev e y)=some r)(hc:r.cond):Snd P C nt R η e s a w o r:=by
  have f:=(W8 h x).1;have b:=(W8 h y).1
  unfold Y7H at hr;split at hr
  . rename_i k n q l i g
    rw [i] at f;rw [g] at b
    have p:=Q6b f;have j:=Q6b b
    obtain ⟨v,z,u⟩:=W2x (P:=P) op t m w (show Y7H m op (.v (.c (.d (.int k n)))) (.v (.c (.d (.int q l))))=some r from hr) hc;refine Y1M h hd u hc ?_
    simp only [execOp,hop,Sem.run_bind,p,j,Y1t,z,Result.andThen_ok,Sem.run_pure]
  . cases hr
theorem W2V(h:Conc C nt R η e s a w){o:Oper}(hd:∀ x,o.dst=some x->x<nt){op:UnOp}{t:TypeId}{x:Operand}(hop:o.op=.unOp op t x){m:Bool}{r:SR}(hr:aun m op (aev e x)=some r)(hc:r.cond):Snd P C nt R η e s a w o r:=by
  have c:=(W8 h x).1;unfold aun at hr
  split at hr
  . rename_i b d
    cases hr
    rw [d] at c;have f:=Z9Q c
    exact Y1M h hd ⟨_,_,rfl,fun _ _ _ _ _=>Z9P _ _,rfl⟩ hc (by simp [execOp,hop,f,Op.unary])
  . rename_i k n d
    cases hr
    rw [d] at c;have f:=Q6b c
    obtain ⟨g,_⟩:=Z7r m k (0-n) _ hc;exact Y1M h hd g hc (by simp [execOp,hop,f,Op.unary,Op.intArith])
  . cases hr
theorem Y5K(h:Conc C nt R η e s a w){o:Oper}(hd:∀ x,o.dst=some x->x<nt){x:Operand}(hop:o.op=.move x\/o.op=.assign x):Snd P C nt R η e s a w o { v:=aev e x }:=by
  obtain ⟨b,c⟩:=W8 h x;refine y8 h hd ?_ b c
  rcases hop with hop|hop <;> simp [execOp,hop]
theorem Y5I(h:Conc C nt R η e s a w){o:Oper}(hd:∀ x,o.dst=some x->x<nt){c x y:Operand}(hop:o.op=.pick c x y){b:Bool}(hb:aev e c=.v (.c (.d (.bool b)))):
    Snd P C nt R η e s a w o { v:=aev e (if b then x else y) }:=by
  have f:=(W8 h c).1;rw [hb] at f
  have j:=Z9Q f;obtain ⟨g,i⟩:=W8 h (if b then x else y)
  refine y8 h hd ?_ g i
  cases b <;> simp [execOp,hop,j,asBool]
theorem Y9D(hL:LOk P L)(h:Conc C nt R η e s a w){o:Oper}(hd:∀ x,o.dst=some x->x<nt){t:TypeId}{x:Operand}(hop:o.op=.load t x){ti:TI}(ht:L t=some ti){cs:List CV}{c:Prop}(hr:rd s ti.size (aev e x)=some (cs,c)){v:AVal}(hv:mkT ti.kind.agg cs=some v)(hc:c):Snd P C nt R η e s a w o { v:=v,cond:=c }:=by
  obtain ⟨i,d,z,u⟩:=hL t ti ht;obtain ⟨b,f,q,G,F,D,E,B,r,p,n⟩:=W2E h hr hc (W8 h x).1
  have A:ti.kind.agg=false->ti.size=1:=by
    intro k;rw [k] at hv
    simp only [mkT] at hv;split at hv
    . rw [<-r];rfl
    . cases hv
  have m:=Y0Z u E B A;refine y8 h hd (v:=if ti.kind.agg then .agg (Q8L q f ti.size).toArray else q.getD f undef) ?_ ?_ ?_
  . simp only [execOp,hop,Sem.run_bind,Instr.loadAt,D,Instr.sureAddr,Sem.run_pure,Result.andThen_ok,m]
  . unfold mkT at hv
    split at hv
    . rename_i k
      cases hv
      simp only [k,if_true];refine .v _ _ (.g _ _ ⟨by simp [Q8L,r],fun j l=>?_⟩)
      rw [r] at l;have:(Q8L q f ti.size).toArray.getD j undef=q.getD (f+j) undef:=by simp [Q8L,l]
      rw [this];exact p j l
    . rename_i k
      split at hv
      . cases hv
        rename_i y
        simp only [k,Bool.false_eq_true,if_false];have:=p 0 (by rw [A k];exact Nat.zero_lt_one)
        exact .v _ _ (.c _ _ (by simpa using this))
      . cases hv
  . unfold mkT at hv
    split at hv
    . cases hv;exact n
    . split at hv
      . cases hv;intro j l;exact n j (by simpa [AVal.refs,TV.refs] using l)
      . cases hv
theorem Y3K(hL:LOk P L)(h:Conc C nt R η e s a w){o:Oper}(hd:∀ x,o.dst=some x->x<nt){t:TypeId}{x:Operand}{k:Nat}(hop:o.op=.fieldAddr t x k){ti:TI}(ht:L t=some ti){fs:List (Nat×Nat)}(hk:ti.kind=.struct fs){off ft:Nat}(hf:fs[k]?=some (off,ft)){tf:TI}(hft:L ft=some tf)(hz:tf.size≠0){v:AVal}(hv:∀ b o',a.eval x=.pointer (some ⟨b,o',none⟩)->ARep w (XS C s η) η C (.pointer (some ⟨b,o' + off,none⟩)) v)(hx:∀ j ∈ v.refs,R j)(hp:∃ b o',a.eval x=.pointer (some ⟨b,o',none⟩)):Snd P C nt R η e s a w o { v:=v }:=by
  obtain ⟨i,d,z,m⟩:=hL t ti ht;obtain ⟨A,y,u,n⟩:=hL ft tf hft
  have l:=m.kind;rw [hk] at l
  obtain ⟨c,rfl,q⟩:=l;obtain ⟨b,o',r⟩:=hp
  have p : ∃ f,c[k]?=some f/\f.offset=off/\f.type=ft:=by
    rw [<-q,List.getElem?_map] at hf
    cases g:c.toList[k]? with
    | none=>rw [g] at hf;cases hf
    | some f=>rw [g] at hf;simp at hf;exact ⟨f,by simpa using g,hf.1,hf.2⟩
  obtain ⟨f,g,rfl,rfl⟩:=p;refine y8 h hd ?_ (hv b o' r) hx
  simp only [execOp,hop,Sem.run_bind,Instr.fieldAt,run_underlying m.und,Result.andThen_ok,g,r,Instr.sureAddr,Sem.run_pure,fieldPlace,y6 n,hz,if_false,add_lit]
theorem Y4W(X:Nat->Prop){b id off:Nat}(h:η id=.pointer (some ⟨b,0,none⟩)):ARep w X η C (.pointer (some ⟨b,off,none⟩)) (.v (.c (.ptr id off))):=.v _ _ (.c _ _ (.ptr _ _ _ h))
theorem Z9w{v:Value}{id off:Nat}(h:ARep w (XS C s η) η C v (.v (.c (.ptr id off)))):∃ b,v=.pointer (some ⟨b,off,none⟩)/\η id=.pointer (some ⟨b,0,none⟩):=by
  cases h with|v _ _ h=>cases h with|c _ _ h=>cases h with|ptr b _ _ h=>exact ⟨b,rfl,h⟩
theorem Y4X{v:Value}{id es idx off:Nat}(h:ARep w (XS C s η) η C v (.v (.c (.pte id es idx off)))):∃ b n cap,v=.pointer (some ⟨b,idx*es+off,none⟩)/\η id=.slice (some ⟨b,0,none⟩) n cap:=by
  cases h with|v _ _ h=>cases h with|c _ _ h=>cases h with|pte b n cap _ _ _ _ h=>exact ⟨b,n,cap,rfl,h⟩
theorem Y8p{v:Value}{cs:List DVal}(h:ARep w (XS C s η) η C v (.v (.c (.elm cs)))):∃ b off c e' fz,v=.pointer (some ⟨b,off,none⟩)/\¬ XS C s η b/\w.heap[b]?=some (.cells c e' fz) /\
    off+cs.length<=c.size/\∀ j,j<cs.length->DRep w (XS C s η) (c.getD (off+j) undef) (cs.getD j .any):=by
  cases h with|v _ _ h=>cases h with|c _ _ h=>cases h with|elm b off c e' fz _ hX hb ho hc=>exact ⟨b,off,c,e',fz,rfl,hX,hb,ho,hc⟩
theorem Q6V{v:Value}{id:Nat}(h:ARep w (XS C s η) η C v (.v (.c (.own id)))):v=η id:=by
  cases h with|v _ _ h=>cases h with|c _ _ h=>cases h with|own _ _ h _=>exact h
theorem W0z{b off:Nat}{c:Array Value}{e' : TypeId}{fz:Nat×Nat}{cs:List DVal}(X:Nat->Prop)(hX:¬ X b)(hb:w.heap[b]?=some (.cells c e' fz))(ho:off+cs.length<=c.size)(hc:∀ j,j<cs.length->DRep w X (c.getD (off+j) undef) (cs.getD j .any))(k:Nat)(hk:k<=cs.length):
    ARep w X η C (.pointer (some ⟨b,off+k,none⟩)) (.v (.c (.elm (cs.drop k)))):=by
  refine .v _ _ (.c _ _ (.elm b (off+k) c e' fz _ hX hb (by simp;omega) fun j g=>?_));have d : k+j<cs.length:=by simp at g;omega
  have:=hc (k+j) d
  have f:(cs.drop k).getD j .any=cs.getD (k+j) .any:=by simp [List.getD_eq_getElem?_getD]
  rw [f,Nat.add_assoc];exact this
theorem Y7D{v:Value}{x:AVal}(h:ARep w (XS C s η) η C v x){n:Nat}{f:Nat->List DVal}(hx:Q9s.asF x=some (n,f)):
    ∃ ad cap,v=.slice ad n cap/\DRep w (XS C s η) v (.lst n f):=by
  unfold Q9s.asF at hx;split at hx
  . cases hx
    cases h with|v _ _ h=>cases h with|c _ _ h=>cases h with|d _ _ h=>
    cases h with
    | nil ad cap _=>exact ⟨ad,cap,rfl,.nil _ _ _⟩
    | lst b off _ cap c e' fz _ es h1 h2 h3 h4 h5 h6=>exact ⟨_,cap,rfl,.lst b off _ cap c e' fz _ es h1 h2 h3 h4 h5 h6⟩
  . cases hx
    cases h with|v _ _ h=>cases h with|c _ _ h=>cases h with|fl ad _ _ h=>exact ⟨ad,_,rfl,h⟩
  . cases hx
end
end
section
theorem Value.cells_one{v:Value}(h:v.oneCell'=true):v.cells=#[v]:=by
 cases v <;> first|rfl | (simp [Value.oneCell'] at h)
section
variable {P:Program} {L:Lay} {C:Ctx} {nt:Nat} {R:Nat->Prop} {η:Nat->Value} {e:Env} {s:Sto} {a:Act} {w:World}
theorem Y3s{X:Nat->Prop}{v:Value}{x:AVal}{xs:List CV}(h:ARep w X η C v x)(hx:Z8R x=some xs):Q0e w X η C v.cells xs/\∀ j ∈ xs.flatMap CV.refs,j ∈ x.refs:=by
 unfold Z8R at hx;split at hx
 .cases hx
  cases h with|v _ _ h=>cases h with|c _ _ h=>
  rw [Value.cells_one h.one];exact ⟨⟨rfl,fun j b=>by
   have:j=0:=by simp at b;omega
   subst this;simpa using h⟩,fun j b=>by simpa [AVal.refs,TV.refs] using b⟩
 .cases hx
  cases h with|v _ _ h=>cases h with|g vs _ h=>
  exact ⟨h,fun j b=>b⟩
 .cases hx
theorem Q2Z{α:Type}(cs xs:List α)(off:Nat)(h:off+xs.length<=cs.length):(Q4E cs off xs).length=cs.length:=by
 simp [Q4E];omega
theorem Z2E{α:Type}(cs xs:List α)(off t:Nat)(d:α)(h:off+xs.length<=cs.length):
  (Q4E cs off xs).getD t d=if off<=t/\t<off+xs.length then xs.getD (t-off) d else cs.getD t d:=by
 unfold Q4E;simp only [List.getD_eq_getElem?_getD,List.getElem?_append,List.length_take,List.getElem?_take,List.getElem?_drop]
 have b:min off cs.length=off:=by omega
 rw [b]
 by_cases h1:t<off
 .rw [if_pos h1,if_pos h1,if_neg (by omega)]
 .rw [if_neg h1]
  by_cases h2:t<off+xs.length
  .rw [if_pos (by omega),if_pos (by omega)]
  .rw [if_neg (by omega),if_neg (by omega)]
   congr 2;omega
theorem Y2o{α:Type}(cs xs:List α)(off:Nat):∀ x ∈ Q4E cs off xs,x ∈ cs\/x ∈ xs:=by
 intro x b;unfold Q4E at b
 rcases List.mem_append.1 b with h|h
 .exact .inl (List.mem_of_mem_take h)
 .rcases List.mem_append.1 h with h|h
  .exact .inr h
  .exact .inl (List.mem_of_mem_drop h)
theorem Y9c(off:Nat)(vs:List Value):∀ (k:Nat) (cs:Array Value),off+k+vs.length<=cs.size ->
  ((vs.zipIdx k).foldl (fun cs p=>cs.setIfInBounds (off+p.2) p.1) cs).size=cs.size /\
  ∀ t,((vs.zipIdx k).foldl (fun cs p=>cs.setIfInBounds (off+p.2) p.1) cs).getD t undef=if off+k<=t/\t<off+k+vs.length then vs.getD (t-off-k) undef else cs.getD t undef:=by
 induction vs with
 | nil=>intro k cs _;refine ⟨rfl,fun t=>?_⟩;rw [if_neg (by simp)];rfl
 | cons v r ih=>
  intro k cs h;simp only [List.length_cons] at h
  obtain ⟨c,b⟩:=ih (k+1) (cs.setIfInBounds (off+k) v) (by simp;omega);refine ⟨by simpa [List.zipIdx_cons] using c,fun t=>?_⟩
  simp only [List.zipIdx_cons,List.foldl_cons,List.length_cons];rw [b t]
  by_cases h3:off+(k+1)<=t/\t<off+(k+1)+r.length
  .rw [if_pos h3,if_pos (by omega)]
   have:t-off-k=(t-off-(k+1))+1:=by omega
   rw [this];simp
  .rw [if_neg h3]
   by_cases h4:t=off+k
   .subst h4
    rw [if_pos (by omega)];have:off+k<cs.size:=by omega
    simp [this]
   .rw [if_neg (by omega)]
    simp [Ne.symm h4]
theorem Y8j{X:Nat->Prop}{pl:Nat->Option (Nat×Nat)}:∀ (ps:List (Nat×AVal)) (vs:List (Nat×Value)) (cells:List CV) (vc:Array Value) (cs:List CV),
  Z8g pl cells ps=some cs->Q0e w X η C vc cells->vs.map (·.1)=ps.map (·.1)->(∀ (j:Nat) x v,ps[j]?=some x->vs[j]?=some v->ARep w X η C v.2 x.2) ->
  ∃ vc',Instr.fill pl vc vs=some vc' /\ Q0e w X η C vc' cs/\∀ j ∈ cs.flatMap CV.refs,j ∈ cells.flatMap CV.refs\/∃ x ∈ ps,j ∈ x.2.refs:=by
 intro ps
 induction ps with
 | nil=>
  intro vs cells vc cs h A l _;cases h
  have:vs=[]:=by simpa using l
  subst this;exact ⟨vc,rfl,A,fun j c=>.inl c⟩
 | cons p ps ih=>
  intro vs cells vc cs h A l I;obtain ⟨i,x⟩:=p
  cases vs with
  | nil=>simp at l
  | cons v vs=>
   obtain ⟨Q,v⟩:=v;simp only [List.map_cons,List.cons.injEq] at l
   obtain ⟨rfl,l⟩:=l;simp only [Z8g] at h
   split at h
   .rename_i b f H F D
    split at h
    .rename_i u
     obtain ⟨d,u⟩:=u;have E:ARep w X η C v x:=I 0 _ _ rfl rfl
     obtain ⟨o,B⟩:=Y3s E D;have k:v.cells.size=f:=by rw [o.1,d]
     have n:vc.size=cells.length:=A.1;have G:=Y9c b v.cells.toList 0 vc (by simp [k];omega)
     have g:v.cells.zipIdx.foldl (fun cs (p:Value×Nat)=>cs.setIfInBounds (b+p.2) p.1) vc=(v.cells.toList.zipIdx 0).foldl (fun cs p=>cs.setIfInBounds (b+p.2) p.1) vc:=by
      rw [<-Array.foldl_toList,Array.toList_zipIdx]
     have q:Q0e w X η C (v.cells.zipIdx.foldl (fun cs (p:Value×Nat)=>cs.setIfInBounds (b+p.2) p.1) vc) (Q4E cells b H):=by
      rw [g];refine ⟨by rw [G.1,Q2Z _ _ _ (by omega)];exact n,fun t J=>?_⟩
      rw [G.2 t,Z2E _ _ _ _ _ (by omega)];rw [Q2Z _ _ _ (by omega)] at J
      simp only [Nat.add_zero,Nat.sub_zero,Array.length_toList,k,d]
      by_cases m:b<=t/\t<b+f
      .rw [if_pos m,if_pos m]
       have:=o.2 (t-b) (by omega)
       simpa [List.getD_eq_getElem?_getD] using this
      .rw [if_neg m,if_neg m]
       exact A.2 t J
     obtain ⟨vc',M,N,m⟩:=ih vs (Q4E cells b H) _ cs h q l (fun j x v O E=>I (j+1) x v (by simpa using O) (by simpa using E));refine ⟨vc',?_,N,fun j c=>?_⟩
     .simp only [Instr.fill,F]
      rw [if_neg (by simp [k,n];omega)];exact M
     .rcases m j c with c|⟨y,K,c⟩
      .obtain ⟨z,r,c⟩:=List.mem_flatMap.1 c
       rcases Y2o _ _ _ z r with r|r
       .exact .inl (List.mem_flatMap.2 ⟨z,r,c⟩)
       .exact .inr ⟨_,List.mem_cons_self,B j (List.mem_flatMap.2 ⟨z,r,c⟩)⟩
      .exact .inr ⟨y,List.mem_cons_of_mem _ K,c⟩
    .cases h
   .cases h
theorem Y5N(hL:LOk P L):∀ (fields:List Field) (fs:List (Nat×Nat)) (pl:List (Nat×Nat)),fields.map (fun f=>(f.offset,f.type))=fs->Z7n L fs=some pl ->
  fields.mapM (fun f=>(P.info? f.type).map fun i=>(f.offset,i.size))=some pl:=by
 intro fields
 induction fields with
 | nil=>intro fs pl g b;subst g;simpa [Z7n] using b
 | cons f r ih=>
  intro fs pl g b;subst g
  simp only [List.map_cons,Z7n] at b;split at b
  .rename_i k l j h
   cases b
   obtain ⟨i,d,z,c⟩:=hL _ _ j;have:=ih _ l rfl h
   simp [List.mapM_cons,c.info,this,c.size]
  .cases b
theorem W0y(h:Conc C nt R η e s a w)(ps:Array (Nat×Operand)):
  ((ps.map fun (p:Nat×Operand)=>(p.1,a.eval p.2)).toList).map (·.1)=(ps.toList.map fun p=>(p.1,aev e p.2)).map (·.1) /\
  (∀ (j:Nat) x v,(ps.toList.map fun p=>(p.1,aev e p.2))[j]?=some x->((ps.map fun (p:Nat×Operand)=>(p.1,a.eval p.2)).toList)[j]?=some v->ARep w (XS C s η) η C v.2 x.2) /\
  ∀ x ∈ (ps.toList.map fun p=>(p.1,aev e p.2)),∀ j ∈ x.2.refs,R j:=by
 refine ⟨by simp,fun j x v b c=>?_,fun x b j d=>?_⟩
 .rw [List.getElem?_map] at b
  simp only [Array.toList_map,List.getElem?_map] at c
  cases hp:ps.toList[j]? with
  | none=>rw [hp] at b;cases b
  | some p=>
   rw [hp] at b c
   cases b;cases c
   exact (W8 h p.2).1
 .obtain ⟨p,_,rfl⟩:=List.mem_map.1 b
  exact (W8 h p.2).2 j d
theorem Y4j(hL:LOk P L)(h:Conc C nt R η e s a w){o:Oper}(hd:∀ x,o.dst=some x->x<nt){t:TypeId}{ps:Array (Nat×Operand)}(hop:o.op=.build t ps){ti:TI}(ht:L t=some ti){pl:Nat->Option (Nat×Nat)}(hpl:(∃ fs l,ti.kind=.struct fs/\Z7n L fs=some l/\pl=fun i=>l[i]?)\/(∃ n el te,ti.kind=.array n el/\L el=some te/\pl=fun i=>some (i*te.size,te.size))){cs:List CV}(hf:Z8g pl ti.zero (ps.toList.map fun p=>(p.1,aev e p.2))=some cs):Snd P C nt R η e s a w o { v:=.v (.g cs) }:=by
 obtain ⟨i,d,z,b⟩:=hL t ti ht;obtain ⟨H,J,F⟩:=W0y h ps
 obtain ⟨y,c,q,A⟩:=Y8j _ _ _ _ _ hf (b.zrep w (XS C s η) η C) H J;refine y8 h hd (v:=.agg y) ?_ (.v _ _ (.g _ _ q)) fun j m=>?_
 .have G:P.built t (ps.map fun (p:Nat×Operand)=>(p.1,a.eval p.2)).toList=some y:=by
   have r:=b.kind;rcases hpl with ⟨fs,l,k,E,rfl⟩|⟨n,el,te,k,B,rfl⟩
   .rw [k] at r
    obtain ⟨u,rfl,D⟩:=r;have:=Y5N hL _ _ _ D E
    simp only [Program.built,b.info,b.und,b.zero,this];simpa using c
   .rw [k] at r
    simp only [KOk] at r;subst r
    obtain ⟨N,M,K,f⟩:=hL el te B;simp only [Program.built,b.info,b.und,b.zero,f.info,f.size]
    exact c
  simp only [execOp,hop,Sem.run_bind];rw [run_build w t _ y G];rfl
 .rcases A j m with m|⟨x,I,m⟩
  .rw [b.zrefs] at m;cases m
  .exact F x I j m
theorem Y2q(h:Conc C nt R η e s a w){o:Oper}{d:Nat}(hd:o.dst=some d)(hdn:d<nt)(hR:¬ R d){vs:Array Value}{cs:List CV}{ety:TypeId}(hrun:(execOp a.eval o).run P w=.ok (.value (.pointer (some ⟨w.heap.size,0,none⟩))) { w with heap:=w.heap.push (.cells vs ety) })(hcs:Q0e w (XS C s η) η C vs cs)(hrf:∀ j ∈ cs.flatMap CV.refs,R j):
  Snd P C nt R η e s a w o { v:=.v (.c (.ptr d 0)),new:=some (.box false cs) }:=by
 refine ⟨_,_,.inl hrun,?_⟩;have i:∀ b,b ∈ W2 (.pointer (some (⟨w.heap.size,0,none⟩:Addr)))->w.heap.size<=b:=by intro b g;simp [W2] at g;omega
 have r:=Q5X (C:=C) (s:=s) (η:=η) { v:=.v (.c (.ptr d 0)),new:=some (.box false cs) } o.dst (.pointer (some ⟨w.heap.size,0,none⟩)) (fun _=>False) (Stp.alloc _ w (.cells vs ety)) (fun b g=>g.elim)
  (fun _ _ _ _ b g=>.inl (i b g)) (fun k o m=>by cases m)
 have p:=W3A (η:=η) (R:=R) { v:=.v (.c (.ptr d 0)),new:=some (.box false cs) } o.dst (.pointer (some ⟨w.heap.size,0,none⟩)) (fun _ dd _ f=>by rw [hd] at f;cases f;exact hR);refine h.step o.dst (fun x q=>by rw [hd] at q;cases q;exact hdn) _ _ _ (fun _=>False) (Stp.alloc _ w _) (fun b g=>g.elim) ?_ (fun k o m=>by cases m) ?_
 .intro t dd n f
  cases n
  rw [hd] at f;cases f
  exact ⟨hR,rfl,hrf,.box _ _ vs ety cs (by simp) (hcs.mono r fun j l=>p j (hrf j l)),fun b g=>.inl (i b g)⟩
 .intro _
  refine ⟨Y4W _ (by simp [SR.eta,hd]),fun j l=>?_⟩;simp [AVal.refs,TV.refs,CV.refs] at l
  exact .inr ⟨by simp,by rw [hd,l]⟩
theorem Y8H(hL:LOk P L)(h:Conc C nt R η e s a w){o:Oper}{d:Nat}(hd:o.dst=some d)(hdn:d<nt)(hR:¬ R d){t:TypeId}(hop:o.op=.alloc t){ti:TI}(ht:L t=some ti):
  Snd P C nt R η e s a w o { v:=.v (.c (.ptr d 0)),new:=some (.box false ti.zero) }:=by
 obtain ⟨i,dd,z,b⟩:=hL t ti ht;refine Y2q h hd hdn hR (vs:=z.cells) (ety:=t) ?_ (b.zrep _ _ _ _) (by rw [b.zrefs];simp)
 simp [execOp,hop,Instr.alloc,Q9w b,newVar,newRow]
theorem W1F(h:Conc C nt R η e s a w){o:Oper}{d:Nat}(hd:o.dst=some d)(hdn:d<nt)(hR:¬ R d){t:TypeId}{x:Operand}(hop:o.op=.box t x){xs:List CV}(hx:Z8R (aev e x)=some xs):
  Snd P C nt R η e s a w o { v:=.v (.c (.ptr d 0)),new:=some (.box false xs) }:=by
 obtain ⟨k,g⟩:=W8 h x;obtain ⟨f,i⟩:=Y3s k hx
 refine Y2q h hd hdn hR (vs:=(a.eval x).cells) (ety:=t) ?_ f fun j b=>g j (i j b)
 simp [execOp,hop,Instr.box,newVar,newRow]
end
end
section
section
variable {P:Program} {L:Lay} {C:Ctx} {nt:Nat} {R:Nat->Prop} {η:Nat->Value} {e:Env} {s:Sto} {a:Act} {w:World}
theorem W2S{X:Nat->Prop}{v:Value}{x:CV}{y:DVal}(h:CRep w X η C v x)(hx:toD x=some y):DRep w X v y:=by
 unfold toD at hx;split at hx
 .cases hx;cases h with|d _ _ h=>exact h
 .cases hx;cases h with|fl _ _ _ h=>exact h
 .cases hx
theorem Y7K{X:Nat->Prop}:∀ (cs:List CV) (ds:List DVal) (c:Array Value) (off:Nat),Y2g cs=some ds->(∀ j,j<cs.length->CRep w X η C (c.getD (off+j) undef) (cs.getD j (.d .any))) ->
  ds.length=cs.length/\∀ j,j<ds.length->DRep w X (c.getD (off+j) undef) (ds.getD j .any):=by
 intro cs
 induction cs with
 | nil=>intro ds c off h _;cases h;exact ⟨rfl,fun j b=>by simp at b⟩
 | cons x r ih=>
  intro ds c off h g;simp only [Y2g] at h
  split at h
  .rename_i y i k f
   cases h
   obtain ⟨m,l⟩:=ih i c (off+1) f (fun j b=>by have:=g (j+1) (by simp;omega);rwa [Nat.add_assoc,Nat.add_comm 1 j]);refine ⟨by simp [m],fun j b=>?_⟩
   cases j with
   | zero=>exact W2S (g 0 (by simp)) k
   | succ j=>have:=l j (by simpa using b);rw [Nat.add_assoc,Nat.add_comm 1 j] at this;simpa using this
  .cases h
theorem Z4r(w:World)(b:Nat)(cs:Array Value):Stp (fun x=>x=b) w (w.setRow b cs):=
 ⟨rfl,rfl,rfl,by simp,fun x _ c=>setRow_other w b x cs c,Nat.le_refl _⟩
theorem Z1h(c:Array Value)(off:Nat)(vs:List Value)(h:off+vs.length<=c.size):
  (c.toList.take off++vs++c.toList.drop (off+vs.length)).toArray.size=c.size /\
  ∀ t,(c.toList.take off++vs++c.toList.drop (off+vs.length)).toArray.getD t undef=if off<=t/\t<off+vs.length then vs.getD (t-off) undef else c.getD t undef:=by
 have b:off+vs.length<=c.toList.length:=by simpa using h
 have d:c.toList.take off++vs++c.toList.drop (off+vs.length)=Q4E c.toList off vs:=by simp [Q4E]
 rw [d];refine ⟨by simp [Q2Z _ _ _ b],fun t=>?_⟩
 have:=Z2E c.toList vs off t undef b
 simpa [List.getD_eq_getElem?_getD,Array.getD_eq_getD_getElem?] using this
theorem Y7N(h:Conc C nt R η e s a w){o:Oper}(hd:o.dst=none){id:Nat}{ob ob' : Obj}(hs:s id=some ob)(hro:ob.ro=false)(hro' : ob'.ro=false)(hrf:∀ j ∈ ob'.refs,R j){b:Nat}{cs:Array Value}{c:Prop}(hb:b ∈ W2 (η id))(hrun:(execOp a.eval o).run P w=.ok .skip (w.setRow b cs))(hob:∀ X',Q7o w (w.setRow b cs) (XS C s η) X' -> ORep (w.setRow b cs) X' η C (η id) ob'):Snd P C nt R η e s a w o { upd:=some (id,ob'),cond:=c }:=by
 have l:Own s η b:=⟨id,ob,hs,hb⟩;have n:=Q5X (C:=C) (s:=s) (η:=η) { upd:=some (id,ob'),cond:=c } o.dst undef (fun x=>x=b) (Z4r w b cs) (fun x g=>by subst g;exact l) (fun _ _ d=>by cases d)
  (fun k o d=>by cases d;rw [hs];simp)
 have f:SR.eta { upd:=some (id,ob'),cond:=c } o.dst undef η=η:=by funext i;simp [SR.eta]
 refine ⟨undef,_,.inr ⟨hrun,rfl⟩,?_⟩;refine h.step o.dst (fun x g=>by rw [hd] at g;cases g) _ _ _ (fun x=>x=b) (Z4r w b cs) ?_ (fun _ _ d=>by cases d) ?_ (fun d=>absurd hd d)
 .intro x g
  subst g;refine ⟨⟨id,.inr ⟨ob',rfl⟩,by rw [hs];simp,hb⟩,?_⟩
  rcases h.ow id ob _ hs hb with ⟨m,_⟩|m
  .rw [hro] at m;cases m
  .exact m
 .intro k p d
  cases d
  refine ⟨⟨ob,hs,hro⟩,hro',by simp,hrf,?_⟩;rw [f]
  rw [f] at n;exact hob _ n
theorem Y8F(hL:LOk P L)(h:Conc C nt R η e s a w){o:Oper}(hd:o.dst=none){t:TypeId}{x y:Operand}(hop:o.op=.store t x y){ti:TI}(ht:L t=some ti){xs:List CV}(hy:Z8R (aev e y)=some xs)(hsz:xs.length=ti.size){r:SR}(hr:wr s xs (aev e x)=some r)(hc:r.cond):Snd P C nt R η e s a w o r:=by
 obtain ⟨i,dd,z,a6⟩:=hL t ti ht;obtain ⟨a4,W⟩:=W8 h y
 obtain ⟨D,a1⟩:=Y3s a4 hy;have G:=(W8 h x).1
 have O:∀ v ∈ (a.eval y).cells.toList,v.oneCell'=true:=by
  intro v hv;obtain ⟨j,n,rfl⟩:=List.getElem_of_mem hv
  have S : j<(a.eval y).cells.size:=by simpa using n
  have:=(D.2 j (by rw [<-D.1];exact S)).one
  simpa [S] using this
 have g:(a.eval y).cells.toList.length=xs.length:=by simpa using D.1
 have N:∀ (b d:Nat) (c:Array Value) (F : TypeId),a.eval x=.pointer (some ⟨b,d,none⟩)->w.heap[b]?=some (.cells c F (0,0))->d+xs.length<=c.size ->
   (execOp a.eval o).run P w=.ok .skip (w.setRow b (c.toList.take d++(a.eval y).cells.toList++c.toList.drop (d+(a.eval y).cells.toList.length)).toArray):=by
  intro b d c F Q J ho;have:=run_storeCells_at P b d F (a.eval y).cells.toList 0 c w J (by rw [g];omega) O
  simp only [Nat.add_zero] at this;have p : (a.eval y).cells.size=ti.size:=by rw [<-Array.length_toList,g,hsz]
  simp only [execOp,hop,Sem.run_bind,Instr.storeAt,Q,Instr.sureAddr,Sem.run_pure,Result.andThen_ok,storeVar,y6 a6,p,ne_eq,not_true,if_false,Sem.run_ite,this]
 unfold wr at hr;split at hr
 .rename_i V d e1
  rw [e1] at G;obtain ⟨b,Q,I⟩:=Z9w G
  split at hr
  .rename_i bs M
   split at hr
   .rename_i q
    cases hr
    have A:=h.st V _ M;rw [I] at A
    cases A with
    | box _ _ c F _ J hbs=>
    have E:=Z1h c d (a.eval y).cells.toList (by rw [g,hbs.1];omega);refine Y7N h hd M rfl rfl (fun j n=>?_) (b:=b) (by rw [I];simp [W2]) (N b d c F Q J (by rw [hbs.1];omega)) fun X' K=>?_
    .obtain ⟨u,T,n⟩:=List.mem_flatMap.1 n
     rcases Y2o _ _ _ u T with T|T
     .exact (h.sr V _ M).2 j (List.mem_flatMap.2 ⟨u,T,n⟩)
     .exact W j (a1 j (List.mem_flatMap.2 ⟨u,T,n⟩))
    .rw [I]
     refine .box b false _ F _ (setRow_heap w b c _ F _ J) ⟨by rw [E.1,Q2Z _ _ _ q];exact hbs.1,fun j n=>?_⟩;rw [Q2Z _ _ _ q] at n
     rw [E.2 j,Z2E _ _ _ _ _ q]
     by_cases h3:d<=j/\j<d+xs.length
     .rw [if_pos (by rw [g];exact h3),if_pos h3]
      have:=(D.2 (j-d) (by omega)).mono K (fun _ _=>rfl)
      simpa [List.getD_eq_getElem?_getD] using this
     .rw [if_neg (by rw [g];exact h3),if_neg h3]
      exact (hbs.2 j n).mono K (fun _ _=>rfl)
   .cases hr
  .cases hr
 .rename_i V m l d e1
  rw [e1] at G;obtain ⟨b,n0,B,Q,I⟩:=Y4X G
  split at hr
  .rename_i b3 k f M
   split at hr
   .rename_i ds a0
    split at hr
    .rename_i q
     obtain ⟨rfl,q,a3⟩:=q;cases hr
     have A:=h.st V _ M;rw [I] at A
     cases A with
     | nil=>exact absurd hc (by simp)
     | arr _ _ _ _ c F _ J p hn hm hc0 hl hel=>
     have b1:l*m+m<=B*m:=by
      have K:l<n0:=hc;have:(l+1)*m<=B*m:=Nat.mul_le_mul_right _ (by omega)
      rwa [Nat.add_mul,Nat.one_mul] at this
     obtain ⟨a9,Z⟩:=Y7K (w:=w) (η:=η) (C:=C) (X:=XS C s η) xs ds (a.eval y).cells 0 a0 (fun j n=>by rw [Nat.zero_add];exact D.2 j n);have H:l*m+d+xs.length<=c.size:=by rw [p];omega
     have E:=Z1h c (l*m+d) (a.eval y).cells.toList (by rw [g];exact H);refine Y7N h hd M rfl rfl (by simp [Obj.refs]) (b:=b) (by rw [I];simp [W2];omega) (N b _ c F Q J H) fun X' K=>?_
     rw [I];refine .arr b n0 B m _ F _ (setRow_heap w b c _ F _ J) (by rw [E.1];exact p) hn hm hc0 (fun i U=>?_) fun i j U n=>?_
     .by_cases hii:i=l
      .subst hii;simp only [if_true];rw [Q2Z _ _ _ (by omega)];exact a3
      .simp only [hii,if_false];exact hl i U
     .rw [E.2]
      by_cases hii:i=l
      .subst hii
       simp only [if_true];rw [Z2E _ _ _ _ _ (by omega)]
       by_cases h3:d<=j/\j<d+ds.length
       .rw [if_pos (by rw [g];omega),if_pos h3]
        have:=(Z (j-d) (by omega)).mono K
        have e3:i*m+j-(i*m+d)=j-d:=by omega
        rw [e3];simpa [List.getD_eq_getElem?_getD] using this
       .rw [if_neg (by rw [g];omega),if_neg h3]
        exact (hel i j U n).mono K
      .simp only [hii,if_false]
       have a2:¬ (l*m+d<=i*m+j/\i*m+j<l*m+d+xs.length):=by
        rintro ⟨h4,h5⟩;rcases Nat.lt_or_gt_of_ne hii with Y|Y
        .have:(i+1)*m<=l*m:=Nat.mul_le_mul_right _ Y
         rw [Nat.add_mul,Nat.one_mul] at this;omega
        .have:(l+1)*m<=i*m:=Nat.mul_le_mul_right _ Y
         rw [Nat.add_mul,Nat.one_mul] at this;omega
       rw [if_neg (by rw [g];exact a2)];exact (hel i j U n).mono K
    .cases hr
   .cases hr
  .cases hr
 .cases hr
end
end
section
section
variable {P:Program} {L:Lay} {C:Ctx} {nt:Nat} {R:Nat->Prop} {η:Nat->Value} {e:Env} {s:Sto} {a:Act} {w:World}
theorem Q3a(h:Conc C nt R η e s a w){o:Oper}{d:Nat}(hd:o.dst=some d)(hdn:d<nt)(hR:¬ R d){del:List Nat}{es n:Nat}{f:Nat->List DVal}{c:Prop}{v:Value}{w' : World}{Z:Nat->Prop}(hrun:(execOp a.eval o).run P w=.ok (.value v) w')(hstep:Stp Z w w')(hone:v.oneCell'=true)(hZ:∀ b,Z b->∃ i ∈ del,s i≠none/\b ∈ W2 (η i))(hdel:∀ i ∈ del,∀ o',s i=some o' -> o'.ro=false)(hv:∀ b,b ∈ W2 v->w.heap.size<=b\/∃ i ∈ del,s i≠none/\b ∈ W2 (η i))(hob:∀ X',Q7o w w' (XS C s η) X' -> ORep w' X' (SR.eta { v:=.v (.c (.own d)),del:=del,new:=some (.arr es n f),cond:=c } o.dst v η) C v (.arr es n f)):
  Snd P C nt R η e s a w o { v:=.v (.c (.own d)),del:=del,new:=some (.arr es n f),cond:=c }:=by
 have q:∀ i ∈ del,s i≠none->∀ b,b ∈ W2 (η i)->C.M b\/C.w0.heap.size<=b:=by
  intro i m r b p;obtain ⟨o',l⟩:=Option.ne_none_iff_exists'.1 r
  rcases h.ow i o' b l p with ⟨t,_⟩|t
  .rw [hdel i m o' l] at t;cases t
  .exact t
 have B:=Q5X (C:=C) (s:=s) (η:=η) { v:=.v (.c (.own d)),del:=del,new:=some (.arr es n f),cond:=c } o.dst v Z hstep
  (fun b p=>by
   obtain ⟨i,_,m,g⟩:=hZ b p;obtain ⟨o',l⟩:=Option.ne_none_iff_exists'.1 m
   exact ⟨i,o',l,g⟩)
  (fun _ _ _ _ b p=>(hv b p).imp id fun ⟨i,_,m,g⟩=>by
   obtain ⟨o',l⟩:=Option.ne_none_iff_exists'.1 m;exact ⟨i,o',l,g⟩)
  (fun k o y=>by cases y)
 refine ⟨v,w',.inl hrun,h.step o.dst (fun x A=>by rw [hd] at A;cases A;exact hdn) _ _ _ Z hstep ?_ ?_ (fun k o y=>by cases y) ?_⟩
 .intro b p
  obtain ⟨i,m,r,g⟩:=hZ b p;exact ⟨⟨i,.inl m,r,g⟩,q i m r b g⟩
 .intro o' dd l u
  cases l
  rw [hd] at u;cases u
  refine ⟨hR,rfl,by simp [Obj.refs],hob _ B,fun b p=>?_⟩;rcases hv b p with t|⟨i,m,r,g⟩
  .exact .inl t
  .exact .inr ⟨⟨i,m,r,g⟩,q i m r b g⟩
 .intro _
  refine ⟨.v _ _ (.c _ _ (.own _ _ (by simp [SR.eta,hd]) hone)),fun j z=>?_⟩;simp [AVal.refs,TV.refs,CV.refs] at z
  exact .inr ⟨by simp,by rw [hd,z]⟩
theorem W0V(h:Conc C nt R η e s a w){v:Value}{x:AVal}(hv:ARep w (XS C s η) η C v x){n:Nat}{f:Nat->List DVal}(hx:asL s x=some (n,f)):
  ∃ ad cap,v=.slice ad n cap/\n<=cap/\(n=0\/∃ b off c e' fz es,ad=some ⟨b,off,none⟩/\w.heap[b]?=some (.cells c e' fz)/\off+n*es<=c.size/\(∀ i,i<n->(f i).length=es) /\
   ∀ i j,i<n->j<es->DRep w (XS C s η) (c.getD (off+(i*es+j)) undef) ((f i).getD j .any)):=by
 have k:∀ {v:Value},DRep w (XS C s η) v (.lst n f)->∃ ad cap,v=.slice ad n cap/\n<=cap/\(n=0\/∃ b off c e' fz es,ad=some ⟨b,off,none⟩/\w.heap[b]?=some (.cells c e' fz)/\off+n*es<=c.size/\(∀ i,i<n->(f i).length=es) /\
   ∀ i j,i<n->j<es->DRep w (XS C s η) (c.getD (off+(i*es+j)) undef) ((f i).getD j .any)):=by
  intro v y
  cases y with
  | nil ad cap _=>exact ⟨ad,cap,rfl,Nat.zero_le _,.inl rfl⟩
  | lst b off _ cap c e' fz _ es h1 h2 h3 h4 h5 h6=>exact ⟨_,cap,rfl,h3,.inr ⟨b,off,c,e',fz,es,rfl,h2,h4,h5,h6⟩⟩
 unfold asL at hx;split at hx
 .cases hx
  cases hv with|v _ _ hv=>cases hv with|c _ _ hv=>cases hv with|d _ _ hv=>exact k hv
 .cases hx
  cases hv with|v _ _ hv=>cases hv with|c _ _ hv=>cases hv with|fl _ _ _ hv=>exact k hv
 .split at hx
  .rename_i l _ es A t p
   cases hx
   have g:=h.st l _ p;have z:=Q6V hv
   rw [z];generalize η l=u at g
   cases g with
   | nil _ es _=>exact ⟨_,_,rfl,Nat.le_refl _,.inl rfl⟩
   | arr b _ cap es c e' _ hb hsz hn hm hc hl hel=>
    exact ⟨_,cap,rfl,hn,.inr ⟨b,0,c,e',(0,0),es,rfl,hb,by rw [Nat.zero_add,hsz];exact Nat.mul_le_mul_right _ hn,hl,fun i j q m=>by rw [Nat.zero_add];exact hel i j q m⟩⟩
  .cases hx
 .split at hx
  .rename_i l es r A _ B N t p
   split at hx
   .rename_i o
    subst o;cases hx
    have g:=h.st l _ p
    cases hv with|v _ _ hv=>cases hv with|c _ _ hv=>cases hv with
    | sub b N' cap _ _ _ _ hη h1 h2=>
     rw [hη] at g
     cases g with
     | nil=>exact absurd h2 (Nat.not_lt_zero _)
     | arr b _ cap es c e' _ hb hsz hn hm hc hl hel=>
      refine ⟨_,cap-r,rfl,by omega,.inr ⟨b,r*es,c,e',(0,0),es,rfl,hb,?_,fun i q=>hl _ (by omega),fun i j q m=>?_⟩⟩
      .rw [hsz, <-Nat.add_mul];exact Nat.mul_le_mul_right _ (by omega)
      .rw [<-Nat.add_assoc, <-Nat.add_mul];exact hel (r+i) j (by omega) m
    | subN ad ad' N' _ _ hη=>exact ⟨_,_,rfl,Nat.le_refl _,.inl rfl⟩
   .cases hx
  .cases hx
 .cases hx
theorem W1E(hL:LOk P L)(h:Conc C nt R η e s a w){o:Oper}(hd:∀ x,o.dst=some x->x<nt){t:TypeId}{x:Operand}(hop:o.op=.call { callee:=.builtin .len,args:= #[x],argTypes:= #[t] }){ti:TI}(ht:L t=some ti){el:Nat}(hk:ti.kind=.slice el){n:Nat}{f:Nat->List DVal}(hx:asL s (aev e x)=some (n,f)):Snd P C nt R η e s a w o { v:=vi n }:=by
 obtain ⟨i,dd,z,c⟩:=hL t ti ht;have b:=c.kind
 rw [hk] at b;simp only [KOk] at b
 obtain ⟨j,d,g,_⟩:=W0V h (W8 h x).1 hx;refine y8 h hd (v:=.int .i64 n) ?_ (Q5e _ _ _) (by simp [vi,AVal.refs,TV.refs,CV.refs])
 simp [execOp,hop,resolve,invoke,builtin,Builtin.len_,run_underlying c.und,b,g,goInt]
theorem Y6U(hL:LOk P L)(h:Conc C nt R η e s a w){o:Oper}(hd:∀ x,o.dst=some x->x<nt){t:TypeId}{x:Operand}(hop:o.op=.call { callee:=.builtin .len,args:= #[x],argTypes:= #[t] }){ti:TI}(ht:L t=some ti){n el:Nat}(hk:ti.kind=.array n el):Snd P C nt R η e s a w o { v:=vi n }:=by
 obtain ⟨i,dd,z,c⟩:=hL t ti ht;have b:=c.kind
 rw [hk] at b;simp only [KOk] at b
 refine y8 h hd (v:=.int .i64 n) ?_ (Q5e _ _ _) (by simp [vi,AVal.refs,TV.refs,CV.refs]);simp [execOp,hop,resolve,invoke,builtin,Builtin.len_,run_underlying c.und,b,goInt]
theorem Y6T(hL:LOk P L)(h:Conc C nt R η e s a w){o:Oper}(hd:∀ x,o.dst=some x->x<nt){t:TypeId}{x:Operand}(hop:o.op=.call { callee:=.builtin .len,args:= #[x],argTypes:= #[t] }){ti:TI}(ht:L t=some ti)(hk:ti.kind=.str){b:ByteArray}(hx:aev e x=.v (.c (.d (.str b)))):Snd P C nt R η e s a w o { v:=vi b.size }:=by
 obtain ⟨i,dd,z,g⟩:=hL t ti ht;have f:=g.kind
 rw [hk] at f;simp only [KOk] at f
 have j:=(W8 h x).1;rw [hx] at j
 have k:=Z4n j;refine y8 h hd (v:=.int .i64 b.size) ?_ (Q5e _ _ _) (by simp [vi,AVal.refs,TV.refs,CV.refs])
 simp [execOp,hop,resolve,invoke,builtin,Builtin.len_,run_underlying g.und,f,k,goInt]
theorem Y2r(h:Conc C nt R η e s a w){o:Oper}(hd:∀ x,o.dst=some x->x<nt){tys:Array TypeId}{x y:Operand}{bi:Builtin}(hop:o.op=.call { callee:=.builtin bi,args:= #[x,y],argTypes:=tys }){k k' : IntKind}{n n' : Int}(hx:aev e x=.v (.c (.d (.int k n))))(hy:aev e y=.v (.c (.d (.int k' n')))){u:Int}(hu:(bi=.min/\u=Q2b n n')\/(bi=.max/\u=G2 n n')):
  Snd P C nt R η e s a w o { v:=.v (.c (.d (.int k u))) }:=by
 have i:=(W8 h x).1;have f:=(W8 h y).1
 rw [hx] at i;rw [hy] at f
 have b:=Q6b i;have g:=Q6b f
 refine y8 h hd (v:=.int k u) ?_ (Q5e _ _ _) (by simp [AVal.refs,TV.refs,CV.refs]);rcases hu with ⟨rfl,rfl⟩|⟨rfl,rfl⟩
 .simp [execOp,hop,resolve,invoke,builtin,Builtin.min_,Builtin.min2,b,g,Q2b]
 .simp [execOp,hop,resolve,invoke,builtin,Builtin.max_,Builtin.max2,b,g,G2]
theorem Q4v(v:Int)(m:Nat)(code:BoundsCode)(h:0<=v/\v<=m)(k:IntKind):(Instr.sliceBound (.int k v) m code).run P w=.ok v.toNat w:=by
 simp [Instr.sliceBound,asIntOf,h]
theorem Y7V(h:Conc C nt R η e s a w){x:Option Operand}{n:Option Int}(hx:oI e x=some n):(x=none/\n=none)\/∃ k m,x.map a.eval=some (.int k m)/\n=some m:=by
 unfold oI at hx;split at hx
 .cases hx;exact .inl ⟨rfl,rfl⟩
 .rename_i y
  split at hx
  .rename_i m b
   cases hx
   unfold asI at b;split at b
   .rename_i k f d
    cases b
    have c:=(W8 h y).1;rw [d] at c
    exact .inr ⟨k,m,by simp [Q6b c],rfl⟩
   .cases b
  .cases hx
theorem Z5I(h:Conc C nt R η e s a w){lo hi:Option Operand}{l u:Option Int}(hl:oI e lo=some l)(hu:oI e hi=some u)(n cap:Nat)(hn:n<=cap)(f:Nat->List DVal)(hc:(sl n f l u).2):
  (Instr.sliceBounds true n cap (lo.map a.eval) (hi.map a.eval) none).run P w=.ok ((l.getD 0).toNat,(u.getD n).toNat,cap) w/\(l.getD 0).toNat<=(u.getD n).toNat/\(u.getD n).toNat<=n /\
   (sl n f l u).1.1=(u.getD n).toNat-(l.getD 0).toNat/\∀ i,(sl n f l u).1.2 i=f ((l.getD 0).toNat+i):=by
 rcases Y7V h hl with ⟨h1,h2⟩|⟨k,m,h1,h2⟩ <;> rcases Y7V h hu with ⟨h3,h4⟩|⟨k',m',h3,h4⟩ <;> subst h2 <;> subst h4 <;> simp only [sl] at hc
 .subst h1;subst h3
  simp [Instr.sliceBounds,sl]
 .subst h1
  simp [Instr.sliceBounds,sl,h3,Q4v m' cap _ ⟨hc.1,by omega⟩];omega
 .subst h3
  simp [Instr.sliceBounds,sl,h1,Q4v m n _ hc];omega
 .have b:=Q4v (P:=P) (w:=w) m m'.toNat .sliceB ⟨hc.1,by omega⟩ k
  simp [Instr.sliceBounds,sl,h1,h3,Q4v m' cap _ ⟨by omega,by omega⟩,b];omega
theorem Y6q{X:Nat->Prop}{ad:Option Addr}{n cap:Nat}{f:Nat->List DVal}{es:Nat}(h:DRep w X (.slice ad n cap) (.lst n f))(hes:∀ j,j<n->(f j).length=es)(l u:Nat)(hlu:l<=u)(hun:u<=n)(m:Nat)(hm:u-l<=m)(g:Nat->List DVal)(hg:∀ i,g i=f (l+i)):
  DRep w X (.slice (if cap=l then ad else ad.map (·.add (l*es))) (u-l) m) (.lst (u-l) g):=by
 by_cases h0:u-l=0
 .rw [h0];exact .nil _ _ _
 .cases h with
  | nil=>omega
  | lst b off _ _ c e' fz _ es' h1 h2 h3 h4 h5 h6=>
   have k:es'=es:=by rw [<-h5 l (by omega),hes l (by omega)]
   subst k;have o:¬ cap=l:=by omega
   simp only [o,if_false,Option.map_some,add_lit];have d:l*es' + (u-l)*es' <= n*es':=by rw [<-Nat.add_mul];exact Nat.mul_le_mul_right _ (by omega)
   refine .lst b (off+l*es') _ m c e' fz _ es' h1 h2 hm (by omega) (fun i p=>by rw [hg];exact h5 _ (by omega)) fun i j p q=>?_
   rw [hg];have:=h6 (l+i) j (by omega) q
   rwa [show off+((l+i)*es' + j)=off+l*es' + (i*es' + j) from by rw [Nat.add_mul];omega] at this
theorem Y8G(hL:LOk P L)(h:Conc C nt R η e s a w){o:Oper}(hd:∀ x,o.dst=some x->x<nt){t:TypeId}{x:Operand}{lo hi:Option Operand}(hop:o.op=.slice t x lo hi none){ti:TI}(ht:L t=some ti){el:Nat}(hk:ti.kind=.slice el){te:TI}(hte:L el=some te){l u:Option Int}(hl:oI e lo=some l)(hu:oI e hi=some u){n:Nat}{f:Nat->List DVal}(hx:Q9s.asF (aev e x)=some (n,f)){c:Prop}(hc:(sl n f l u).2)(hes:∀ j,j<n->(f j).length=te.size):
  Snd P C nt R η e s a w o { v:=.v (.c (.d (.lst (sl n f l u).1.1 (sl n f l u).1.2))),cond:=c }:=by
 obtain ⟨i,dd,z,q⟩:=hL t ti ht;obtain ⟨J,A,H,p⟩:=hL el te hte
 have m:=q.kind;rw [hk] at m
 simp only [KOk] at m;obtain ⟨I,k,y,b⟩:=Y7D (W8 h x).1 hx
 rw [y] at b;have E:n<=k:=by cases b with|nil=>exact Nat.zero_le _|lst _ _ _ _ _ _ _ _ _ _ _ r=>exact r
 obtain ⟨D,B,F,r,G⟩:=Z5I (P:=P) h hl hu n k E f hc;have g:=Y6q b hes (l.getD 0).toNat (u.getD n).toNat B F (k-(l.getD 0).toNat) (by omega) (sl n f l u).1.2 G
 rw [<-r] at g;refine y8 h hd ?_ (.v _ _ (.c _ _ (.d _ _ g))) (by simp [AVal.refs,TV.refs,CV.refs])
 simp only [execOp,hop,Sem.run_bind,Instr.sliceAt,run_underlying q.und,Result.andThen_ok,m,Instr.slice,y,Option.map_none,D,y6 p,Sem.run_pure,r]
theorem Y6R(hL:LOk P L)(h:Conc C nt R η e s a w){o:Oper}(hd:∀ x,o.dst=some x->x<nt){t:TypeId}{x hx mx:Operand}(hop:o.op=.slice t x none (some hx) (some mx)){ti:TI}(ht:L t=some ti){el:Nat}(hk:ti.kind=.slice el){te:TI}(hte:L el=some te){u:Int}(hu:asI (aev e hx)=some u)(hm:asI (aev e mx)=some u)(h0:0<u){n:Nat}{f:Nat->List DVal}(hxx:Q9s.asF (aev e x)=some (n,f)){c:Prop}(hc:u<=n)(hes:∀ j,j<n->(f j).length=te.size):
  Snd P C nt R η e s a w o { v:=.v (.c (.fl u.toNat f)),cond:=c }:=by
 obtain ⟨i,dd,z,B⟩:=hL t ti ht;obtain ⟨S,J,N,r⟩:=hL el te hte
 have q:=B.kind;rw [hk] at q
 simp only [KOk] at q;obtain ⟨D,p,H,d⟩:=Y7D (W8 h x).1 hxx
 rw [H] at d;have Q:n<=p:=by cases d with|nil=>exact Nat.zero_le _|lst _ _ _ _ _ _ _ _ _ _ _ h3=>exact h3
 have b:∀ {y:Operand} {m:Int},asI (aev e y)=some m->∃ k,a.eval y=.int k m:=by
  intro y m hm;unfold asI at hm
  split at hm
  .rename_i k O F
   cases hm
   have G:=(W8 h y).1;rw [F] at G
   exact ⟨k,Q6b G⟩
  .cases hm
 obtain ⟨k1,F⟩:=b hu;obtain ⟨k2,K⟩:=b hm
 have g:=Y6q d hes 0 u.toNat (Nat.zero_le _) (by omega) u.toNat (by omega) f (fun i=>by rw [Nat.zero_add]);have A:¬ p=0:=by omega
 simp only [A,if_false,Nat.zero_mul,Nat.sub_zero] at g;have l:D.map (fun x:Addr=>x.add 0)=D:=by cases D <;> simp [Addr.add]
 rw [l] at g;refine y8 h hd (v:=.slice D u.toNat u.toNat) ?_ (.v _ _ (.c _ _ (.fl _ _ _ g))) (by simp [AVal.refs,TV.refs,CV.refs])
 have M:=Q4v (P:=P) (w:=w) u p .slice3Acap ⟨by omega,by omega⟩ k2;have I:=Q4v (P:=P) (w:=w) u u.toNat .slice3B ⟨by omega,by omega⟩ k1
 have E:¬ u.toNat=0:=by omega
 simp only [execOp,hop,Sem.run_bind,Instr.sliceAt,run_underlying B.und,Result.andThen_ok,q,Instr.slice,H,Instr.sliceBounds,Option.map_some,Option.map_none,if_true,F,K,M,I,Sem.run_pure,y6 r,E,if_false,Nat.zero_mul,Nat.sub_zero,l]
end
end
section
section
variable {P:Program} {L:Lay} {C:Ctx} {nt:Nat} {R:Nat->Prop} {η:Nat->Value} {e:Env} {s:Sto} {a:Act} {w:World}
theorem Y7W{X:Nat->Prop}{ad:Option Addr}{n es:Nat}{g:Nat->List DVal}(hn:n≠0)(h:n=0\/∃ b off c e' fz es',ad=some ⟨b,off,none⟩/\w.heap[b]?=some (.cells c e' fz)/\off+n*es' <= c.size/\(∀ i,i<n->(g i).length=es') /\
   ∀ i j,i<n->j<es' -> DRep w X (c.getD (off+(i*es' + j)) undef) ((g i).getD j .any))(hes:∀ i,i<n->(g i).length=es):
  ∃ b off,ad=some ⟨b,off,none⟩/\∃ news:List Value,news.length=n*es/\(∀ j u,news[j]?=some u->w.cell? ((⟨b,off,none⟩:Addr).add j)=some u)/\(∀ u ∈ news,u.oneCell'=true) /\
   ∀ i j,i<n->j<es->DRep w X (news.getD (i*es+j) undef) ((g i).getD j .any):=by
 rcases h with h|⟨b,off,c,e',fz,es',rfl,v,y,r,p⟩
 .exact absurd h hn
 .have m:es'=es:=by rw [<-r 0 (by omega),hes 0 (by omega)]
  subst m;refine ⟨b,off,rfl,Q8L c off (n*es'),by simp [Q8L],fun j u d=>?_,fun u d=>?_,fun i j q f=>?_⟩
  .simp only [Q8L,List.getElem?_map] at d
   by_cases f:j<n*es'
   .rw [List.getElem?_range f] at d
    cases d
    rw [add_lit];exact Z9O v _ (by omega)
   .rw [List.getElem?_eq_none (by simp;omega)] at d;cases d
  .simp only [Q8L] at d
   obtain ⟨k,o,rfl⟩:=List.mem_map.1 d;rw [List.mem_range] at o
   by_cases hz:es'=0
   .subst hz;simp at o
   .have t:k / es' < n:=Nat.div_lt_of_lt_mul (by rw [Nat.mul_comm];exact o)
    have x:k % es' < es':=Nat.mod_lt _ (by omega);have:=(p (k / es') (k % es') t x).one
    rwa [show k / es' * es' + k % es'=k from by rw [Nat.mul_comm];exact Nat.div_add_mod k es'] at this
  .have l:i*es' + j<n*es':=by
    have:(i+1)*es' <= n*es':=Nat.mul_le_mul_right _ q
    rw [Nat.add_mul,Nat.one_mul] at this;omega
   have:(Q8L c off (n*es')).getD (i*es' + j) undef=c.getD (off+(i*es' + j)) undef:=by simp [Q8L,List.getD_eq_getElem?_getD,l]
   rw [this];exact p i j q f
theorem Y6w{n b:Nat}(h:n<=LIM)(hb:b<=8192):n*b<=140737488355328:=by
 have:=Nat.mul_le_mul h hb
 simp only [LIM] at this;omega
theorem Y4c{c:Array Value}{k t:Nat}{xs:List Value}(h:c.toList.take k=xs)(ht:t<k):c.getD t undef=xs.getD t undef:=by
 rw [<-h];simp [List.getD_eq_getElem?_getD,ht]
theorem Y8x{X:Nat->Prop}{es n k:Nat}{f g:Nat->List DVal}{c:Array Value}{olds news:List Value}(hc:c.toList.take ((n+k)*es)=olds++news)(ho:olds.length=n*es)(h1:∀ i j,i<n->j<es->DRep w X (olds.getD (i*es+j) undef) ((f i).getD j .any))(h2:∀ i j,i<k->j<es->DRep w X (news.getD (i*es+j) undef) ((g i).getD j .any)):
  ∀ i j,i<n+k->j<es->DRep w X (c.getD (i*es+j) undef) ((Q5L n f g i).getD j .any):=by
 intro i j o m;have l:i*es+j<(n+k)*es:=by
  have:(i+1)*es<=(n+k)*es:=Nat.mul_le_mul_right _ o
  rw [Nat.add_mul,Nat.one_mul] at this;omega
 rw [Y4c hc l];unfold Q5L
 by_cases h3:i<n
 .have h : i*es+j<olds.length:=by
   have:(i+1)*es<=n*es:=Nat.mul_le_mul_right _ h3
   rw [Nat.add_mul,Nat.one_mul] at this;omega
  rw [if_pos h3];have:(olds++news).getD (i*es+j) undef=olds.getD (i*es+j) undef:=by simp [List.getD_eq_getElem?_getD,List.getElem?_append,h]
  rw [this];exact h1 i j h3 m
 .have p:n*es<=i*es:=Nat.mul_le_mul_right _ (by omega)
  rw [if_neg h3];have:(olds++news).getD (i*es+j) undef=news.getD ((i-n)*es+j) undef:=by
   have d:i*es+j-olds.length=(i-n)*es+j:=by rw [ho,Nat.sub_mul];omega
   have b:¬ i*es+j<olds.length:=by omega
   simp [List.getD_eq_getElem?_getD,List.getElem?_append,b,d]
  rw [this];exact h2 (i-n) j (by omega) m
theorem Y1m(t ty:TypeId){el:TypeId}{i:TypeInfo}(hu:P.underlying t=some (.slice el))(hi:P.info? el=some i)(base:Option Addr)(n cap:Nat)(hn:n<=cap)(ad:Option Addr)(c:Nat):
  (Builtin.append_ #[t,t] ty #[.slice base n cap,.slice ad 0 c]).run P w=.ok (.slice base n cap) w:=by
 have b:(Builtin.firstCells i.size 0 (.slice ad 0 c)).run P w=.ok #[] w:=by cases ad <;> simp [Builtin.firstCells,loadCells,loadCellsFrom]
 cases base <;> simp [Builtin.append_,run_underlying hu,sizeOf,typeInfo,hi,Builtin.lenOf,hn,b,storeCells]
theorem Y0h(t ty e e' : TypeId)(i:TypeInfo)(ht:P.underlying t=some (.slice e))(hi:P.info? e=some i)(g sLen sCap:Nat)(cur:Array Value)(hg:w.heap[g]?=some (.cells cur e' (0,0)))(a:Addr)(m c:Nat)(news:List Value)(hl:news.length=m*i.size)(hnews:∀ j u,news[j]?=some u->w.cell? (a.add j)=some u)(h1:∀ u ∈ news,u.oneCell'=true)(hroom:sLen+m<=sCap)(hfit:sLen*i.size+news.length<=cur.size):
  (Builtin.append_ #[t,t] ty #[.slice (some ⟨g,0,none⟩) sLen sCap,.slice (some a) m c]).run P w =
   .ok (.slice (some ⟨g,0,none⟩) (sLen+m) sCap) (w.setRow g (cur.toList.take (sLen*i.size)++news++cur.toList.drop (sLen*i.size+news.length)).toArray):=by
 have d:=run_firstCells_some (P:=P) w i.size m a m c news hl hnews;have b:=run_storeCells_at P g (sLen*i.size) e' news 0 cur w hg (by simpa using hfit) h1
 simp only [Nat.add_zero] at b;simp [Builtin.append_,run_underlying ht,sizeOf,typeInfo,hi,Builtin.lenOf,hroom,d,Addr.add_lit,b]
theorem Y3V(Z:Nat->Prop)(w:World)(o:Go.Obj):Stp Z w (w.drew.alloc o):=
 ⟨rfl,rfl,rfl,by simp,fun b c _=>by rw [heap_alloc_old w.drew o b c];rfl,Nat.le_succ _⟩
theorem Y4i(h:Conc C nt R η e s a w){o:Oper}{d:Nat}(hd:o.dst=some d)(hdn:d<nt)(hR:¬ R d){del:List Nat}(hdel:∀ i ∈ del,∀ o',s i=some o' -> o'.ro=false){es n k gc:Nat}{f g:Nat->List DVal}{c:Prop}{olds news:List Value}{z:Array Value}{el:TypeId}(hrun:(execOp a.eval o).run P w=.ok (.value (.slice (some ⟨w.heap.size,0,none⟩) (n+k) gc)) (w.drew.alloc (.cells (olds.toArray++news.toArray++Builtin.zeroCells z (gc-(n+k))) el)))(hz:z.size=es)(ho:olds.length=n*es)(hnl:news.length=k*es)(hgc:n+k<=gc)(hgm:gc<=maxLen)(hk:0<k)(hfl:∀ i,i<n->(f i).length=es)(hgl:∀ i,i<k->(g i).length=es)(h1:∀ i j,i<n->j<es->DRep w (XS C s η) (olds.getD (i*es+j) undef) ((f i).getD j .any))(h2:∀ i j,i<k->j<es->DRep w (XS C s η) (news.getD (i*es+j) undef) ((g i).getD j .any)):
  Snd P C nt R η e s a w o { v:=.v (.c (.own d)),del:=del,new:=some (.arr es (n+k) (Q5L n f g)),cond:=c }:=by
 refine Q3a h hd hdn hR (Z:=fun _=>False) hrun (Y3V _ w _) rfl (fun b r=>r.elim) hdel (fun b r=>.inl (by simp [W2] at r;omega)) fun X' l=>?_
 refine .arr _ _ gc es _ el _ (heap_alloc_new w.drew _) ?_ hgc hgm (by omega) (fun i p=>?_) ?_
 .simp only [Array.size_append,List.size_toArray,size_zeroCells,hz,ho,hnl, <-Nat.add_mul]
  congr 1;omega
 .unfold Q5L
  by_cases h3:i<n
  .rw [if_pos h3];exact hfl i h3
  .rw [if_neg h3];exact hgl _ (by omega)
 .refine Y8x (olds:=olds) (news:=news) ?_ ho (fun i j p q=>(h1 i j p q).mono l) (fun i j p q=>(h2 i j p q).mono l)
  have m:(olds++news).length=(n+k)*es:=by rw [List.length_append,ho,hnl,Nat.add_mul]
  simp only [Array.toList_append,List.append_assoc];rw [<-List.append_assoc, <-m]
  exact List.take_left
theorem Q5k(hL:LOk P L)(h:Conc C nt R η e s a w){o:Oper}{d:Nat}(hd:o.dst=some d)(hdn:d<nt)(hR:¬ R d){t:TypeId}{x y:Operand}(hop:o.op=.call { callee:=.builtin .append,args:= #[x,y],argTypes:= #[t,t] }){ti:TI}(ht:L t=some ti){el:Nat}(hk:ti.kind=.slice el){te:TI}(hte:L el=some te)(hby:te.bytes<=8192)(hzl:te.zero.length=te.size){del:List Nat}(hdel:∀ i ∈ del,∀ o',s i=some o' -> o'.ro=false){n k cap:Nat}{f g:Nat->List DVal}{c:Prop}(hlim:n+k<=LIM){base:Option Addr}(ex:a.eval x=.slice base n cap)(hcap:cap<n+k)(hb0:base=none->n=0/\cap=0){olds:List Value}(holdl:olds.length=n*te.size)(holds:∀ b0,base=some b0->∀ j u,olds[j]?=some u->w.cell? (b0.add j)=some u){b2:Addr}{cy:Nat}(ey:a.eval y=.slice (some b2) k cy){news:List Value}(hnl:news.length=k*te.size)(hncell:∀ j u,news[j]?=some u->w.cell? (b2.add j)=some u)(hk0:0<k)(hfl:∀ i,i<n->(f i).length=te.size)(hgl:∀ i,i<k->(g i).length=te.size)(h1:∀ i j,i<n->j<te.size->DRep w (XS C s η) (olds.getD (i*te.size+j) undef) ((f i).getD j .any))(h2:∀ i j,i<k->j<te.size->DRep w (XS C s η) (news.getD (i*te.size+j) undef) ((g i).getD j .any)):
  Snd P C nt R η e s a w o { v:=.v (.c (.own d)),del:=del,new:=some (.arr te.size (n+k) (Q5L n f g)),cond:=c }:=by
 obtain ⟨i,dd,z,q⟩:=hL t ti ht;obtain ⟨E,G,B,b⟩:=hL el te hte
 have p:=q.kind;rw [hk] at p
 simp only [KOk] at p;subst p
 have A:B.cells.size=te.size:=by rw [(b.zrep w (fun _=>False) η C).1,hzl]
 have l:∀ {v:Value} {w' : World},(Builtin.append_ #[t,t] o.type #[a.eval x,a.eval y]).run P w=.ok v w' -> (execOp a.eval o).run P w=.ok (.value v) w':=by
  intro v w' F;simp [execOp,hop,resolve,invoke,builtin,F]
 cases base with
 | none=>
  obtain ⟨rfl,rfl⟩:=hb0 rfl;have:olds=[]:=List.eq_nil_of_length_eq_zero (by rw [holdl,Nat.zero_mul])
  subst this;have D:=run_append_nil (P:=P) w t o.type el E B q.und b.info b.zero b2 k cy news (by rw [b.size];exact hnl) hncell (by omega) (by simp only [LIM] at hlim;omega)
   (by have:=Y6w (n:=k) (by omega) hby;rw [b.bytes];omega)
  have r:=l (by rw [ex,ey];exact D);have m : (execOp a.eval o).run P w=.ok (.value (.slice (some ⟨w.heap.size,0,none⟩) (0+k) (grownCap w k 0 el))) (w.drew.alloc (.cells (([]:List Value).toArray++news.toArray++Builtin.zeroCells B.cells (grownCap w k 0 el-(0+k))) el)):=by
   rw [r];simp
  exact Y4i h hd hdn hR hdel m A (by simp) hnl (by have:=grownCap_ge w k 0 el;omega) (grownCap_le_maxLen w k 0 el (by simp only [LIM] at hlim;simp only [maxLen];omega)) (by omega) hfl hgl h1 h2
 | some b0=>
  have D:=run_append_grow (P:=P) w t o.type el E B q.und b.info b.zero b0 n cap olds (by rw [b.size];exact holdl) (holds b0 rfl) b2 k cy news (by rw [b.size];exact hnl) hncell (by omega) (by simp only [LIM] at hlim;omega)
   (growslice_fits (by omega) (by rw [b.bytes];exact Y6w hlim hby))
  exact Y4i h hd hdn hR hdel (l (by rw [ex,ey];exact D)) A holdl hnl (grownCap_ge w (n+k) cap el) (grownCap_le_maxLen w (n+k) cap el (by simp only [LIM] at hlim;simp only [maxLen];omega)) (by omega) hfl hgl h1 h2
theorem Z8p(hL:LOk P L)(h:Conc C nt R η e s a w){o:Oper}{d:Nat}(hd:o.dst=some d)(hdn:d<nt)(hR:¬ R d){t:TypeId}{x y:Operand}(hop:o.op=.call { callee:=.builtin .append,args:= #[x,y],argTypes:= #[t,t] }){ti:TI}(ht:L t=some ti){el:Nat}(hk:ti.kind=.slice el){te:TI}(hte:L el=some te){k:Nat}{g:Nat->List DVal}(hy:asL s (aev e y)=some (k,g)){del:List Nat}{n:Nat}{f:Nat->List DVal}{c0:Prop}(hx:Z9S s te.size k (aev e x)=some (del,n,f,c0))(hc0:c0)(hby:te.bytes<=8192)(hzl:te.zero.length=te.size){c:Prop}(hlim:n+k<=LIM)(hgl:∀ j,j<k->(g j).length=te.size):
  Snd P C nt R η e s a w o { v:=.v (.c (.own d)),del:=del,new:=some (.arr te.size (n+k) (Q5L n f g)),cond:=c }:=by
 obtain ⟨i,dd,z,S⟩:=hL t ti ht;obtain ⟨i2,d4,z2,B⟩:=hL el te hte
 have b3:=S.kind;rw [hk] at b3
 simp only [KOk] at b3;subst b3
 obtain ⟨ad,cy,U,d5,a0⟩:=W0V h (W8 h y).1 hy;have d3:z2.cells.size=te.size:=by rw [(B.zrep w (fun _=>False) η C).1,hzl]
 have I:∀ {v:Value} {w' : World},(Builtin.append_ #[t,t] o.type #[a.eval x,a.eval y]).run P w=.ok v w' -> (execOp a.eval o).run P w=.ok (.value v) w':=by
  intro v w' hh;simp [execOp,hop,resolve,invoke,builtin,hh]
 unfold Z9S at hx;split at hx
 .
  rename_i Q e1
  split at hx
  .rename_i b7 n' f' hs
   split at hx
   .rename_i c3
    cases hx
    subst c3;have A:=(W8 h x).1
    rw [e1] at A;have ex:=Q6V A
    have N:=h.st Q _ hs
    by_cases hk0:k=0
    .
     subst hk0;have W:=N
     generalize hu:η Q=u at N ex;have hn:∃ l E,u=.slice l n E/\n<=E:=by
      cases N with
      | nil=>exact ⟨_,_,rfl,Nat.le_refl _⟩
      | arr b _ E _ c' e' _ _ _ hn _ _ _ _=>exact ⟨_,_,rfl,hn⟩
     obtain ⟨l,E,b5,hn⟩:=hn;refine Q3a h hd hdn hR (Z:=fun _=>False) (v:=u) (w':=w) (I (by rw [ex,U,b5];exact Y1m t o.type S.und B.info l n E hn ad cy)) (Stp.refl _ _) (by rw [b5];rfl) (fun b O=>O.elim)
      (fun i' p o' H=>by simp at p;subst p;rw [hs] at H;cases H;rfl) (fun b O=>.inr ⟨Q,by simp,by rw [hs];simp,by rw [hu];exact O⟩) fun X' G=>?_
     rw [hu] at W;have c7 : ∀ b,b ∈ W2 u->w.heap[b]?=w.heap[b]?:=fun _ _=>rfl
     have:=W.mono (η':=SR.eta { v:=.v (.c (.own d)),del:=[Q],new:=some (.arr te.size (n+0) (Q5L n f g)),cond:=c } o.dst u η) G (by simp [Obj.refs]) c7
     cases this with
     | nil=>exact .nil _ _ _
     | arr b _ cap' _ c' e' _ q1 q2 q3 q4 q5 q6 q7=>
      refine .arr b n cap' _ c' e' _ q1 q2 q3 q4 q5 (fun i D=>?_) fun i j D r=>?_
      .simp only [Q5L,if_pos D];exact q6 i D
      .simp only [Q5L,if_pos D];exact q7 i j D r
    .obtain ⟨b2,a1,b1,news,F,m,M,q⟩:=Y7W hk0 a0 hgl
     subst b1;generalize hu:η Q=u at N ex
     cases N with
     | nil l _ _=>
      exact Q5k hL h hd hdn hR hop ht hk hte hby hzl (fun i' p o' H=>by simp at p;subst p;rw [hs] at H;cases H;rfl) hlim ex (by omega) (fun _=>⟨rfl,rfl⟩) (olds:=[]) (by simp) (fun _ _ j u r=>by simp at r) U F m (by omega)
       (fun i D=>by omega) hgl (fun i j D=>by omega) q
     | arr b _ E _ c' e' _ O hsz hn hm hc hl hel=>
      have V:∀ i' ∈ [Q],∀ o',s i'=some o' -> o'.ro=false:=fun i' p o' H=>by simp at p;subst p;rw [hs] at H;cases H;rfl
      have d9:n*te.size<=E*te.size:=Nat.mul_le_mul_right _ hn;have J:(c'.toList.take (n*te.size)).length=n*te.size:=by simp;omega
      have T:∀ i j,i<n->j<te.size->DRep w (XS C s η) ((c'.toList.take (n*te.size)).getD (i*te.size+j) undef) ((f i).getD j .any):=by
       intro i j D r;have a7:i*te.size+j<n*te.size:=by
        have:(i+1)*te.size<=n*te.size:=Nat.mul_le_mul_right _ D
        rw [Nat.add_mul,Nat.one_mul] at this;omega
       rw [<-Y4c rfl a7];exact hel i j D r
      by_cases hroom:n+k<=E
      .have K:n*i2.size+news.length<=c'.size:=by rw [B.size,F,hsz, <-Nat.add_mul];exact Nat.mul_le_mul_right _ hroom
       have hr:=Y0h (P:=P) t o.type el e' i2 S.und B.info b n E c' O ⟨b2,a1,none⟩ k cy news (by rw [B.size];exact F) m M hroom K;rw [B.size] at hr K
       have b9:=I (by rw [ex,U];exact hr);have Y:b ∈ W2 (η Q):=by rw [hu];simp [W2];omega
       refine Q3a h hd hdn hR (Z:=fun x=>x=b) b9 (Z4r w b _) rfl (fun x hx=>⟨Q,by simp,by rw [hs];simp,by rw [hx];exact Y⟩) V (fun x hx=>.inr ⟨Q,by simp,by rw [hs];simp,by simp [W2] at hx;rw [hx.2];exact Y⟩) fun X' G=>?_
       refine .arr b (n+k) E te.size _ e' _ (setRow_heap w b c' _ e' _ O) (by rw [(Z1h c' (n*te.size) news K).1];exact hsz) hroom hm hc (fun i D=>?_) ?_
       .unfold Q5L
        by_cases h3:i<n
        .rw [if_pos h3];exact hl i h3
        .rw [if_neg h3];exact hgl _ (by omega)
       .refine Y8x (olds:=c'.toList.take (n*te.size)) (news:=news) ?_ J (fun i j D r=>(T i j D r).mono G) (fun i j D r=>(q i j D r).mono G)
        have c1:(c'.toList.take (n*te.size)++news).length=(n+k)*te.size:=by rw [List.length_append,J,F,Nat.add_mul]
        rw [<-c1];exact List.take_left
      .have a9:∀ j u,(c'.toList.take (n*te.size))[j]?=some u->w.cell? ((⟨b,0,none⟩:Addr).add j)=some u:=by
        intro j u r;rw [List.getElem?_take] at r
        split at r
        .rw [add_lit,Nat.zero_add,cell_of_row w b j c' e' (0,0) O];simpa using r
        .cases r
       exact Q5k hL h hd hdn hR hop ht hk hte hby hzl V hlim ex (by omega) (fun hh=>by cases hh) J (fun b0 a4=>by cases a4;exact a9) U F m (by omega) hl hgl T q
   .cases hx
  .cases hx
 .
  rename_i n' f' e1
  split at hx
  .rename_i e0
   cases hx
   have A:=(W8 h x).1;rw [e1] at A
   generalize hex:a.eval x=u at A;have c6:∃ l,u=.slice l n n/\DRep w (XS C s η) (.slice l n n) (.lst n f):=by
    cases A with|v _ _ A=>cases A with|c _ _ A=>cases A with|fl l _ _ A=>exact ⟨l,rfl,A⟩
   obtain ⟨l,rfl,b6⟩:=c6
   by_cases hk0:k=0
   .subst hk0
    have a8:n=0:=by omega
    subst a8;exact Q3a h hd hdn hR (del:=[]) (Z:=fun _=>False) (v:=.slice l 0 0) (w':=w) (I (by rw [hex,U];exact Y1m t o.type S.und B.info l 0 0 (Nat.le_refl _) ad cy)) (Stp.refl _ _) rfl (fun b O=>O.elim)
     (fun i' p=>by cases p) (fun b O=>by cases l <;> simp [W2] at O) fun X' _=>.nil _ _ _
   .obtain ⟨b2,a1,b1,news,F,m,M,q⟩:=Y7W hk0 a0 hgl
    subst b1
    cases b6 with
    | nil _ _ _=>
     exact Q5k hL h hd hdn hR hop ht hk hte hby hzl (fun i' p=>by cases p) hlim hex (by omega) (fun _=>⟨rfl,rfl⟩) (olds:=[]) (by simp) (fun _ _ j u r=>by simp at r) U F m (by omega)
      (fun i D=>by omega) hgl (fun i j D=>by omega) q
    | lst b off _ _ c' e' fz _ b7 q1 q2 q3 q4 q5 q6=>
     by_cases a8:n=0
     .subst a8
      exact Q5k hL h hd hdn hR hop ht hk hte hby hzl (fun i' p=>by cases p) hlim hex (by omega) (fun hh=>by cases hh) (olds:=[]) (by simp) (fun _ _ j u r=>by simp at r) U F m (by omega)
       (fun i D=>by omega) hgl (fun i j D=>by omega) q
     have c5:b7=te.size:=by rw [<-q5 0 (by omega),hc0 0 (by omega)]
     subst c5;have hv:∀ j,j<n*te.size->(Q8L c' off (n*te.size)).getD j undef=c'.getD (off+j) undef:=fun j r=>by simp [Q8L,List.getD_eq_getElem?_getD,r]
     refine Q5k hL h hd hdn hR hop ht hk hte hby hzl (fun i' p=>by cases p) hlim hex (by omega) (fun hh=>by cases hh) (olds:=Q8L c' off (n*te.size)) (by simp [Q8L]) (fun b0 a4 j u r=>?_) U F m (by omega)
      q5 hgl (fun i j D r=>?_) q
     .cases a4
      simp only [Q8L,List.getElem?_map] at r
      by_cases hjj:j<n*te.size
      .rw [List.getElem?_range hjj] at r
       cases r
       rw [add_lit];exact Z9O q2 _ (by omega)
      .rw [List.getElem?_eq_none (by simp;omega)] at r;cases r
     .have a7:i*te.size+j<n*te.size:=by
       have:(i+1)*te.size<=n*te.size:=Nat.mul_le_mul_right _ D
       rw [Nat.add_mul,Nat.one_mul] at this;omega
      rw [hv _ a7];exact q6 i j D r
  .cases hx
 .cases hx
end
end
section
section
variable {P:Program} {L:Lay} {C:Ctx} {nt:Nat} {R:Nat->Prop} {η:Nat->Value} {e:Env} {s:Sto} {a:Act} {w:World}
theorem Z5N{α:Type}(n:Nat)(xs:List α):(Y2y n xs).length=n*xs.length:=by
 induction n with
 | zero=>simp [Y2y]
 | succ n ih=>simp [Y2y,ih,Nat.add_mul];omega
theorem Y8K{α:Type}(n:Nat)(xs:List α)(d:α)(i:Nat)(h:i<n*xs.length):(Y2y n xs).getD i d=xs.getD (i % xs.length) d:=by
 induction n generalizing i with
 | zero=>simp at h
 | succ n ih=>
  rw [Nat.add_mul,Nat.one_mul] at h
  by_cases h1:i<xs.length
  .simp [Y2y,List.getD_eq_getElem?_getD,List.getElem?_append,h1,Nat.mod_eq_of_lt h1]
  .have:=ih (i-xs.length) (by omega)
   have b:(i-xs.length) % xs.length=i % xs.length:=by rw [<-Nat.mod_eq_sub_mod (by omega)]
   rw [b] at this;rw [<-this]
   simp [Y2y,List.getD_eq_getElem?_getD,List.getElem?_append,h1]
theorem Z3n(n:Nat)(f:Nat->Value)(j:Nat)(hj:j<n):((Array.range n).map f).getD j undef=f j:=by
 have h:j<((Array.range n).map f).size:=by simpa using hj
 have:((Array.range n).map f).getD j undef=((Array.range n).map f)[j]:=by simp only [Array.getD,h,dite_true];rfl
 rw [this];simp
theorem Z3m(f:Nat->Value):(Array.range 0).map f=#[]:=Array.eq_empty_of_size_eq_zero (by simp)
theorem Y8C{X:Nat->Prop}{z:Array Value}{zs:List CV}(h:Q0e w X η C z zs)(len:Nat):Q0e w X η C ((Array.range (len*zs.length)).map (z[· % z.size]!)) (Y2y len zs):=by
 refine ⟨by simp [Z5N],fun j c=>?_⟩;rw [Z5N] at c
 rw [Y8K _ _ _ _ c];have b:0<zs.length:=by rcases Nat.eq_zero_or_pos zs.length with d|d;simp [d] at c;exact d
 have f:=Nat.mod_lt j b;have:=h.2 _ f
 have g:((Array.range (len*zs.length)).map (z[· % z.size]!)).getD j undef=z.getD (j % zs.length) undef:=by
  have:j % z.size<z.size:=by rw [h.1];exact f
  rw [Z3n _ _ _ c, <-h.1];simp [this]
 rw [g];exact this
theorem Y2v{t:TypeId}{ti:TI}{i:TypeInfo}{el:TypeId}{z:Value}(hti:TIOk P t ti i (.slice el) z){te:TI}{i2:TypeInfo}{d2:TypeDesc}{z2:Value}(hte:TIOk P el te i2 d2 z2)(len:Nat)(hl:len*te.size<=16777216){Q7w:Array (Nat×Value)}{cells:Array Value}(hf:Instr.fill (fun i=>some (i*te.size,te.size)) ((Array.range (len*te.size)).map (z2.cells[· % z2.cells.size]!)) Q7w.toList=some cells):
  (Instr.buildSlice t len Q7w).run P w=.ok (.slice (some ⟨w.heap.size,0,none⟩) len len) { w with heap:=w.heap.push (.cells cells el) }:=by
 have b:¬ (16777216<len*te.size):=by omega
 by_cases h0:len*te.size=0
 .rw [h0,Z3m] at hf
  simp only [Instr.buildSlice,Sem.run_bind,run_underlying hti.und,Result.andThen_ok,y6 hte,gt_iff_lt,Nat.reducePow,h0,if_true,Sem.run_pure,Sem.run_ite,Z3m];rw [hf]
  simp [newRow]
 .simp only [Instr.buildSlice,Sem.run_bind,run_underlying hti.und,Result.andThen_ok,y6 hte,b,gt_iff_lt,Nat.reducePow,if_false,h0,Sem.run_pure,Sem.run_ite,Q9w hte]
  rw [hf];simp [newRow]
theorem Z8n{X:Nat->Prop}{c:Array Value}{cs:List CV}{ds:List DVal}(h:Q0e w X η C c cs)(hd:Y2g cs=some ds):ds.length=c.size/\∀ j,j<ds.length->DRep w X (c.getD j undef) (ds.getD j .any):=by
 obtain ⟨f,d⟩:=Y7K cs ds c 0 hd (fun j b=>by rw [Nat.zero_add];exact h.2 j b);exact ⟨by rw [f,h.1],fun j b=>by have:=d j b;rwa [Nat.zero_add] at this⟩
theorem W2X(ds:List DVal)(es i j:Nat)(hj:j<es):(((ds.drop (i*es)).take es)).getD j .any=ds.getD (i*es+j) .any:=Q8t ds (i*es) es j .any hj
theorem Y2s(hL:LOk P L)(h:Conc C nt R η e s a w){o:Oper}(hdn:∀ x,o.dst=some x->x<nt){t:TypeId}{len:Nat}{ps:Array (Nat×Operand)}(hop:o.op=.buildSlice t len ps){ti:TI}(ht:L t=some ti){el:Nat}(hk:ti.kind=.slice el){te:TI}(hte:L el=some te)(hle:len*te.size<=16777216)(hzl:te.zero.length=te.size){cs:List CV}(hf:Z8g (fun i=>some (i*te.size,te.size)) (Y2y len te.zero) (ps.toList.map fun p=>(p.1,aev e p.2))=some cs){ds:List DVal}(hds:Y2g cs=some ds):
  Snd P C nt R η e s a w o { v:=.v (.c (.d (.lst len fun i=>(ds.drop (i*te.size)).take te.size))) } /\
  ∀ d,o.dst=some d->¬ R d->0<te.size->Snd P C nt R η e s a w o { v:=.v (.c (.own d)),new:=some (.arr te.size len fun i=>(ds.drop (i*te.size)).take te.size) }:=by
 obtain ⟨i,dd,z,N⟩:=hL t ti ht;obtain ⟨i2,d2,z2,l⟩:=hL el te hte
 have q:=N.kind;rw [hk] at q
 simp only [KOk] at q;subst q
 obtain ⟨m1,m2,_⟩:=W0y h ps;have hz:=l.zrep w (XS C s η) η C
 have a4:z2.cells.size=te.size:=by rw [hz.1,hzl]
 have H:=Y8C hz len;rw [hzl] at H
 obtain ⟨E,n,k,_⟩:=Y8j _ _ _ _ _ hf H m1 m2;have J:=Y2v (w:=w) N l len hle n
 have f:(execOp a.eval o).run P w=.ok (.value (.slice (some ⟨w.heap.size,0,none⟩) len len)) { w with heap:=w.heap.push (.cells E el) }:=by
  simp only [execOp,hop,Sem.run_bind];rw [J];rfl
 obtain ⟨u,T⟩:=Z8n k hds;have m:ds.length=len*te.size:=by
  have:=k.1
  have Y:cs.length=(Y2y len te.zero).length:=by
   have V:∀ (ps:List (Nat×AVal)) (pl:Nat->Option (Nat×Nat)) (O cs:List CV),Z8g pl O ps=some cs->cs.length=O.length:=by
    intro ps pl
    induction ps with
    | nil=>intro O cs h;cases h;rfl
    | cons p r ih=>
     intro O cs h;obtain ⟨i,x⟩:=p
     simp only [Z8g] at h;split at h
     .split at h
      .rename_i a1;rw [ih _ _ h,Q2Z _ _ _ (by omega)]
      .cases h
     .cases h
   exact V _ _ _ _ hf
  rw [u,this,Y,Z5N,hzl]
 have M:∀ i,i<len->((ds.drop (i*te.size)).take te.size).length=te.size:=by
  intro i D;have:(i+1)*te.size<=len*te.size:=Nat.mul_le_mul_right _ D
  rw [Nat.add_mul,Nat.one_mul] at this;simp;omega
 have F:∀ i j,i<len->j<te.size->DRep w (XS C s η) (E.getD (i*te.size+j) undef) (((ds.drop (i*te.size)).take te.size).getD j .any):=by
  intro i j D y;have:(i+1)*te.size<=len*te.size:=Nat.mul_le_mul_right _ D
  rw [Nat.add_mul,Nat.one_mul] at this;rw [W2X _ _ _ _ y];exact T _ (by omega)
 have W:Q7o w { w with heap:=w.heap.push (.cells E el) } (XS C s η) (XS C s η):=fun b g hX=>⟨by show (w.heap.push _)[b]?=_;rw [Array.getElem?_push,if_neg (by omega)],hX⟩
 have U:¬ XS C s η w.heap.size:=by
  rintro (⟨hx,_⟩|hx)
  .have:=h.ok.lt _ hx;have:=h.fr.size;omega
  .have:=h.lt hx;omega
 refine ⟨?_,fun d Q hR G=>?_⟩
 .refine ⟨_,_,.inl f,?_⟩
  have I:∀ v,SR.eta { v:=.v (.c (.d (.lst len fun i=>(ds.drop (i*te.size)).take te.size))) } o.dst v η=η:=fun v=>by funext i;simp [SR.eta]
  have K:SR.sto { v:=.v (.c (.d (.lst len fun i=>(ds.drop (i*te.size)).take te.size))) } o.dst s=s:=by funext i;simp [SR.sto]
  refine h.step o.dst hdn _ _ _ (fun _=>False) (Stp.alloc _ w _) (fun b g=>g.elim) (fun _ _ S=>by cases S) (fun _ _ S=>by cases S) fun _=>?_
  rw [I,K];refine ⟨.v _ _ (.c _ _ (.d _ _ ?_)),fun j y=>by simp [AVal.refs,TV.refs,CV.refs] at y⟩
  refine .lst w.heap.size 0 len len E el (0,0) _ te.size U (by simp) (Nat.le_refl _) (by rw [Nat.zero_add, <-u,m];exact Nat.le_refl _) M fun i j D y=>?_
  rw [Nat.zero_add];exact (F i j D y).mono W
 .by_cases hl0:len=0
  .subst hl0
   exact Q3a h Q (hdn d Q) hR (del:=[]) (Z:=fun _=>False) f (Stp.alloc _ w _) rfl (fun b g=>g.elim) (fun i' A=>by cases A) (fun b g=>by simp [W2] at g) fun X' _=>.nil _ _ _
  .refine Q3a h Q (hdn d Q) hR (del:=[]) (Z:=fun _=>False) f (Stp.alloc _ w _) rfl (fun b g=>g.elim) (fun i' A=>by cases A) (fun b g=>.inl (by simp [W2] at g;omega)) fun X' B=>?_
   refine .arr w.heap.size len len te.size E el _ (by simp) (by rw [<-u,m]) (Nat.le_refl _) ?_ (by omega) M fun i j D y=>(F i j D y).mono B
   have:len*1<=len*te.size:=Nat.mul_le_mul_left _ G
   simp only [maxLen];omega
theorem Y3J(hL:LOk P L)(h:Conc C nt R η e s a w){o:Oper}{d:Nat}(hd:o.dst=some d)(hdn:d<nt)(hR:¬ R d){t:TypeId}{l c:Operand}(hop:o.op=.makeSlice t l c){ti:TI}(ht:L t=some ti){el:Nat}(hk:ti.kind=.slice el){te:TI}(hte:L el=some te){n n' : Int}(hl:asI (aev e l)=some n)(hc:asI (aev e c)=some n')(h0:0<te.size)(hby:te.bytes<=8192)(hzl:te.zero.length=te.size){zd:List DVal}(hz:Y2g te.zero=some zd){c0:Prop}(hn:0<=n/\n=n' /\ n<=LIM):Snd P C nt R η e s a w o { v:=.v (.c (.own d)),new:=some (.arr te.size n.toNat fun _=>zd),cond:=c0 }:=by
 obtain ⟨i,dd,z,E⟩:=hL t ti ht;obtain ⟨i2,d2,G,f⟩:=hL el te hte
 have D:=E.kind;rw [hk] at D
 simp only [KOk] at D;subst D
 obtain ⟨V,rfl,u⟩:=hn;have p:∀ {y:Operand} {m:Int},asI (aev e y)=some m->∃ k,a.eval y=.int k m:=by
  intro y m H;unfold asI at H
  split at H
  .rename_i k m' M
   cases H
   have J:=(W8 h y).1;rw [M] at J
   exact ⟨k,Q6b J⟩
  .cases H
 obtain ⟨k1,M⟩:=p hl;obtain ⟨k2,W⟩:=p hc
 have hw:IntKind.i64.wrap n=n:=Y5w ⟨by omega,by simp only [LIM] at u;omega⟩;have r:(te.bytes:Int)*n<=2 ^ 48:=by
  have hh:te.bytes*n.toNat<=8192*4294967296:=Nat.mul_le_mul hby (by simp only [LIM] at u;omega);have:(te.bytes:Int)*n=((te.bytes*n.toNat:Nat):Int):=by rw [Int.natCast_mul,Int.toNat_of_nonneg V]
  rw [this];omega
 have q:G.cells.size=te.size:=by rw [(f.zrep w (XS C s η) η C).1,hzl]
 have U:(decide (n<0)||decide ((te.bytes:Int)*n > 2 ^ 48))=false:=by simp;omega
 have g:∃ I,(execOp a.eval o).run P w=.ok (.value (.slice (some ⟨w.heap.size,0,none⟩) n.toNat n.toNat)) { w with heap:=w.heap.push (.cells I el) } /\ I.size=n.toNat*te.size/\∀ j,j<n.toNat*te.size->I.getD j undef=G.cells.getD (j % te.size) undef:=by
  by_cases hz0:n.toNat*te.size=0
  .have Y:n.toNat=0:=by rcases Nat.mul_eq_zero.1 hz0 with J|J;exact J;omega
   have T:n=0:=by omega
   subst T;refine ⟨#[],?_,by simp,fun j F=>by simp at F⟩
   simp [execOp,hop,Instr.makeSlice,M,W,asInt,asIntOf,run_underlying E.und,typeInfo,f.info,newRow,IntKind.wrap,IntKind.bits,IntKind.signed,y6 f,Z3m]
  .refine ⟨(Array.range (n.toNat*te.size)).map (G.cells[· % G.cells.size]!),?_,by simp,fun j F=>?_⟩
   .have x:¬ n<0:=by omega
    have S:¬ (281474976710656:Int)<(te.bytes:Int)*n:=by omega
    simp [execOp,hop,Instr.makeSlice,M,W,asInt,asIntOf,run_underlying E.und,typeInfo,f.info,f.bytes,newRow,hw,x,S,y6 f,Q9w f,hz0]
   .have:j % G.cells.size<G.cells.size:=by rw [q];exact Nat.mod_lt _ h0
    rw [Z3n _ _ _ F, <-q];simp [this]
 obtain ⟨I,g,O,N⟩:=g;obtain ⟨K,Q⟩:=Z8n (f.zrep w (XS C s η) η C) hz
 by_cases hl0:n.toNat=0
 .rw [hl0] at g ⊢
  exact Q3a h hd hdn hR (del:=[]) (Z:=fun _=>False) g (Stp.alloc _ w _) rfl (fun b r=>r.elim) (fun i' A=>by cases A) (fun b r=>by simp [W2] at r) fun X' _=>.nil _ _ _
 .refine Q3a h hd hdn hR (del:=[]) (Z:=fun _=>False) g (Stp.alloc _ w _) rfl (fun b r=>r.elim) (fun i' A=>by cases A) (fun b r=>.inl (by simp [W2] at r;omega)) fun X' B=>?_
  refine .arr w.heap.size n.toNat n.toNat te.size I el _ (by simp) O (Nat.le_refl _) (by simp only [maxLen];simp only [LIM] at u;omega) (by omega) (fun i _=>by rw [K,q]) fun i j hi F=>?_
  have x:i*te.size+j<n.toNat*te.size:=by
   have:(i+1)*te.size<=n.toNat*te.size:=Nat.mul_le_mul_right _ hi
   rw [Nat.add_mul,Nat.one_mul] at this;omega
  rw [N _ x];have H:(i*te.size+j) % te.size=j:=by rw [Nat.add_comm,Nat.add_mul_mod_self_right,Nat.mod_eq_of_lt F]
  rw [H];exact (Q j (by rw [K,q];exact F)).mono B
end
end
section
section
variable {P:Program} {L:Lay} {C:Ctx} {nt:Nat} {R:Nat->Prop} {η:Nat->Value} {e:Env} {s:Sto} {a:Act} {w:World}
theorem Y0T(h:Conc C nt R η e s a w){y:Operand}{m:Int}(hm:asI (aev e y)=some m):∃ k,a.eval y=.int k m:=by
 unfold asI at hm;split at hm
 .rename_i k d c
  cases hm
  have b:=(W8 h y).1;rw [c] at b
  exact ⟨k,Q6b b⟩
 .cases hm
theorem Y7S(hL:LOk P L){X:Nat->Prop}{vs:Array Value}{cs:List CV}(h:Q0e w X η C vs cs){t off:Nat}{ti:TI}(ht:L t=some ti)(ho:off+ti.size<=cs.length){v:AVal}(hv:mkT ti.kind.agg ((cs.drop off).take ti.size)=some v):
  ∃ u,(part t vs off).run P w=.ok u w/\ARep w X η C u v/\∀ j ∈ v.refs,j ∈ cs.flatMap CV.refs:=by
 obtain ⟨i,d,z,k⟩:=hL t ti ht;have x:=h.1
 unfold mkT at hv;split at hv
 .rename_i n
  cases hv
  refine ⟨.agg (vs.extract off (off+ti.size)),?_,.v _ _ (.g _ _ ⟨by simp;omega,fun j l=>?_⟩),fun j l=>Z4F _ _ _ j (Z4E _ _ _ j l)⟩
  .simp only [part,Sem.run_bind,Z6X k,Result.andThen_ok,n,if_true,y6 k,Sem.run_pure]
  .have m : j<ti.size:=by simp at l;omega
   rw [Q8t _ _ _ _ _ m];have f:off+j<vs.size:=by omega
   have:(vs.extract off (off+ti.size)).getD j undef=vs.getD (off+j) undef:=by
    have r:j<min (off+ti.size) vs.size-off:=by omega
    simp [f,r]
   rw [this];exact h.2 _ (by omega)
 .rename_i n
  split at hv
  .rename_i y o
   cases hv
   have b:((cs.drop off).take ti.size).length=ti.size:=by simp;omega
   rw [o] at b;have A:ti.size=1:=by simpa using b.symm
   have f:off<vs.size:=by omega
   refine ⟨vs.getD off undef,?_,.v _ _ (.c _ _ ?_),fun j l=>?_⟩
   .simp [part,Z6X k,n,f]
   .have:=h.2 off (by omega)
    have p:cs.getD off (.d .any)=y:=by
     have q:=Q8t cs off ti.size 0 (.d .any) (by omega);rw [o] at q;simpa using q.symm
    rwa [p] at this
   .refine Z4F _ _ off j (Z4E _ _ ti.size j ?_)
    rw [o];simpa [AVal.refs,TV.refs] using l
  .cases hv
theorem Y9h(h:Conc C nt R η e s a w):∀ (xs:List Operand) (ids:List Nat),Q9s.cloIds (xs.map (aev e))=some ids->xs.map a.eval=ids.map η/\∀ j ∈ ids,R j:=by
 intro xs
 induction xs with
 | nil=>intro ids c;cases c;exact ⟨rfl,by simp⟩
 | cons x r ih=>
  intro ids c;obtain ⟨n,l⟩:=W8 h x
  rw [List.map_cons] at c;unfold Q9s.cloIds at c
  split at c
  .cases ‹_::_=[]›
  .rename_i t q g
   injection g with g e2
   subst e2;split at c
   .rename_i m d
    cases c
    obtain ⟨o,p⟩:=ih _ d;rw [g] at n l
    obtain ⟨b,k,i⟩:=Z9w n;refine ⟨by rw [List.map_cons,List.map_cons,o,k,i],fun j f=>?_⟩
    rcases List.mem_cons.1 f with rfl|f
    .exact l _ (by simp [AVal.refs,TV.refs,CV.refs])
    .exact p j f
   .cases c
  .cases c
theorem Y3g(h:Conc C nt R η e s a w){x:Operand}{off:Nat}{v:AVal}(hv:(match aev e x with
     | .v (.c (.ptr id o))=>some ({ v:=.v (.c (.ptr id (o+off))) }:SR)
     | .v (.c (.pte id es idx o))=>some { v:=.v (.c (.pte id es idx (o+off))) }
     | .v (.c (.elm cs))=>if off<=cs.length then some { v:=.v (.c (.elm (cs.drop off))) } else none
     | _=>none)=some { v:=v }):
  (∀ b o',a.eval x=.pointer (some ⟨b,o',none⟩)->ARep w (XS C s η) η C (.pointer (some ⟨b,o' + off,none⟩)) v)/\(∀ j ∈ v.refs,R j)/\∃ b o',a.eval x=.pointer (some ⟨b,o',none⟩):=by
 obtain ⟨i,l⟩:=W8 h x;split at hv
 .rename_i id o k
  cases hv
  rw [k] at i l;obtain ⟨b,d,g⟩:=Z9w i
  exact ⟨fun r o' f=>by rw [d] at f;cases f;exact Y4W _ g,fun j m=>l j (by simpa [AVal.refs,TV.refs,CV.refs] using m),b,o,d⟩
 .rename_i id es idx o k
  cases hv
  rw [k] at i l;obtain ⟨b,n,p,d,g⟩:=Y4X i
  exact ⟨fun r o' f=>by rw [d] at f;cases f;rw [Nat.add_assoc];exact .v _ _ (.c _ _ (.pte b n p _ _ _ _ g)),fun j m=>l j (by simpa [AVal.refs,TV.refs,CV.refs] using m),b,_,d⟩
 .rename_i cs k
  split at hv
  .rename_i q
   cases hv
   rw [k] at i;obtain ⟨b,o,c,B,A,d,y,t,z,u⟩:=Y8p i
   exact ⟨fun r o' f=>by rw [d] at f;cases f;exact W0z _ y t z u off q,by simp [AVal.refs,TV.refs,CV.refs],b,o,d⟩
  .cases hv
 .cases hv
theorem Y1o(hL:LOk P L)(h:Conc C nt R η e s a w){o:Oper}(hd:∀ x,o.dst=some x->x<nt){t:TypeId}{x i:Operand}(hop:o.op=.indexAddr t x i){ti:TI}(ht:L t=some ti){el:Nat}(hk:ti.kind=.slice el){te:TI}(hte:L el=some te){m:Int}(hi:asI (aev e i)=some m){n:Nat}{f:Nat->List DVal}(hx:Q9s.asF (aev e x)=some (n,f))(hf:(f m.toNat).length=te.size){c:Prop}(hc:0<=m/\m<n):
  Snd P C nt R η e s a w o { v:=.v (.c (.elm (f m.toNat))),cond:=c }:=by
 obtain ⟨F,A,B,p⟩:=hL t ti ht;obtain ⟨I,G,E,l⟩:=hL el te hte
 have g:=p.kind;rw [hk] at g
 simp only [KOk] at g;subst g
 obtain ⟨k,y⟩:=Y0T h hi;obtain ⟨H,z,u,d⟩:=Y7D (W8 h x).1 hx
 rw [u] at d
 cases d with
 | nil=>omega
 | lst b off _ _ c' e' fz _ es h1 h2 h3 h4 h5 h6=>
  have r:es=te.size:=by rw [<-h5 m.toNat (by omega),hf]
  subst r;have q:m.toNat*te.size+te.size<=n*te.size:=by
   have:(m.toNat+1)*te.size<=n*te.size:=Nat.mul_le_mul_right _ (by omega)
   rwa [Nat.add_mul,Nat.one_mul] at this
  refine y8 h hd (v:=.pointer (some ⟨b,off+m.toNat*te.size,none⟩)) ?_ (.v _ _ (.c _ _ (.elm b _ c' e' fz _ h1 h2 (by rw [hf];omega) fun j D=>?_))) (by simp [AVal.refs,TV.refs,CV.refs])
  .simp [execOp,hop,Instr.indexAt,y,u,asIntOf,run_underlying p.und,hc,y6 l,add_lit]
  .have:=h6 m.toNat j (by omega) (by omega)
   rwa [<-Nat.add_assoc] at this
theorem Y4S(hL:LOk P L)(h:Conc C nt R η e s a w){o:Oper}(hd:∀ x,o.dst=some x->x<nt){t:TypeId}{x i:Operand}(hop:o.op=.indexAddr t x i){ti:TI}(ht:L t=some ti){el:Nat}(hk:ti.kind=.slice el){te:TI}(hte:L el=some te){m:Int}(hi:asI (aev e i)=some m){id:Nat}(hx:aev e x=.v (.c (.own id))){n:Nat}{f:Nat->List DVal}(hs:s id=some (.arr te.size n f)){c:Prop}(hc:0<=m/\m<n):
  Snd P C nt R η e s a w o { v:=.v (.c (.pte id te.size m.toNat 0)),cond:=c }:=by
 obtain ⟨G,D,H,g⟩:=hL t ti ht;obtain ⟨F,B,E,p⟩:=hL el te hte
 have d:=g.kind;rw [hk] at d
 simp only [KOk] at d;subst d
 obtain ⟨k,A⟩:=Y0T h hi;obtain ⟨y,q⟩:=W8 h x
 rw [hx] at y q;have r:=Q6V y
 have l:=h.st id _ hs;generalize hu:η id=u at l r
 cases l with
 | nil=>omega
 | arr b _ cap _ c' e' _ hb hsz hn hm hc0 hl hel=>
  refine y8 h hd (v:=.pointer (some ⟨b,m.toNat*te.size+0,none⟩)) ?_ (.v _ _ (.c _ _ (.pte b n cap _ _ _ _ hu))) (fun j z=>q j (by simpa [AVal.refs,TV.refs,CV.refs] using z));simp [execOp,hop,Instr.indexAt,A,r,asIntOf,run_underlying g.und,hc,y6 p,add_lit]
theorem Y4T(hL:LOk P L)(h:Conc C nt R η e s a w){o:Oper}(hd:∀ x,o.dst=some x->x<nt){t:TypeId}{x i:Operand}(hop:o.op=.indexAddr t x i){ti:TI}(ht:L t=some ti){n el:Nat}(hk:ti.kind=.array n el){te:TI}(hte:L el=some te){m:Int}(hi:asI (aev e i)=some m){id off:Nat}(hx:aev e x=.v (.c (.ptr id off)))(hc:0<=m/\m<n):
  Snd P C nt R η e s a w o { v:=.v (.c (.ptr id (off+m.toNat*te.size))) }:=by
 obtain ⟨E,A,F,f⟩:=hL t ti ht;obtain ⟨D,z,B,g⟩:=hL el te hte
 have d:=f.kind;rw [hk] at d
 simp only [KOk] at d;subst d
 obtain ⟨k,y⟩:=Y0T h hi;obtain ⟨p,l⟩:=W8 h x
 rw [hx] at p l;obtain ⟨b,u,r⟩:=Z9w p
 refine y8 h hd (v:=.pointer (some ⟨b,off+m.toNat*te.size,none⟩)) ?_ (Y4W _ r) (fun j q=>l j (by simpa [AVal.refs,TV.refs,CV.refs] using q));simp [execOp,hop,Instr.indexAt,y,u,asIntOf,run_underlying f.und,hc,y6 g,add_lit,Instr.sureAddr]
end
end
section
section
variable {P:Program} {L:Lay} {C:Ctx} {nt:Nat} {R:Nat->Prop} {η:Nat->Value} {e:Env} {s:Sto} {a:Act} {w:World}
theorem Y5e{α β:Type}{f:α->β}{l:List α}{u v:β}(h:l.map f=[u,v]):∃ x y,l=[x,y]/\f x=u/\f y=v:=by
 match l,h with
 | [],h=>simp at h
 | [_],h=>simp at h
 | [x,y],h=>simp at h;exact ⟨x,y,rfl,h.1,h.2⟩
 | _::_::_::_,h=>simp at h
theorem Y8y(hL:LOk P L)(h:Conc C nt R η e s a w)(m:Bool)(o:Oper)(hd:∀ x,o.dst=some x->x<nt){r:SR}(hr:Q9s L m e s o=some r)(hc:r.cond)(hR:∀ d,o.dst=some d->r.new≠none->¬ R d)(hst:∀ t x y,o.op=.store t x y->o.dst=none):Snd P C nt R η e s a w o r:=by
 unfold Q9s at hr;split at hr
 .
  rename_i x p
  cases hr
  exact Y5K h hd (.inl p)
 .
  rename_i x p
  split at hr
  .cases hr
   exact Y5K h hd (.inr p)
  .rename_i f d G A
   split at hr
   .rename_i el Y H zz F
    split at hr
    .rename_i te D
     cases hr
     have N:=(W8 h x).1;rw [G] at N
     have e8:∃ ad,a.eval x=.slice ad 0 0:=by
      generalize a.eval x=u at N
      cases N with|v _ _ N=>cases N with|c _ _ N=>cases N with|fl ad _ _ N=>exact ⟨ad,rfl⟩
     obtain ⟨ad,ex⟩:=e8;exact Q3a h A (hd d A) (hR d A (by simp)) (del:=[]) (v:=.slice ad 0 0) (Z:=fun _=>False) (by simp [execOp,p,ex]) (Stp.refl _ _) rfl (fun b J=>J.elim) (fun i hi=>by cases hi) (fun b J=>by cases ad <;> simp [W2] at J) (fun X' _=>.nil _ _ _)
    .cases hr
   .cases hr
  .cases hr
 .
  rename_i c x y p
  split at hr
  .rename_i J;cases hr;exact Y5I h hd p J
  .rename_i J;cases hr;exact Y5I h hd p J
  .cases hr
 .
  rename_i t p
  split at hr
  .rename_i ti d F A
   cases hr
   exact Y8H hL h A (hd d A) (hR d A (by simp)) p F
  .cases hr
 .
  rename_i t x p
  split at hr
  .rename_i xs d G A
   cases hr
   exact W1F h A (hd d A) (hR d A (by simp)) p G
  .cases hr
 .
  rename_i t ps p
  split at hr
  .rename_i fs Y H z F
   split at hr
   .rename_i pl j8
    split at hr
    .rename_i cs O
     cases hr
     exact Y4j hL h hd p F (.inl ⟨fs,pl,rfl,j8,rfl⟩) O
    .cases hr
   .cases hr
  .rename_i n el Y H z F
   split at hr
   .rename_i te D
    split at hr
    .rename_i cs O
     cases hr
     exact Y4j hL h hd p F (.inr ⟨n,el,te,rfl,D,rfl⟩) O
    .cases hr
   .cases hr
  .cases hr
 .
  rename_i t j5 ps p
  split at hr
  .rename_i el Y H z F
   split at hr
   .rename_i te D
    split at hr
    .rename_i b5
     split at hr
     .rename_i cs O
      split at hr
      .rename_i ds j0
       obtain ⟨B,K⟩:=Y2s hL h hd p F rfl D b5.1 b5.2.1 O j0;split at hr
       .cases hr;exact B
       .rename_i d A
        cases hr
        exact K d A (hR d A (by simp)) b5.2.2
       .cases hr
      .cases hr
     .cases hr
    .cases hr
   .cases hr
  .cases hr
 .
  rename_i t x p
  split at hr
  .rename_i ti F
   split at hr
   .rename_i cs c j7
    split at hr
    .rename_i v N
     cases hr
     exact Y9D hL h hd p F j7 N hc
    .cases hr
   .cases hr
  .cases hr
 .
  rename_i t x y p
  split at hr
  .rename_i ti xs F hy
   split at hr
   .rename_i h9
    exact Y8F hL h (hst t x y p) p F hy h9 hr hc
   .cases hr
  .cases hr
 .
  rename_i x p
  obtain ⟨B,K⟩:=W8 h x;split at hr
  .rename_i id a4 e1
   cases hr
   rw [e1] at B K;obtain ⟨b,V,c6⟩:=Z9w B
   exact y8 h hd (v:=a.eval x) (by simp [execOp,p,V]) B K
  .rename_i id es k9 a4 e1
   cases hr
   rw [e1] at B K;obtain ⟨b,n,I,V,c6⟩:=Y4X B
   exact y8 h hd (v:=a.eval x) (by simp [execOp,p,V]) B K
  .rename_i cs e1
   cases hr
   rw [e1] at B K;obtain ⟨b,a4,c,e',fz,V,_⟩:=Y8p B
   exact y8 h hd (v:=a.eval x) (by simp [execOp,p,V]) B K
  .cases hr
 .
  rename_i op t x y t' p
  exact W1G h hd p hr hc
 .
  rename_i op t x p
  exact W2V h hd p hr hc
 .
  rename_i m1 dst x p
  split at hr
  .rename_i k0 s1 b1 z1 k s2 b2 z2 k1 n d5 c8 G
   cases hr
   obtain ⟨i1,d1,g6,Q⟩:=hL _ _ d5;obtain ⟨i2,d2,g8,S⟩:=hL _ _ c8
   have b6:=Q.kind;have b4:=S.kind
   simp only [KOk] at b6 b4;subst b6;subst b4
   have B:=(W8 h x).1;rw [G] at B
   have ex:=Q6b B;obtain ⟨g1,_⟩:=Z7r m k n _ hc
   refine Y1M h hd g1 hc ?_;simp [execOp,p,convert,run_underlying Q.und,run_underlying S.und,ex,Conv.intToInt]
  .rename_i s1 b1 z1 s2 b2 z2 b d5 c8 G
   cases hr
   obtain ⟨i1,d1,g6,Q⟩:=hL _ _ d5;obtain ⟨i2,d2,g8,S⟩:=hL _ _ c8
   have b6:=Q.kind;have b4:=S.kind
   simp only [KOk] at b6 b4;subst b6;subst b4
   obtain ⟨B,K⟩:=W8 h x;rw [G] at B
   have ex:=Z4n B;refine y8 h hd (v:=.string b) ?_ (by rw [ex] at B;exact B) (by simp [AVal.refs,TV.refs,CV.refs])
   simp [execOp,p,convert,run_underlying Q.und,run_underlying S.und,ex]
  .cases hr
 .
  rename_i f d9 e5 p
  split at hr
  .rename_i i8
   split at hr
   .rename_i i4 f1
    cases hr
    obtain ⟨g1,g2⟩:=Y9h h _ _ f1;have i9:d9=#[]:=by simpa using i8
    subst i9;refine y8 h hd (v:=.func (.func f) #[] (e5.map a.eval)) (by simp [execOp,p,Instr.makeFunc]) (.v _ _ (.c _ _ (.clo f i4 _ ?_))) (fun j hj=>g2 j (by simpa [AVal.refs,TV.refs,CV.refs] using hj))
    rw [<-g1];exact Array.ext' (by simp)
   .cases hr
  .cases hr
 .
  rename_i t x lo hi p
  split at hr
  .rename_i el Y H z F
   split at hr
   .rename_i te D
    split at hr
    .rename_i y l u hl hu
     split at hr
     .rename_i n f G
      cases hr
      exact Y8G hL h hd p F rfl D hl hu G hc.1 hc.2
     .cases hr
    .rename_i id u G hl hu
     split at hr
     .rename_i es n f d hs A
      cases hr
      obtain ⟨i1,d1,z1,T⟩:=hL _ _ F;obtain ⟨i2,d2,z2,b7⟩:=hL _ _ D
      have W:=T.kind;simp only [KOk] at W
      subst W;have B:=(W8 h x).1
      rw [G] at B;have ex:=Q6V B
      have a0:=h.st id _ hs;have d0:0<=u/\u<=n:=hc
      have hn:∃ E I,η id=.slice E n I/\n<=I:=by
       generalize η id=v at a0
       cases a0 with
       | nil=>exact ⟨_,_,rfl,Nat.le_refl _⟩
       | arr b _ I _ c' e' _ _ _ hn _ _ _ _=>exact ⟨_,_,rfl,hn⟩
      obtain ⟨E,I,d4,hn⟩:=hn;obtain ⟨J,g1,g2,g3,g4⟩:=Z5I (P:=P) h hl hu n I hn f (by simpa [sl] using d0)
      simp only [Option.getD_none,Option.getD_some,Int.toNat_zero] at J g1 g2;have e7:E.map (fun x:Addr=>x.add 0)=E:=by cases E <;> simp [Addr.add]
      have c7:(execOp a.eval o).run P w=.ok (.value (.slice E u.toNat I)) w:=by
       have c9:(if I=0 then E else E.map (fun x:Addr=>x.add 0))=E:=by rw [e7];split <;> rfl
       simp only [execOp,p,Sem.run_bind,Instr.sliceAt,run_underlying T.und,Result.andThen_ok,Instr.slice,ex,d4,Option.map_none,J,y6 b7,Sem.run_pure,Nat.zero_mul,Nat.sub_zero];rw [c9]
      have i6:W2 (.slice E u.toNat I)=W2 (.slice E n I):=by cases E <;> rfl
      refine Q3a h A (hd d A) (hR d A (by simp)) (Z:=fun _=>False) c7 (Stp.refl _ _) rfl (fun b J=>J.elim) (fun i' e6 o' e4=>by simp at e6;subst e6;rw [hs] at e4;cases e4;rfl)
       (fun b J=>.inr ⟨id,by simp,by rw [hs];simp,by rw [d4, <-i6];exact J⟩) fun X' d7=>?_
      rw [d4] at a0;have:=a0.mono (η':=SR.eta { v:=.v (.c (.own d)),del:=[id],new:=some (.arr es u.toNat f),cond:=0<=u/\u<=n } o.dst (.slice E u.toNat I) η) d7 (by simp [Obj.refs]) (fun _ _=>rfl)
      cases this with
      | nil=>
       have h0:u.toNat=0:=by omega
       rw [h0];exact .nil _ _ _
      | arr b _ _ _ c' e' _ q1 q2 q3 q4 q5 q6 q7=>
       exact .arr b u.toNat I _ c' e' _ q1 q2 (by omega) q4 q5 (fun i hi=>q6 i (by omega)) fun i j hi hj=>q7 i j (by omega) hj
     .cases hr
    .cases hr
   .cases hr
  .cases hr
 .
  rename_i t x G mx p
  split at hr
  .rename_i el Y H z F
   split at hr
   .rename_i te n f u u' D h5 hu hm
    split at hr
    .rename_i j9
     obtain ⟨rfl,h0⟩:=j9;cases hr
     exact Y6R hL h hd p F rfl D hu hm h0 h5 hc.1 hc.2
    .cases hr
   .cases hr
  .cases hr
 .
  rename_i t x k p
  split at hr
  .rename_i fs Y H z F
   split at hr
   .rename_i a4 ft O
    split at hr
    .rename_i tf d3
     split at hr
     .cases hr
     .rename_i hz
      have f6:∃ v,r={ v:=v }:=by
       split at hr
       .cases hr;exact ⟨_,rfl⟩
       .cases hr;exact ⟨_,rfl⟩
       .split at hr
        .cases hr;exact ⟨_,rfl⟩
        .cases hr
       .cases hr
      obtain ⟨v,rfl⟩:=f6;obtain ⟨g1,g2,g3⟩:=Y3g h hr
      exact Y3K hL h hd p F rfl O d3 hz g1 g2 g3
    .cases hr
   .cases hr
  .cases hr
 .
  rename_i t x k p
  split at hr
  .rename_i fs Y H z F
   split at hr
   .rename_i a4 ft cs O G
    split at hr
    .rename_i tf d3
     split at hr
     .rename_i b5
      split at hr
      .rename_i v N
       cases hr
       obtain ⟨i1,d1,z1,T⟩:=hL _ _ F;have W:=T.kind
       obtain ⟨a2,rfl,j1⟩:=W;have g7 : ∃ f,a2[k]?=some f/\f.offset=a4/\f.type=ft:=by
        rw [<-j1,List.getElem?_map] at O
        cases a8:a2.toList[k]? with
        | none=>rw [a8] at O;cases O
        | some f=>rw [a8] at O;simp at O;exact ⟨f,by simpa using a8,O.1,O.2⟩
       obtain ⟨f,a8,rfl,rfl⟩:=g7;obtain ⟨B,K⟩:=W8 h x
       rw [G] at B K;have b9:∃ vs,a.eval x=.agg vs/\Q0e w (XS C s η) η C vs cs:=by
        generalize a.eval x=u at B
        cases B with|v _ _ B=>cases B with|g vs _ B=>exact ⟨vs,rfl,B⟩
       obtain ⟨vs,ex,d6⟩:=b9;obtain ⟨u,g1,g2,g3⟩:=Y7S (P:=P) hL d6 d3 b5 N
       refine y8 h hd (v:=u) ?_ g2 (fun j hj=>K j (by simpa [AVal.refs,TV.refs] using g3 j hj));simp only [execOp,p,Sem.run_bind,Instr.field,run_underlying T.und,Result.andThen_ok,a8,ex,asAgg,Sem.run_pure,g1]
      .cases hr
     .cases hr
    .cases hr
   .cases hr
  .cases hr
 .
  rename_i t x i p
  split at hr
  .rename_i el Y H z m' F hi
   split at hr
   .rename_i te D
    split at hr
    .rename_i id G
     split at hr
     .rename_i es n f hs
      split at hr
      .rename_i h8
       subst h8;cases hr
       exact Y4S hL h hd p F rfl D hi G hs hc
      .cases hr
     .cases hr
    .split at hr
     .rename_i n f G
      split at hr
      .rename_i O
       cases hr
       exact Y1o hL h hd p F rfl D hi G O hc
      .cases hr
     .cases hr
   .cases hr
  .rename_i n el Y H z m' F hi
   split at hr
   .rename_i te id a4 D G
    split at hr
    .rename_i J
     cases hr
     exact Y4T hL h hd p F rfl D hi G J
    .cases hr
   .cases hr
  .cases hr
 .
  rename_i t x i p
  split at hr
  .rename_i n el Y H z m' cs F hi G
   split at hr
   .rename_i te D
    split at hr
    .rename_i J
     obtain ⟨V,c6,j2⟩:=J;split at hr
     .rename_i v N
      cases hr
      obtain ⟨i1,d1,z1,T⟩:=hL _ _ F;obtain ⟨i2,d2,z2,b7⟩:=hL _ _ D
      have W:=T.kind;simp only [KOk] at W
      subst W;obtain ⟨k,ei⟩:=Y0T h hi
      obtain ⟨B,K⟩:=W8 h x;rw [G] at B K
      have b9:∃ vs,a.eval x=.agg vs/\Q0e w (XS C s η) η C vs cs:=by
       generalize a.eval x=u at B
       cases B with|v _ _ B=>cases B with|g vs _ B=>exact ⟨vs,rfl,B⟩
      obtain ⟨vs,ex,d6⟩:=b9;obtain ⟨u,g1,g2,g3⟩:=Y7S (P:=P) hL d6 D j2 N
      refine y8 h hd (v:=u) ?_ g2 (fun j hj=>K j (by simpa [AVal.refs,TV.refs] using g3 j hj));simp [execOp,p,Instr.index,ei,ex,asIntOf,run_underlying T.und,V,c6,y6 b7,g1]
     .cases hr
    .cases hr
   .cases hr
  .cases hr
 .
  rename_i t l c p
  split at hr
  .rename_i el Y H z n n' d F hl d0 A
   split at hr
   .rename_i te D
    split at hr
    .rename_i zd hz
     split at hr
     .rename_i J
      cases hr
      exact Y3J hL h A (hd d A) (hR d A (by simp)) p F rfl D hl d0 J.1 J.2.1 J.2.2 hz hc
     .cases hr
    .cases hr
   .cases hr
  .cases hr
 .
  rename_i x k p
  split at hr
  .rename_i xs G
   split at hr
   .rename_i v N
    cases hr
    obtain ⟨B,K⟩:=W8 h x;rw [G] at B K
    have b9:∃ us,a.eval x=.tuple us/\us.size=xs.length/\∀ j,j<xs.length->TRep w (XS C s η) η C (us.getD j undef) (xs.getD j (.c (.d .any))):=by
     generalize a.eval x=u at B
     cases B with|t us _ g1 g2=>exact ⟨us,rfl,g1,g2⟩
    obtain ⟨us,ex,g1,g2⟩:=b9;have hk:k<xs.length:=by
     rcases Nat.lt_or_ge k xs.length with h3|h3
     .exact h3
     .rw [List.getElem?_eq_none h3] at N;cases N
    have i3 : k<us.size:=by omega
    have h3:=g2 k hk;have i7 : xs.getD k (.c (.d .any))=v:=by rw [List.getD_eq_getElem?_getD,N];rfl
    rw [i7] at h3;refine y8 h hd (v:=us.getD k undef) ?_ (.v _ _ h3) (fun j hj=>K j ?_)
    .simp [execOp,p,Instr.extract,ex,i3]
    .exact List.mem_flatMap.2 ⟨v,List.mem_of_getElem? N,hj⟩
   .cases hr
  .cases hr
 .
  rename_i b U f5 p
  split at hr
  .rename_i r' d q
   unfold Z0h at q;split at q
   .
    rename_i y M
    obtain ⟨x,hargs,hy⟩:∃ x,U=#[x]/\y=aev e x:=by
     match hl:U.toList,M with
     | [x],M=>simp at M;exact ⟨x,Array.ext' hl,M.symm⟩
    subst hargs;subst hy
    split at q
    .rename_i t a9
     have d8:f5=#[t]:=Array.ext' a9;subst d8
     split at q
     .rename_i el Y H z F
      split at q
      .rename_i n f G
       cases q
       simp only at hr;cases hr
       exact W1E hL h hd p F rfl G
      .cases q
     .rename_i n el Y H z F
      cases q
      simp only at hr;cases hr
      exact Y6U hL h hd p F rfl
     .rename_i Y H z F
      split at q
      .rename_i bb G
       cases q
       simp only at hr;cases hr
       exact Y6T hL h hd p F rfl G
      .cases q
     .cases q
    .cases q
   .
    rename_i k n k' n' M
    obtain ⟨x,y,hargs,G,hy⟩:∃ x y,U=#[x,y]/\aev e x=.v (.c (.d (.int k n)))/\aev e y=.v (.c (.d (.int k' n'))):=by
     obtain ⟨x,y,hl,B,K⟩:=Y5e M;exact ⟨x,y,Array.ext' hl,B,K⟩
    subst hargs;cases q
    simp only at hr;cases hr
    exact Y2r h hd p G hy (.inl ⟨rfl,rfl⟩)
   .
    rename_i k n k' n' M
    obtain ⟨x,y,hargs,G,hy⟩:∃ x y,U=#[x,y]/\aev e x=.v (.c (.d (.int k n)))/\aev e y=.v (.c (.d (.int k' n'))):=by
     obtain ⟨x,y,hl,B,K⟩:=Y5e M;exact ⟨x,y,Array.ext' hl,B,K⟩
    subst hargs;cases q
    simp only at hr;cases hr
    exact Y2r h hd p G hy (.inr ⟨rfl,rfl⟩)
   .
    rename_i u1 u2 M
    obtain ⟨x,y,hargs,G,hy⟩:∃ x y,U=#[x,y]/\aev e x=u1/\aev e y=u2:=by
     obtain ⟨x,y,hl,B,K⟩:=Y5e M;exact ⟨x,y,Array.ext' hl,B,K⟩
    subst hargs;subst G;subst hy
    split at q
    .rename_i t t' a9
     split at q
     .rename_i f4
      subst f4;have d8:f5=#[t,t]:=Array.ext' a9
      subst d8;split at q
      .rename_i el Y H z F
       split at q
       .rename_i te D
        split at q
        .rename_i k g hy
         split at q
         .rename_i del n f c G
          split at q
          .rename_i J
           cases q
           simp only at hr;split at hr
           .rename_i dd k5 A
            cases hr
            exact Z8p hL h A (hd _ A) (hR _ A (by simp)) p F rfl D hy G hc.2.2 J.2.1 J.2.2 hc.1 hc.2.1
           .cases hr
           .cases ‹some _=none›
          .cases q
         .cases q
        .cases q
       .cases q
      .cases q
     .cases q
    .cases q
   .cases q
  .cases hr
 .cases hr
end
end
section
def Z0r(d:Option Tmp)(v:AVal)(e:Env):Env:=
 match d with
 | some d=>fun t=>if t=d then v else e t
 | none=>e
def upS(l:List (Nat×Option Obj))(s:Sto):Sto:=fun i=>
 match l.lookup i with
 | some o=>o
 | none=>s i
structure Eff where
 rd:List Nat
 ids:List Nat
 v:AVal
 l:List (Nat×Option Obj)
 news:List Nat
section
variable (P:Program) (C:Ctx) (nt:Nat) (ops:Array Oper)
def StT(o:Oper)(f:Eff)(e:Env)(s:Sto):Prop:=
 ∀ R η e0 s0 a w,(∀ t ∈ f.rd,e0 t=e t)->(∀ i ∈ f.ids,s0 i=s i)->(∀ n ∈ f.news,¬ R n)->Conc C nt R η e0 s0 a w ->
  ∀ (K:Act->World->Prop) (Q:Exit->Act->World->Prop),(∀ η' a' w',Conc C nt (fun i=>R i\/i ∈ f.news) η' (Z0r o.dst f.v e0) (upS f.l s0) a' w' -> K a' w') ->
   if Region.wanted o (yielded ops a.tmps) then o.wp P a w K Q else K (a.put o.dst undef) w
def Y3C:List Oper->List Eff->Env->Sto->Prop
 | [],[],_,_=>True
 | o::os,f::fs,e,s=>StT P C nt ops o f e s/\Y3C os fs (Z0r o.dst f.v e) (upS f.l s)
 | _,_,_,_=>False
end
def Y5n:List Oper->List Eff->Env->Env
 | o::os,f::fs,e=>Y5n os fs (Z0r o.dst f.v e)
 | _,_,e=>e
def Y5m:List Eff->Sto->Sto
 | f::fs,s=>Y5m fs (upS f.l s)
 | _,s=>s
def Q5G(fs:List Eff):List Nat:=fs.flatMap (·.news)
theorem Conc.wider{C:Ctx}{nt:Nat}{R R' : Nat->Prop}{η:Nat->Value}{e:Env}{s:Sto}{a:Act}{w:World}(h:Conc C nt R η e s a w)(hR:∀ i,R i->R' i):Conc C nt R' η e s a w:=
 ⟨h.ok,h.df,h.sz,h.ev,fun t i b=>hR i (h.er t i b),h.st,fun i o c=>⟨hR i (h.sr i o c).1,fun j d=>hR j ((h.sr i o c).2 j d)⟩,h.ds,h.ow,h.fr,fun i v b=>⟨(h.pn i v b).1,hR i (h.pn i v b).2⟩⟩
section
variable {P:Program} {C:Ctx} {nt:Nat} {ops:Array Oper}
theorem Y6W{Q:Exit->Act->World->Prop}:∀ (os:List Oper) (fs:List Eff) (R:Nat->Prop) (η:Nat->Value) (e:Env) (s:Sto) (a:Act) (w:World),Y3C P C nt ops os fs e s->(Q5G fs).Nodup->(∀ n ∈ Q5G fs,¬ R n)->Conc C nt R η e s a w ->
  (∀ η' a' w',Conc C nt (fun i=>R i\/i ∈ Q5G fs) η' (Y5n os fs e) (Y5m fs s) a' w' -> Q .normal a' w')->wpList P ops Q os a w:=by
 intro os
 induction os with
 | nil=>
  intro fs R η e s a w l _ _ r k
  cases fs with
  | nil=>exact k η a w (r.wider fun i b=>.inl b)
  | cons f fs=>exact l.elim
 | cons o os ih=>
  intro fs R η e s a w l g d r k
  cases fs with
  | nil=>exact l.elim
  | cons f fs=>
   obtain ⟨t,v⟩:=l;have c:Q5G (f::fs)=f.news++Q5G fs:=rfl
   rw [c] at g d k;have m:=t R η e s a w (fun _ _=>rfl) (fun _ _=>rfl) (fun n j=>d n (List.mem_append.2 (.inl j))) r
   refine wpList_step fun K x=>?_
   refine m K Q fun η' a' w' p=>x a' w' ?_
   refine ih fs _ η' _ _ a' w' v (List.nodup_append.1 g).2.1 (fun n j h=>?_) p fun u y z q=>k u y z (q.wider fun i b=>?_)
   .rcases h with h|h
    .exact d n (List.mem_append.2 (.inr j)) h
    .exact (List.nodup_append.1 g).2.2 n h n j rfl
   .rcases b with (b|b) | b
    .exact .inl b
    .exact .inr (List.mem_append.2 (.inl b))
    .exact .inr (List.mem_append.2 (.inr b))
end
def Z8j(oi oj:Oper)(fi fj:Eff):Bool:=
 (match oi.dst with|some d=>fj.rd.contains d||oj.dst==some d|none=>false)||(match oj.dst with|some d=>fi.rd.contains d|none=>false) ||
 (fi.l.any fun p=>fj.ids.contains p.1||fj.l.any (·.1==p.1))||(fj.l.any fun p=>fi.ids.contains p.1)
def Z3N(acc:List Nat):List Edge->Nat
 | []=>0
 | e::r=>if Region.binds .any e then (2 ^ e.on ||| acc.getD e.on 0) ||| Z3N acc r else Z3N acc r
def Y0Q:List Oper->List Eff->List Nat->List (Oper×Eff)->Bool
 | o::os,f::fs,acc,seen=>
  let m:=Z3N acc o.after.toList
  (o.after.toList.all fun e=> !Region.binds .any e||decide (e.on<acc.length)) &&
  (seen.zipIdx.all fun p=> !Z8j p.1.1 o p.1.2 f||m.testBit p.2)&&Y0Q os fs (acc++[m]) (seen++[(o,f)])
 | [],[],_,_=>true
 | _,_,_,_=>false
def W2J(ops:List Oper)(fs:List Eff):Bool:=Y0Q ops fs [] []
inductive Anc (ops:List Oper):Nat->Nat->Prop
 | edge (j:Nat) (o:Oper) (e:Edge):ops[j]?=some o->e ∈ o.after.toList->Region.binds .any e=true->Anc ops e.on j
 | trans (i j k:Nat):Anc ops i j->Anc ops j k->Anc ops i k
theorem Y8T{ops:List Oper}{acc:List Nat}{j:Nat}{o:Oper}(ho:ops[j]?=some o)(hacc:∀ k i,(acc.getD k 0).testBit i=true->Anc ops i k):∀ (es:List Edge),(∀ e ∈ es,e ∈ o.after.toList)->∀ i,(Z3N acc es).testBit i=true->Anc ops i j:=by
 intro es
 induction es with
 | nil=>intro _ i c;simp [Z3N] at c
 | cons e r ih=>
  intro b i c;have g:=ih (fun l d=>b l (List.mem_cons_of_mem _ d))
  simp only [Z3N] at c;split at c
  .rename_i h
   have f:Anc ops e.on j:=.edge j o e ho (b e List.mem_cons_self) h;rw [Nat.testBit_or,Nat.testBit_or] at c
   rcases (by simpa using c:((2 ^ e.on).testBit i=true\/(acc.getD e.on 0).testBit i=true)\/(Z3N acc r).testBit i=true) with (h1|h1) | h1
   .rw [Nat.testBit_two_pow] at h1
    have:e.on=i:=by simpa using h1
    exact this ▸ f
   .exact .trans _ _ _ (hacc _ _ h1) f
   .exact g i h1
  .exact g i c
theorem Y6t(ops:List Oper)(fs:List Eff):∀ (os:List Oper) (gs:List Eff) (acc:List Nat) (seen:List (Oper×Eff)),Y0Q os gs acc seen=true ->
  acc.length=seen.length->ops=seen.map (·.1)++os->fs=seen.map (·.2)++gs->(∀ k i,(acc.getD k 0).testBit i=true->Anc ops i k) ->
  (∀ j o e,seen.length<=j->ops[j]?=some o->e ∈ o.after.toList->Region.binds .any e=true->e.on<j) /\
  (∀ i j oi oj fi fj,i<j->seen.length<=j->ops[i]?=some oi->ops[j]?=some oj->fs[i]?=some fi->fs[j]?=some fj->Z8j oi oj fi fj=true->Anc ops i j)/\os.length=gs.length:=by
 intro os
 induction os with
 | nil=>
  intro gs acc seen h D r y _
  cases gs with
  | cons g gs=>simp [Y0Q] at h
  | nil=>
   refine ⟨fun j o e x b=>?_,fun i j oi oj fi fj m x _ b=>?_,rfl⟩
   .rw [r,List.append_nil,List.getElem?_eq_none (by simpa using x)] at b;cases b
   .rw [r,List.append_nil,List.getElem?_eq_none (by simpa using x)] at b;cases b
 | cons o os ih=>
  intro gs acc seen h D r y l
  cases gs with
  | nil=>simp [Y0Q] at h
  | cons g gs=>
   simp only [Y0Q,Bool.and_eq_true] at h;obtain ⟨⟨G,J⟩,H⟩:=h
   have p:ops[seen.length]?=some o:=by rw [r];simp
   have B:fs[seen.length]?=some g:=by rw [y];simp
   have c:∀ i,(Z3N acc o.after.toList).testBit i=true->Anc ops i seen.length:=Y8T p l _ (fun e z=>z);obtain ⟨M,K,F⟩:=ih gs (acc++[Z3N acc o.after.toList]) (seen++[(o,g)]) H (by simp [D]) (by simp [r]) (by simp [y]) (fun k i t=>by
    by_cases hk1:k<acc.length
    .rw [show (acc++[Z3N acc o.after.toList]).getD k 0=acc.getD k 0 from by simp [List.getD_eq_getElem?_getD,List.getElem?_append,hk1]] at t
     exact l k i t
    .by_cases hk2:k=acc.length
     .subst hk2
      rw [show (acc++[Z3N acc o.after.toList]).getD acc.length 0=Z3N acc o.after.toList from by simp [List.getD_eq_getElem?_getD]] at t;rw [D];exact c i t
     .rw [show (acc++[Z3N acc o.after.toList]).getD k 0=0 from by
       rw [List.getD_eq_getElem?_getD,List.getElem?_eq_none (by simp;omega)];rfl] at t
      simp at t)
   refine ⟨fun j I e x b z E=>?_,fun i j oi oj fi fj m x f b d n u=>?_,by simp [F]⟩
   .by_cases hjs:j=seen.length
    .subst hjs
     rw [p] at b;cases b
     have:=List.all_eq_true.1 G e z
     simp [E] at this
     omega
    .exact M j I e (by simp;omega) b z E
   .by_cases hjs:j=seen.length
    .subst hjs
     rw [p] at b;cases b
     rw [B] at n;cases n
     have A:seen[i]?=some (oi,fi):=by
      have q:i<seen.length:=m;rw [r,List.getElem?_append_left (by simpa using q),List.getElem?_map] at f
      rw [y,List.getElem?_append_left (by simpa using q),List.getElem?_map] at d;rw [List.getElem?_eq_getElem q] at f d ⊢
      simp at f d
      rw [<-f, <-d]
     have v:((oi,fi),i) ∈ seen.zipIdx:=by
      rw [List.mem_zipIdx_iff_getElem?];simpa using A
     have:=List.all_eq_true.1 J _ v
     simp [u] at this
     exact c i this
    .exact K i j oi oj fi fj m (by simp;omega) f b d n u
end
section
instance:Inhabited Eff:=⟨⟨[],[],.any,[],[]⟩⟩
section
variable (l:List Oper) (fs:List Eff)
def Z3X(i:Nat):Option Tmp:=(l[i]?).bind (·.dst)
def Q0T(i:Nat):Eff:=fs.getD i default
def hE(e0:Env):List Nat->Env
 | []=>e0
 | i::h=>Z0r (Z3X l i) (Q0T fs i).v (hE e0 h)
def hS(s0:Sto):List Nat->Sto
 | []=>s0
 | i::h=>upS (Q0T fs i).l (hS s0 h)
def wrE(t:Nat)(j:Nat):Bool:=Z3X l j==some t
def wrS(i:Nat)(j:Nat):Bool:=((Q0T fs j).l.lookup i).isSome
theorem Y8d(e0:Env)(t:Nat):∀ h,hE l fs e0 h t=match h.find? (wrE l t) with|some j=>(Q0T fs j).v|none=>e0 t:=by
 intro h
 induction h with
 | nil=>rfl
 | cons i h ih=>
  simp only [hE,List.find?_cons,Z0r]
  cases hd:Z3X l i with
  | none=>simp [wrE,hd,ih]
  | some d=>
   by_cases hdt:t=d
   .subst hdt;simp [wrE,hd]
   .have:wrE l t i=false:=by simp [wrE,hd];exact fun b=>hdt b.symm
    simp [this,hdt,ih]
theorem Y8c(s0:Sto)(k:Nat):∀ h,hS fs s0 h k=match h.find? (wrS fs k) with|some j=>((Q0T fs j).l.lookup k).getD none|none=>s0 k:=by
 intro h
 induction h with
 | nil=>rfl
 | cons i h ih=>
  simp only [hS,List.find?_cons,upS]
  cases hl:(Q0T fs i).l.lookup k with
  | none=>simp [wrS,hl,ih]
  | some o=>simp [wrS,hl]
end
structure Hist (ops:List Oper) (h:List Nat):Prop where
 nd:h.Nodup
 ord:∀ l1 k l2,h=l1++k::l2->∀ i,Anc ops i k->i ∈ l2
theorem Hist.anc{ops:List Oper}{h:List Nat}(H:Hist ops h){i k:Nat}(hk:k ∈ h)(ha:Anc ops i k):i ∈ h:=by
 obtain ⟨c,b,rfl⟩:=List.append_of_mem hk;exact List.mem_append.2 (.inr (List.mem_cons_of_mem _ (H.ord c k b rfl i ha)))
theorem Y3e{ops:List Oper}{h:List Nat}(H:Hist ops h){p:Nat->Bool}{f g:Nat}(hf:h.find? p=some f)(hg:g ∈ h)(hp:p g=true)(ha:Anc ops f g):False:=by
 obtain ⟨_,k,m,rfl,d⟩:=List.find?_eq_some_iff_append.1 hf;have i:g ∈ m:=by
  rcases List.mem_append.1 hg with j|j
  .have:=d g j;simp [hp] at this
  .rcases List.mem_cons.1 j with b|b
   .subst b
    have:=H.ord k g m rfl g ha
    exact this
   .exact b
 obtain ⟨o,n,rfl⟩:=List.append_of_mem i;have:=H.ord (k++f::o) g n (by simp) f ha
 have c:=H.nd;rw [List.nodup_append] at c
 have b:=c.2.1;rw [List.nodup_cons] at b
 exact b.1 (by simp [this])
theorem Y8f{ops:List Oper}{h1 h2:List Nat}(H1:Hist ops h1)(H2:Hist ops h2){p:Nat->Bool}(hord:∀ j k,j<k->k ∈ h1->k ∈ h2->j ∈ h1->p j=true->p k=true->Anc ops j k)(hset:∀ j,p j=true->(j ∈ h1↔j ∈ h2)):h1.find? p=h2.find? p:=by
 cases hf:h1.find? p with
 | none=>
  symm
  rw [List.find?_eq_none] at hf ⊢;intro x r q
  exact hf x ((hset x q).2 r) q
 | some f=>
  have b:p f=true:=List.find?_some hf;have i:f ∈ h1:=List.mem_of_find?_eq_some hf
  have c:=(hset f b).1 i
  cases hg:h2.find? p with
  | none=>rw [List.find?_eq_none] at hg;exact absurd b (hg f c)
  | some g=>
   have d:p g=true:=List.find?_some hg;have h:g ∈ h2:=List.mem_of_find?_eq_some hg
   have n:=(hset g d).2 h;rcases Nat.lt_trichotomy f g with m|o|m
   .exact (Y3e H1 hf n d (hord f g m n h i b d)).elim
   .rw [o]
   .exact (Y3e H2 hg c b (hord g f m i c n d b)).elim
section
variable {P:Program} {C:Ctx} {nt:Nat} {ops:Array Oper} {fs:List Eff}
theorem W3n{l:List Oper}(hb:∀ j o e,l[j]?=some o->e ∈ o.after.toList->Region.binds .any e=true->e.on<j){i k:Nat}(h:Anc l i k):i<k:=by
 induction h with
 | edge j o e h1 h2 h3=>exact hb j o e h1 h2 h3
 | trans i j k _ _ ih1 ih2=>omega
theorem Z6T{l:List Oper}(hb:∀ j o e,l[j]?=some o->e ∈ o.after.toList->Region.binds .any e=true->e.on<j)(n:Nat):Hist l (List.range n).reverse:=by
 refine ⟨by unfold List.Nodup;rw [List.pairwise_reverse];exact (List.nodup_range (n:=n)).imp (fun h=>Ne.symm h),?_⟩
 induction n with
 | zero=>intro b k d h;simp at h
 | succ n ih=>
  intro b k d h i c;rw [List.range_succ,List.reverse_append,List.reverse_singleton,List.singleton_append] at h
  cases b with
  | nil=>
   simp only [List.nil_append,List.cons.injEq] at h;obtain ⟨rfl,rfl⟩:=h
   have:=W3n hb c
   simp;exact this
  | cons x b=>
   simp only [List.cons_append,List.cons.injEq] at h;exact ih b k d h.2 i c
theorem Y5b{fs:List Eff}(hnd:(Q5G fs).Nodup){i j:Nat}(hij:i≠j){x:Nat}(hi:x ∈ (Q0T fs i).news)(hj:x ∈ (Q0T fs j).news):False:=by
 induction fs generalizing i j with
 | nil=>simp [Q0T,default] at hi
 | cons f r ih=>
  have d:Q5G (f::r)=f.news++Q5G r:=rfl;rw [d,List.nodup_append] at hnd
  have b:∀ k,x ∈ (Q0T r k).news->x ∈ Q5G r:=by
   intro k c
   by_cases hkl:k<r.length
   .exact List.mem_flatMap.2 ⟨_,Q0R hkl,c⟩
   .have:Q0T r k=default:=by unfold Q0T;rw [List.getD_eq_getElem?_getD,List.getElem?_eq_none (by omega)];rfl
    rw [this] at c;cases c
  cases i with
  | zero=>
   cases j with
   | zero=>exact hij rfl
   | succ j=>exact hnd.2.2 x hi x (b j hj) rfl
  | succ i=>
   cases j with
   | zero=>exact hnd.2.2 x hj x (b i hi) rfl
   | succ j=>exact ih hnd.2.1 (by omega) hi hj
theorem Y3k{fs:List Eff}{k x:Nat}(hx:x ∈ (Q0T fs k).news):x ∈ Q5G fs:=by
 by_cases hk:k<fs.length
 .exact List.mem_flatMap.2 ⟨_,Q0R hk,hx⟩
 .have:Q0T fs k=default:=by unfold Q0T;rw [List.getD_eq_getElem?_getD,List.getElem?_eq_none (by omega)];rfl
  rw [this] at hx;cases hx
theorem Y8I:∀ (os:List Oper) (gs:List Eff) (l:List Oper) (fs:List Eff) (k:Nat) (e0:Env) (s0:Sto),(∀ j,os[j]?=l[k+j]?)->(∀ j,j<gs.length->gs[j]?=fs[k+j]?)->os.length=gs.length ->
  Y3C P C nt ops os gs (hE l fs e0 (List.range k).reverse) (hS fs s0 (List.range k).reverse) ->
  (∀ j o,os[j]?=some o->StT P C nt ops o (Q0T fs (k+j)) (hE l fs e0 (List.range (k+j)).reverse) (hS fs s0 (List.range (k+j)).reverse)) /\
  Y5n os gs (hE l fs e0 (List.range k).reverse)=hE l fs e0 (List.range (k+os.length)).reverse/\Y5m gs (hS fs s0 (List.range k).reverse)=hS fs s0 (List.range (k+os.length)).reverse:=by
 intro os
 induction os with
 | nil=>
  intro gs l fs k e0 s0 _ _ f _
  cases gs with
  | nil=>exact ⟨fun j o h=>by simp at h,rfl,rfl⟩
  | cons g gs=>simp at f
 | cons o os ih=>
  intro gs l fs k e0 s0 q n f z
  cases gs with
  | nil=>simp at f
  | cons g gs=>
   obtain ⟨t,y⟩:=z;have r:Z3X l k=o.dst:=by
    have:=q 0;simp at this;simp [Z3X, <-this]
   have i:Q0T fs k=g:=by
    have:=n 0 (by simp);simp at this;simp [Q0T,List.getD_eq_getElem?_getD, <-this]
   have d:hE l fs e0 (List.range (k+1)).reverse=Z0r o.dst g.v (hE l fs e0 (List.range k).reverse):=by
    rw [List.range_succ,List.reverse_append,List.reverse_singleton,List.singleton_append];simp only [hE,r,i]
   have c:hS fs s0 (List.range (k+1)).reverse=upS g.l (hS fs s0 (List.range k).reverse):=by
    rw [List.range_succ,List.reverse_append,List.reverse_singleton,List.singleton_append];simp only [hS,i]
   obtain ⟨u,p,m⟩:=ih gs l fs (k+1) e0 s0 (fun j=>by have:=q (j+1);simp at this;rw [this];congr 1;omega) (fun j b=>by have:=n (j+1) (by simpa using b);simp at this;rw [this];congr 1;omega) (by simpa using f)
    (by rw [d,c];exact y)
   refine ⟨fun j x b=>?_,?_,?_⟩
   .cases j with
    | zero=>simp at b;subst b;rw [Nat.add_zero,i];exact t
    | succ j=>have:=u j x (by simpa using b);rwa [show k+1+j=k+(j+1) from by omega] at this
   .rw [d] at p
    simp only [Y5n];rw [p];congr 3;simp;omega
   .rw [c] at m
    simp only [Y5m];rw [m];congr 3;simp;omega
theorem Y9U:∀ (n:Nat) (l:List Nat),l.Nodup->(∀ x ∈ l,x<n)->l.length<=n:=by
 intro n
 induction n with
 | zero=>intro l _ h;cases l with
  | nil=>simp
  | cons x r=>exact absurd (h x List.mem_cons_self) (by omega)
 | succ n ih=>
  intro l c h
  by_cases hn:n ∈ l
  .have f:=ih (l.erase n) (c.erase n) (fun x b=>by
    have d:=(c.mem_erase_iff).1 b;have:=h x d.2
    omega)
   rw [List.length_erase_of_mem hn] at f;omega
  .have:=ih l c (fun x b=>by have:=h x b;have:x≠n:=fun e=>hn (e ▸ b);omega)
   omega
theorem Y7i{listed:Array Bool}{h:List Nat}{n:Nat}(hsz:listed.size=n)(hl:∀ i,i<n->(listed.getD i false=true↔i ∈ h))(hb:∀ i ∈ h,i<n)(i:Nat):listed.getD i false=true↔i ∈ h:=by
 by_cases hi:i<n
 .exact hl i hi
 .constructor
  .intro b;rw [show listed.getD i false=false from by simp [Array.getD,hsz,hi]] at b;cases b
  .intro b;exact absurd (hb i b) hi
theorem Y0s{ops:Array Oper}{listed:Array Bool}(hsz:listed.size=ops.size)(i:Nat):i ∈ Region.ready .any ops listed↔∃ o,ops[i]?=some o/\listed.getD i false=false/\∀ e ∈ o.after.toList,Region.binds .any e=true->listed.getD e.on false=true:=by
 unfold Region.ready;rw [List.mem_filter,List.mem_range]
 constructor
 .rintro ⟨b,c⟩
  refine ⟨ops[i],by simp [b],?_,?_⟩
  .simp only [Bool.and_eq_true] at c
   have k:=c.1;have:i<listed.size:=by omega
   simp [Array.getD,this] at k ⊢
   exact k
  .intro e d h
   simp only [Bool.and_eq_true] at c;have g:=c.2
   simp only [Array.getElem?_eq_getElem b,Option.map_some,Option.getD_some] at g;rw [Array.all_eq_true'] at g
   have:=g e (by simpa using d)
   simpa [h] using this
 .rintro ⟨o,m,j,d⟩
  have b:i<ops.size:=(Array.getElem?_eq_some_iff.1 m).1;refine ⟨b,?_⟩
  simp only [Bool.and_eq_true];refine ⟨?_,?_⟩
  .have:i<listed.size:=by omega
   simp [Array.getD,this] at j ⊢
   exact j
  .simp only [m,Option.map_some,Option.getD_some]
   rw [Array.all_eq_true'];intro e f
   cases h:Region.binds .any e with
   | false=>rfl
   | true=>simpa using d e (by simpa using f) h
theorem W0Z{Q:Exit->Act->World->Prop}{e0:Env}{s0:Sto}{R:Nat->Prop}(hlen:ops.toList.length=fs.length)(hback:∀ j o e,ops.toList[j]?=some o->e ∈ o.after.toList->Region.binds .any e=true->e.on<j)(hconf:∀ i j oi oj fi fj,i<j->ops.toList[i]?=some oi->ops.toList[j]?=some oj->fs[i]?=some fi->fs[j]?=some fj->Z8j oi oj fi fj=true->Anc ops.toList i j)(hst:∀ j o,ops.toList[j]?=some o->StT P C nt ops o (Q0T fs j) (hE ops.toList fs e0 (List.range j).reverse) (hS fs s0 (List.range j).reverse))(hnd:(Q5G fs).Nodup)(hfr:∀ n ∈ Q5G fs,¬ R n)(hq:∀ η a w,Conc C nt (fun i=>R i\/i ∈ Q5G fs) η (hE ops.toList fs e0 (List.range ops.size).reverse) (hS fs s0 (List.range ops.size).reverse) a w->Q .normal a w):
  ∀ (fuel:Nat) (listed:Array Bool) (h:List Nat) (η:Nat->Value) (a:Act) (w:World),listed.size=ops.size->(∀ i,i<ops.size->(listed.getD i false=true↔i ∈ h))->(∀ i ∈ h,i<ops.size)->Hist ops.toList h->ops.size<=fuel+h.length ->
   Conc C nt (fun i=>R i\/∃ j ∈ h,i ∈ (Q0T fs j).news) η (hE ops.toList fs e0 h) (hS fs s0 h) a w->wpAny P .any ops Q fuel listed a w:=by
 have c:∀ {i:Nat},i<ops.size->∃ o,ops.toList[i]?=some o/\ops[i]?=some o:=fun {i} q=>⟨ops[i],by simp [q],by simp [q]⟩
 have I:∀ {i:Nat},i<ops.size->fs[i]?=some (Q0T fs i):=by
  intro i q;have:i<fs.length:=by rw [<-hlen];simpa using q
  simp [Q0T,List.getD_eq_getElem?_getD,this]
 have hC:∀ i j oi oj,i<j->j<ops.size->ops.toList[i]?=some oi->ops.toList[j]?=some oj->Z8j oi oj (Q0T fs i) (Q0T fs j)=true->Anc ops.toList i j:=by
  intro i j oi oj a7 f m d9 hc;exact hconf i j oi oj _ _ a7 m d9 (I (by omega)) (I f) hc
 have N:∀ (S D:List Nat),Hist ops.toList S->Hist ops.toList D->(∀ i ∈ S,i<ops.size)->∀ t,(∀ j,j<ops.size->Z3X ops.toList j=some t->(j ∈ S↔j ∈ D))->(∀ i ∈ D,i<ops.size)->hE ops.toList fs e0 S t=hE ops.toList fs e0 D t:=by
  intro S D H1 H2 E t W b1;rw [Y8d,Y8d,Y8f (p:=wrE ops.toList t) H1 H2 ?_ ?_]
  .intro j k d7 b5 _ a0 a1 b2
   obtain ⟨oj,g,_⟩:=c (E j a0);obtain ⟨ok,b9,_⟩:=c (E k b5)
   refine hC j k oj ok d7 (E k b5) g b9 ?_;simp [wrE,Z3X,g] at a1
   simp [wrE,Z3X,b9] at b2
   simp [Z8j,a1,b2]
  .intro j hp
   have hd:Z3X ops.toList j=some t:=by simpa [wrE] using hp
   have f:j<ops.size:=by
    unfold Z3X at hd;rcases Nat.lt_or_ge j ops.size with h3|h3
    .exact h3
    .rw [List.getElem?_eq_none (by simpa using h3)] at hd;cases hd
   exact W j f hd
 have M:∀ (S D:List Nat),Hist ops.toList S->Hist ops.toList D->(∀ i ∈ S,i<ops.size)->∀ k,(∀ j,j<ops.size->wrS fs k j=true->(j ∈ S↔j ∈ D))->(∀ i ∈ D,i<ops.size)->hS fs s0 S k=hS fs s0 D k:=by
  intro S D H1 H2 E k W b1;have a6:∀ j,wrS fs k j=true->∃ o,(k,o) ∈ (Q0T fs j).l:=by
   intro j f;simp only [wrS,Option.isSome_iff_exists] at f
   obtain ⟨o,Y⟩:=f;obtain ⟨l1,l2,hl,_⟩:=List.lookup_eq_some_iff.1 Y
   exact ⟨o,by rw [hl];simp⟩
  rw [Y8c,Y8c,Y8f (p:=wrS fs k) H1 H2 ?_ ?_]
  .intro i j a7 a0 _ c7 d4 a1
   obtain ⟨oi,c8,_⟩:=c (E i c7);obtain ⟨oj,g,_⟩:=c (E j a0)
   refine hC i j oi oj a7 (E j a0) c8 g ?_;obtain ⟨u,hu⟩:=a6 i d4
   obtain ⟨v,hv⟩:=a6 j a1;have:((Q0T fs i).l.any fun p=>(Q0T fs j).ids.contains p.1||(Q0T fs j).l.any (·.1==p.1))=true:=by
    rw [List.any_eq_true];refine ⟨_,hu,?_⟩
    simp only [Bool.or_eq_true];right
    rw [List.any_eq_true];exact ⟨_,hv,by simp⟩
   simp only [Z8j,this,Bool.or_true,Bool.true_or]
  .intro j hp
   by_cases f:j<ops.size
   .exact W j f hp
   .exact ⟨fun b=>absurd (E j b) f,fun b=>absurd (b1 j b) f⟩
 have G:∀ n,n<=ops.size->(∀ i ∈ (List.range n).reverse,i<ops.size):=by intro n hn i q;simp at q;omega
 have U:∀ (listed:Array Bool) (h:List Nat) (η:Nat->Value) (a:Act) (w:World),(∀ i ∈ h,i<ops.size)->Hist ops.toList h->(∀ i,i<ops.size->i ∈ h) ->
   Conc C nt (fun i=>R i\/∃ j ∈ h,i ∈ (Q0T fs j).news) η (hE ops.toList fs e0 h) (hS fs s0 h) a w->Q .normal a w:=by
  intro listed h η a w V H B hc;have e1:hE ops.toList fs e0 h=hE ops.toList fs e0 (List.range ops.size).reverse:=
   funext fun t=>N _ _ H (Z6T hback _) V t (fun j f _=>⟨fun _=>by simp;exact f,fun _=>B j f⟩) (G _ (Nat.le_refl _))
  have e2:hS fs s0 h=hS fs s0 (List.range ops.size).reverse:=
   funext fun k=>M _ _ H (Z6T hback _) V k (fun j f _=>⟨fun _=>by simp;exact f,fun _=>B j f⟩) (G _ (Nat.le_refl _))
  rw [e1,e2] at hc;refine hq η a w (hc.wider fun i q=>?_)
  rcases q with q|⟨j,_,q⟩
  .exact .inl q
  .exact .inr (Y3k q)
 intro fuel
 induction fuel with
 | zero=>
  intro listed h η a w O hl V H hf hc;have B:∀ i,i<ops.size->i ∈ h:=by
   intro i q;rcases Classical.em (i ∈ h) with d|d
   .exact d
   .have:=Y9U ops.size (i::h) (List.nodup_cons.2 ⟨d,H.nd⟩) (fun x F=>by rcases List.mem_cons.1 F with rfl|F;exact q;exact V x F)
    simp at this;omega
  refine ⟨?_,U listed h η a w V H B hc⟩;refine List.eq_nil_iff_forall_not_mem.2 fun i q=>?_
  obtain ⟨o,Y,D,_⟩:=(Y0s O i).1 q;have m : i<ops.size:=(Array.getElem?_eq_some_iff.1 Y).1
  rw [(hl i m).2 (B i m)] at D;cases D
 | succ fuel ih=>
  intro listed h η a w O hl V H hf hc;have a3:=Y7i O hl V
  refine ⟨fun c0=>?_,fun i q=>?_⟩
  .refine U listed h η a w V H (fun i q=>?_) hc
   induction i using Nat.strongRecOn with
   | _ i ihi=>
    rcases Classical.em (i ∈ h) with d|d
    .exact d
    .exfalso
     obtain ⟨o,Y,c6⟩:=c q;have:i ∈ Region.ready .any ops listed:=(Y0s O i).2 ⟨o,c6,by
      cases F:listed.getD i false with
      | false=>rfl
      | true=>exact absurd ((a3 i).1 F) d,fun e he c1=>(a3 e.on).2 (ihi e.on (hback i o e Y he c1) (by have:=hback i o e Y he c1;omega))⟩
     rw [c0] at this;cases this
  .obtain ⟨o,Y,D,h3⟩:=(Y0s O i).1 q
   have m : i<ops.size:=(Array.getElem?_eq_some_iff.1 Y).1;have d:i ∉ h:=fun b=>by rw [(a3 i).2 b] at D;cases D
   have K:ops.toList[i]?=some o:=by simpa using Y
   have a8 : ∀ k z,Anc ops.toList k z->(z=i\/z ∈ h)->k ∈ h:=by
    intro k z r
    induction r with
    | edge j o' e g1 g2 g3=>
     intro hz;rcases hz with rfl|hz
     .rw [K] at g1;cases g1;exact (a3 _).1 (h3 e g2 g3)
     .exact H.anc hz (.edge j o' e g1 g2 g3)
    | trans x y z _ _ ih1 ih2=>intro hz;exact ih1 (.inr (ih2 hz))
   have T:∀ k,Anc ops.toList k i->k ∈ h:=fun k r=>a8 k i r (.inl rfl)
   have e7:=I m;have c9 : Hist ops.toList (i::h):=by
    refine ⟨List.nodup_cons.2 ⟨d,H.nd⟩,fun l1 k l2 b x F=>?_⟩
    cases l1 with
    | nil=>
     simp only [List.nil_append,List.cons.injEq] at b;obtain ⟨rfl,rfl⟩:=b
     exact T x F
    | cons y l1=>
     simp only [List.cons_append,List.cons.injEq] at b;exact H.ord l1 k l2 b.2 x F
   have b6:=G i (Nat.le_of_lt m);have c4:∀ t ∈ (Q0T fs i).rd,hE ops.toList fs e0 h t=hE ops.toList fs e0 (List.range i).reverse t:=by
    intro t ht;refine N _ _ H (Z6T hback i) V t (fun j f hd=>?_) b6
    obtain ⟨oj,g,_⟩:=c f;have b4:oj.dst=some t:=by simpa [Z3X,g] using hd
    rcases Nat.lt_trichotomy j i with A|rfl|A
    .have:=hC j i oj o A m g K (by simp [Z8j,b4,ht])
     exact ⟨fun _=>by simp;exact A,fun _=>T j this⟩
    .exact ⟨fun b=>absurd b d,fun b=>by simp at b⟩
    .have:=hC i j o oj A f K g (by simp [Z8j,b4,ht])
     exact ⟨fun b=>absurd (H.anc b this) d,fun b=>by simp at b;omega⟩
   have d3:∀ k ∈ (Q0T fs i).ids,hS fs s0 h k=hS fs s0 (List.range i).reverse k:=by
    intro k r;refine M _ _ H (Z6T hback i) V k (fun j f W=>?_) b6
    obtain ⟨oj,g,_⟩:=c f;simp only [wrS,Option.isSome_iff_exists] at W
    obtain ⟨u,hu⟩:=W;obtain ⟨l1,l2,d0,_⟩:=List.lookup_eq_some_iff.1 hu
    have a5:(k,u) ∈ (Q0T fs j).l:=by rw [d0];simp
    rcases Nat.lt_trichotomy j i with A|rfl|A
    .have F:((Q0T fs j).l.any fun p=>(Q0T fs i).ids.contains p.1||(Q0T fs i).l.any (·.1==p.1))=true:=by
      rw [List.any_eq_true];exact ⟨_,a5,by simp [r]⟩
     have:=hC j i oj o A m g K (by simp only [Z8j,F,Bool.or_true,Bool.true_or])
     exact ⟨fun _=>by simp;exact A,fun _=>T j this⟩
    .exact ⟨fun b=>absurd b d,fun b=>by simp at b⟩
    .have F:((Q0T fs j).l.any fun p=>(Q0T fs i).ids.contains p.1)=true:=by
      rw [List.any_eq_true];exact ⟨_,a5,by simp [r]⟩
     have:=hC i j o oj A f K g (by simp only [Z8j,F,Bool.or_true])
     exact ⟨fun b=>absurd (H.anc b this) d,fun b=>by simp at b;omega⟩
   have Z:∀ n ∈ (Q0T fs i).news,¬ (R n\/∃ j ∈ h,n ∈ (Q0T fs j).news):=by
    rintro n hn (F|⟨j,f,F⟩)
    .exact hfr n (Y3k hn) F
    .exact Y5b hnd (fun b=>d (b ▸ f):i≠j) hn F
   have J:=hst i o K _ η _ _ a w c4 d3 Z hc (wpAny P .any ops Q fuel (listed.setIfInBounds i true)) Q fun η' a' w' d6=>by
    refine ih (listed.setIfInBounds i true) (i::h) η' a' w' (by simp [O]) (fun k r=>?_) (fun k r=>?_) c9 (by simp;omega) ?_
    .have b7 : k<listed.size:=by omega
     by_cases hki:i=k
     .subst hki;simp [Array.getD,b7]
     .have:=hl k r
      simp [Array.getD,b7] at this ⊢
      rw [Array.getElem_setIfInBounds_ne (by omega) hki];rw [this]
      exact ⟨fun b=>.inr b,fun b=>b.resolve_left (fun e=>hki e.symm)⟩
    .rcases List.mem_cons.1 r with rfl|r
     .exact m
     .exact V k r
    .have hd:Z3X ops.toList i=o.dst:=by simp [Z3X,K]
     simp only [hE,hS,hd];refine d6.wider fun k r=>?_
     rcases r with (r|⟨j,f,r⟩) | r
     .exact .inl r
     .exact .inr ⟨j,List.mem_cons_of_mem _ f,r⟩
     .exact .inr ⟨i,List.mem_cons_self,r⟩
   simp only [wpOp,Y];split at J
   .rename_i W;rw [if_pos W];exact .inl J
   .rename_i W;rw [if_neg W];exact J
end
end
section
section
variable {L:Lay} {e e0:Env} {s s0:Sto}
theorem Y9L{n:Nat}{x:AVal}(h:∀ i ∈ x.refs,s0 i=s i):rd s0 n x=rd s n x:=by
 unfold rd;split
 .rename_i b c;rw [h b (by simp [AVal.refs,TV.refs,CV.refs])]
 .rfl
 .rename_i b f d c;rw [h b (by simp [AVal.refs,TV.refs,CV.refs])]
 .rfl
theorem Y9r{xs:List CV}{x:AVal}(h:∀ i ∈ x.refs,s0 i=s i):wr s0 xs x=wr s xs x:=by
 unfold wr;split
 .rename_i b c;rw [h b (by simp [AVal.refs,TV.refs,CV.refs])]
 .rename_i b f d c;rw [h b (by simp [AVal.refs,TV.refs,CV.refs])]
 .rfl
theorem Y0S{x:AVal}(h:∀ i ∈ x.refs,s0 i=s i):asL s0 x=asL s x:=by
 unfold asL;split
 .rfl
 .rfl
 .rename_i b;rw [h b (by simp [AVal.refs,TV.refs,CV.refs])]
 .rename_i b c d n;rw [h b (by simp [AVal.refs,TV.refs,CV.refs])]
 .rfl
theorem Y6z{x:AVal}{es m:Nat}(h:∀ i ∈ x.refs,s0 i=s i):Z9S s0 es m x=Z9S s es m x:=by
 unfold Z9S;split
 .rename_i b;rw [h b (by simp [AVal.refs,TV.refs,CV.refs])]
 .rfl
 .rfl
theorem Y3B{b:Builtin}{tys:Array TypeId}{xs:List AVal}(h:∀ x ∈ xs,∀ i ∈ x.refs,s0 i=s i):Z0h L s0 b tys xs=Z0h L s b tys xs:=by
 unfold Z0h;split
 .rename_i x
  rw [Y0S (h x (by simp))]
 .rfl
 .rfl
 .rename_i x y
  rw [Y0S (h y (by simp))];simp only [Y6z (h x (by simp))]
 .rfl
theorem Z9y{x:Option Operand}(h:∀ y,x=some y->aev e0 y=aev e y):oI e0 x=oI e x:=by
 cases x with
 | none=>rfl
 | some y=>simp only [oI,h y rfl]
theorem Y3y(m:Bool)(o:Oper)(he:∀ x ∈ o.op.operands.toList,aev e0 x=aev e x)(hs:∀ x ∈ o.op.operands.toList,∀ i ∈ (aev e x).refs,s0 i=s i):Q9s L m e0 s0 o=Q9s L m e s o:=by
 have f:∀ (z:Array Operand),(∀ x ∈ z.toList,aev e0 x=aev e x)->z.toList.map (aev e0)=z.toList.map (aev e):=fun z h=>List.map_congr_left h
 unfold Q9s
 cases ho:o.op <;> simp only [ho,Op.operands] at he hs <;> try rfl
 case move x=>simp only [he x (by simp)]
 case assign x=>simp only [he x (by simp)]
 case pick c a b=>simp only [he c (by simp),he a (by simp),he b (by simp)]
 case box t x=>simp only [he x (by simp)]
 case build t ps=>
  have:ps.toList.map (fun p=>(p.1,aev e0 p.2))=ps.toList.map (fun p=>(p.1,aev e p.2)):=List.map_congr_left fun p F=>by rw [he p.2 (by simp;exact ⟨p.1,by simpa using F⟩)]
  simp only [this]
 case buildSlice t n ps=>
  have:ps.toList.map (fun p=>(p.1,aev e0 p.2))=ps.toList.map (fun p=>(p.1,aev e p.2)):=List.map_congr_left fun p F=>by rw [he p.2 (by simp;exact ⟨p.1,by simpa using F⟩)]
  simp only [this]
 case load t x=>simp only [he x (by simp),Y9L (hs x (by simp))]
 case store t x y=>simp only [he x (by simp),he y (by simp),Y9r (hs x (by simp))]
 case nilCheck x=>simp only [he x (by simp)]
 case binOp op t x y t'=>simp only [he x (by simp),he y (by simp)]
 case unOp op t x=>simp only [he x (by simp)]
 case convert src dst x=>simp only [he x (by simp)]
 case makeFunc fn first caps=>
  cases fn <;> try rfl
  simp only [f caps (fun x j=>he x (by simp;exact .inr (by simpa using j)))]
 case makeSlice t l c=>simp only [he l (by simp),he c (by simp)]
 case slice t x lo hi mx=>
  have j:=he x (by simp);have B:oI e0 lo=oI e lo:=Z9y fun y v=>he y (by subst v;simp)
  have D:oI e0 hi=oI e hi:=Z9y fun y v=>he y (by subst v;simp)
  have g:=hs x (by simp)
  cases mx with
  | none=>
   simp only [j,B,D];split
   .split
    .split <;> try rfl
     rename_i E u q _ _
     rw [q] at g;simp only [g E (by simp [AVal.refs,TV.refs,CV.refs])]
    .rfl
   .rfl
  | some mx=>
   cases lo with
   | some lo=>rfl
   | none=>
    cases hi with
    | none=>rfl
    | some hi=>simp only [j,he hi (by simp),he mx (by simp)]
 case fieldAddr t x k=>simp only [he x (by simp)]
 case field t x k=>simp only [he x (by simp)]
 case indexAddr t x i=>
  have g:=hs x (by simp);simp only [he x (by simp),he i (by simp)]
  split
  .split
   .split
    .rename_i E q
     rw [q] at g;simp only [g E (by simp [AVal.refs,TV.refs,CV.refs])]
    .rfl
   .rfl
  .rfl
  .rfl
 case index t x i=>simp only [he x (by simp),he i (by simp)]
 case extract x k=>simp only [he x (by simp)]
 case call c=>
  obtain ⟨A,d,r⟩:=c
  cases A <;> try rfl
  rename_i b
  simp only [Call.operands] at he hs;have G:d.toList.map (aev e0)=d.toList.map (aev e):=f d (fun x j=>he x (by simpa using j))
  have H:Z0h L s0 b r (d.toList.map (aev e))=Z0h L s b r (d.toList.map (aev e)):=Y3B fun x j=>by
   obtain ⟨y,v,rfl⟩:=List.mem_map.1 j;exact hs y (by simpa using v)
  simp only [G,H]
end
end
section
def Y4t:AVal->Bool
 | .v (.c (.pte _ _ _ _))=>true
 | _=>false
def Y7o(e:Env)(o:Oper):Bool:=
 match o.op with
 | .binOp op _ _ _ _=>match op with
  | .add | .sub | .mul | .quo | .rem | .shl | .shr=>true
  | _=>false
 | .unOp op _ _=>match op with
  | .neg=>true
  | _=>false
 | .convert _ _ _=>true
 | .load _ x=>Y4t (aev e x)
 | .store _ x _=>Y4t (aev e x)
 | .slice _ _ _ _ _=>true
 | .indexAddr _ _ _=>true
 | .makeSlice _ _ _=>true
 | .call { callee:=.builtin .append,.. }=>true
 | _=>false
theorem W1Y{L:Lay}{m:Bool}{e:Env}{s:Sto}{o:Oper}{r:SR}(h:Y7o e o=false)(hr:Q9s L m e s o=some r):r.cond:=by
 unfold Y7o at h;unfold Q9s at hr
 split at hr
 case h_1=>cases hr;trivial
 case h_2=>
  split at hr
  .cases hr;trivial
  .split at hr
   .split at hr
    .cases hr;trivial
    .cases hr
   .cases hr
  .cases hr
 case h_3=>split at hr <;> first | (cases hr;done) | (cases hr;trivial)
 case h_4=>split at hr <;> first | (cases hr;done) | (cases hr;trivial)
 case h_5=>split at hr <;> first | (cases hr;done) | (cases hr;trivial)
 case h_6=>
  split at hr
  .split at hr
   .split at hr <;> first | (cases hr;done) | (cases hr;trivial)
   .cases hr
  .split at hr
   .split at hr <;> first | (cases hr;done) | (cases hr;trivial)
   .cases hr
  .cases hr
 case h_7=>
  split at hr
  .split at hr
   .split at hr
    .split at hr
     .split at hr
      .split at hr <;> first | (cases hr;done) | (cases hr;trivial)
      .cases hr
     .cases hr
    .cases hr
   .cases hr
  .cases hr
 case h_8 t x hop=>
  rw [hop] at h;simp only at h
  split at hr
  .split at hr
   .rename_i j c g
    split at hr
    .cases hr
     unfold rd at g;split at g
     .split at g
      .split at g <;> first | (cases g;done) | (cases g;trivial)
      .cases g
     .split at g <;> first | (cases g;done) | (cases g;trivial)
     .rename_i i;rw [i] at h;simp [Y4t] at h
     .cases g
    .cases hr
   .cases hr
  .cases hr
 case h_9 t x y hop=>
  rw [hop] at h;simp only at h
  split at hr
  .split at hr
   .unfold wr at hr
    split at hr
    .split at hr
     .split at hr <;> first | (cases hr;done) | (cases hr;trivial)
     .cases hr
    .rename_i i;rw [i] at h;simp [Y4t] at h
    .cases hr
   .cases hr
  .cases hr
 case h_10=>split at hr <;> first | (cases hr;done) | (cases hr;trivial)
 case h_11 op t x y t' hop=>
  rw [hop] at h;unfold Y7H at hr
  split at hr
  .split at hr
   .simp at h
   .simp at h
   .split at hr
    .split at hr <;> first | (cases hr;done) | (simp at h;done) | (cases hr;trivial)
    .cases hr
  .cases hr
 case h_12 op t x hop=>
  rw [hop] at h;unfold aun at hr
  split at hr
  .cases hr;trivial
  .simp at h
  .cases hr
 case h_13 hop=>rw [hop] at h;simp at h
 case h_14=>
  split at hr
  .split at hr <;> first | (cases hr;done) | (cases hr;trivial)
  .cases hr
 case h_15 hop=>rw [hop] at h;simp at h
 case h_16 hop=>rw [hop] at h;simp at h
 case h_17=>
  split at hr
  .split at hr
   .split at hr
    .split at hr
     .cases hr
     .split at hr
      .cases hr;trivial
      .cases hr;trivial
      .split at hr <;> first | (cases hr;done) | (cases hr;trivial)
      .cases hr
    .cases hr
   .cases hr
  .cases hr
 case h_18=>
  split at hr
  .split at hr
   .split at hr
    .split at hr
     .split at hr <;> first | (cases hr;done) | (cases hr;trivial)
     .cases hr
    .cases hr
   .cases hr
  .cases hr
 case h_19 hop=>rw [hop] at h;simp at h
 case h_20=>
  split at hr
  .split at hr
   .split at hr
    .split at hr <;> first | (cases hr;done) | (cases hr;trivial)
    .cases hr
   .cases hr
  .cases hr
 case h_21 hop=>rw [hop] at h;simp at h
 case h_22=>
  split at hr
  .split at hr <;> first | (cases hr;done) | (cases hr;trivial)
  .cases hr
 case h_23 b args tys hop=>
  rw [hop] at h;split at hr
  .rename_i k d f
   unfold Z0h at f;split at f
   .split at f
    .split at f
     .split at f
      .cases f;simp only at hr;cases hr;trivial
      .cases f
     .cases f;simp only at hr;cases hr;trivial
     .split at f
      .cases f;simp only at hr;cases hr;trivial
      .cases f
     .cases f
    .cases f
   .cases f;simp only at hr;cases hr;trivial
   .cases f;simp only at hr;cases hr;trivial
   .simp at h
   .cases f
  .cases hr
 case h_24=>cases hr
inductive Dir where
 | s
 | m
 | w (v:AVal)
 | k (f:Array Oper->Oper->Env->Eff)
def Q0l(o:Oper):List Nat:=o.op.operands.toList.filterMap fun | .tmp t=>some t|_=>none
def Z2T(e:Env)(o:Oper):List Nat:=o.op.operands.toList.flatMap fun x=>(aev e x).refs
def U4(ops:Array Oper)(o:Oper):List Nat:=
 match o.guard with
 | some (j,_)=>((ops[j]?).bind (·.dst)).toList
 | none=>[]
def Q8s(ops:Array Oper)(e:Env)(o:Oper):Option Bool:=
 match o.guard with
 | none=>some true
 | some (j,want)=>match (ops[j]?).bind (·.dst) with
  | some d=>match e d with
   | .v (.c (.d (.bool b)))=>some (b==want)
   | .t []=>some false
   | _=>none
  | none=>none
def SR.l(r:SR)(d:Option Tmp):List (Nat×Option Obj):=
 (match r.new,d with|some o,some d=>[(d,some o)] | _,_=>[])++((match r.upd with|some (k,o)=>[(k,some o)] | none=>[])++r.del.map fun i=>(i,none))
def SR.nw(r:SR)(d:Option Tmp):List Nat:=match r.new,d with|some _,some d=>[d] | _,_=>[]
def Y3j(ops:Array Oper)(o:Oper)(e:Env)(r:SR)(v:AVal):Eff:= { rd:=Q0l o++U4 ops o,ids:=Z2T e o,v:=v,l:=r.l o.dst,news:=r.nw o.dst }
def Y3v(o:Oper):Bool:=match o.op with
 | .move _ | .assign _ | .pick _ _ _ | .extract _ _ | .field _ _ _=>true
 | _=>false
def Z4K(ops:Array Oper)(o:Oper)(e:Env)(r:SR)(v:AVal):Eff:= { rd:=Q0l o++U4 ops o,ids:=if Y3v o then [] else Z2T e o,v:=v,l:=r.l o.dst,news:=r.nw o.dst }
def Y1U(ops:Array Oper)(o:Oper):Eff:= { rd:=U4 ops o,ids:=[],v:=.t [],l:=[],news:=[] }
def Z3y(L:Lay)(ops:Array Oper)(o:Oper)(d:Dir)(e:Env)(s:Sto):Eff:=
 match Q8s ops e o,d with
 | _,.k f=>f ops o e
 | some true,.s=>match Q9s L false e s o with|some r=>Z4K ops o e r r.v|none=>default
 | some true,.m=>match Q9s L true e s o with|some r=>Z4K ops o e r r.v|none=>default
 | some true,.w v=>match Q9s L false e s o with|some r=>Z4K ops o e r v|none=>default
 | _,_=>Y1U ops o
def ALe(x y:AVal):Prop:=(∀ w X η C v,ARep w X η C v x->ARep w X η C v y)/\∀ i ∈ y.refs,i ∈ x.refs
def W1k(b:Bool)(c rest:Prop):Prop:=match b with|true=>c/\rest|false=>rest
def W2B(P:Program)(C:Ctx)(nt:Nat)(L:Lay)(ops:Array Oper)(o:Oper)(d:Dir)(e:Env)(s:Sto)(rest:Prop):Prop:=
 match Q8s ops e o,d with
 | _,.k f=>StT P C nt ops o (f ops o e) e s/\rest
 | some true,.s=>match Q9s L false e s o with|some r=>W1k (Y7o e o) r.cond rest|none=>False
 | some true,.m=>match Q9s L true e s o with|some r=>W1k (Y7o e o) r.cond rest|none=>False
 | some true,.w v=>match Q9s L false e s o with|some r=>W1k (Y7o e o) r.cond (ALe r.v v/\rest) | none=>False
 | some false,.s=>rest
 | _,_=>False
def Q1M(nt:Nat)(o:Oper):Bool:=
 (match o.dst with|some d=>decide (d<nt) | none=>true)&&(match o.op with | .store _ _ _=>o.dst.isNone|_=>true)
section
variable (P:Program) (C:Ctx) (nt:Nat) (L:Lay) (ops:Array Oper)
def Z6N:List Oper->List Dir->Env->Sto->List Eff
 | o::os,d::ds,e,s=>let f:=Z3y L ops o d e s;f::Z6N os ds (Z0r o.dst f.v e) (upS f.l s)
 | _,_,_,_=>[]
def Y1l:List Oper->List Dir->Env->Sto->Prop
 | o::os,d::ds,e,s=>W2B P C nt L ops o d e s (Y1l os ds (Z0r o.dst (Z3y L ops o d e s).v e) (upS (Z3y L ops o d e s).l s))
 | [],[],_,_=>True
 | _,_,_,_=>False
end
theorem Y6J(r:SR)(d:Option Tmp)(s:Sto):upS (r.l d) s=r.sto d s:=by
 have c:∀ (l:List Nat) (i:Nat),(l.map fun i=>(i,(none:Option Obj))).lookup i=if l.contains i then some none else none:=by
  intro l i
  induction l with
  | nil=>rfl
  | cons x l ih=>
   simp only [List.map_cons,List.lookup_cons,List.contains_cons]
   by_cases hx:i=x
   .subst hx;simp
   .have:(i==x)=false:=by simpa using hx
    simp only [this,Bool.false_or];exact ih
 funext i
 unfold upS SR.sto SR.l;rw [List.lookup_append,List.lookup_append,c]
 cases hn:r.new with
 | none=>
  cases hu:r.upd with
  | none=>by_cases hc:i ∈ r.del <;> simp [hc]
  | some ko=>
   obtain ⟨k,o⟩:=ko
   by_cases hk:i=k
   .subst hk;simp
   .have:(i==k)=false:=by simpa using hk
    by_cases hc:i ∈ r.del <;> simp [List.lookup_cons,this,hk,hc]
 | some o=>
  cases d with
  | none=>
   cases hu:r.upd with
   | none=>by_cases hc:i ∈ r.del <;> simp [hc]
   | some ko=>
    obtain ⟨k,o⟩:=ko
    by_cases hk:i=k
    .subst hk;simp
    .have:(i==k)=false:=by simpa using hk
     by_cases hc:i ∈ r.del <;> simp [List.lookup_cons,this,hk,hc]
  | some d=>
   by_cases hd:i=d
   .subst hd;simp
   .have b:(i==d)=false:=by simpa using hd
    cases hu:r.upd with
    | none=>by_cases hc:i ∈ r.del <;> simp [List.lookup_cons,b,hd,hc]
    | some ko=>
     obtain ⟨k,o⟩:=ko
     by_cases hk:i=k
     .subst hk;simp [List.lookup_cons,b,hd]
     .have:(i==k)=false:=by simpa using hk
      by_cases hc:i ∈ r.del <;> simp [List.lookup_cons,b,hd,this,hk,hc]
theorem Y6K(r:SR)(d:Option Tmp)(R:Nat->Prop):∀ i,r.rng d R i->R i\/i ∈ r.nw d:=by
 intro i b;rcases b with b|⟨f,c⟩
 .exact .inl b
 .right
  obtain ⟨o,g⟩:=Option.ne_none_iff_exists'.1 f;simp [SR.nw,g,c]
section
variable {P:Program} {C:Ctx} {nt:Nat} {L:Lay} {ops:Array Oper}
theorem W1x{w:World}{X:Nat->Prop}{η:Nat->Value}{C:Ctx}{v:Value}(h:ARep w X η C v (.t [])):v=.tuple #[]:=by
 cases h with|t us _ h _=>exact congrArg Value.tuple (Array.size_eq_zero_iff.1 h)
theorem Q5N{R:Nat->Prop}{η:Nat->Value}{e e0:Env}{s:Sto}{a:Act}{w:World}(h:Conc C nt R η e0 s a w){o:Oper}(hg:∀ t ∈ U4 ops o,e0 t=e t){b:Bool}(hb:Q8s ops e o=some b):
  Region.wanted o (yielded ops a.tmps)=b:=by
 unfold Q8s at hb;unfold Region.wanted
 split at hb
 .rename_i c;rw [c];cases hb;rfl
 .rename_i j f c
  rw [c];split at hb
  .rename_i d p
   split at hb
   .rename_i x i
    cases hb
    have r:e0 d=e d:=hg d (by simp [U4,c,p]);have n:=h.ev d
    rw [r,i] at n;have q:=Z9Q n
    have m:d<a.tmps.size:=by
     rcases Nat.lt_or_ge d a.tmps.size with g|g
     .exact g
     .simp [g,undef] at q
    have k:a.tmps[d]?=some (.bool x):=by
     rw [Array.getElem?_eq_getElem m];simpa [m] using q
    have u:yielded ops a.tmps j=some x:=by
     unfold yielded;rw [p];simp only [Option.bind_some,k]
    simp only [u]
    cases x <;> cases f <;> rfl
   .rename_i i
    cases hb
    have r:e0 d=e d:=hg d (by simp [U4,c,p]);have n:=h.ev d
    rw [r,i] at n;have q:=W1x n
    have u:yielded ops a.tmps j=none:=by
     unfold yielded;rw [p];simp only [Option.bind_some]
     rcases Nat.lt_or_ge d a.tmps.size with g|g
     .rw [Array.getElem?_eq_getElem g]
      have v : a.tmps[d]=.tuple #[]:=by simpa [g,Array.getD] using q
      rw [v]
     .rw [Array.getElem?_eq_none g]
    simp only [u]
    cases f <;> rfl
   .cases hb
  .cases hb
theorem Y7E{e e0:Env}{s s0:Sto}(m:Bool)(o:Oper)(he:∀ x ∈ o.op.operands.toList,aev e0 x=aev e x)(ha:Y3v o=true):Q9s L m e0 s0 o=Q9s L m e s o:=by
 unfold Y3v at ha;unfold Q9s
 cases ho:o.op <;> simp only [ho,Op.operands] at he ha <;> first | (cases ha;done) | skip
 case move x=>simp only [he x (by simp)]
 case assign x=>simp only [he x (by simp)]
 case pick c a b=>simp only [he c (by simp),he a (by simp),he b (by simp)]
 case field t x k=>simp only [he x (by simp)]
 case extract x k=>simp only [he x (by simp)]
theorem Y4R(hL:LOk P L){o:Oper}(hdo:Q1M nt o=true){m:Bool}{e:Env}{s:Sto}{r:SR}(hr:Q9s L m e s o=some r)(hc:r.cond)(hg:Q8s ops e o=some true){v:AVal}(hv:ALe r.v v):
  StT P C nt ops o (Z4K ops o e r v) e s:=by
 intro R η e0 s0 a w z q M h K Q S;have k:∀ x ∈ o.op.operands.toList,aev e0 x=aev e x:=by
  intro x k
  cases x with
  | tmp t=>exact z t (List.mem_append.2 (.inl (List.mem_filterMap.2 ⟨_,k,rfl⟩)))
  | const v=>rfl
  | global g=>rfl
  | func f=>rfl
 have B:Q9s L m e0 s0 o=some r:=by
  rcases Bool.eq_false_or_eq_true (Y3v o) with A|A
  .rw [Y7E m o k A];exact hr
  .have E:∀ x ∈ o.op.operands.toList,∀ i ∈ (aev e x).refs,s0 i=s i:=fun x k i j=>q i (by
    show i ∈ if Y3v o=true then [] else Z2T e o;rw [A];exact List.mem_flatMap.2 ⟨x,k,j⟩)
   rw [Y3y m o k E];exact hr
 have I:∀ x,o.dst=some x->x<nt:=by
  intro x k;simp only [Q1M,k,Bool.and_eq_true,decide_eq_true_eq] at hdo
  exact hdo.1
 have D:∀ t x y,o.op=.store t x y->o.dst=none:=by
  intro t x y H;simp only [Q1M,H,Bool.and_eq_true] at hdo
  simpa using hdo.2
 have N:=Q5N (e:=e) h (fun t T=>z t (List.mem_append.2 (.inr T))) hg;rw [if_pos N]
 have p:=Y8y hL h m o I B hc (fun d n F=>M d (by
  obtain ⟨U,J⟩:=Option.ne_none_iff_exists'.1 F;simp [Z4K,SR.nw,J,n])) D
 refine p.wp fun η' O w' G=>S η' O w' ?_
 have b:=G.wider (Y6K r o.dst R);have u:upS (Z4K ops o e r v).l s0=r.sto o.dst s0:=Y6J r o.dst s0
 rw [u];have F:(Z4K ops o e r v).news=r.nw o.dst:=rfl
 rw [F];refine ⟨b.ok,b.df,b.sz,fun t=>?_,fun t i j=>?_,b.st,b.sr,b.ds,b.ow,b.fr,b.pn⟩
 .have c:=b.ev t
  unfold Z0r;unfold SR.env at c
  cases n:o.dst with
  | none=>rw [n] at c;exact c
  | some d=>
   rw [n] at c;simp only at c ⊢
   by_cases htd:t=d
   .rw [if_pos htd] at c ⊢;exact hv.1 _ _ _ _ _ c
   .rw [if_neg htd] at c ⊢;exact c
 .have c:=b.er t
  unfold Z0r at j;unfold SR.env at c
  cases n:o.dst with
  | none=>rw [n] at c j;exact c i j
  | some d=>
   rw [n] at c j;simp only at c j
   by_cases htd:t=d
   .rw [if_pos htd] at c j;exact c i (hv.2 i j)
   .rw [if_neg htd] at c j;exact c i j
theorem ALe.refl(x:AVal):ALe x x:=⟨fun _ _ _ _ _ h=>h,fun _ h=>h⟩
theorem Y9x{o:Oper}(hdo:Q1M nt o=true){e:Env}{s:Sto}(hg:Q8s ops e o=some false):StT P C nt ops o (Y1U ops o) e s:=by
 intro R η e0 s0 a w c f k b K Q m;have h:=Q5N (e:=e) b (fun t r=>c t r) hg
 rw [if_neg (by rw [h];simp)];refine m η _ w ?_
 have d:∀ x,o.dst=some x->x<nt:=by
  intro x u;simp only [Q1M,u,Bool.and_eq_true,decide_eq_true_eq] at hdo
  exact hdo.1
 have:=b.val o.dst d (.t []) undef fun _=>⟨.t #[] [] rfl (fun j g=>absurd g (Nat.not_lt_zero j)),by simp [AVal.refs]⟩
 have n:upS (Y1U ops o).l s0=s0:=by funext i;rfl
 rw [n];have p:Z0r o.dst (Y1U ops o).v e0=SR.env { v:=.t [] } o.dst e0:=rfl
 rw [p];exact this.wider fun i q=>.inl q
theorem W0W(hL:LOk P L):∀ (os:List Oper) (ds:List Dir) (e:Env) (s:Sto),(os.all (Q1M nt))=true->Y1l P C nt L ops os ds e s->Y3C P C nt ops os (Z6N L ops os ds e s) e s:=by
 intro os
 induction os with
 | nil=>
  intro ds e s _ h
  cases ds with
  | nil=>trivial
  | cons d ds=>exact h.elim
 | cons o os ih=>
  intro ds e s j h
  cases ds with
  | nil=>exact h.elim
  | cons d ds=>
   simp only [List.all_cons,Bool.and_eq_true] at j;simp only [Y1l] at h
   simp only [Z6N,Y3C];have q:StT P C nt ops o (Z3y L ops o d e s) e s/\Y1l P C nt L ops os ds (Z0r o.dst (Z3y L ops o d e s).v e) (upS (Z3y L ops o d e s).l s):=by
    generalize hrest:Y1l P C nt L ops os ds (Z0r o.dst (Z3y L ops o d e s).v e) (upS (Z3y L ops o d e s).l s)=f at h;have i:∀ {b:Bool} {c f:Prop},W1k b c f->f:=by
     intro b c f p;cases b <;> first|exact p.2|exact p
    have g:∀ {m:Bool} {r:SR} {f:Prop},Q9s L m e s o=some r->W1k (Y7o e o) r.cond f->r.cond:=by
     intro m r f n p
     cases hb:Y7o e o with
     | true=>rw [hb] at p;exact p.1
     | false=>exact W1Y hb n
    unfold W2B at h;unfold Z3y
    split at h
    .exact ⟨by split <;> first|exact h.1|contradiction | (rename_i u t;cases t;exact h.1),h.2⟩
    .rename_i k
     split at h
     .rename_i r n
      simp only [k];exact ⟨Y4R hL j.1 n (g n h) k (ALe.refl _),i h⟩
     .exact h.elim
    .rename_i k
     split at h
     .rename_i r n
      simp only [k];exact ⟨Y4R hL j.1 n (g n h) k (ALe.refl _),i h⟩
     .exact h.elim
    .rename_i v k
     split at h
     .rename_i r n
      simp only [k];exact ⟨Y4R hL j.1 n (g n h) k (i h).1,(i h).2⟩
     .exact h.elim
    .rename_i k
     simp only [k];exact ⟨Y9x j.1 k,h⟩
    .exact h.elim
   exact ⟨q.1,ih ds _ _ j.2 q.2⟩
end
end
section
def lk(E:List (Nat×AVal)):Env:=fun t=>(E.lookup t).getD .any
def ls(S:List (Nat×Obj)):Sto:=fun i=>S.lookup i
def Y4n(E:List (Nat×AVal))(S:List (Nat×Obj)):List Nat:=E.flatMap (fun p=>p.2.refs)++S.flatMap fun p=>p.1::p.2.refs
def OLe(o o' : Obj):Prop:=(∀ w X η C v,ORep w X η C v o->ORep w X η C v o')/\o'.ro=o.ro/\∀ i ∈ o'.refs,i ∈ o.refs
theorem OLe.refl(o:Obj):OLe o o:=⟨fun _ _ _ _ _ h=>h,rfl,fun _ h=>h⟩
theorem ALe.any(x:AVal):ALe x .any:=⟨fun _ _ _ _ v _=>.any v,fun _ h=>by cases h⟩
theorem ALe.of_eq{x y:AVal}(h:x=y):ALe x y:=h ▸ ALe.refl x
def CV.ren(ρ:Nat->Nat):CV->CV
  | .own i=>.own (ρ i)
  | .ptr i o=>.ptr (ρ i) o
  | .pte i es ix o=>.pte (ρ i) es ix o
  | .sub i es lo n=>.sub (ρ i) es lo n
  | .clo f ids=>.clo f (ids.map ρ)
  | .ap i=>.ap (ρ i)
  | .cp i j=>.cp (ρ i) j
  | x=>x
def TV.ren(ρ:Nat->Nat):TV->TV
  | .c x=>.c (x.ren ρ)
  | .g xs=>.g (xs.map (CV.ren ρ))
def AVal.ren(ρ:Nat->Nat):AVal->AVal
  | .any=>.any
  | .v x=>.v (x.ren ρ)
  | .t xs=>.t (xs.map (TV.ren ρ))
def Obj.ren(ρ:Nat->Nat):Obj->Obj
  | .box ro cs=>.box ro (cs.map (CV.ren ρ))
  | .exr refs p=>.exr (refs.map ρ) p
  | o=>o
section
variable {w:World} {X:Nat->Prop} {η:Nat->Value} {C:Ctx} {ρ:Nat->Nat}
theorem CRep.unren{v:Value}{x:CV}(h:CRep w X η C v (x.ren ρ)):CRep w X (fun i=>η (ρ i)) C v x:=by
  cases x with
  | d x=>cases h with|d _ _ h=>exact .d _ _ h
  | fl n f=>cases h with|fl _ _ _ h=>exact .fl _ _ _ h
  | own i=>cases h with|own _ _ h h1=>exact .own _ i h h1
  | ptr i o=>cases h with|ptr _ _ _ h=>exact .ptr _ i o h
  | pte i es ix o=>cases h with|pte _ _ _ _ _ _ _ h=>exact .pte _ _ _ i es ix o h
  | sub i es lo n=>cases h with
    | sub b N cap _ _ _ _ h h1 h2=>exact .sub b N cap i es lo n h h1 h2
    | subN ad ad' _ _ _ h=>exact .subN ad ad' _ i es h
  | elm cs=>cases h with|elm _ _ _ _ _ _ h1 h2 h3 h4=>exact .elm _ _ _ _ _ _ h1 h2 h3 h4
  | clo f ids=>cases h with|clo _ _ _ h=>exact .clo f ids _ (by rw [h,List.map_map];rfl)
  | sem p=>cases h with|sem _ _ h h1=>exact .sem _ _ h h1
  | ap i=>cases h with|ap _ _ h h1=>exact .ap _ i h h1
  | bnd f cs=>cases h with|bnd _ _ _ h1 h2=>exact .bnd _ _ _ h1 h2
  | cp i j=>cases h with|cp _ _ _ _ h h1 h2=>exact .cp _ i j _ h h1 h2
theorem Q0e.unren{vs:Array Value}{cs:List CV}(h:Q0e w X η C vs (cs.map (CV.ren ρ))):Q0e w X (fun i=>η (ρ i)) C vs cs:=by
  refine ⟨by simpa using h.1,fun j b=>CRep.unren (ρ:=ρ) ?_⟩;have:=h.2 j (by simpa using b)
  rw [List.getD_eq_getElem?_getD,List.getElem?_map,List.getElem?_eq_getElem b] at this;rw [List.getD_eq_getElem?_getD,List.getElem?_eq_getElem b]
  exact this
theorem TRep.unren{v:Value}{x:TV}(h:TRep w X η C v (x.ren ρ)):TRep w X (fun i=>η (ρ i)) C v x:=by
  cases x with
  | c x=>cases h with|c _ _ h=>exact .c _ _ h.unren
  | g xs=>cases h with|g _ _ h=>exact .g _ _ h.unren
theorem ARep.unren{v:Value}{x:AVal}(h:ARep w X η C v (x.ren ρ)):ARep w X (fun i=>η (ρ i)) C v x:=by
  cases x with
  | any=>exact .any v
  | v x=>cases h with|v _ _ h=>exact .v _ _ h.unren
  | t xs=>
    cases h with
    | t us _ h1 h2=>
      refine .t us xs (by simpa using h1) fun j b=>TRep.unren (ρ:=ρ) ?_
      have:=h2 j (by simpa using b)
      rw [List.getD_eq_getElem?_getD,List.getElem?_map,List.getElem?_eq_getElem b] at this;rw [List.getD_eq_getElem?_getD,List.getElem?_eq_getElem b]
      exact this
theorem ORep.unren{v:Value}{o:Obj}(h:ORep w X η C v (o.ren ρ)):ORep w X (fun i=>η (ρ i)) C v o:=by
  cases o with
  | box ro cs=>cases h with|box b _ c e _ h1 h2=>exact .box b ro c e cs h1 h2.unren
  | arr es n f=>
    cases h with
    | nil ad _ _=>exact .nil ad _ _
    | arr b _ cap _ c e _ h1 h2 h3 h4 h5 h6 h7=>exact .arr b _ cap _ c e _ h1 h2 h3 h4 h5 h6 h7
  | ext p=>cases h with|ext _ _ h1 h2 h3=>exact .ext _ _ h1 h2 h3
  | exr refs p=>
    cases h with|exr _ _ _ h1 h2 h3=>
    rw [List.map_map] at h1 h2;exact .exr _ refs p h1 h2 h3
theorem Obj.ro_ren(o:Obj):(o.ren ρ).ro=o.ro:=by cases o <;> rfl
theorem Conc.conv{nt:Nat}{R R' : Nat->Prop}{e e' : Env}{s s' : Sto}{a:Act}(h:Conc C nt R η e s a w)(ρ:Nat->Nat)(he:∀ t,ALe (e t) ((e' t).ren ρ))(hs:∀ i o',s' i=some o' -> ∃ o,s (ρ i)=some o/\OLe o (o'.ren ρ))(hinj:∀ i j,s' i≠none->s' j≠none->ρ i=ρ j->i=j)(hR:∀ t i,i ∈ (e' t).refs->R' i)(hR2:∀ i o',s' i=some o' -> R' i/\∀ j ∈ o'.refs,R' j)(hpin:∀ i,C.pin i≠none->ρ i=i/\R' i):
    Conc C nt R' (fun i=>η (ρ i)) e' s' a w:=by
  have y:Q7o w w (XS C s η) (XS C s' fun i=>η (ρ i)):=by
    intro b x E;refine ⟨rfl,fun p=>E ?_⟩
    rcases p with H|⟨i,o',c,g⟩
    . exact .inl H
    . obtain ⟨o,f,_⟩:=hs i o' c
      exact .inr ⟨ρ i,o,f,g⟩
  refine ⟨h.ok,h.df,h.sz,fun t=>?_,hR,fun i o' c=>?_,hR2,fun i j b c u m q=>?_,fun i o' b c x=>?_,h.fr,fun i v c=>?_⟩
  . exact ARep.unren (((he t).1 _ _ _ _ _ (h.ev t)).mono y (fun _ _=>rfl))
  . obtain ⟨o,f,d⟩:=hs i o' c
    exact ORep.unren ((d.1 _ _ _ _ _ (h.st _ o f)).mono y (fun _ _=>rfl) (fun _ _=>rfl))
  . obtain ⟨A,n⟩:=Option.ne_none_iff_exists'.1 c
    obtain ⟨D,r⟩:=Option.ne_none_iff_exists'.1 u;obtain ⟨z,B,_⟩:=hs i A n
    obtain ⟨G,F,_⟩:=hs j D r;exact hinj i j c u (h.ds _ _ b (by rw [B];simp) (by rw [F];simp) m q)
  . obtain ⟨o,f,d⟩:=hs i o' c
    have:=h.ow _ o b f x
    have k:o'.ro=o.ro:=by rw [<-d.2.1,Obj.ro_ren]
    rw [k];exact this
  . have:=hpin i (by rw [c];simp)
    exact ⟨by show η (ρ i)=v;rw [this.1];exact (h.pn i v c).1,this.2⟩
end
def J6(l:List (Nat×Nat))(i:Nat):Nat:=(l.lookup i).getD i
theorem Y0w{E:List (Nat×AVal)}{t:Nat}:lk E t=.any\/(t,lk E t) ∈ E:=by
  unfold lk
  cases h:E.lookup t with
  | none=>exact .inl rfl
  | some x=>
    right
    obtain ⟨d,c,b,_⟩:=List.lookup_eq_some_iff.1 h;rw [b];simp
theorem J1{S:List (Nat×Obj)}{i:Nat}{o:Obj}(h:ls S i=some o):(i,o) ∈ S:=by
  obtain ⟨d,c,b,_⟩:=List.lookup_eq_some_iff.1 h;rw [b];simp
def Q3h:List Nat->Bool
  | []=>true
  | x::r=> !r.contains x&&Q3h r
theorem Q4C{l:List Nat}(h:Q3h l=true):l.Nodup:=by
  induction l with
  | nil=>exact List.nodup_nil
  | cons x r ih=>simp [Q3h] at h;exact List.nodup_cons.2 ⟨h.1,ih h.2⟩
theorem Y7n{S:List (Nat×Obj)}{ρ:Nat->Nat}(h:(S.map fun p=>ρ p.1).Nodup){i j:Nat}(hi:ls S i≠none)(hj:ls S j≠none)(hij:ρ i=ρ j):i=j:=by
  obtain ⟨q,d⟩:=Option.ne_none_iff_exists'.1 hi;obtain ⟨r,g⟩:=Option.ne_none_iff_exists'.1 hj
  have o:=J1 d;have n:=J1 g
  rcases Nat.decEq i j with k|m
  . exfalso
    obtain ⟨u,t,rfl⟩:=List.append_of_mem o;rw [List.map_append,List.map_cons,List.nodup_append] at h
    rcases List.mem_append.1 n with b|b
    . exact h.2.2 _ (List.mem_map_of_mem b) _ (List.mem_cons_self) hij.symm
    . rcases List.mem_cons.1 b with c|c
      . injection c with h5;exact k h5.symm
      . have:=(List.nodup_cons.1 h.2.1).1
        exact this (hij ▸ List.mem_map_of_mem (f:=fun p:Nat×Obj=>ρ p.1) c)
  . exact m
section
variable {P:Program} {C:Ctx} {nt:Nat}
def Kn(C:Ctx)(nt:Nat)(E:List (Nat×AVal))(S:List (Nat×Obj))(K:Act->World->Prop):Prop:=
  ∀ R η a w,Conc C nt R η (lk E) (ls S) a w->K a w
def AW(P:Program)(C:Ctx)(nt:Nat)(c:Code)(E:List (Nat×AVal))(S:List (Nat×Obj))(Q:Exit->Act->World->Prop):Prop:=Kn C nt E S (fun a w=>c.wp P Q a w)
def pinsB(C:Ctx)(ρ:Nat->Nat):Prop:=∀ i,C.pin i≠none->ρ i=i
theorem Conc.lit{R:Nat->Prop}{η:Nat->Value}{e:Env}{s:Sto}{a:Act}{w:World}(h:Conc C nt R η e s a w){E:List (Nat×AVal)}{S:List (Nat×Obj)}{ρ:Nat->Nat}(hpin:pinsB C ρ)(hE:∀ p ∈ E,ALe (e p.1) (p.2.ren ρ))(hS:∀ p ∈ S,∃ o,s (ρ p.1)=some o/\OLe o (p.2.ren ρ))(hinj:(S.map fun p=>ρ p.1).Nodup):
    Conc C nt (fun i=>i ∈ Y4n E S\/C.pin i≠none) (fun i=>η (ρ i)) (lk E) (ls S) a w:=by
  refine h.conv ρ (fun t=>?_) (fun i g b=>hS _ (J1 b)) (fun i j b d f=>Y7n hinj b d f) (fun t i b=>.inl ?_) (fun i g b=>⟨.inl ?_,fun j d=>.inl ?_⟩) (fun i b=>⟨hpin i b,.inr b⟩)
  . rcases Y0w (E:=E) (t:=t) with c|c
    . rw [c];exact ALe.any _
    . exact hE _ c
  . rcases Y0w (E:=E) (t:=t) with c|c
    . rw [c] at b;cases b
    . exact List.mem_append.2 (.inl (List.mem_flatMap.2 ⟨_,c,b⟩))
  . exact List.mem_append.2 (.inr (List.mem_flatMap.2 ⟨_,J1 b,List.mem_cons_self⟩))
  . exact List.mem_append.2 (.inr (List.mem_flatMap.2 ⟨_,J1 b,List.mem_cons_of_mem _ d⟩))
theorem Conc.narrow{R:Nat->Prop}{η:Nat->Value}{E:List (Nat×AVal)}{S:List (Nat×Obj)}{a:Act}{w:World}(h:Conc C nt R η (lk E) (ls S) a w):
    Conc C nt (fun i=>i ∈ Y4n E S\/C.pin i≠none) η (lk E) (ls S) a w:=by
  refine ⟨h.ok,h.df,h.sz,h.ev,fun t i b=>.inl ?_,h.st,fun i o b=>⟨.inl ?_,fun j d=>.inl ?_⟩,h.ds,h.ow,h.fr,fun i v b=>⟨(h.pn i v b).1,.inr (by rw [b];simp)⟩⟩
  . rcases Y0w (E:=E) (t:=t) with c|c
    . rw [c] at b;cases b
    . exact List.mem_append.2 (.inl (List.mem_flatMap.2 ⟨_,c,b⟩))
  . exact List.mem_append.2 (.inr (List.mem_flatMap.2 ⟨_,J1 b,List.mem_cons_self⟩))
  . exact List.mem_append.2 (.inr (List.mem_flatMap.2 ⟨_,J1 b,List.mem_cons_of_mem _ d⟩))
theorem Kn.le{E E' : List (Nat×AVal)}{S S' : List (Nat×Obj)}{K:Act->World->Prop}(ρ:Nat->Nat)(hpin:pinsB C ρ)(hE:∀ p ∈ E',ALe (lk E p.1) (p.2.ren ρ))(hS:∀ p ∈ S',∃ o,ls S (ρ p.1)=some o/\OLe o (p.2.ren ρ))(hinj:(S'.map fun p=>ρ p.1).Nodup)(h:Kn C nt E' S' K):Kn C nt E S K:=fun R η a w b=>h _ _ a w (b.lit hpin hE hS hinj)
theorem Q1T{α β:Type}{l:List α}{f g:α->β}(h:l.map f=l.map g):∀ x ∈ l,f x=g x:=by
  induction l with
  | nil=>intro x b;cases b
  | cons y r ih=>
    simp only [List.map_cons,List.cons.injEq] at h;intro x b
    rcases List.mem_cons.1 b with rfl|b
    . exact h.1
    . exact ih h.2 x b
theorem W3H{E E' : List (Nat×AVal)}{S S' : List (Nat×Obj)}{K:Act->World->Prop}(ρ:List (Nat×Nat))(hpin:pinsB C (J6 ρ))(hE:E'.map (fun p=>lk E p.1)=E'.map (fun p=>p.2.ren (J6 ρ)))(hS:S'.map (fun p=>ls S (J6 ρ p.1))=S'.map (fun p=>some (p.2.ren (J6 ρ))))(hinj:Q3h (S'.map fun p=>J6 ρ p.1)=true)(h:Kn C nt E' S' K):Kn C nt E S K:=
  Kn.le (J6 ρ) hpin (fun p b=>ALe.of_eq (Q1T hE p b)) (fun p b=>⟨_,Q1T hS p b,OLe.refl _⟩) (Q4C hinj) h
theorem CV.ren_id(x:CV):x.ren (fun i=>i)=x:=by cases x <;> simp [CV.ren]
theorem TV.ren_id(x:TV):x.ren (fun i=>i)=x:=by
  cases x with
  | c x=>simp [TV.ren,CV.ren_id]
  | g xs=>
    simp only [TV.ren];congr 1;conv=>rhs;rw [<-List.map_id xs]
    exact List.map_congr_left fun y _=>CV.ren_id y
theorem AVal.ren_id(x:AVal):x.ren (fun i=>i)=x:=by
  cases x with
  | any=>rfl
  | v x=>simp [AVal.ren,TV.ren_id]
  | t xs=>
    simp only [AVal.ren];congr 1;conv=>rhs;rw [<-List.map_id xs]
    exact List.map_congr_left fun y _=>TV.ren_id y
theorem Obj.ren_id(o:Obj):o.ren (fun i=>i)=o:=by
  cases o with
  | box ro cs=>
    simp only [Obj.ren];congr 1;conv=>rhs;rw [<-List.map_id cs]
    exact List.map_congr_left fun y _=>CV.ren_id y
  | arr es n f=>rfl
  | ext p=>rfl
  | exr refs p=>simp [Obj.ren]
structure Fr (P:Program) (L:Lay) (C:Ctx) (pins:List Nat):Prop where
  mixed:P.follows .mixedOrders=true
  lay:LOk P L
  pin:∀ i,C.pin i≠none->i ∈ pins
def W2u(L:Lay)(pins:List Nat)(nt:Nat)(ops:Array Oper)(draw:Bool)(ds:List Dir)(E:List (Nat×AVal))(S:List (Nat×Obj))(ρ:List (Nat×Nat))(S' : List (Nat×Obj)):Bool:=
  let F:=Z6N L ops ops.toList ds (lk E) (ls S)
  ops.toList.all (Q1M nt)&&Q3h (Q5G F)&&(Q5G F).all (fun n=> !(Y4n E S).contains n && !pins.contains n)&&(!draw||W2J ops.toList F)&&Q3h (S'.map fun p=>J6 ρ p.1)&&pins.all fun i=>J6 ρ i==i
theorem AW.region{L:Lay}{pins:List Nat}(Fm:Fr P L C pins){id:Nat}{ops:Array Oper}{draw:Bool}{E E' : List (Nat×AVal)}{S S' : List (Nat×Obj)}{Q:Exit->Act->World->Prop}(ds:List Dir)(ρ:List (Nat×Nat))(hchk:W2u L pins nt ops draw ds E S ρ S'=true)(hC:Y1l P C nt L ops ops.toList ds (lk E) (ls S))(he0:E'.map (fun p=>Y5n ops.toList (Z6N L ops ops.toList ds (lk E) (ls S)) (lk E) p.1)=E'.map (fun p=>p.2.ren (J6 ρ)))(hs0:S'.map (fun p=>Y5m (Z6N L ops ops.toList ds (lk E) (ls S)) (ls S) (J6 ρ p.1))=S'.map (fun p=>some (p.2.ren (J6 ρ))))(k:Kn C nt E' S' (Q .normal)):AW P C nt (.region id ops draw) E S Q:=by
  simp only [W2u,Bool.and_eq_true] at hchk;obtain ⟨⟨⟨⟨⟨H,c2⟩,Y⟩,N⟩,c5⟩,T⟩:=hchk
  have b:=W0W (P:=P) (C:=C) (nt:=nt) (L:=L) (ops:=ops) Fm.lay ops.toList ds (lk E) (ls S) H hC;generalize hF:Z6N L ops ops.toList ds (lk E) (ls S)=F at *
  have g:pinsB C (J6 ρ):=fun i q=>by
    have:=List.all_eq_true.1 T i (Fm.pin i q)
    simpa using this
  have r:=Q4C c2;intro R η a w W
  have h:=W.narrow;have m:∀ n ∈ Q5G F,¬ (n ∈ Y4n E S\/C.pin n≠none):=by
    intro n I t;have:=List.all_eq_true.1 Y n I
    simp at this
    rcases t with t|t
    . exact this.1 t
    . exact this.2 (Fm.pin n t)
  have f:∀ η' d w',Conc C nt (fun i=>(i ∈ Y4n E S\/C.pin i≠none)\/i ∈ Q5G F) η' (Y5n ops.toList F (lk E)) (Y5m F (ls S)) d w' -> Q .normal d w':=fun η' d w' c =>
    k _ _ d w' (c.lit g (fun p A=>ALe.of_eq (Q1T he0 p A)) (fun p A=>⟨_,Q1T hs0 p A,OLe.refl _⟩) (Q4C c5))
  cases draw with
  | false=>exact wp_region_list (Y6W ops.toList F _ η _ _ a w b r m h f)
  | true=>
    have y:W2J ops.toList F=true:=by simpa using N
    obtain ⟨V,U,B⟩:=Y6t ops.toList F ops.toList F [] [] y rfl rfl rfl (fun k i hk=>by simp at hk);have v:=Y8I (P:=P) (C:=C) (nt:=nt) (ops:=ops) ops.toList F ops.toList F 0 (lk E) (ls S) (fun j=>by rw [Nat.zero_add]) (fun j _=>by rw [Nat.zero_add]) B b
    obtain ⟨D,z,x⟩:=v;simp only [Nat.zero_add,List.range_zero,List.reverse_nil] at D z x
    refine wp_region_any Fm.mixed (W0Z (R:=fun i=>i ∈ Y4n E S\/C.pin i≠none) (e0:=lk E) (s0:=ls S) B (fun j o e=>V j o e (Nat.zero_le _)) (fun i j O Z M fj u=>U i j O Z M fj u (Nat.zero_le _)) D r m (fun η' d w' c=>f η' d w' ?_)
      ops.size (Array.replicate ops.size false) [] η a _ (by simp) (fun i q=>by simp [q]) (by simp) ⟨List.nodup_nil,fun l1 k l2 G=>by simp at G⟩ (by simp) ?_)
    . have J:Y5n ops.toList F (lk E)=hE ops.toList F (lk E) (List.range ops.size).reverse:=by rw [Array.length_toList] at z;exact z
      have K:Y5m F (ls S)=hS F (ls S) (List.range ops.size).reverse:=by rw [Array.length_toList] at x;exact x
      rw [J,K];exact c
    . exact h.drew.wider fun i q=>.inl q
end
end
section
section
variable {P:Program} {C:Ctx} {nt:Nat} {L:Lay} {pins:List Nat} {E:List (Nat×AVal)} {S:List (Nat×Obj)} {Q:Exit->Act->World->Prop}
theorem AW.seq{x y:Code}(h:AW P C nt x E S (Exit.then (y.wp P Q) Q)):AW P C nt (.seq x y) E S Q:=fun R η a w b=>wp_seq (h R η a w b)
theorem AW.skip(h:Kn C nt E S (Q .normal)):AW P C nt .skip E S Q:=fun R η a w b=>wp_skip (h R η a w b)
theorem AW.ret(h:Kn C nt E S (Q .ret)):AW P C nt .ret E S Q:=fun R η a w b=>wp_ret (h R η a w b)
theorem AW.exit{id:Nat}(h:Kn C nt E S (Q (.exit id))):AW P C nt (.exit id) E S Q:=fun R η a w b=>wp_exit (h R η a w b)
theorem AW.block{id:Nat}{c:Code}(h:AW P C nt c E S (Exit.inBlock id Q)):AW P C nt (.block id c) E S Q:=fun R η a w b=>wp_block (h R η a w b)
theorem AW.cond{t:Nat}{x y:Code}{b:Bool}(hb:lk E t=vb b)(ht:b=true->AW P C nt x E S Q)(hf:b=false->AW P C nt y E S Q):AW P C nt (.cond (.tmp t) x y) E S Q:=by
 intro R η a w c;have d:=c.ev t
 rw [hb] at d;have f:a.eval (.tmp t)=.bool b:=Z9Q d
 cases b with
 | true=>exact wp_cond_true f (ht rfl R η a w c)
 | false=>exact wp_cond_false f (hf rfl R η a w c)
def Ex{σ:Type}(C:Ctx)(nt:Nat)(I:σ->Prop)(E:σ->List (Nat×AVal))(S:σ->List (Nat×Obj))(a:Act)(w:World):Prop:=∃ z,I z/\∃ R η,Conc C nt R η (lk (E z)) (ls (S z)) a w
theorem W3I{σ:Type}{I:σ->Prop}{E' : σ->List (Nat×AVal)}{S' : σ->List (Nat×Obj)}(z:σ)(hz:I z):Kn C nt (E' z) (S' z) (Ex C nt I E' S'):=fun R η _ _ b=>⟨z,hz,R,η,b⟩
theorem AW.loop{σ:Type}{c:Code}(I:σ->Prop)(μ:σ->Nat)(E' : σ->List (Nat×AVal))(S' : σ->List (Nat×Obj))(round:∀ z,I z->AW P C nt c (E' z) (S' z) (Exit.then (Ex C nt (fun z'=>I z' /\ μ z' < μ z) E' S') Q))(z0:σ)(h0:I z0):
  AW P C nt (.loop c) (E' z0) (S' z0) Q:=by
 classical
 intro R η a w H
 let J:Act->World->Nat->Prop:=fun a w n=>∃ z,I z/\μ z=n/\∃ R η,Conc C nt R η (lk (E' z)) (ls (S' z)) a w
 let m:Act->World->Nat:=fun a w=>if h:∃ n,J a w n then h.choose else 0
 have f:∀ (n:Nat) a w,J a w n->∃ k,J a w k/\∀ j,J a w j->k<=j:=by
  intro n
  induction n using Nat.strongRecOn with
  | _ n ih=>
   intro a w F;rcases Classical.em (∃ j,j<n/\J a w j) with ⟨j,i,g⟩|p
   .exact ih j i a w g
   .exact ⟨n,F,fun j i=>Nat.le_of_not_lt fun b=>p ⟨j,b,i⟩⟩
 let μ' : Act->World->Nat:=fun a w=>if h:∃ n,J a w n then (f h.choose a w h.choose_spec).choose else 0
 have x:∀ a w,(∃ n,J a w n)->J a w (μ' a w)/\∀ j,J a w j->μ' a w<=j:=by
  intro a w d;have:μ' a w=(f d.choose a w d.choose_spec).choose:=by simp only [μ',d,dite_true]
  rw [this];exact (f d.choose a w d.choose_spec).choose_spec
 refine wp_loop (fun a w=>∃ n,J a w n) μ' ⟨_,z0,h0,rfl,R,η,H⟩ fun a w d=>?_
 obtain ⟨⟨z,A,q,D,η',r⟩,_⟩:=x a w d;refine Code.wp_mono (fun e v y u=>?_) (round z A D η' a w r)
 cases e with
 | normal=>
  obtain ⟨z',⟨o,b⟩,B,G,t⟩:=u;have g:J v y (μ z'):=⟨z',o,rfl,B,G,t⟩
  exact ⟨⟨_,g⟩,Nat.lt_of_le_of_lt ((x v y ⟨_,g⟩).2 _ g) (by rw [<-q];exact b)⟩
 | _=>exact u
def W1M(L:Lay)(e:Env)(s:Sto):ResultVar->Option TV
 | .tmp t=>match e t with
  | .v x=>some x
  | _=>none
 | .cell a t=>match L t with
  | some ti=>match rd s ti.size (e a) with
   | some (cs,_)=>if Y4t (e a) then none else match mkT ti.kind.agg cs with
    | some (.v x)=>some x
    | _=>none
   | none=>none
  | none=>none
def Y2x(L:Lay)(e:Env)(s:Sto):List ResultVar->Option (List TV)
 | []=>some []
 | r::rs=>match W1M L e s r,Y2x L e s rs with
  | some x,some xs=>some (x::xs)
  | _,_=>none
def Y6Z(L:Lay)(e:Env)(s:Sto)(rs:List ResultVar):Option AVal:=
 match rs,Y2x L e s rs with
 | [_],some [x]=>some (.v x)
 | [_],_=>none
 | _,some xs=>some (.t xs)
 | _,none=>none
def Y7Q(tmps:Array Value):ResultVar->Sem Value
 | .tmp t=>pure (tmps.getD t undef)
 | .cell a t=>do loadVar t (<-asAddr (tmps.getD a undef))
theorem W1L(hL:LOk P L){R:Nat->Prop}{η:Nat->Value}{e:Env}{s:Sto}{a:Act}{w:World}(h:Conc C nt R η e s a w){r:ResultVar}{x:TV}(hr:W1M L e s r=some x):
  ∃ v,(Y7Q a.tmps r).run P w=.ok v w/\TRep w (XS C s η) η C v x:=by
 cases r with
 | tmp t=>
  simp only [W1M] at hr;split at hr
  .rename_i y k
   cases hr
   have:=h.ev t
   rw [k] at this;refine ⟨a.tmps.getD t undef,rfl,?_⟩
   generalize a.tmps.getD t undef=u at this
   cases this with
   | v _ _ hv=>exact hv
  .cases hr
 | cell a' t=>
  simp only [W1M] at hr;split at hr
  .rename_i o O
   split at hr
   .rename_i U c f
    split at hr
    .cases hr
    .rename_i p
     split at hr
     .rename_i y k
      cases hr
      have N:c:=by
       unfold rd at f;split at f
       .split at f
        .split at f <;> first | (cases f;done) | (cases f;trivial)
        .cases f
       .split at f <;> first | (cases f;done) | (cases f;trivial)
       .rename_i T;rw [T] at p;simp [Y4t] at p
       .cases f
      obtain ⟨i,d,z,G⟩:=hL t o O;obtain ⟨b,m,B,W,V,J,K,I,F,A,M⟩:=W2E h f N (h.ev a')
      have H:o.kind.agg=false->o.size=1:=by
       intro n;rw [n] at k
       simp only [mkT] at k;split at k
       .rw [<-F];rfl
       .cases k
      have q:=Y0Z (P:=P) G K I H;refine ⟨if o.kind.agg then .agg (Q8L B m o.size).toArray else B.getD m undef,?_,?_⟩
      .simp only [Y7Q,Sem.run_bind,J,asAddr,Sem.run_pure,Result.andThen_ok,q]
      .unfold mkT at k
       split at k
       .rename_i n
        cases k
        simp only [n,if_true];refine .g _ _ ⟨by simp [Q8L,F],fun j D=>?_⟩
        rw [F] at D;have:(Q8L B m o.size).toArray.getD j undef=B.getD (m+j) undef:=by simp [Q8L,D]
        rw [this];exact A j D
       .rename_i n
        split at k
        .cases k
         simp only [n,Bool.false_eq_true,if_false];have:=A 0 (by rw [H n];exact Nat.zero_lt_one)
         exact .c _ _ (by simpa using this)
        .cases k
     .cases hr
   .cases hr
  .cases hr
theorem Y9J(hL:LOk P L){R:Nat->Prop}{η:Nat->Value}{e:Env}{s:Sto}{a:Act}{w:World}(h:Conc C nt R η e s a w):∀ (rs:List ResultVar) (xs:List TV),Y2x L e s rs=some xs ->
  ∃ vs:List Value,(rs.mapM (Y7Q a.tmps)).run P w=.ok vs w/\vs.length=xs.length/\∀ j,j<xs.length->TRep w (XS C s η) η C (vs.getD j undef) (xs.getD j (.c (.d .any))):=by
 intro rs
 induction rs with
 | nil=>intro xs b;cases b;exact ⟨[],by simp,rfl,fun j f=>by simp at f⟩
 | cons r rs ih=>
  intro xs b;simp only [Y2x] at b
  split at b
  .rename_i x i o g
   cases b
   obtain ⟨v,k,p⟩:=W1L hL h o;obtain ⟨vs,m,n,q⟩:=ih i g
   refine ⟨v::vs,?_,by simp [n],fun j f=>?_⟩
   .simp only [List.mapM_cons,Sem.run_bind,k,m,Result.andThen_ok,Sem.run_pure]
   .cases j with
    | zero=>exact p
    | succ j=>exact q j (by simpa using f)
  .cases b
theorem W1N(hL:LOk P L){R:Nat->Prop}{η:Nat->Value}{e:Env}{s:Sto}{a:Act}{w:World}(h:Conc C nt R η e s a w){fn:Func}{x:AVal}(hr:Y6Z L e s fn.results.toList=some x):
  ∃ v,(results fn a.tmps).run P w=.ok v w/\ARep w (XS C s η) η C v x:=by
 have i:∀ g,Y2x L e s fn.results.toList=some g->∃ b:List Value,(results fn a.tmps).run P w=.ok (if h:b.toArray.size=1 then b.toArray[0] else .tuple b.toArray) w/\b.length=g.length/\∀ j,j<g.length->TRep w (XS C s η) η C (b.getD j undef) (g.getD j (.c (.d .any))):=by
  intro g f;obtain ⟨b,q,k,m⟩:=Y9J hL h _ _ f
  refine ⟨b,?_,k,m⟩;have p:results fn a.tmps=(do let b <-fn.results.mapM (Y7Q a.tmps);pure (if h:b.size=1 then b[0] else .tuple b)):=by
   unfold results;congr 1
  rw [p];simp only [Sem.run_bind,Array.mapM_eq_mapM_toList,Sem.run_map,q,Result.andThen_ok,Sem.run_pure]
 unfold Y6Z at hr;split at hr
 .rename_i r H y f
  cases hr
  obtain ⟨b,q,k,m⟩:=i _ f;refine ⟨b.getD 0 undef,?_,.v _ _ (m 0 (by simp))⟩
  rw [q]
  cases b with
  | nil=>simp at k
  | cons v r=>cases r with
   | nil=>rfl
   | cons _ _=>simp at k
 .cases hr
 .skip
  rename_i g f _ u
  cases hr
  obtain ⟨b,q,k,m⟩:=i _ f;refine ⟨.tuple b.toArray,?_,.t _ _ (by simpa using k) (fun j z=>by simpa [List.getD_eq_getElem?_getD] using m j z)⟩
  rw [q];have o:∀ (n:List ResultVar) (g:List TV),Y2x L e s n=some g->n.length=g.length:=by
   intro n
   induction n with
   | nil=>intro g h;cases h;rfl
   | cons r n ih=>
    intro g h;simp only [Y2x] at h
    split at h
    .rename_i J G I F;cases h;simp [ih _ F]
    .cases h
  have D:¬ b.toArray.size=1:=by
   intro A;have B:b.length=1:=by simpa using A
   have:=o _ _ f
   rw [<-k,B] at this;obtain ⟨r,hr⟩:=List.length_eq_one_iff.1 this
   exact u r hr
  rw [dif_neg D]
 .cases hr
end
end
section
def K6(S:List (Nat×Obj))(w:World)(X:Nat->Prop)(η:Nat->Value):Ctx where
 w0:=w
 D:=Own (ls S) η
 M:=fun b=>∃ i o,ls S i=some o/\o.ro=false/\b ∈ W2 (η i)
 X:=X
 pin:=fun i=>if (S.lookup i).isSome then some (η i) else none
structure Behind (C:Ctx) (r:AVal) (S' : List (Nat×Obj)) (v:Value) (η' : Nat->Value) (w' : World):Prop where
 stp:Stp C.M C.w0 w'
 res:ARep w' (XS C (ls S') η') η' C v r
 objs:∀ i o,ls S' i=some o->ORep w' (XS C (ls S') η') η' C (η' i) o
 ds:∀ i j b,ls S' i≠none->ls S' j≠none->b ∈ W2 (η' i)->b ∈ W2 (η' j)->i=j
 ow:∀ i o b,ls S' i=some o->b ∈ W2 (η' i)->(o.ro=true/\C.D b)\/C.M b\/C.w0.heap.size<=b
 pn:∀ i v,C.pin i=some v->η' i=v
def K7(P:Program)(f:Nat)(args:List AVal)(S:List (Nat×Obj))(r:AVal)(S' : List (Nat×Obj)):Prop:=
 ∀ (w:World) (X:Nat->Prop) (η:Nat->Value) (vs:Array Value),(∀ b,X b->b<w.heap.size)->(∀ b,Own (ls S) η b->X b) ->
  (∀ i o,ls S i=some o->ORep w X η (K6 S w X η) (η i) o)->(∀ i j b,ls S i≠none->ls S j≠none->b ∈ W2 (η i)->b ∈ W2 (η j)->i=j) ->
  vs.size=args.length->(∀ j,j<args.length->ARep w X η (K6 S w X η) (vs.getD j undef) (args.getD j .any)) ->
  Calls P f vs w fun e w'=>∃ v η',e=.returned v/\Behind (K6 S w X η) r S' v η' w'
def Y6A(args:List AVal):List (Nat×AVal):=args.zipIdx.map fun p=>(p.2,p.1)
def Y5P(P:Program)(fn:Func)(C:Ctx)(r:AVal)(S' : List (Nat×Obj)):Exit->Act->World->Prop:=
 bodyPost P fn fun e w'=>∃ v η',e=.returned v/\Behind C r S' v η' w'
section
variable {P:Program} {L:Lay}
theorem Y1O{S:List (Nat×Obj)}{X:Nat->Prop}{η:Nat->Value}{w:World}(h:∀ b,Own (ls S) η b->X b):XS (K6 S w X η) (ls S) η=X:=by
 funext b
 apply propext;constructor
 .rintro (⟨c,_⟩|c)
  .exact c
  .exact h b c
 .intro c
  rcases Classical.em (Own (ls S) η b) with d|d
  .exact .inr d
  .exact .inl ⟨c,d⟩
theorem W0Y(args:List AVal)(t:Nat):lk (Y6A args) t=args.getD t .any:=by
 unfold lk Y6A;have b:∀ (l:List AVal) (k t:Nat),(((l.zipIdx k).map fun p=>(p.2,p.1)).lookup t).getD .any=if t<k then .any else l.getD (t-k) .any:=by
  intro l
  induction l with
  | nil=>intro k t;simp
  | cons x l ih=>
   intro k t;simp only [List.zipIdx_cons,List.map_cons,List.lookup_cons]
   by_cases ht:t=k
   .subst ht;simp
   .have:(t==k)=false:=by simpa using ht
    simp only [this];rw [ih (k+1) t]
    by_cases h1:t<k
    .rw [if_pos (by omega),if_pos h1]
    .rw [if_neg (by omega),if_neg h1]
     have:t-k=(t-(k+1))+1:=by omega
     rw [this];simp
 have:=b args 0 t
 simpa using this
theorem K7.intro(hm:P.follows .mixedOrders=true)(hL:LOk P L){f:Nat}{fn:Func}{c:Code}(hf:P.funcs[f]?=some fn)(hb:fn.body=some c){args:List AVal}{S:List (Nat×Obj)}{r:AVal}{S' : List (Nat×Obj)}(hn0:Nat.ble args.length fn.ntmps=true)(h:∀ C,Fr P L C (S.map (·.1))->AW P C fn.ntmps c (Y6A args) S (Y5P P fn C r S')):K7 P f args S r S':=by
 have F:args.length<=fn.ntmps:=Nat.le_of_ble_eq_true hn0;intro w X η p A g n j y k
 have u:(K6 S w X η).Ok:=⟨fun b ⟨i,o,h1,_,h2⟩=>⟨i,o,h1,h2⟩,fun b hb=>g b hb,A⟩;refine calls_of_wp hf hb (h (K6 S w X η) ⟨hm,hL,fun i d=>?_⟩ (fun _=>True) η _ w ⟨u,rfl,?_,fun t=>?_,fun _ _ _=>trivial,fun i o d=>?_,fun _ _ _=>⟨trivial,fun _ _=>trivial⟩,j,fun i o b d m=>?_,Stp.refl _ _,fun i v d=>⟨?_,trivial⟩⟩)
 .simp only [K6] at d
  split at d
  .rename_i x
   obtain ⟨o,B⟩:=Option.isSome_iff_exists.1 x;obtain ⟨D,G,q,_⟩:=List.lookup_eq_some_iff.1 B
   rw [q];simp
  .exact absurd rfl d
 .simp;omega
 .rw [Y1O g,W0Y]
  by_cases ht:t<args.length
  .have z:(p++Array.replicate (fn.ntmps-p.size) undef).getD t undef=p.getD t undef:=by
    have:t<p.size:=by omega
    simp [this,Array.getElem?_append,Array.getD_eq_getD_getElem?]
   simp only [z];exact k t ht
  .rw [List.getD_eq_getElem?_getD,List.getElem?_eq_none (by omega)]
   exact .any _
 .rw [Y1O g];exact n i o d
 .cases hro:o.ro with
  | true=>exact .inl ⟨rfl,⟨i,o,d,m⟩⟩
  | false=>exact .inr (.inl ⟨i,o,d,hro,m⟩)
 .simp only [K6] at d
  split at d
  .cases d;rfl
  .cases d
theorem Kn.done{C:Ctx}{nt:Nat}{pins:List Nat}(Fm:Fr P L C pins){fn:Func}{E:List (Nat×AVal)}{S:List (Nat×Obj)}{r:AVal}{S' : List (Nat×Obj)}(hr:Y6Z L (lk E) (ls S) fn.results.toList=some r)(hS:S'.map (fun p=>ls S p.1)=S'.map (fun p=>some p.2)):Kn C nt E S (Y5P P fn C r S' .ret):=by
 intro R η a w f;obtain ⟨v,q,u⟩:=W1N (P:=P) Fm.lay f hr
 have c:∀ i o,ls S' i=some o->ls S i=some o:=fun i o d=>Q1T hS (i,o) (J1 d)
 have m:Q7o w w (XS C (ls S) η) (XS C (ls S') η):=by
  intro b z t;refine ⟨rfl,fun k=>t ?_⟩
  rcases k with x|⟨i,o,d,h⟩
  .exact .inl x
  .exact .inr ⟨i,o,c i o d,h⟩
 have g:∀ i,ls S' i≠none->ls S i≠none:=by
  intro i d;obtain ⟨o,y⟩:=Option.ne_none_iff_exists'.1 d
  rw [c i o y];simp
 exact ⟨f.df,v,q,v,η,rfl,f.fr,u.mono m (fun _ _=>rfl),fun i o d=>(f.st i o (c i o d)).mono m (fun _ _=>rfl) (fun _ _=>rfl),
  fun i j b d n=>f.ds i j b (g i d) (g j n),fun i o b d=>f.ow i o b (c i o d),fun i v d=>(f.pn i v d).1⟩
end
end
section
def Y4L:Value->CV
 | .int k n=>.d (.int k n)
 | .bool b=>.d (.bool b)
 | .string s=>.d (.str s)
 | .slice none 0 0=>.fl 0 fun _=>[]
 | _=>.d .any
def W0i:TypeDesc->TK
 | .int k=>.int k
 | .bool=>.bool
 | .string=>.str
 | .slice e=>.slice e
 | .struct fs=>.struct (fs.toList.map fun f=>(f.offset,f.type))
 | .array n e=>.array n e
 | _=>.other
def Y7X(P:Program)(t:Nat):Option TI:=
 match P.info? t,P.underlying t with
 | some i,some d=>match i.zero with
  | some z=>if z.cells.toList.all Value.oneCell' then some ⟨W0i d,i.size,i.bytes,z.cells.toList.map Y4L⟩ else none
  | none=>none
 | _,_=>none
theorem Y4a{w:World}{X:Nat->Prop}{η:Nat->Value}{C:Ctx}{v:Value}(h:v.oneCell'=true):CRep w X η C v (Y4L v)/\(Y4L v).refs=[]:=by
 unfold Y4L;split
 .exact ⟨.d _ _ (.int _ _),rfl⟩
 .exact ⟨.d _ _ (.bool _),rfl⟩
 .exact ⟨.d _ _ (.str _),rfl⟩
 .exact ⟨.fl _ _ _ (.nil _ _ _),rfl⟩
 .exact ⟨.d _ _ (.any _ h),rfl⟩
theorem W0h(P:Program):LOk P (Y7X P):=by
 intro t q h;unfold Y7X at h
 split at h
 .rename_i i d n g
  split at h
  .rename_i z k
   split at h
   .rename_i b
    cases h
    rw [List.all_eq_true] at b;refine ⟨i,d,z,n,g,rfl,rfl,k,fun w X η C=>⟨by simp,fun j f=>?_⟩,?_,?_⟩
    .have c : j<z.cells.size:=by simpa using f
     have o:z.cells[j] ∈ z.cells.toList:=by simp
     have:=(Y4a (w:=w) (X:=X) (η:=η) (C:=C) (b _ o)).1
     simpa [List.getD_eq_getElem?_getD,c] using this
    .rw [List.flatMap_eq_nil_iff]
     intro x p;obtain ⟨v,m,rfl⟩:=List.mem_map.1 p
     exact (Y4a (w:=default) (X:=fun _=>False) (η:=fun _=>default) (C:=⟨default,fun _=>False,fun _=>False,fun _=>False,fun _=>none⟩) (b v m)).2
    .cases d <;> simp [W0i,KOk]
   .cases h
  .cases h
 .cases h
def Y5A(T:List (Nat×TI)):Lay:=fun t=>T.lookup t
theorem W2T{P:Program}{T:List (Nat×TI)}(h:T.map (fun p=>Y7X P p.1)=T.map (fun p=>some p.2)):LOk P (Y5A T):=by
 intro t b c;obtain ⟨g,f,d,_⟩:=List.lookup_eq_some_iff.1 c
 exact W0h P t b (Q1T h (t,b) (by rw [d];simp))
section
variable {P:Program} {C:Ctx} {nt:Nat} {L:Lay} {pins:List Nat}
end
end
end
end Go.Ab
